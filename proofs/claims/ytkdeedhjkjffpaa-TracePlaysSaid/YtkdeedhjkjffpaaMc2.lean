/- Merged by program (shrink.py): contracts and plain laws that the claim's statement uses, part 2. -/
import Derived.Test.YtkdeedhjkjffpaaMc1
set_option linter.all false

namespace Go.Proofs.Ytkdeedhjkjffpaa
open Go.RowKit Go.Hub Go.Lib
theorem wsz28_tb : (Try.prog.info? 28).map (·.size) = some 1 := by kernel_rfl
theorem wsz30_tb : (Try.prog.info? 30).map (·.size) = some 4 := by kernel_rfl
theorem wsz31_tb : (Try.prog.info? 31).map (·.size) = some 1 := by kernel_rfl
theorem wsz32_tb : (Try.prog.info? 32).map (·.size) = some 1 := by kernel_rfl
theorem wsz34_tb : (Try.prog.info? 34).map (·.size) = some 24 := by kernel_rfl
def PhiV (u v : Value) (W : World) : Prop := v = u
def PhiF (w : World) (e size n : Nat) (xs : List Value) (v : Value) (W : World) : Prop := ∃ A c, v = .slice A n c ∧ Fresh w W e size A n c xs
theorem PhiV.kept {u v : Value} {W W' : World} (h : PhiV u v W) (hk : Kept [] W W') : PhiV u v W' := h
theorem PhiF.kept {w : World} {e size n : Nat} {xs : List Value} {v : Value} {W W' : World} (h : PhiF w e size n xs v W) (hk : Kept [] W W') : PhiF w e size n xs v W' := by
  obtain ⟨A, c, h1, h2⟩ := h
  exact ⟨A, c, h1, h2.kept0 hk⟩
theorem fresh_blk {x : Nat} {W W' w : World} {t e size n c : Nat} {A : Option Addr} {xs : List Value} {cs : Array Value} (h : Fresh w W e size A n c xs) (hk : Kept [x] W W') (b : Blk W x t cs) (ht : t ≠ e) : Fresh w W' e size A n c xs := Fresh.kept h hk fun b' hb hx => by
  obtain rfl := List.mem_singleton.1 hx
  exact own_ne (Fresh.own h) b ht (by simpa using (own_block A n c b').2 hb)
structure PkF (w W : World) (p : Pk) (s : Ad) : Prop where
  pay : Fresh w W 5 1 s.pa p.pay.length s.pc (p.pay.map u8)
  wp : Fresh w W 5 1 s.wa p.wp.length s.wc (p.wp.map u8)
  pass : Fresh w W 5 1 s.sa p.pass.length s.sc (p.pass.map u8)
  subs : Fresh w W 46 2 s.ua p.subs.length s.uc (subCells p.subs)
  codes : Fresh w W 3 1 s.ca p.codes.length s.cc (codeCells p.codes)
section
variable {w w0 W W' : World} {p : Pk} {s : Ad} {x t : Nat} {cs : Array Value}
theorem PkF.kept1 (h : PkF w W p s) (hk : Kept [x] W W') (b : Blk W x t cs) (ht : t ∉ [5, 46, 3]) : PkF w W' p s := by
  simp only [List.mem_cons, List.not_mem_nil, not_or, or_false] at ht
  exact ⟨fresh_blk h.pay hk b ht.1, fresh_blk h.wp hk b ht.1, fresh_blk h.pass hk b ht.1, fresh_blk h.subs hk b ht.2.1, fresh_blk h.codes hk b ht.2.2⟩
theorem PkF.lower (h : PkF w W p s) (hs : w0.heap.size ≤ w.heap.size) : PkF w0 W p s := ⟨h.pay.lower hs, h.wp.lower hs, h.pass.lower hs, h.subs.lower hs, h.codes.lower hs⟩
end
set_option maxHeartbeats 4000000 in
theorem copy_any (p : Pk) (s : Ad) (w : World) (IP : p.In w s) (hL : p.Len) : Calls Try.prog 27 #[.agg (p.cells s)] w (fun e w' => Kept [] w w' ∧ ∃ t, e = .returned (.agg (p.cells t)) ∧ PkF w w' p t) := by
 have HK : Kept [] w w := Kept.refl [] w
 obtain ⟨l1, l2, l3, l4, l5, l6, l7, l8, l9, l10⟩ := hL
 refine C.enter Try.func27 rfl Try.ntmps27 rfl ?_
 intro a0 f0
 have f1 : Fr 26 a0 [(0, .agg (p.cells s))] := f0
 refine C.sk fun K0 hK0 => ?_
 refine L.box f1 wantedN (by decide) rfl rfl fun a2 w1 g0 N0 f2 => ?_
 have Bg0 := N0.blk
 have kg0 := N0.kept
 have log0 := N0.lo
 have ltg0 := Bg0.lt
 have szw1 := kg0.size
 have frg0 : w.heap.size ≤ g0 := Nat.le_trans HK.size log0
 replace HK := HK.z kg0
 clear f0 N0 kg0
 refine L.alloc f2 wantedN (by decide) (z := z34) (fun _ => by kernel_rfl) rfl fun a3 w2 g1 N1 f3 => ?_
 have Bg1 := N1.blk
 have kg1 := N1.kept
 have log1 := N1.lo
 have ltg1 := Bg1.lt
 have szw2 := kg1.size
 have frg1 : w.heap.size ≤ g1 := Nat.le_trans HK.size log1
 have neg0_g1 : g0 ≠ g1 := by have := Bg0.lt; omega
 replace HK := HK.z kg1
 replace Bg0 := Bg0.z kg1
 clear f1 a0 N1 kg1
 refine wpList_nil (hK0 _ _ ?_)
 have f4 := f3.sub (sc 1 (sc 2 sn))
 refine wp_seq_k fun K1 hK1 => ?_
 replace Bg0 : Blk w2 g0 34 #[.int .i64 p.kind, .bool p.dup, .bool p.retain, .int .i64 p.qos, .int .i64 p.id, .string p.topic, .slice s.pa p.pay.length s.pc, .int .i64 p.level, .string p.client, .bool p.clean, .int .i64 p.keep, .bool p.hasWill, .string p.wt, .slice s.wa p.wp.length s.wc, .int .i64 p.wq, .bool p.wr, .bool p.hasUser, .bool p.hasPass, .string p.user, .slice s.sa p.pass.length s.sc, .bool p.present, .int .i64 p.code, .slice s.ua p.subs.length s.uc, .slice s.ca p.codes.length s.cc] := Bg0
 have hd1 : Kept [] w2 (w2.drewN 1) := (Kept.refl _ _).drewN 1
 refine R.beginT (S := fun _ => True) (by kernel_rfl) (by kernel_rfl) trivial fun ht => ?_
 obtain ⟨w3, hww3⟩ : ∃ W, W = w2.drewN 1 := ⟨_, rfl⟩
 rw [← hww3] at hd1 ⊢
 clear f2 a2 f3 hww3
 have szw3 := hd1.size
 replace HK := HK.z hd1
 replace Bg0 := Bg0.z hd1
 replace Bg1 := Bg1.z hd1
 clear hd1
 refine R.u 0 f4 rfl ht trivial (fun W hW => (E.fa 6 f4 U34 rfl wsz28_tb)) fun a5 f5 => ?_
 refine R.u 3 f5 rfl ht trivial (fun W hW => (E.fa 19 f5 U34 rfl wsz28_tb)) fun a6 f6 => ?_
 refine R.u 6 f6 rfl ht trivial (fun W hW => (E.fa 12 f6 U34 rfl wsz30_tb)) fun a7 f7 => ?_
 refine R.u 7 f7 rfl ht trivial (fun W hW => (E.fa 1 f7 U30 rfl wsz28_tb)) fun a8 f8 => ?_
 clear f4 a3 f5 a5 f6 a6 f7 a7
 refine Gp.enter (G := [1, 2, 4, 5, 8, 9, 10]) (L0 := #[true, false, false, true, false, false, true, true, false, false, false, false, false, false, false, false, false]) (L1 := (tf 17 [11, 12, 13, 14, 15, 16])) (fuel := 6) (fun mS a W => ∃ v4 v5 v7 v8 v11 v12 v13 : Value, Fr 26 a [(1, .pointer (some ⟨g0, 0, none⟩)), (2, .pointer (some ⟨g1, 0, none⟩)), (3, .pointer (some ⟨g0, 0 + 6, none⟩)), (6, .pointer (some ⟨g0, 0 + 19, none⟩)), (9, .pointer (some ⟨g0, 0 + 12, none⟩)), (10, .pointer (some ⟨g0, 0 + 12 + 1, none⟩)), (4, v4), (5, v5), (7, v7), (8, v8), (11, v11), (12, v12), (13, v13)] ∧ (Kept [] w W) ∧ (Blk W g0 34 #[.int .i64 p.kind, .bool p.dup, .bool p.retain, .int .i64 p.qos, .int .i64 p.id, .string p.topic, .slice s.pa p.pay.length s.pc, .int .i64 p.level, .string p.client, .bool p.clean, .int .i64 p.keep, .bool p.hasWill, .string p.wt, .slice s.wa p.wp.length s.wc, .int .i64 p.wq, .bool p.wr, .bool p.hasUser, .bool p.hasPass, .string p.user, .slice s.sa p.pass.length s.sc, .bool p.present, .int .i64 p.code, .slice s.ua p.subs.length s.uc, .slice s.ca p.codes.length s.cc]) ∧ (Blk W g1 34 zeroPk) ∧ (mS.testBit 1 = true → PhiV (.slice s.pa p.pay.length s.pc) v4 W) ∧ (mS.testBit 2 = true → PhiF w 5 1 p.pay.length (p.pay.map u8) v5 W) ∧ (mS.testBit 4 = true → PhiV (.slice s.sa p.pass.length s.sc) v7 W) ∧ (mS.testBit 5 = true → PhiF w 5 1 p.pass.length (p.pass.map u8) v8 W) ∧ (mS.testBit 8 = true → PhiV (.slice s.wa p.wp.length s.wc) v11 W) ∧ (mS.testBit 9 = true → PhiF w 5 1 p.wp.length (p.wp.map u8) v12 W) ∧ (mS.testBit 10 = true → PhiV (.pointer (some ⟨g0, 0 + 6, none⟩)) v13 W)) (by kernel_rfl) (by kernel_rfl) ?_ ?_ ?_
 ·obtain ⟨v4, f9⟩ := f8.any 4 (by decide)
  obtain ⟨v5, f10⟩ := f9.any 5 (by decide)
  obtain ⟨v7, f11⟩ := f10.any 7 (by decide)
  obtain ⟨v8, f12⟩ := f11.any 8 (by decide)
  obtain ⟨v11, f13⟩ := f12.any 11 (by decide)
  obtain ⟨v12, f14⟩ := f13.any 12 (by decide)
  obtain ⟨v13, f15⟩ := f14.any 13 (by decide)
  exact ⟨v4, v5, v7, v8, v11, v12, v13, f15.sub (sx (sx (sx (sx (sx (sx (sx (sx (sx (sx (sx (sx (sx sn))))))))))))), HK, Bg0, Bg1, fun q => absurd q (by simp), fun q => absurd q (by simp), fun q => absurd q (by simp), fun q => absurd q (by simp), fun q => absurd q (by simp), fun q => absurd q (by simp), fun q => absurd q (by simp)⟩
 ·intro mS i_ a9 w4 hm hcl hi hG hI
  obtain ⟨v4, v5, v7, v8, v11, v12, v13, f9, HK, Bg0, Bg1, P1, P2, P4, P5, P8, P9, P10⟩ := hI
  simp only [List.mem_cons, List.not_mem_nil, or_false] at hG
  rcases hG with rfl | rfl | rfl | rfl | rfl | rfl | rfl
  ·skip
   refine O.val f9 rfl rfl (by decide) wantedN (by exact E.ld f9 U28 (Bg0)) trivial fun a10 f10 => ?_
   exact ⟨_, _, _, _, _, _, _, f10.sub (sr rfl (sr rfl (sr rfl (sr rfl (sr rfl (sr rfl (sr rfl (sr rfl (sr rfl (sr rfl (sr rfl (sr rfl (sr rfl sn))))))))))))), HK, Bg0, Bg1, fun _ => rfl, fun q => P2 (by rwa [Gp.other (by decide)] at q), fun q => P4 (by rwa [Gp.other (by decide)] at q), fun q => P5 (by rwa [Gp.other (by decide)] at q), fun q => P8 (by rwa [Gp.other (by decide)] at q), fun q => P9 (by rwa [Gp.other (by decide)] at q), fun q => P10 (by rwa [Gp.other (by decide)] at q)⟩
  ·skip
   have D1 := P1 (Gp.need (j := 1) (by kernel_rfl) hm hcl hi)
   obtain rfl := D1
   refine O.call f9 rfl rfl (by decide) wantedN (run_call Try.call50 (args1 f9 rfl)) (clone_any p.pay _ _ _ (IP.pay.kept HK) (by omega)) ?_
   rintro e w5 ⟨kc5, A5, c5, rfl, F5⟩
   have szk := HK.size
   replace F5 := Fresh.lower F5 szk
   refine ⟨_, rfl, trivial, fun a10 f10 => ?_⟩
   have szw5 := kc5.size
   replace HK := HK.z kc5
   replace Bg0 := Bg0.z kc5
   replace Bg1 := Bg1.z kc5
   replace P1 := fun q => (P1 q).kept kc5
   replace P2 := fun q => (P2 q).kept kc5
   replace P4 := fun q => (P4 q).kept kc5
   replace P5 := fun q => (P5 q).kept kc5
   replace P8 := fun q => (P8 q).kept kc5
   replace P9 := fun q => (P9 q).kept kc5
   replace P10 := fun q => (P10 q).kept kc5
   clear f9 a9 kc5
   exact ⟨_, _, _, _, _, _, _, f10.sub (sr rfl (sr rfl (sr rfl (sr rfl (sr rfl (sr rfl (sr rfl (sr rfl (sr rfl (sr rfl (sr rfl (sr rfl (sr rfl sn))))))))))))), HK, Bg0, Bg1, fun q => P1 (by rwa [Gp.other (by decide)] at q), fun _ => ⟨A5, c5, rfl, F5⟩, fun q => P4 (by rwa [Gp.other (by decide)] at q), fun q => P5 (by rwa [Gp.other (by decide)] at q), fun q => P8 (by rwa [Gp.other (by decide)] at q), fun q => P9 (by rwa [Gp.other (by decide)] at q), fun q => P10 (by rwa [Gp.other (by decide)] at q)⟩
  ·skip
   refine O.val f9 rfl rfl (by decide) wantedN (by exact E.ld f9 U28 (Bg0)) trivial fun a10 f10 => ?_
   exact ⟨_, _, _, _, _, _, _, f10.sub (sr rfl (sr rfl (sr rfl (sr rfl (sr rfl (sr rfl (sr rfl (sr rfl (sr rfl (sr rfl (sr rfl (sr rfl (sr rfl sn))))))))))))), HK, Bg0, Bg1, fun q => P1 (by rwa [Gp.other (by decide)] at q), fun q => P2 (by rwa [Gp.other (by decide)] at q), fun _ => rfl, fun q => P5 (by rwa [Gp.other (by decide)] at q), fun q => P8 (by rwa [Gp.other (by decide)] at q), fun q => P9 (by rwa [Gp.other (by decide)] at q), fun q => P10 (by rwa [Gp.other (by decide)] at q)⟩
  ·skip
   have D4 := P4 (Gp.need (j := 4) (by kernel_rfl) hm hcl hi)
   obtain rfl := D4
   refine O.call f9 rfl rfl (by decide) wantedN (run_call Try.call50 (args1 f9 rfl)) (clone_any p.pass _ _ _ (IP.pass.kept HK) (by omega)) ?_
   rintro e w5 ⟨kc5, A8, c8, rfl, F8⟩
   have szk := HK.size
   replace F8 := Fresh.lower F8 szk
   refine ⟨_, rfl, trivial, fun a10 f10 => ?_⟩
   have szw5 := kc5.size
   replace HK := HK.z kc5
   replace Bg0 := Bg0.z kc5
   replace Bg1 := Bg1.z kc5
   replace P1 := fun q => (P1 q).kept kc5
   replace P2 := fun q => (P2 q).kept kc5
   replace P4 := fun q => (P4 q).kept kc5
   replace P5 := fun q => (P5 q).kept kc5
   replace P8 := fun q => (P8 q).kept kc5
   replace P9 := fun q => (P9 q).kept kc5
   replace P10 := fun q => (P10 q).kept kc5
   clear f9 a9 kc5
   exact ⟨_, _, _, _, _, _, _, f10.sub (sr rfl (sr rfl (sr rfl (sr rfl (sr rfl (sr rfl (sr rfl (sr rfl (sr rfl (sr rfl (sr rfl (sr rfl (sr rfl sn))))))))))))), HK, Bg0, Bg1, fun q => P1 (by rwa [Gp.other (by decide)] at q), fun q => P2 (by rwa [Gp.other (by decide)] at q), fun q => P4 (by rwa [Gp.other (by decide)] at q), fun _ => ⟨A8, c8, rfl, F8⟩, fun q => P8 (by rwa [Gp.other (by decide)] at q), fun q => P9 (by rwa [Gp.other (by decide)] at q), fun q => P10 (by rwa [Gp.other (by decide)] at q)⟩
  ·skip
   refine O.val f9 rfl rfl (by decide) wantedN (by exact E.ld f9 U28 (Bg0)) trivial fun a10 f10 => ?_
   exact ⟨_, _, _, _, _, _, _, f10.sub (sr rfl (sr rfl (sr rfl (sr rfl (sr rfl (sr rfl (sr rfl (sr rfl (sr rfl (sr rfl (sr rfl (sr rfl (sr rfl sn))))))))))))), HK, Bg0, Bg1, fun q => P1 (by rwa [Gp.other (by decide)] at q), fun q => P2 (by rwa [Gp.other (by decide)] at q), fun q => P4 (by rwa [Gp.other (by decide)] at q), fun q => P5 (by rwa [Gp.other (by decide)] at q), fun _ => rfl, fun q => P9 (by rwa [Gp.other (by decide)] at q), fun q => P10 (by rwa [Gp.other (by decide)] at q)⟩
  ·skip
   have D8 := P8 (Gp.need (j := 8) (by kernel_rfl) hm hcl hi)
   obtain rfl := D8
   refine O.call f9 rfl rfl (by decide) wantedN (run_call Try.call50 (args1 f9 rfl)) (clone_any p.wp _ _ _ (IP.wp.kept HK) (by omega)) ?_
   rintro e w5 ⟨kc5, A12, c12, rfl, F12⟩
   have szk := HK.size
   replace F12 := Fresh.lower F12 szk
   refine ⟨_, rfl, trivial, fun a10 f10 => ?_⟩
   have szw5 := kc5.size
   replace HK := HK.z kc5
   replace Bg0 := Bg0.z kc5
   replace Bg1 := Bg1.z kc5
   replace P1 := fun q => (P1 q).kept kc5
   replace P2 := fun q => (P2 q).kept kc5
   replace P4 := fun q => (P4 q).kept kc5
   replace P5 := fun q => (P5 q).kept kc5
   replace P8 := fun q => (P8 q).kept kc5
   replace P9 := fun q => (P9 q).kept kc5
   replace P10 := fun q => (P10 q).kept kc5
   clear f9 a9 kc5
   exact ⟨_, _, _, _, _, _, _, f10.sub (sr rfl (sr rfl (sr rfl (sr rfl (sr rfl (sr rfl (sr rfl (sr rfl (sr rfl (sr rfl (sr rfl (sr rfl (sr rfl sn))))))))))))), HK, Bg0, Bg1, fun q => P1 (by rwa [Gp.other (by decide)] at q), fun q => P2 (by rwa [Gp.other (by decide)] at q), fun q => P4 (by rwa [Gp.other (by decide)] at q), fun q => P5 (by rwa [Gp.other (by decide)] at q), fun q => P8 (by rwa [Gp.other (by decide)] at q), fun _ => ⟨A12, c12, rfl, F12⟩, fun q => P10 (by rwa [Gp.other (by decide)] at q)⟩
  skip
  refine O.val f9 rfl rfl (by decide) wantedN (E.fa 6 f9 U34 rfl wsz28_tb) trivial fun a10 f10 => ?_
  exact ⟨_, _, _, _, _, _, _, f10.sub (sr rfl (sr rfl (sr rfl (sr rfl (sr rfl (sr rfl (sr rfl (sr rfl (sr rfl (sr rfl (sr rfl (sr rfl (sr rfl sn))))))))))))), HK, Bg0, Bg1, fun q => P1 (by rwa [Gp.other (by decide)] at q), fun q => P2 (by rwa [Gp.other (by decide)] at q), fun q => P4 (by rwa [Gp.other (by decide)] at q), fun q => P5 (by rwa [Gp.other (by decide)] at q), fun q => P8 (by rwa [Gp.other (by decide)] at q), fun q => P9 (by rwa [Gp.other (by decide)] at q), fun _ => rfl⟩
 intro mS a9 w4 hm hI
 obtain ⟨v4, v5, v7, v8, v11, v12, v13, f9, HK, Bg0, Bg1, P1, P2, P4, P5, P8, P9, P10⟩ := hI
 have D2 := P2 (hm 2 (by decide))
 obtain ⟨A5, c5, rfl, F5⟩ := D2
 have D5 := P5 (hm 5 (by decide))
 obtain ⟨A8, c8, rfl, F8⟩ := D5
 have D9 := P9 (hm 9 (by decide))
 obtain ⟨A12, c12, rfl, F12⟩ := D9
 have D10 := P10 (hm 10 (by decide))
 obtain rfl := D10
 clear P1 P2 P4 P5 P8 P9 P10
 refine R.one 11 (by kernel_rfl) ?_
 refine OT.store f9 rfl wantedN wsz28_tb rfl rfl rfl Bg0 (by (simp [Value.cells]; done)) fun a10 w5 f10 NB5 ks5 => ?_
 have szw5 := ks5.size
 replace HK := HK.trans ks5 (ktr (by omega))
 replace Bg1 := Bg1.kept ks5 (by simp; omega)
 replace F5 := fresh_blk F5 ks5 Bg0 (by decide)
 replace F8 := fresh_blk F8 ks5 Bg0 (by decide)
 replace F12 := fresh_blk F12 ks5 Bg0 (by decide)
 replace Bg0 := NB5
 simp only [Value.cells, z1, z2, z3, Nat.reduceAdd, Nat.zero_add] at Bg0
 clear ks5 f9 a9
 refine R.u 12 f10 rfl ht trivial (fun W hW => (E.fa 19 f10 U34 rfl wsz28_tb)) fun a11 f11 => ?_
 refine R.one 13 (by kernel_rfl) ?_
 refine OT.store f11 rfl wantedN wsz28_tb rfl rfl rfl Bg0 (by (simp [Value.cells]; done)) fun a12 w6 f12 NB6 ks6 => ?_
 have szw6 := ks6.size
 replace HK := HK.trans ks6 (ktr (by omega))
 replace Bg1 := Bg1.kept ks6 (by simp; omega)
 replace F5 := fresh_blk F5 ks6 Bg0 (by decide)
 replace F8 := fresh_blk F8 ks6 Bg0 (by decide)
 replace F12 := fresh_blk F12 ks6 Bg0 (by decide)
 replace Bg0 := NB6
 simp only [Value.cells, z1, z2, z3, Nat.reduceAdd, Nat.zero_add] at Bg0
 clear f10 a10 ks6 f11 a11
 refine R.u 14 f12 rfl ht trivial (fun W hW => (E.fa 12 f12 U34 rfl wsz30_tb)) fun a13 f13 => ?_
 refine R.u 15 f13 rfl ht trivial (fun W hW => (E.fa 1 f13 U30 rfl wsz28_tb)) fun a14 f14 => ?_
 refine R.one 16 (by kernel_rfl) ?_
 refine OT.store f14 rfl wantedN wsz28_tb rfl rfl rfl Bg0 (by (simp [Value.cells]; done)) fun a15 w7 f15 NB7 ks7 => ?_
 have szw7 := ks7.size
 replace HK := HK.trans ks7 (ktr (by omega))
 replace Bg1 := Bg1.kept ks7 (by simp; omega)
 replace F5 := fresh_blk F5 ks7 Bg0 (by decide)
 replace F8 := fresh_blk F8 ks7 Bg0 (by decide)
 replace F12 := fresh_blk F12 ks7 Bg0 (by decide)
 replace Bg0 := NB7
 simp only [Value.cells, z1, z2, z3, Nat.reduceAdd, Nat.zero_add] at Bg0
 clear f12 a12 f13 a13 ks7 f14 a14
 refine R.done (by kernel_rfl) (hK1 _ _ ?_)
 have f16 := f15.sub (sc 1 (sc 2 sn))
 refine wp_seq_k fun K2 hK2 => ?_
 have hd2 : Kept [] w7 (w7.drewN 1) := (Kept.refl _ _).drewN 1
 refine R.beginT (S := fun _ => True) (by kernel_rfl) (by kernel_rfl) trivial fun ht => ?_
 obtain ⟨w8, hww8⟩ : ∃ W, W = w7.drewN 1 := ⟨_, rfl⟩
 rw [← hww8] at hd2 ⊢
 clear f15 hww8
 have szw8 := hd2.size
 replace HK := HK.z hd2
 replace Bg1 := Bg1.z hd2
 replace F5 := Fresh.kept0 F5 hd2
 replace F8 := Fresh.kept0 F8 hd2
 replace F12 := Fresh.kept0 F12 hd2
 replace Bg0 := Bg0.z hd2
 clear hd2
 refine R.u 0 f16 rfl ht trivial (fun W hW => (E.fa 22 f16 U34 rfl wsz31_tb)) fun a17 f17 => ?_
 refine R.u 3 f17 rfl ht trivial (fun W hW => (E.fa 23 f17 U34 rfl wsz32_tb)) fun a18 f18 => ?_
 clear f16 a15 f17 a17
 refine Gp.enter (G := [1, 2, 4, 5, 6]) (L0 := #[true, false, false, true, false, false, false, false, false, false]) (L1 := #[true, true, true, true, true, true, true, false, false, false]) (fuel := 3) (fun mS a W => ∃ v18 v19 v21 v22 v23 : Value, Fr 26 a [(1, .pointer (some ⟨g0, 0, none⟩)), (2, .pointer (some ⟨g1, 0, none⟩)), (17, .pointer (some ⟨g0, 0 + 22, none⟩)), (20, .pointer (some ⟨g0, 0 + 23, none⟩)), (18, v18), (19, v19), (21, v21), (22, v22), (23, v23)] ∧ (Kept [] w W) ∧ (Blk W g1 34 zeroPk) ∧ (Fresh w W 5 1 A5 p.pay.length c5 (p.pay.map u8)) ∧ (Fresh w W 5 1 A8 p.pass.length c8 (p.pass.map u8)) ∧ (Fresh w W 5 1 A12 p.wp.length c12 (p.wp.map u8)) ∧ (Blk W g0 34 #[.int .i64 p.kind, .bool p.dup, .bool p.retain, .int .i64 p.qos, .int .i64 p.id, .string p.topic, .slice A5 p.pay.length c5, .int .i64 p.level, .string p.client, .bool p.clean, .int .i64 p.keep, .bool p.hasWill, .string p.wt, .slice A12 p.wp.length c12, .int .i64 p.wq, .bool p.wr, .bool p.hasUser, .bool p.hasPass, .string p.user, .slice A8 p.pass.length c8, .bool p.present, .int .i64 p.code, .slice s.ua p.subs.length s.uc, .slice s.ca p.codes.length s.cc]) ∧ (mS.testBit 1 = true → PhiV (.slice s.ua p.subs.length s.uc) v18 W) ∧ (mS.testBit 2 = true → PhiF w 46 2 p.subs.length (subCells p.subs) v19 W) ∧ (mS.testBit 4 = true → PhiV (.slice s.ca p.codes.length s.cc) v21 W) ∧ (mS.testBit 5 = true → PhiF w 3 1 p.codes.length (codeCells p.codes) v22 W) ∧ (mS.testBit 6 = true → PhiV (.pointer (some ⟨g0, 0 + 22, none⟩)) v23 W)) (by kernel_rfl) (by kernel_rfl) ?_ ?_ ?_
 ·obtain ⟨v18, f19⟩ := f18.any 18 (by decide)
  obtain ⟨v19, f20⟩ := f19.any 19 (by decide)
  obtain ⟨v21, f21⟩ := f20.any 21 (by decide)
  obtain ⟨v22, f22⟩ := f21.any 22 (by decide)
  obtain ⟨v23, f23⟩ := f22.any 23 (by decide)
  exact ⟨v18, v19, v21, v22, v23, f23.sub (sx (sx (sx (sx (sx (sx (sx (sx (sx sn))))))))), HK, Bg1, F5, F8, F12, Bg0, fun q => absurd q (by simp), fun q => absurd q (by simp), fun q => absurd q (by simp), fun q => absurd q (by simp), fun q => absurd q (by simp)⟩
 ·intro mS i_ a19 w9 hm hcl hi hG hI
  obtain ⟨v18, v19, v21, v22, v23, f19, HK, Bg1, F5, F8, F12, Bg0, P1, P2, P4, P5, P6⟩ := hI
  simp only [List.mem_cons, List.not_mem_nil, or_false] at hG
  rcases hG with rfl | rfl | rfl | rfl | rfl
  ·skip
   refine O.val f19 rfl rfl (by decide) wantedN (by exact E.ld f19 U31 (Bg0)) trivial fun a20 f20 => ?_
   exact ⟨_, _, _, _, _, f20.sub (sr rfl (sr rfl (sr rfl (sr rfl (sr rfl (sr rfl (sr rfl (sr rfl (sr rfl sn))))))))), HK, Bg1, F5, F8, F12, Bg0, fun _ => rfl, fun q => P2 (by rwa [Gp.other (by decide)] at q), fun q => P4 (by rwa [Gp.other (by decide)] at q), fun q => P5 (by rwa [Gp.other (by decide)] at q), fun q => P6 (by rwa [Gp.other (by decide)] at q)⟩
  ·skip
   have D1 := P1 (Gp.need (j := 1) (by kernel_rfl) hm hcl hi)
   obtain rfl := D1
   refine O.call f19 rfl rfl (by decide) wantedN (run_call Try.call51 (args1 f19 rfl)) (cloneS_any p.subs _ _ _ (IP.subs.kept HK) (by omega)) ?_
   rintro e w10 ⟨kc10, A19, c19, rfl, F19⟩
   have szk := HK.size
   replace F19 := Fresh.lower F19 szk
   refine ⟨_, rfl, trivial, fun a20 f20 => ?_⟩
   have szw10 := kc10.size
   replace HK := HK.z kc10
   replace Bg1 := Bg1.z kc10
   replace F5 := Fresh.kept0 F5 kc10
   replace F8 := Fresh.kept0 F8 kc10
   replace F12 := Fresh.kept0 F12 kc10
   replace Bg0 := Bg0.z kc10
   replace P1 := fun q => (P1 q).kept kc10
   replace P2 := fun q => (P2 q).kept kc10
   replace P4 := fun q => (P4 q).kept kc10
   replace P5 := fun q => (P5 q).kept kc10
   replace P6 := fun q => (P6 q).kept kc10
   clear f19 a19 kc10
   exact ⟨_, _, _, _, _, f20.sub (sr rfl (sr rfl (sr rfl (sr rfl (sr rfl (sr rfl (sr rfl (sr rfl (sr rfl sn))))))))), HK, Bg1, F5, F8, F12, Bg0, fun q => P1 (by rwa [Gp.other (by decide)] at q), fun _ => ⟨A19, c19, rfl, F19⟩, fun q => P4 (by rwa [Gp.other (by decide)] at q), fun q => P5 (by rwa [Gp.other (by decide)] at q), fun q => P6 (by rwa [Gp.other (by decide)] at q)⟩
  ·skip
   refine O.val f19 rfl rfl (by decide) wantedN (by exact E.ld f19 U32 (Bg0)) trivial fun a20 f20 => ?_
   exact ⟨_, _, _, _, _, f20.sub (sr rfl (sr rfl (sr rfl (sr rfl (sr rfl (sr rfl (sr rfl (sr rfl (sr rfl sn))))))))), HK, Bg1, F5, F8, F12, Bg0, fun q => P1 (by rwa [Gp.other (by decide)] at q), fun q => P2 (by rwa [Gp.other (by decide)] at q), fun _ => rfl, fun q => P5 (by rwa [Gp.other (by decide)] at q), fun q => P6 (by rwa [Gp.other (by decide)] at q)⟩
  ·skip
   have D4 := P4 (Gp.need (j := 4) (by kernel_rfl) hm hcl hi)
   obtain rfl := D4
   refine O.call f19 rfl rfl (by decide) wantedN (run_call Try.call52 (args1 f19 rfl)) (cloneI_any p.codes _ _ _ (IP.codes.kept HK) (by omega)) ?_
   rintro e w10 ⟨kc10, A22, c22, rfl, F22⟩
   have szk := HK.size
   replace F22 := Fresh.lower F22 szk
   refine ⟨_, rfl, trivial, fun a20 f20 => ?_⟩
   have szw10 := kc10.size
   replace HK := HK.z kc10
   replace Bg1 := Bg1.z kc10
   replace F5 := Fresh.kept0 F5 kc10
   replace F8 := Fresh.kept0 F8 kc10
   replace F12 := Fresh.kept0 F12 kc10
   replace Bg0 := Bg0.z kc10
   replace P1 := fun q => (P1 q).kept kc10
   replace P2 := fun q => (P2 q).kept kc10
   replace P4 := fun q => (P4 q).kept kc10
   replace P5 := fun q => (P5 q).kept kc10
   replace P6 := fun q => (P6 q).kept kc10
   clear f19 a19 kc10
   exact ⟨_, _, _, _, _, f20.sub (sr rfl (sr rfl (sr rfl (sr rfl (sr rfl (sr rfl (sr rfl (sr rfl (sr rfl sn))))))))), HK, Bg1, F5, F8, F12, Bg0, fun q => P1 (by rwa [Gp.other (by decide)] at q), fun q => P2 (by rwa [Gp.other (by decide)] at q), fun q => P4 (by rwa [Gp.other (by decide)] at q), fun _ => ⟨A22, c22, rfl, F22⟩, fun q => P6 (by rwa [Gp.other (by decide)] at q)⟩
  skip
  refine O.val f19 rfl rfl (by decide) wantedN (E.fa 22 f19 U34 rfl wsz31_tb) trivial fun a20 f20 => ?_
  exact ⟨_, _, _, _, _, f20.sub (sr rfl (sr rfl (sr rfl (sr rfl (sr rfl (sr rfl (sr rfl (sr rfl (sr rfl sn))))))))), HK, Bg1, F5, F8, F12, Bg0, fun q => P1 (by rwa [Gp.other (by decide)] at q), fun q => P2 (by rwa [Gp.other (by decide)] at q), fun q => P4 (by rwa [Gp.other (by decide)] at q), fun q => P5 (by rwa [Gp.other (by decide)] at q), fun _ => rfl⟩
 intro mS a19 w9 hm hI
 obtain ⟨v18, v19, v21, v22, v23, f19, HK, Bg1, F5, F8, F12, Bg0, P1, P2, P4, P5, P6⟩ := hI
 have D2 := P2 (hm 2 (by decide))
 obtain ⟨A19, c19, rfl, F19⟩ := D2
 have D5 := P5 (hm 5 (by decide))
 obtain ⟨A22, c22, rfl, F22⟩ := D5
 have D6 := P6 (hm 6 (by decide))
 obtain rfl := D6
 clear P1 P2 P4 P5 P6
 refine R.one 7 (by kernel_rfl) ?_
 refine OT.store f19 rfl wantedN wsz31_tb rfl rfl rfl Bg0 (by (simp [Value.cells]; done)) fun a20 w10 f20 NB10 ks10 => ?_
 have szw10 := ks10.size
 replace HK := HK.trans ks10 (ktr (by omega))
 replace Bg1 := Bg1.kept ks10 (by simp; omega)
 replace F5 := fresh_blk F5 ks10 Bg0 (by decide)
 replace F8 := fresh_blk F8 ks10 Bg0 (by decide)
 replace F12 := fresh_blk F12 ks10 Bg0 (by decide)
 replace F19 := fresh_blk F19 ks10 Bg0 (by decide)
 replace F22 := fresh_blk F22 ks10 Bg0 (by decide)
 replace Bg0 := NB10
 simp only [Value.cells, z1, z2, z3, Nat.reduceAdd, Nat.zero_add] at Bg0
 clear ks10 f19 a19
 refine R.u 8 f20 rfl ht trivial (fun W hW => (E.fa 23 f20 U34 rfl wsz32_tb)) fun a21 f21 => ?_
 refine R.one 9 (by kernel_rfl) ?_
 refine OT.store f21 rfl wantedN wsz32_tb rfl rfl rfl Bg0 (by (simp [Value.cells]; done)) fun a22 w11 f22 NB11 ks11 => ?_
 have szw11 := ks11.size
 replace HK := HK.trans ks11 (ktr (by omega))
 replace Bg1 := Bg1.kept ks11 (by simp; omega)
 replace F5 := fresh_blk F5 ks11 Bg0 (by decide)
 replace F8 := fresh_blk F8 ks11 Bg0 (by decide)
 replace F12 := fresh_blk F12 ks11 Bg0 (by decide)
 replace F19 := fresh_blk F19 ks11 Bg0 (by decide)
 replace F22 := fresh_blk F22 ks11 Bg0 (by decide)
 replace Bg0 := NB11
 simp only [Value.cells, z1, z2, z3, Nat.reduceAdd, Nat.zero_add] at Bg0
 clear f20 a20 ks11 f21 a21
 refine R.done (by kernel_rfl) (hK2 _ _ ?_)
 have f23 := f22.sub (sc 1 (sc 2 sn))
 refine C.sk fun K3 hK3 => ?_
 refine L.va f23 (E.loadB f23 U34 rfl wsz34_tb rfl (Bg0) rfl) fun a24 f24 => ?_
 refine L.storeR f24 wantedN wsz34_tb rfl rfl rfl Bg1 rfl rfl fun a25 w12 f25 NB12 ks12 => ?_
 have szw12 := ks12.size
 replace HK := HK.trans ks12 (ktr (by omega))
 replace F5 := fresh_blk F5 ks12 Bg1 (by decide)
 replace F8 := fresh_blk F8 ks12 Bg1 (by decide)
 replace F12 := fresh_blk F12 ks12 Bg1 (by decide)
 replace F19 := fresh_blk F19 ks12 Bg1 (by decide)
 replace F22 := fresh_blk F22 ks12 Bg1 (by decide)
 replace Bg0 := Bg0.kept ks12 (by simp; omega)
 replace Bg1 := NB12
 clear f22 f23 a22 ks12 f24 a24
 have f26 := f25.sub (sc 2 sn)
 refine wpList_nil (hK3 _ _ (wp_ret ?_)); (try simp only [xt, xb]); refine C.retC f26 rfl rfl Bg1 U34 rfl wsz34_tb ?_
 exact ⟨HK, ⟨A5, c5, A12, c12, A8, c8, A19, c19, A22, c22⟩, rfl, ⟨F5, F12, F8, F19, F22⟩⟩
end Go.Proofs.Ytkdeedhjkjffpaa
namespace Go.Hub
open Go.RowKit
section
variable {P : Program} {a : TypeId} {z : Value}
theorem ta_yes {fs : Array Field} (hu : P.underlying a = some (.struct fs)) (x : TypeId) (v : Value) (b : Bool) (w : World) : (Instr.typeAssert (.iface a v) x a b).run P w = .ok (if b = true then .tuple #[v, .bool true] else v) w := by
  cases b <;> simp [Instr.typeAssert, run_underlying hu]
theorem ta_no {fs : Array Field} (hu : P.underlying a = some (.struct fs)) (hz : ∀ w, (zeroValue a).run P w = .ok z w) (x t : TypeId) (v : Value) (w : World) (h : t ≠ a) : (Instr.typeAssert (.iface t v) x a true).run P w = .ok (.tuple #[z, .bool false]) w := by
  simp [Instr.typeAssert, run_underlying hu, h, hz]
theorem ta_nil {fs : Array Field} (hu : P.underlying a = some (.struct fs)) (hz : ∀ w, (zeroValue a).run P w = .ok z w) (x : TypeId) (w : World) : (Instr.typeAssert .nilIface x a true).run P w = .ok (.tuple #[z, .bool false]) w := by
  simp [Instr.typeAssert, run_underlying hu, hz]
end
end Go.Hub
namespace Go.Proofs.Ytkdeedhjkjffpaa
open Go.RowKit Go.Hub Go.Lib
theorem wsz3_tc : (Try.prog.info? 3).map (·.size) = some 1 := by kernel_rfl
theorem wsz34_tc : (Try.prog.info? 34).map (·.size) = some 24 := by kernel_rfl
theorem wbl66_0_tc (x0_0 x0_1 x0_2 x0_3 x0_4 x0_5 x0_6 x0_7 x0_8 x0_9 x0_10 x0_11 x0_12 x0_13 x0_14 x0_15 x0_16 x0_17 x0_18 x0_19 x0_20 x0_21 x0_22 x0_23 : Value) : Try.prog.built 66 [(0, .agg #[x0_0, x0_1, x0_2, x0_3, x0_4, x0_5, x0_6, x0_7, x0_8, x0_9, x0_10, x0_11, x0_12, x0_13, x0_14, x0_15, x0_16, x0_17, x0_18, x0_19, x0_20, x0_21, x0_22, x0_23])] = some #[x0_0, x0_1, x0_2, x0_3, x0_4, x0_5, x0_6, x0_7, x0_8, x0_9, x0_10, x0_11, x0_12, x0_13, x0_14, x0_15, x0_16, x0_17, x0_18, x0_19, x0_20, x0_21, x0_22, x0_23] := by kernel_rfl
theorem wbl67_0_tc (x0_0 x0_1 x0_2 x0_3 x0_4 x0_5 x0_6 x0_7 x0_8 x0_9 x0_10 x0_11 x0_12 x0_13 x0_14 x0_15 x0_16 x0_17 x0_18 x0_19 x0_20 x0_21 x0_22 x0_23 : Value) : Try.prog.built 67 [(0, .agg #[x0_0, x0_1, x0_2, x0_3, x0_4, x0_5, x0_6, x0_7, x0_8, x0_9, x0_10, x0_11, x0_12, x0_13, x0_14, x0_15, x0_16, x0_17, x0_18, x0_19, x0_20, x0_21, x0_22, x0_23])] = some #[x0_0, x0_1, x0_2, x0_3, x0_4, x0_5, x0_6, x0_7, x0_8, x0_9, x0_10, x0_11, x0_12, x0_13, x0_14, x0_15, x0_16, x0_17, x0_18, x0_19, x0_20, x0_21, x0_22, x0_23] := by kernel_rfl
theorem wbl68_0_tc (x0_0 x0_1 x0_2 x0_3 x0_4 x0_5 x0_6 x0_7 x0_8 x0_9 x0_10 x0_11 x0_12 x0_13 x0_14 x0_15 x0_16 x0_17 x0_18 x0_19 x0_20 x0_21 x0_22 x0_23 : Value) : Try.prog.built 68 [(0, .agg #[x0_0, x0_1, x0_2, x0_3, x0_4, x0_5, x0_6, x0_7, x0_8, x0_9, x0_10, x0_11, x0_12, x0_13, x0_14, x0_15, x0_16, x0_17, x0_18, x0_19, x0_20, x0_21, x0_22, x0_23])] = some #[x0_0, x0_1, x0_2, x0_3, x0_4, x0_5, x0_6, x0_7, x0_8, x0_9, x0_10, x0_11, x0_12, x0_13, x0_14, x0_15, x0_16, x0_17, x0_18, x0_19, x0_20, x0_21, x0_22, x0_23] := by kernel_rfl
theorem wbl69_0_tc (x0_0 x0_1 x0_2 x0_3 x0_4 x0_5 x0_6 x0_7 x0_8 x0_9 x0_10 x0_11 x0_12 x0_13 x0_14 x0_15 x0_16 x0_17 x0_18 x0_19 x0_20 x0_21 x0_22 x0_23 : Value) : Try.prog.built 69 [(0, .agg #[x0_0, x0_1, x0_2, x0_3, x0_4, x0_5, x0_6, x0_7, x0_8, x0_9, x0_10, x0_11, x0_12, x0_13, x0_14, x0_15, x0_16, x0_17, x0_18, x0_19, x0_20, x0_21, x0_22, x0_23])] = some #[x0_0, x0_1, x0_2, x0_3, x0_4, x0_5, x0_6, x0_7, x0_8, x0_9, x0_10, x0_11, x0_12, x0_13, x0_14, x0_15, x0_16, x0_17, x0_18, x0_19, x0_20, x0_21, x0_22, x0_23] := by kernel_rfl
theorem wbl70_0_tc (x0_0 x0_1 x0_2 x0_3 x0_4 x0_5 x0_6 x0_7 x0_8 x0_9 x0_10 x0_11 x0_12 x0_13 x0_14 x0_15 x0_16 x0_17 x0_18 x0_19 x0_20 x0_21 x0_22 x0_23 : Value) : Try.prog.built 70 [(0, .agg #[x0_0, x0_1, x0_2, x0_3, x0_4, x0_5, x0_6, x0_7, x0_8, x0_9, x0_10, x0_11, x0_12, x0_13, x0_14, x0_15, x0_16, x0_17, x0_18, x0_19, x0_20, x0_21, x0_22, x0_23])] = some #[x0_0, x0_1, x0_2, x0_3, x0_4, x0_5, x0_6, x0_7, x0_8, x0_9, x0_10, x0_11, x0_12, x0_13, x0_14, x0_15, x0_16, x0_17, x0_18, x0_19, x0_20, x0_21, x0_22, x0_23] := by kernel_rfl
def anyT (k : Int) : Option TypeId := if k = 1 ∨ k = 2 then some 66 else if k = 3 then some 67 else if (4 ≤ k ∧ k ≤ 7) ∨ k = 9 ∨ k = 11 then some 68 else if k = 8 ∨ k = 10 then some 69 else if 12 ≤ k ∧ k ≤ 14 then some 70 else none
def anyV (k : Int) (cs : Array Value) : Value := match anyT k with | some t => .iface t (.agg cs) | none => .nilIface
section
variable {k : Int} {cs : Array Value}
theorem anyT_0 (h : k = 1 ∨ k = 2) : anyT k = some 66 := by unfold anyT; rw [if_pos h]
theorem anyT_1 (h : k = 3) : anyT k = some 67 := by unfold anyT; rw [if_neg (by omega), if_pos h]
theorem anyT_2 (h : (4 ≤ k ∧ k ≤ 7) ∨ k = 9 ∨ k = 11) : anyT k = some 68 := by unfold anyT; rw [if_neg (by omega), if_neg (by omega), if_pos h]
theorem anyT_3 (h : k = 8 ∨ k = 10) : anyT k = some 69 := by unfold anyT; rw [if_neg (by omega), if_neg (by omega), if_neg (by omega), if_pos h]
theorem anyT_4 (h : 12 ≤ k ∧ k ≤ 14) : anyT k = some 70 := by unfold anyT; rw [if_neg (by omega), if_neg (by omega), if_neg (by omega), if_neg (by omega), if_pos h]
theorem anyT_n (h : k < 1 ∨ 14 < k) : anyT k = none := by unfold anyT; rw [if_neg (by omega), if_neg (by omega), if_neg (by omega), if_neg (by omega), if_neg (by omega)]
theorem any_0 (h : k = 1 ∨ k = 2) : anyV k cs = .iface 66 (.agg cs) := by unfold anyV; rw [anyT_0 h]
theorem any_1 (h : k = 3) : anyV k cs = .iface 67 (.agg cs) := by unfold anyV; rw [anyT_1 h]
theorem any_2 (h : (4 ≤ k ∧ k ≤ 7) ∨ k = 9 ∨ k = 11) : anyV k cs = .iface 68 (.agg cs) := by unfold anyV; rw [anyT_2 h]
theorem any_3 (h : k = 8 ∨ k = 10) : anyV k cs = .iface 69 (.agg cs) := by unfold anyV; rw [anyT_3 h]
theorem any_4 (h : 12 ≤ k ∧ k ≤ 14) : anyV k cs = .iface 70 (.agg cs) := by unfold anyV; rw [anyT_4 h]
theorem any_n (h : k < 1 ∨ 14 < k) : anyV k cs = .nilIface := by unfold anyV; rw [anyT_n h]
theorem anyT_is {t : TypeId} (h : anyT k = some t) : (t = 66 ∧ (k = 1 ∨ k = 2)) ∨ (t = 67 ∧ k = 3) ∨ (t = 68 ∧ ((4 ≤ k ∧ k ≤ 7) ∨ k = 9 ∨ k = 11)) ∨ (t = 69 ∧ (k = 8 ∨ k = 10)) ∨ (t = 70 ∧ 12 ≤ k ∧ k ≤ 14) := by
  unfold anyT at h
  repeat' split at h
  all_goals first | (injection h with h; subst h; simp_all) | (cases h)
end
theorem zero_any (a : TypeId) (ha : a ∈ [66, 67, 68, 69, 70]) : (∃ fs, Try.prog.underlying a = some (.struct fs)) ∧ ∀ w, (zeroValue a).run Try.prog w = .ok (.agg zeroPk) w := by
  simp only [List.mem_cons, List.not_mem_nil, or_false] at ha
  rcases ha with rfl | rfl | rfl | rfl | rfl
  · exact ⟨⟨_, Try.underlying66⟩, fun w => by kernel_rfl⟩
  · exact ⟨⟨_, Try.underlying67⟩, fun w => by kernel_rfl⟩
  · exact ⟨⟨_, Try.underlying68⟩, fun w => by kernel_rfl⟩
  · exact ⟨⟨_, Try.underlying69⟩, fun w => by kernel_rfl⟩
  exact ⟨⟨_, Try.underlying70⟩, fun w => by kernel_rfl⟩
theorem ta_any (a : TypeId) (ha : a ∈ [66, 67, 68, 69, 70]) (k : Int) (cs : Array Value) (x : TypeId) (w : World) : (Instr.typeAssert (anyV k cs) x a true).run Try.prog w = .ok (.tuple #[if anyT k = some a then .agg cs else .agg zeroPk, .bool (decide (anyT k = some a))]) w := by
  obtain ⟨⟨fs, hu⟩, hz⟩ := zero_any a ha
  unfold anyV
  cases ht : anyT k with
  | none =>
    rw [if_neg (by simp), decide_eq_false (by simp)]
    exact ta_nil hu hz x w
  | some t =>
    by_cases e : t = a
    · subst e
      rw [if_pos rfl, decide_eq_true rfl]
      exact ta_yes hu x (.agg cs) true w
    rw [if_neg (fun h => e (Option.some.inj h)), decide_eq_false (fun h => e (Option.some.inj h))]
    exact ta_no hu hz x t (.agg cs) w e
theorem _root_.Go.Hub.E.taA {n : Nat} {a : Act} {w : World} {l : FL} {dst : Option Nat} {ty : TypeId} {ps : String} {af : Array Edge} {gd : Option (Nat × Bool)} {x : Operand} {it : TypeId} (f : Fr n a l) (t : TypeId) (ht : t ∈ [66, 67, 68, 69, 70]) {k : Int} {cs : Array Value} (hx : evl l x = some (anyV k cs)) :
    (execOp a.eval ⟨dst, .typeAssert x it t true, ty, ps, af, gd⟩).run Try.prog w = .ok (.value (.tuple #[if anyT k = some t then .agg cs else .agg zeroPk, .bool (decide (anyT k = some t))])) w := by
  simp only [execOp, f.ev hx, Sem.run_bind, ta_any t ht, Result.andThen, Sem.run_pure]
set_option maxHeartbeats 4000000 in
theorem any_any (p : Pk) (s : Ad) (w : World) (IP : p.In w s) (hL : p.Len) : Calls Try.prog 28 #[.agg (p.cells s)] w (fun e w' => Kept [] w w' ∧ ∃ t, e = .returned (anyV p.kind (p.cells t)) ∧ PkF w w' p t) := by
 have HK : Kept [] w w := Kept.refl [] w
 refine C.enter Try.func28 rfl Try.ntmps28 rfl ?_
 intro a0 f0
 have f1 : Fr 41 a0 [(0, .agg (p.cells s))] := f0
 refine C.sk fun K0 hK0 => ?_
 refine L.box f1 wantedN (by decide) rfl rfl fun a2 w1 g0 N0 f2 => ?_
 have Bg0 := N0.blk
 have kg0 := N0.kept
 have log0 := N0.lo
 have ltg0 := Bg0.lt
 have szw1 := kg0.size
 have frg0 : w.heap.size ≤ g0 := Nat.le_trans HK.size log0
 replace HK := HK.z kg0
 clear f0 N0 kg0
 refine L.ag f2 fun a3 f3 => ?_
 have f4 := f3.sub (sc 1 sn)
 refine wpList_nil (hK0 _ _ (C.sk fun K1 hK1 => ?_))
 refine L.va f4 (E.loadB f4 U34 rfl wsz34_tc rfl (Bg0) rfl) fun a5 f5 => ?_
 refine L.cl f5 (run_call Try.call27 (args1 f5 rfl)) (copy_any p s _ (IP.kept HK) hL) ?_
 clear f1 a0 f2 a2 f3 f4 a3
 rintro e w2 ⟨kc2, tt, rfl, PT⟩
 have szk := HK.size
 replace PT := PkF.lower PT szk
 refine ⟨_, rfl, fun a6 f6 => ?_⟩
 have szw2 := kc2.size
 replace HK := HK.z kc2
 replace Bg0 := Bg0.z kc2
 clear f5 a5 kc2
 refine L.storeR f6 wantedN wsz34_tc rfl rfl rfl Bg0 rfl rfl fun a7 w3 f7 NB3 ks3 => ?_
 have szw3 := ks3.size
 replace HK := HK.trans ks3 (ktr (by omega))
 replace PT := PT.kept1 ks3 Bg0 (by decide)
 replace Bg0 := NB3
 clear ks3 f6 a6
 refine wpList_nil (hK1 _ _ ?_)
 have f8 := f7.sub (sc 1 sn)
 refine wp_seq_k fun K2 hK2 => ?_
 refine wp_seq_k fun K3 hK3 => ?_
 replace Bg0 : Blk w3 g0 34 #[.int .i64 p.kind, .bool p.dup, .bool p.retain, .int .i64 p.qos, .int .i64 p.id, .string p.topic, .slice tt.pa p.pay.length tt.pc, .int .i64 p.level, .string p.client, .bool p.clean, .int .i64 p.keep, .bool p.hasWill, .string p.wt, .slice tt.wa p.wp.length tt.wc, .int .i64 p.wq, .bool p.wr, .bool p.hasUser, .bool p.hasPass, .string p.user, .slice tt.sa p.pass.length tt.sc, .bool p.present, .int .i64 p.code, .slice tt.ua p.subs.length tt.uc, .slice tt.ca p.codes.length tt.cc] := Bg0
 refine C.region ?_
 refine L.fa 0 f8 U34 rfl wsz3_tc fun a9 f9 => ?_
 refine L.ld f9 U3 Bg0 fun a10 f10 => ?_
 refine wpList_nil (hK3 _ _ ?_)
 have f11 := f10.sub (sc 1 (sc 6 sn))
 refine wp_block ?_
 refine wp_seq_k fun K4 hK4 => ?_
 refine C.sk fun K5 hK5 => ?_
 refine L.va f11 (E.eq f11) fun a12 f12 => ?_
 refine L.ag f12 fun a13 f13 => ?_
 refine wpList_nil (hK5 _ _ ?_)
 have f14 := f13.sub (sc 1 (sc 6 (sc 7 sn)))
 clear f7 f8 a7 f9 a9 f10 f11 a10 f12 a12 f13
 refine f14.splitD 7 rfl (fun h0 f15 => ?_) (fun h0 f15 => ?_)
 ·refine C.condT f15 rfl ?_
  refine wp_skip (hK4 _ _ ?_)
  have f16 := f15.sub (sc 1 (sc 6 (sc 7 sn)))
  refine C.condT f16 rfl ?_
  refine C.sk fun K6 hK6 => ?_
  refine L.va f16 (E.loadB f16 U34 rfl wsz34_tc rfl (Bg0) rfl) fun a17 f17 => ?_
  refine L.va f17 (E.build f17 (parts1 f17 rfl) (wbl66_0_tc _ _ _ _ _ _ _ _ _ _ _ _ _ _ _ _ _ _ _ _ _ _ _ _)) fun a18 f18 => ?_
  refine L.va f18 (E.makeInterface f18 (by kernel_rfl) rfl) fun a19 f19 => ?_
  refine L.ag f19 fun a20 f20 => ?_
  have f21 := f20.sub (sc 2 sn)
  refine wpList_nil (hK6 _ _ (wp_ret ?_)); (try simp only [xt, xb]); refine C.ret f21 rfl rfl ?_
  exact ⟨HK, tt, by (rw [any_0 (by omega)]; rfl), PT⟩
 refine C.condF f15 rfl ?_
 refine C.region ?_
 refine L.va f15 (E.eq f15) fun a16 f16 => ?_
 refine L.ag f16 fun a17 f17 => ?_
 refine wpList_nil (hK4 _ _ ?_)
 have f18 := f17.sub (sc 1 (sc 6 (sc 7 sn)))
 clear f14 f15 a13 f16 a16 f17
 refine f18.splitD 7 rfl (fun h1 f19 => ?_) (fun h1 f19 => ?_)
 ·refine C.condT f19 rfl ?_
  refine C.sk fun K7 hK7 => ?_
  refine L.va f19 (E.loadB f19 U34 rfl wsz34_tc rfl (Bg0) rfl) fun a20 f20 => ?_
  refine L.va f20 (E.build f20 (parts1 f20 rfl) (wbl66_0_tc _ _ _ _ _ _ _ _ _ _ _ _ _ _ _ _ _ _ _ _ _ _ _ _)) fun a21 f21 => ?_
  refine L.va f21 (E.makeInterface f21 (by kernel_rfl) rfl) fun a22 f22 => ?_
  refine L.ag f22 fun a23 f23 => ?_
  have f24 := f23.sub (sc 2 sn)
  refine wpList_nil (hK7 _ _ (wp_ret ?_)); (try simp only [xt, xb]); refine C.ret f24 rfl rfl ?_
  exact ⟨HK, tt, by (rw [any_0 (by omega)]; rfl), PT⟩
 refine C.condF f19 rfl ?_
 refine C.sk fun K8 hK8 => ?_
 refine L.va f19 (E.eq f19) fun a20 f20 => ?_
 refine L.ag f20 fun a21 f21 => ?_
 refine wpList_nil (hK8 _ _ ?_)
 have f22 := f21.sub (sc 1 (sc 6 (sc 13 sn)))
 clear f18 f19 a17 f20 a20 f21
 refine f22.splitD 13 rfl (fun h2 f23 => ?_) (fun h2 f23 => ?_)
 ·refine C.condT f23 rfl ?_
  refine C.sk fun K9 hK9 => ?_
  refine L.va f23 (E.loadB f23 U34 rfl wsz34_tc rfl (Bg0) rfl) fun a24 f24 => ?_
  refine L.va f24 (E.build f24 (parts1 f24 rfl) (wbl67_0_tc _ _ _ _ _ _ _ _ _ _ _ _ _ _ _ _ _ _ _ _ _ _ _ _)) fun a25 f25 => ?_
  refine L.va f25 (E.makeInterface f25 (by kernel_rfl) rfl) fun a26 f26 => ?_
  refine L.ag f26 fun a27 f27 => ?_
  have f28 := f27.sub (sc 2 sn)
  refine wpList_nil (hK9 _ _ (wp_ret ?_)); (try simp only [xt, xb]); refine C.ret f28 rfl rfl ?_
  exact ⟨HK, tt, by (rw [any_1 (by omega)]; rfl), PT⟩
 refine C.condF f23 rfl ?_
 refine wp_seq_k fun K10 hK10 => ?_
 refine C.sk fun K11 hK11 => ?_
 refine L.va f23 (E.eq f23) fun a24 f24 => ?_
 refine L.ag f24 fun a25 f25 => ?_
 refine wpList_nil (hK11 _ _ ?_)
 have f26 := f25.sub (sc 1 (sc 6 (sc 18 sn)))
 clear f22 f23 a21 f24 a24 f25
 refine f26.splitD 18 rfl (fun h3 f27 => ?_) (fun h3 f27 => ?_)
 ·refine C.condT f27 rfl ?_
  refine wp_skip (hK10 _ _ ?_)
  have f28 := f27.sub (sc 1 (sc 6 (sc 18 sn)))
  refine C.condT f28 rfl ?_
  refine C.sk fun K12 hK12 => ?_
  refine L.va f28 (E.loadB f28 U34 rfl wsz34_tc rfl (Bg0) rfl) fun a29 f29 => ?_
  refine L.va f29 (E.build f29 (parts1 f29 rfl) (wbl68_0_tc _ _ _ _ _ _ _ _ _ _ _ _ _ _ _ _ _ _ _ _ _ _ _ _)) fun a30 f30 => ?_
  refine L.va f30 (E.makeInterface f30 (by kernel_rfl) rfl) fun a31 f31 => ?_
  refine L.ag f31 fun a32 f32 => ?_
  have f33 := f32.sub (sc 2 sn)
  refine wpList_nil (hK12 _ _ (wp_ret ?_)); (try simp only [xt, xb]); refine C.ret f33 rfl rfl ?_
  exact ⟨HK, tt, by (rw [any_2 (by omega)]; rfl), PT⟩
 refine C.condF f27 rfl ?_
 refine C.sk fun K13 hK13 => ?_
 refine L.va f27 (E.eq f27) fun a28 f28 => ?_
 refine L.ag f28 fun a29 f29 => ?_
 refine wpList_nil (hK13 _ _ ?_)
 have f30 := f29.sub (sc 1 (sc 6 (sc 18 sn)))
 clear f26 f27 a25 f28 a28 f29
 refine f30.splitD 18 rfl (fun h4 f31 => ?_) (fun h4 f31 => ?_)
 ·refine C.condT f31 rfl ?_
  refine wp_skip (hK10 _ _ ?_)
  have f32 := f31.sub (sc 1 (sc 6 (sc 18 sn)))
  refine C.condT f32 rfl ?_
  refine C.sk fun K14 hK14 => ?_
  refine L.va f32 (E.loadB f32 U34 rfl wsz34_tc rfl (Bg0) rfl) fun a33 f33 => ?_
  refine L.va f33 (E.build f33 (parts1 f33 rfl) (wbl68_0_tc _ _ _ _ _ _ _ _ _ _ _ _ _ _ _ _ _ _ _ _ _ _ _ _)) fun a34 f34 => ?_
  refine L.va f34 (E.makeInterface f34 (by kernel_rfl) rfl) fun a35 f35 => ?_
  refine L.ag f35 fun a36 f36 => ?_
  have f37 := f36.sub (sc 2 sn)
  refine wpList_nil (hK14 _ _ (wp_ret ?_)); (try simp only [xt, xb]); refine C.ret f37 rfl rfl ?_
  exact ⟨HK, tt, by (rw [any_2 (by omega)]; rfl), PT⟩
 refine C.condF f31 rfl ?_
 refine C.sk fun K15 hK15 => ?_
 refine L.va f31 (E.eq f31) fun a32 f32 => ?_
 refine L.ag f32 fun a33 f33 => ?_
 refine wpList_nil (hK15 _ _ ?_)
 have f34 := f33.sub (sc 1 (sc 6 (sc 18 sn)))
 clear f30 f31 a29 f32 a32 f33
 refine f34.splitD 18 rfl (fun h5 f35 => ?_) (fun h5 f35 => ?_)
 ·refine C.condT f35 rfl ?_
  refine wp_skip (hK10 _ _ ?_)
  have f36 := f35.sub (sc 1 (sc 6 (sc 18 sn)))
  refine C.condT f36 rfl ?_
  refine C.sk fun K16 hK16 => ?_
  refine L.va f36 (E.loadB f36 U34 rfl wsz34_tc rfl (Bg0) rfl) fun a37 f37 => ?_
  refine L.va f37 (E.build f37 (parts1 f37 rfl) (wbl68_0_tc _ _ _ _ _ _ _ _ _ _ _ _ _ _ _ _ _ _ _ _ _ _ _ _)) fun a38 f38 => ?_
  refine L.va f38 (E.makeInterface f38 (by kernel_rfl) rfl) fun a39 f39 => ?_
  refine L.ag f39 fun a40 f40 => ?_
  have f41 := f40.sub (sc 2 sn)
  refine wpList_nil (hK16 _ _ (wp_ret ?_)); (try simp only [xt, xb]); refine C.ret f41 rfl rfl ?_
  exact ⟨HK, tt, by (rw [any_2 (by omega)]; rfl), PT⟩
 refine C.condF f35 rfl ?_
 refine C.sk fun K17 hK17 => ?_
 refine L.va f35 (E.eq f35) fun a36 f36 => ?_
 refine L.ag f36 fun a37 f37 => ?_
 refine wpList_nil (hK17 _ _ ?_)
 have f38 := f37.sub (sc 1 (sc 6 (sc 18 sn)))
 clear f34 f35 a33 f36 a36 f37
 refine f38.splitD 18 rfl (fun h6 f39 => ?_) (fun h6 f39 => ?_)
 ·refine C.condT f39 rfl ?_
  refine wp_skip (hK10 _ _ ?_)
  have f40 := f39.sub (sc 1 (sc 6 (sc 18 sn)))
  refine C.condT f40 rfl ?_
  refine C.sk fun K18 hK18 => ?_
  refine L.va f40 (E.loadB f40 U34 rfl wsz34_tc rfl (Bg0) rfl) fun a41 f41 => ?_
  refine L.va f41 (E.build f41 (parts1 f41 rfl) (wbl68_0_tc _ _ _ _ _ _ _ _ _ _ _ _ _ _ _ _ _ _ _ _ _ _ _ _)) fun a42 f42 => ?_
  refine L.va f42 (E.makeInterface f42 (by kernel_rfl) rfl) fun a43 f43 => ?_
  refine L.ag f43 fun a44 f44 => ?_
  have f45 := f44.sub (sc 2 sn)
  refine wpList_nil (hK18 _ _ (wp_ret ?_)); (try simp only [xt, xb]); refine C.ret f45 rfl rfl ?_
  exact ⟨HK, tt, by (rw [any_2 (by omega)]; rfl), PT⟩
 refine C.condF f39 rfl ?_
 refine C.sk fun K19 hK19 => ?_
 refine L.va f39 (E.eq f39) fun a40 f40 => ?_
 refine L.ag f40 fun a41 f41 => ?_
 refine wpList_nil (hK19 _ _ ?_)
 have f42 := f41.sub (sc 1 (sc 6 (sc 18 sn)))
 clear f38 f39 a37 f40 a40 f41
 refine f42.splitD 18 rfl (fun h7 f43 => ?_) (fun h7 f43 => ?_)
 ·refine C.condT f43 rfl ?_
  refine wp_skip (hK10 _ _ ?_)
  have f44 := f43.sub (sc 1 (sc 6 (sc 18 sn)))
  refine C.condT f44 rfl ?_
  refine C.sk fun K20 hK20 => ?_
  refine L.va f44 (E.loadB f44 U34 rfl wsz34_tc rfl (Bg0) rfl) fun a45 f45 => ?_
  refine L.va f45 (E.build f45 (parts1 f45 rfl) (wbl68_0_tc _ _ _ _ _ _ _ _ _ _ _ _ _ _ _ _ _ _ _ _ _ _ _ _)) fun a46 f46 => ?_
  refine L.va f46 (E.makeInterface f46 (by kernel_rfl) rfl) fun a47 f47 => ?_
  refine L.ag f47 fun a48 f48 => ?_
  have f49 := f48.sub (sc 2 sn)
  refine wpList_nil (hK20 _ _ (wp_ret ?_)); (try simp only [xt, xb]); refine C.ret f49 rfl rfl ?_
  exact ⟨HK, tt, by (rw [any_2 (by omega)]; rfl), PT⟩
 refine C.condF f43 rfl ?_
 refine C.region ?_
 refine L.va f43 (E.eq f43) fun a44 f44 => ?_
 refine L.ag f44 fun a45 f45 => ?_
 refine wpList_nil (hK10 _ _ ?_)
 have f46 := f45.sub (sc 1 (sc 6 (sc 18 sn)))
 clear f42 f43 a41 f44 a44 f45
 refine f46.splitD 18 rfl (fun h8 f47 => ?_) (fun h8 f47 => ?_)
 ·refine C.condT f47 rfl ?_
  refine C.sk fun K21 hK21 => ?_
  refine L.va f47 (E.loadB f47 U34 rfl wsz34_tc rfl (Bg0) rfl) fun a48 f48 => ?_
  refine L.va f48 (E.build f48 (parts1 f48 rfl) (wbl68_0_tc _ _ _ _ _ _ _ _ _ _ _ _ _ _ _ _ _ _ _ _ _ _ _ _)) fun a49 f49 => ?_
  refine L.va f49 (E.makeInterface f49 (by kernel_rfl) rfl) fun a50 f50 => ?_
  refine L.ag f50 fun a51 f51 => ?_
  have f52 := f51.sub (sc 2 sn)
  refine wpList_nil (hK21 _ _ (wp_ret ?_)); (try simp only [xt, xb]); refine C.ret f52 rfl rfl ?_
  exact ⟨HK, tt, by (rw [any_2 (by omega)]; rfl), PT⟩
 refine C.condF f47 rfl ?_
 refine wp_seq_k fun K22 hK22 => ?_
 refine C.sk fun K23 hK23 => ?_
 refine L.va f47 (E.eq f47) fun a48 f48 => ?_
 refine L.ag f48 fun a49 f49 => ?_
 refine wpList_nil (hK23 _ _ ?_)
 have f50 := f49.sub (sc 1 (sc 6 (sc 28 sn)))
 clear f46 f47 a45 f48 a48 f49
 refine f50.splitD 28 rfl (fun h9 f51 => ?_) (fun h9 f51 => ?_)
 ·refine C.condT f51 rfl ?_
  refine wp_skip (hK22 _ _ ?_)
  have f52 := f51.sub (sc 1 (sc 6 (sc 28 sn)))
  refine C.condT f52 rfl ?_
  refine C.sk fun K24 hK24 => ?_
  refine L.va f52 (E.loadB f52 U34 rfl wsz34_tc rfl (Bg0) rfl) fun a53 f53 => ?_
  refine L.va f53 (E.build f53 (parts1 f53 rfl) (wbl69_0_tc _ _ _ _ _ _ _ _ _ _ _ _ _ _ _ _ _ _ _ _ _ _ _ _)) fun a54 f54 => ?_
  refine L.va f54 (E.makeInterface f54 (by kernel_rfl) rfl) fun a55 f55 => ?_
  refine L.ag f55 fun a56 f56 => ?_
  have f57 := f56.sub (sc 2 sn)
  refine wpList_nil (hK24 _ _ (wp_ret ?_)); (try simp only [xt, xb]); refine C.ret f57 rfl rfl ?_
  exact ⟨HK, tt, by (rw [any_3 (by omega)]; rfl), PT⟩
 refine C.condF f51 rfl ?_
 refine C.region ?_
 refine L.va f51 (E.eq f51) fun a52 f52 => ?_
 refine L.ag f52 fun a53 f53 => ?_
 refine wpList_nil (hK22 _ _ ?_)
 have f54 := f53.sub (sc 1 (sc 6 (sc 28 sn)))
 clear f50 f51 a49 f52 a52 f53
 refine f54.splitD 28 rfl (fun h10 f55 => ?_) (fun h10 f55 => ?_)
 ·refine C.condT f55 rfl ?_
  refine C.sk fun K25 hK25 => ?_
  refine L.va f55 (E.loadB f55 U34 rfl wsz34_tc rfl (Bg0) rfl) fun a56 f56 => ?_
  refine L.va f56 (E.build f56 (parts1 f56 rfl) (wbl69_0_tc _ _ _ _ _ _ _ _ _ _ _ _ _ _ _ _ _ _ _ _ _ _ _ _)) fun a57 f57 => ?_
  refine L.va f57 (E.makeInterface f57 (by kernel_rfl) rfl) fun a58 f58 => ?_
  refine L.ag f58 fun a59 f59 => ?_
  have f60 := f59.sub (sc 2 sn)
  refine wpList_nil (hK25 _ _ (wp_ret ?_)); (try simp only [xt, xb]); refine C.ret f60 rfl rfl ?_
  exact ⟨HK, tt, by (rw [any_3 (by omega)]; rfl), PT⟩
 refine C.condF f55 rfl ?_
 refine wp_seq_k fun K26 hK26 => ?_
 refine C.sk fun K27 hK27 => ?_
 refine L.va f55 (E.eq f55) fun a56 f56 => ?_
 refine L.ag f56 fun a57 f57 => ?_
 refine wpList_nil (hK27 _ _ ?_)
 have f58 := f57.sub (sc 1 (sc 6 (sc 34 sn)))
 clear f54 f55 a53 f56 a56 f57
 refine f58.splitD 34 rfl (fun h11 f59 => ?_) (fun h11 f59 => ?_)
 ·refine C.condT f59 rfl ?_
  refine wp_skip (hK26 _ _ ?_)
  have f60 := f59.sub (sc 1 (sc 34 sn))
  refine C.condT f60 rfl ?_
  refine C.sk fun K28 hK28 => ?_
  refine L.va f60 (E.loadB f60 U34 rfl wsz34_tc rfl (Bg0) rfl) fun a61 f61 => ?_
  refine L.va f61 (E.build f61 (parts1 f61 rfl) (wbl70_0_tc _ _ _ _ _ _ _ _ _ _ _ _ _ _ _ _ _ _ _ _ _ _ _ _)) fun a62 f62 => ?_
  refine L.va f62 (E.makeInterface f62 (by kernel_rfl) rfl) fun a63 f63 => ?_
  refine L.ag f63 fun a64 f64 => ?_
  have f65 := f64.sub (sc 2 sn)
  refine wpList_nil (hK28 _ _ (wp_ret ?_)); (try simp only [xt, xb]); refine C.ret f65 rfl rfl ?_
  exact ⟨HK, tt, by (rw [any_4 (by omega)]; rfl), PT⟩
 refine C.condF f59 rfl ?_
 refine C.sk fun K29 hK29 => ?_
 refine L.va f59 (E.eq f59) fun a60 f60 => ?_
 refine L.ag f60 fun a61 f61 => ?_
 refine wpList_nil (hK29 _ _ ?_)
 have f62 := f61.sub (sc 1 (sc 6 (sc 34 sn)))
 clear f58 f59 a57 f60 a60 f61
 refine f62.splitD 34 rfl (fun h12 f63 => ?_) (fun h12 f63 => ?_)
 ·refine C.condT f63 rfl ?_
  refine wp_skip (hK26 _ _ ?_)
  have f64 := f63.sub (sc 1 (sc 34 sn))
  refine C.condT f64 rfl ?_
  refine C.sk fun K30 hK30 => ?_
  refine L.va f64 (E.loadB f64 U34 rfl wsz34_tc rfl (Bg0) rfl) fun a65 f65 => ?_
  refine L.va f65 (E.build f65 (parts1 f65 rfl) (wbl70_0_tc _ _ _ _ _ _ _ _ _ _ _ _ _ _ _ _ _ _ _ _ _ _ _ _)) fun a66 f66 => ?_
  refine L.va f66 (E.makeInterface f66 (by kernel_rfl) rfl) fun a67 f67 => ?_
  refine L.ag f67 fun a68 f68 => ?_
  have f69 := f68.sub (sc 2 sn)
  refine wpList_nil (hK30 _ _ (wp_ret ?_)); (try simp only [xt, xb]); refine C.ret f69 rfl rfl ?_
  exact ⟨HK, tt, by (rw [any_4 (by omega)]; rfl), PT⟩
 refine C.condF f63 rfl ?_
 refine C.region ?_
 refine L.va f63 (E.eq f63) fun a64 f64 => ?_
 refine L.ag f64 fun a65 f65 => ?_
 refine wpList_nil (hK26 _ _ ?_)
 have f66 := f65.sub (sc 1 (sc 34 sn))
 clear f62 f63 a61 f64 a64 f65
 refine f66.splitD 34 rfl (fun h13 f67 => ?_) (fun h13 f67 => ?_)
 ·refine C.condT f67 rfl ?_
  refine C.sk fun K31 hK31 => ?_
  refine L.va f67 (E.loadB f67 U34 rfl wsz34_tc rfl (Bg0) rfl) fun a68 f68 => ?_
  refine L.va f68 (E.build f68 (parts1 f68 rfl) (wbl70_0_tc _ _ _ _ _ _ _ _ _ _ _ _ _ _ _ _ _ _ _ _ _ _ _ _)) fun a69 f69 => ?_
  refine L.va f69 (E.makeInterface f69 (by kernel_rfl) rfl) fun a70 f70 => ?_
  refine L.ag f70 fun a71 f71 => ?_
  have f72 := f71.sub (sc 2 sn)
  refine wpList_nil (hK31 _ _ (wp_ret ?_)); (try simp only [xt, xb]); refine C.ret f72 rfl rfl ?_
  exact ⟨HK, tt, by (rw [any_4 (by omega)]; rfl), PT⟩
 refine C.condF f67 rfl ?_
 refine wp_skip (hK2 _ _ ?_)
 have f68 := f67.sub sn
 refine C.sk fun K32 hK32 => ?_
 refine L.ag f68 fun a69 f69 => ?_
 have f70 := f69.sub (sc 2 sn)
 refine wpList_nil (hK32 _ _ (wp_ret ?_)); (try simp only [xt, xb]); refine C.ret f70 rfl rfl ?_
 exact ⟨HK, tt, by (rw [any_n (by omega)]), PT⟩
end Go.Proofs.Ytkdeedhjkjffpaa
namespace Go.Proofs.Ytkdeedhjkjffpaa
open Go.RowKit Go.Hub Go.WideShapes Go.ChangeMaps
open Go.Maps (Keyed)
open Go.WideMaps (KeyLaw)
theorem sizeT : Try.prog.types.size + 1 = (Try.prog.types.size - 1) + 1 + 1 := by kernel_rfl
theorem key_part {d : Nat} {x : Int} (h : (Lit.int .i64 x).wf = true) : Try.prog.keyLits (d + 1) 3 [.int .i64 x] = some [.int .i64 x] := by
  unfold Program.keyLits
  rw [U3]
  simp [h]
theorem ans_key {a b : Int} (ha : (Lit.int .i64 a).wf = true) (hb : (Lit.int .i64 b).wf = true) : keyOf Try.prog 72 (.agg #[.int .i64 a, .int .i64 b]) = some (.string (keyBytes [.int .i64 a, .int .i64 b])) := by
  unfold keyOf
  have h1 : (Try.prog.keyType 72 && (Value.agg #[.int .i64 a, .int .i64 b]).formed Try.prog 72) = true := by kernel_rfl
  have h2 : Try.prog.keyLits (Try.prog.types.size + 1) 72 [.int .i64 a, .int .i64 b] = some [.int .i64 a, .int .i64 b] := by
    rw [sizeT]
    unfold Program.keyLits
    rw [Try.underlying72]
    have c : Try.prog.cellsOf 72 = 2 := by kernel_rfl
    have c3 : Try.prog.cellsOf 3 = 1 := by kernel_rfl
    simp [c, c3, key_part ha, key_part hb]
  rw [Try.underlying72]
  simp only [h1, if_true, Value.cells, h2, Option.map_some]
theorem ans_law : KeyLaw Try.prog 72 := deep_law_laid (by kernel_rfl) (m := 3) (by omega) (of_decide_eq_true (by kernel_rfl)) (by kernel_rfl) (by kernel_rfl)
def ansM : MT := { k := 72, e := 3, K := Int × Int, V := Int, dom := fun x => (Lit.int .i64 x.1).wf = true ∧ (Lit.int .i64 x.2).wf = true, kv := fun x => .agg #[.int .i64 x.1, .int .i64 x.2], kl := fun x => .string (keyBytes [.int .i64 x.1, .int .i64 x.2]), ev := fun v => .int .i64 v }
instance : DecidableEq ansM.K := inferInstanceAs (DecidableEq (Int × Int))
theorem ans_inj {x y : Int × Int} (hx : ansM.dom x) (hy : ansM.dom y) (h : ansM.kl x = ansM.kl y) : x = y := by
  have h1 := ans_key hx.1 hx.2
  have h2 := ans_key hy.1 hy.2
  have e : keyBytes [.int .i64 x.1, .int .i64 x.2] = keyBytes [.int .i64 y.1, .int .i64 y.2] := by injection h
  rw [← e] at h2
  have := ans_law.inj h1 h2
  injection this with this
  have e1 := congrArg (fun q : Array Value => q[0]?) this
  have e2 := congrArg (fun q : Array Value => q[1]?) this
  simp at e1 e2
  exact Prod.ext e1 e2
theorem ansOk : ansM.Ok Try.prog := ⟨Keyed.of_law ans_law, fun x hx => ans_key hx.1 hx.2, fun x y hx hy h => ans_inj hx hy h⟩
theorem ansKv : ∀ (v : Value) (l : Lit), keyOf Try.prog ansM.k v = some l → ∀ x, ansM.dom x → l = ansM.kl x → v = ansM.kv x := fun v l h x hx e => by
  subst e
  exact ans_law.inj h (ans_key hx.1 hx.2)
theorem zero3 : ∀ w, (zeroValue 3).run Try.prog w = .ok (.int .i64 0) w := fun w => by kernel_rfl
structure Fl where
  p : Pk
  s : Ad
  alone : Bool
  recd : Bool
  gone : Bool
def Fl.cells (f : Fl) : Array Value := #[.int .i64 f.p.kind, .bool f.p.dup, .bool f.p.retain, .int .i64 f.p.qos, .int .i64 f.p.id, .string f.p.topic, .slice f.s.pa f.p.pay.length f.s.pc, .int .i64 f.p.level, .string f.p.client, .bool f.p.clean, .int .i64 f.p.keep, .bool f.p.hasWill, .string f.p.wt, .slice f.s.wa f.p.wp.length f.s.wc, .int .i64 f.p.wq, .bool f.p.wr, .bool f.p.hasUser, .bool f.p.hasPass, .string f.p.user, .slice f.s.sa f.p.pass.length f.s.sc, .bool f.p.present, .int .i64 f.p.code, .slice f.s.ua f.p.subs.length f.s.uc, .slice f.s.ca f.p.codes.length f.s.cc, .bool f.alone, .bool f.recd, .bool f.gone]
def Fl.zero : Fl := ⟨{}, s0, false, false, false⟩
def outM : MT := { k := 3, e := 89, K := Int, V := Fl, dom := fun x => (Lit.int .i64 x).wf = true, kv := fun x => .int .i64 x, kl := fun x => .int .i64 x, ev := fun f => .agg f.cells }
instance : DecidableEq outM.K := inferInstanceAs (DecidableEq Int)
theorem outOk : outM.Ok Try.prog := ⟨Go.Maps.int_keyed U3, fun x hx => Maps.keyOf_int_mk U3 hx, fun x y _ _ h => by injection h⟩
theorem zero89 : ∀ w, (zeroValue 89).run Try.prog w = .ok (.agg Fl.zero.cells) w := fun w => by kernel_rfl
theorem IsAss.mapB {M : MT} [DecidableEq M.K] {P : Program} {w : World} {m : Nat} {E : List (M.K × M.V)} (h : IsAss M P w m E) : MapB w m := by
  obtain ⟨_, _, D, ⟨es, clock, h1, h2⟩, r⟩ := h
  exact ⟨es, clock, h1⟩
theorem IsAss.ne_blk {M : MT} [DecidableEq M.K] {P : Program} {w : World} {m g : Nat} {t : TypeId} {cs : Array Value} {E : List (M.K × M.V)} (h : IsAss M P w m E) (b : Blk w g t cs) : m ≠ g := fun e => by
  subst e
  exact b.not_map (IsAss.mapB h)
theorem own_ne_map {M : MT} [DecidableEq M.K] {P : Program} {w : World} {m : Nat} {E : List (M.K × M.V)} {e size n c : Nat} {A : Option Addr} {xs : List Value} (h : IsAss M P w m E) (o : Own w e size (.slice A n c) n xs) : m ∉ (Value.slice A n c).ownBlock.toList := fun hm => by
  have hb : (Value.slice A n c).ownBlock = some m := by simpa using hm
  obtain ⟨_, cs, e1⟩ := o.blk m hb
  obtain ⟨es, c0, e2⟩ := IsAss.mapB h
  rw [e1] at e2
  cases e2
end Go.Proofs.Ytkdeedhjkjffpaa
namespace Go.Proofs.Ytkdeedhjkjffpaa
open Go.RowKit Go.Hub
def pkRow (l : List (Pk × Ad)) : List Value := l.flatMap fun x => (x.1.cells x.2).toList
theorem pkRow_app (l r : List (Pk × Ad)) : pkRow (l ++ r) = pkRow l ++ pkRow r := List.flatMap_append
theorem pkRow_one (x : Pk × Ad) : pkRow [x] = (x.1.cells x.2).toList := by simp [pkRow]
theorem Pk.one1 (p : Pk) (s : Ad) : ∀ u ∈ (p.cells s).toList, u.oneCell' = true := fun u hu => by
  have := Pk.cells_one p s
  rw [← Array.all_toList] at this
  exact List.all_eq_true.1 this u hu
theorem pkRow_oneCell (l : List (Pk × Ad)) : ∀ u ∈ pkRow l, u.oneCell' = true := fun u hu => by
  obtain ⟨x, _, h⟩ := List.mem_flatMap.1 hu
  exact Pk.one1 x.1 x.2 u h
theorem _root_.Go.Hub.Blk.slN {w : World} {g : Nat} {t : TypeId} {cs : Array Value} (h : Blk w g t cs) {n size : Nat} (hn : cs.size = n * size) : Sl w (some ⟨g, 0, none⟩) n size cs.toList :=
  ⟨by simp [hn], fun _ => ⟨g, 0, rfl, h.lt, fun j u hu => by rw [Nat.zero_add]; exact h.cl hu⟩⟩
theorem Sl1 {w : World} {g : Nat} {t : TypeId} (p : Pk) (s : Ad) (B : Blk w g t (p.cells s)) : Sl w (some ⟨g, 0, none⟩) 1 24 (p.cells s).toList := B.slN (n := 1) (size := 24) rfl
abbrev Row (w : World) (A : Option Addr) (c : Nat) (l : List (Pk × Ad)) : Prop := Own w 34 24 (.slice A l.length c) l.length (pkRow l)
theorem Row.cell0 {w : World} {A : Option Addr} {c : Nat} {x : Pk × Ad} {r : List (Pk × Ad)} (h : Row w A c (x :: r)) (j : Nat) {u : Value} (hu : (x.1.cells x.2).toList[j]? = some u) : ∃ b off, A = some ⟨b, off, none⟩ ∧ w.cell? ⟨b, off + j, none⟩ = some u := by
  have S := Sl.of_own h
  obtain ⟨b, off, e⟩ := S.addr (by simp)
  refine ⟨b, off, e, S.cell (by simp) e ?_⟩
  have : pkRow (x :: r) = (x.1.cells x.2).toList ++ pkRow r := by simp [pkRow]
  rw [this, List.getElem?_append_left (List.getElem?_eq_some_iff.1 hu).1]
  exact hu
structure PkO (W : World) (p : Pk) (s : Ad) : Prop where
  pay : Bs [5] 0 W s.pa p.pay.length p.pay
  wp : Bs [5] 0 W s.wa p.wp.length p.wp
  pass : Bs [5] 0 W s.sa p.pass.length p.pass
  subs : Own W 46 2 (.slice s.ua p.subs.length s.uc) p.subs.length (subCells p.subs)
  codes : Own W 3 1 (.slice s.ca p.codes.length s.cc) p.codes.length (codeCells p.codes)
section
variable {w W W' : World} {p : Pk} {s : Ad} {x t : Nat} {cs : Array Value}
theorem PkF.o (h : PkF w W p s) : PkO W p s := ⟨Bs.of_own h.pay.own (by simp), Bs.of_own h.wp.own (by simp), Bs.of_own h.pass.own (by simp), h.subs.own, h.codes.own⟩
theorem PkO.toIn (h : PkO W p s) : p.In W s := ⟨h.pay.toSl, h.wp.toSl, h.pass.toSl, Sl.of_own h.subs, Sl.of_own h.codes⟩
theorem own_blkL {L : List Nat} {e size n c : Nat} {A : Option Addr} {xs : List Value} (h : Own W e size (.slice A n c) n xs) (hk : Kept L W W') (hL : ∀ y ∈ L, y < W.heap.size → ¬ Typ W y [e]) : Own W' e size (.slice A n c) n xs := h.kept hk fun b hb hx => by
  obtain ⟨hlt, cs, e1⟩ := h.blk b hb
  exact hL b hx hlt ⟨cs, e, _, e1, by simp⟩
theorem PkO.keptT {L : List Nat} (h : PkO W p s) (hk : Kept L W W') (hL : ∀ y ∈ L, y < W.heap.size → ¬ Typ W y [5, 46, 3]) : PkO W' p s := by
  have hs : Same [5] 0 W W' := Same.of_kept hk fun y hy hlt => ⟨Nat.zero_le _, fun ht => hL y hy hlt (ht.mono (by simp))⟩
  exact ⟨h.pay.same hs, h.wp.same hs, h.pass.same hs, own_blkL h.subs hk fun y hy hlt ht => hL y hy hlt (ht.mono (by simp)), own_blkL h.codes hk fun y hy hlt ht => hL y hy hlt (ht.mono (by simp))⟩
theorem PkO.kept0 (h : PkO W p s) (hk : Kept [] W W') : PkO W' p s := h.keptT hk (by simp)
end
abbrev PkS (B : Nat) (W : World) (p : Pk) (s : Ad) : Prop := Pk.Ok [5, 46, 3] B W p s
theorem PkS.toIn {B : Nat} {W : World} {p : Pk} {s : Ad} (h : PkS B W p s) : p.In W s := ⟨h.pay.toSl, h.wp.toSl, h.pass.toSl, Sl.of_rds h.subs.rds, Sl.of_rds h.codes.rds⟩
theorem PkS.keptT {B : Nat} {W W' : World} {p : Pk} {s : Ad} {L : List Nat} (h : PkS B W p s) (hk : Kept L W W') (hL : ∀ y ∈ L, y < W.heap.size → ¬ Typ W y [5, 46, 3]) (hB : ∀ y ∈ L, B ≤ y) : PkS B W' p s :=
  Pk.Ok.same h (Same.of_kept hk fun y hy hlt => ⟨hB y hy, hL y hy hlt⟩)
theorem PkS.kept0 {B : Nat} {W W' : World} {p : Pk} {s : Ad} (h : PkS B W p s) (hk : Kept [] W W') : PkS B W' p s := h.keptT hk (by simp) (by simp)
theorem _root_.Go.Hub.Bs.up {E E' : List TypeId} {B B' : Nat} {w : World} {A : Option Addr} {n : Nat} {l : List UInt8} (h : Bs E B w A n l) (hE : ∀ x ∈ E, x ∈ E') (hB : B ≤ B') : Bs E' B' w A n l := ⟨h.1, fun hn => by
    obtain ⟨b, off, e, hb, ht, hc⟩ := h.2 hn
    exact ⟨b, off, e, hb, ht.imp (fun h => Nat.lt_of_lt_of_le h hB) (fun h => h.mono hE), hc⟩⟩
theorem PkO.ok {B : Nat} {W : World} {p : Pk} {s : Ad} (h : PkO W p s) : PkS B W p s := ⟨h.pay.up (by simp) (Nat.zero_le _), h.wp.up (by simp) (Nat.zero_le _), h.pass.up (by simp) (Nat.zero_le _), Cs.of_own h.subs (by simp), Cs.of_own h.codes (by simp)⟩
def PksO (w : World) (l : List (Pk × Ad)) : Prop := ∀ x ∈ l, PkO w x.1 x.2 ∧ x.1.Len
def FlsO (w : World) (l : List (Int × Fl)) : Prop := ∀ x ∈ l, PkO w x.2.p x.2.s ∧ x.2.p.Len
def NoPk (w : World) (L : List Nat) : Prop := ∀ y ∈ L, y < w.heap.size → ¬ Typ w y [5, 46, 3]
section
variable {w W : World} {L : List Nat} {l : List (Pk × Ad)} {o : List (Int × Fl)} {x t m : Nat} {cs : Array Value}
theorem PksO.keptT (h : PksO w l) (hk : Kept L w W) (hL : NoPk w L) : PksO W l := fun x hx => ⟨(h x hx).1.keptT hk hL, (h x hx).2⟩
theorem FlsO.keptT (h : FlsO w o) (hk : Kept L w W) (hL : NoPk w L) : FlsO W o := fun x hx => ⟨(h x hx).1.keptT hk hL, (h x hx).2⟩
theorem NoPk.nil (w : World) : NoPk w [] := fun y hy => absurd hy (by simp)
theorem NoPk.blk (b : Blk w x t cs) (ht : t ∉ [5, 46, 3]) : NoPk w [x] := fun y hy _ => by
  obtain rfl := List.mem_singleton.1 hy
  exact b.not_typ ht
theorem NoPk.map {M : MT} [DecidableEq M.K] {P : Program} {E : List (M.K × M.V)} (h : IsAss M P w m E) : NoPk w [m] := fun y hy _ ht => by
  obtain rfl := List.mem_singleton.1 hy
  exact ht.not_map (IsAss.mapB h)
theorem NoPk.own {A : Option Addr} {n c : Nat} {xs : List Value} (h : Own w 34 24 (.slice A n c) n xs) : NoPk w (Value.slice A n c).ownBlock.toList := fun y hy hlt ht => by
  have hb : (Value.slice A n c).ownBlock = some y := by simpa using hy
  obtain ⟨_, cs, e⟩ := h.blk y hb
  obtain ⟨cs', e', f', h', he⟩ := ht
  rw [e] at h'
  injection h' with h'
  injection h' with _ h2
  subst h2
  simp at he
theorem PksO.app {r : List (Pk × Ad)} (h : PksO w l) (h' : PksO w r) : PksO w (l ++ r) := fun x hx => by
  rcases List.mem_append.1 hx with hx | hx
  · exact h x hx
  exact h' x hx
theorem PksO.one {p : Pk} {s : Ad} (h : PkO w p s) (hl : p.Len) : PksO w [(p, s)] := fun x hx => by
  obtain rfl := List.mem_singleton.1 hx
  exact ⟨h, hl⟩
theorem PksO.tail {a : Pk × Ad} (h : PksO w (a :: l)) : PksO w l := fun x hx => h x (by simp [hx])
theorem FlsO.strike (h : FlsO w o) (i : Int) : FlsO w (strike o i) := fun x hx => h x (List.mem_filter.1 hx).1
theorem FlsO.put (h : FlsO w o) (i : Int) {f : Fl} (hf : PkO w f.p f.s) (hl : f.p.Len) : FlsO w ((i, f) :: Go.Hub.strike o i) := fun x hx => by
  rcases List.mem_cons.1 hx with rfl | hx
  · exact ⟨hf, hl⟩
  exact h.strike i x hx
theorem FlsO.at_ (h : FlsO w o) {i : Int} {f : Fl} (hf : lk o i = some f) : PkO w f.p f.s ∧ f.p.Len := h _ (lk_some hf)
end
abbrev FlP := Pk × Bool × Bool × Bool
def Fl.pure (f : Fl) : FlP := (f.p, f.alone, f.recd, f.gone)
structure Tr where
  clean : Bool
  gr : Pk
  greeted : Bool
  told : List Pk
  left : Bool
  subs : List Pk
  unsubs : List Pk
  owed : List ((Int × Int) × Int)
  out : List (Int × FlP)
def Tr.owe (t : Tr) (k : Int × Int) : Tr := { t with owed := (k, (lk t.owed k).getD 0 + 1) :: strike t.owed k }
def Tr.ackT (t : Tr) (p : Pk) : Tr :=
  if p.kind = 6 then t.owe (7, p.id) else match lk t.out p.id with
  | none => t
  | some f => if (p.kind = 4 ∧ f.1.qos = 1) ∨ (p.kind = 7 ∧ f.2.2.2 = true) then { t with out := strike t.out p.id }
    else if p.kind = 5 ∧ f.1.qos = 2 then { t with out := (p.id, (f.1, f.2.1, true, f.2.2.2)) :: strike t.out p.id } else t
def Tr.msgT (t : Tr) (p : Pk) : Tr := if 0 < p.qos then t.owe (if p.qos = 1 then 4 else 5, p.id) else t
def Tr.inT (t : Tr) (p : Pk) : Tr :=
  if t.left = true ∨ t.greeted = decide (p.kind = 1) then t
  else if p.kind = 1 then { t with gr := p, greeted := true }
  else if p.kind = 3 then t.msgT p
  else if (4 ≤ p.kind ∧ p.kind ≤ 7) ∨ p.kind = 9 ∨ p.kind = 11 then t.ackT p
  else if p.kind = 8 then { t with subs := t.subs ++ [p] }
  else if p.kind = 10 then { t with unsubs := t.unsubs ++ [p] }
  else if p.kind = 12 then { t with left := false }.owe (13, 0)
  else if p.kind = 13 ∨ p.kind = 14 then { t with left := decide (p.kind = 14) }
  else t
def Tr.readyB (t : Tr) : Bool := match t.told with | [] => false | c :: _ => decide (c.code = 0)
def Tr.connT (t : Tr) (p : Pk) : Bool × Tr :=
  if t.greeted = false ∨ t.told ≠ [] ∨ (p.present = true ∧ (t.clean = true ∨ t.gr.clean = true)) then (false, t) else (true, { t with told := [p] })
def Tr.payT (t : Tr) (k : Int × Int) : Bool × Tr :=
  if (lk t.owed k).getD 0 = 0 then (false, t) else (true, { t with owed := (k, (lk t.owed k).getD 0 - 1) :: strike t.owed k })
def Tr.pubT (t : Tr) (p : Pk) : Bool × Tr :=
  if p.qos = 0 then (true, t) else match lk t.out p.id with
  | none => (true, { t with out := (p.id, (p, false, false, false)) :: strike t.out p.id })
  | some f => (p.dup && !f.2.1 && !f.2.2.1 && samePk { f.1 with dup := p.dup, retain := p.retain } p, t)
def Tr.relT (t : Tr) (p : Pk) : Bool × Tr :=
  match lk t.out p.id with
  | none => if (t.told.head?.map (·.present)) = some true then (true, { t with out := (p.id, ({ kind := 3, qos := 2, id := p.id }, true, true, true)) :: strike t.out p.id }) else (false, t)
  | some f => if f.1.qos ≠ 2 ∨ f.2.2.1 = false then (false, t) else (true, { t with out := (p.id, (f.1, f.2.1, f.2.2.1, true)) :: strike t.out p.id })
def codesB : List (ByteArray × Int) → List Int → Bool
  | x :: r, c :: q => (decide (c = 128) || decide (c = x.2)) && codesB r q
  | _, _ => true
def Tr.subT (t : Tr) (p : Pk) : Bool × Tr :=
  match t.subs with
  | [] => (false, t)
  | q :: r => if q.id ≠ p.id ∨ q.subs.length ≠ p.codes.length ∨ codesB q.subs p.codes = false then (false, t) else (true, { t with subs := r })
def Tr.unsT (t : Tr) (p : Pk) : Bool × Tr :=
  match t.unsubs with
  | [] => (false, t)
  | q :: r => if q.id ≠ p.id then (false, t) else (true, { t with unsubs := r })
def Tr.outT (t : Tr) (p : Pk) : Bool × Tr :=
  if p.kind = 2 then t.connT p else if t.readyB = false then (false, t)
  else if p.kind = 3 then t.pubT p else if p.kind = 6 then t.relT p else if p.kind = 9 then t.subT p else if p.kind = 11 then t.unsT p
  else if p.kind = 4 ∨ p.kind = 5 ∨ p.kind = 7 then t.payT (p.kind, p.id) else if p.kind = 13 then t.payT (13, 0) else (false, t)
def Tr.owedI (t : Tr) : Int := t.subs.length + t.unsubs.length + (t.owed.map (·.2)).sum
def bk (A : Option Addr) : List Nat := (A.map (·.block)).toList
def fp (g mo mf : Nat) (At Au An : Option Addr) : List Nat := g :: mo :: mf :: (bk At ++ (bk Au ++ bk An))
def Apart (A A' : Option Addr) : Prop := ∀ b, A.map (·.block) = some b → A'.map (·.block) ≠ some b
def trCells (t : Tr) (gs : Ad) (told subs uns : Nat) (At Au An : Option Addr) (ct cu cn mo mf : Nat) : Array Value := #[.bool t.clean, .int .i64 t.gr.kind, .bool t.gr.dup, .bool t.gr.retain, .int .i64 t.gr.qos, .int .i64 t.gr.id, .string t.gr.topic, .slice gs.pa t.gr.pay.length gs.pc, .int .i64 t.gr.level, .string t.gr.client, .bool t.gr.clean, .int .i64 t.gr.keep, .bool t.gr.hasWill, .string t.gr.wt, .slice gs.wa t.gr.wp.length gs.wc, .int .i64 t.gr.wq, .bool t.gr.wr, .bool t.gr.hasUser, .bool t.gr.hasPass, .string t.gr.user, .slice gs.sa t.gr.pass.length gs.sc, .bool t.gr.present, .int .i64 t.gr.code, .slice gs.ua t.gr.subs.length gs.uc, .slice gs.ca t.gr.codes.length gs.cc, .bool t.greeted, .slice At told ct, .bool t.left, .slice Au subs cu, .slice An uns cn, .map (some mo), .map (some mf)]
structure TrM where
  gs : Ad
  told : List (Pk × Ad)
  subs : List (Pk × Ad)
  uns : List (Pk × Ad)
  out : List (Int × Fl)
  At : Option Addr
  Au : Option Addr
  An : Option Addr
  ct : Nat
  cu : Nat
  cn : Nat
  mo : Nat
  mf : Nat
  n : Nat
abbrev trL (t : Tr) (m : TrM) : Array Value := trCells t m.gs m.told.length m.subs.length m.uns.length m.At m.Au m.An m.ct m.cu m.cn m.mo m.mf
structure TrIn (B : Nat) (w : World) (g : Nat) (t : Tr) (m : TrM) : Prop where
  e1 : t.told = m.told.map (·.1)
  e2 : t.subs = m.subs.map (·.1)
  e3 : t.unsubs = m.uns.map (·.1)
  e4 : t.out = m.out.map fun p => (p.1, p.2.pure)
  bt : Blk w g 53 (trCells t m.gs m.told.length m.subs.length m.uns.length m.At m.Au m.An m.ct m.cu m.cn m.mo m.mf)
  rt : Row w m.At m.ct m.told
  rs : Row w m.Au m.cu m.subs
  ru : Row w m.An m.cn m.uns
  mo : IsAss ansM Try.prog w m.mo t.owed
  mf : IsAss outM Try.prog w m.mf m.out
  nof : m.mo ≠ m.mf
  tu : Apart m.At m.Au
  tn : Apart m.At m.An
  un : Apart m.Au m.An
  lo : ∀ x ∈ fp g m.mo m.mf m.At m.Au m.An, B ≤ x
  ps : PksO w m.subs
  pf : FlsO w m.out
  len : m.told.length ≤ m.n ∧ m.subs.length ≤ m.n ∧ m.uns.length ≤ m.n ∧ t.owed.length ≤ m.n ∧ m.out.length ≤ m.n ∧ ∀ p ∈ t.owed, 0 ≤ p.2 ∧ p.2 ≤ (m.n : Int)
end Go.Proofs.Ytkdeedhjkjffpaa
namespace Go.Proofs.Ytkdeedhjkjffpaa
open Go.RowKit Go.Hub Go.Lib
theorem wsz3_tf : (Try.prog.info? 3).map (·.size) = some 1 := by kernel_rfl
theorem wsz34_tf : (Try.prog.info? 34).map (·.size) = some 24 := by kernel_rfl
theorem wsz51_tf : (Try.prog.info? 51).map (·.size) = some 1 := by kernel_rfl
theorem wzib34_tf : (Try.prog.info? 34).map (fun i => (i.zero, i.size, i.bytes)) = some (some (.agg #[(.int .i64 0), (.bool false), (.bool false), (.int .i64 0), (.int .i64 0), (.string ⟨#[]⟩), (.slice none 0 0), (.int .i64 0), (.string ⟨#[]⟩), (.bool false), (.int .i64 0), (.bool false), (.string ⟨#[]⟩), (.slice none 0 0), (.int .i64 0), (.bool false), (.bool false), (.bool false), (.string ⟨#[]⟩), (.slice none 0 0), (.bool false), (.int .i64 0), (.slice none 0 0), (.slice none 0 0)]), 24, 288) := by kernel_rfl
theorem wzi34_tf : (Try.prog.info? 34).map (fun i => (i.zero, i.size)) = some (some (.agg #[(.int .i64 0), (.bool false), (.bool false), (.int .i64 0), (.int .i64 0), (.string ⟨#[]⟩), (.slice none 0 0), (.int .i64 0), (.string ⟨#[]⟩), (.bool false), (.int .i64 0), (.bool false), (.string ⟨#[]⟩), (.slice none 0 0), (.int .i64 0), (.bool false), (.bool false), (.bool false), (.string ⟨#[]⟩), (.slice none 0 0), (.bool false), (.int .i64 0), (.slice none 0 0), (.slice none 0 0)]), 24) := by kernel_rfl
theorem wbs51_1_tf (x0_0 x0_1 x0_2 x0_3 x0_4 x0_5 x0_6 x0_7 x0_8 x0_9 x0_10 x0_11 x0_12 x0_13 x0_14 x0_15 x0_16 x0_17 x0_18 x0_19 x0_20 x0_21 x0_22 x0_23 : Value) : Instr.fill (fun i => some (i * 24, 24)) ((Array.range (1 * 24)).map fun j => (Value.cells (.agg #[(.int .i64 0), (.bool false), (.bool false), (.int .i64 0), (.int .i64 0), (.string ⟨#[]⟩), (.slice none 0 0), (.int .i64 0), (.string ⟨#[]⟩), (.bool false), (.int .i64 0), (.bool false), (.string ⟨#[]⟩), (.slice none 0 0), (.int .i64 0), (.bool false), (.bool false), (.bool false), (.string ⟨#[]⟩), (.slice none 0 0), (.bool false), (.int .i64 0), (.slice none 0 0), (.slice none 0 0)]))[j % (Value.cells (.agg #[(.int .i64 0), (.bool false), (.bool false), (.int .i64 0), (.int .i64 0), (.string ⟨#[]⟩), (.slice none 0 0), (.int .i64 0), (.string ⟨#[]⟩), (.bool false), (.int .i64 0), (.bool false), (.string ⟨#[]⟩), (.slice none 0 0), (.int .i64 0), (.bool false), (.bool false), (.bool false), (.string ⟨#[]⟩), (.slice none 0 0), (.bool false), (.int .i64 0), (.slice none 0 0), (.slice none 0 0)])).size]!) [(0, .agg #[x0_0, x0_1, x0_2, x0_3, x0_4, x0_5, x0_6, x0_7, x0_8, x0_9, x0_10, x0_11, x0_12, x0_13, x0_14, x0_15, x0_16, x0_17, x0_18, x0_19, x0_20, x0_21, x0_22, x0_23])] = some #[x0_0, x0_1, x0_2, x0_3, x0_4, x0_5, x0_6, x0_7, x0_8, x0_9, x0_10, x0_11, x0_12, x0_13, x0_14, x0_15, x0_16, x0_17, x0_18, x0_19, x0_20, x0_21, x0_22, x0_23] := by kernel_rfl
theorem wsz4_tf : (Try.prog.info? 4).map (·.size) = some 1 := by kernel_rfl
def TrM.fp (m : TrM) (g : Nat) : List Nat := Go.Proofs.Ytkdeedhjkjffpaa.fp g m.mo m.mf m.At m.Au m.An
def TrPost (B g : Nat) (m : TrM) (w : World) (t' : Tr) (v : Value) (e : Ending) (w' : World) : Prop :=
  e = .returned v ∧ ∃ m', TrIn B w' g t' m' ∧ m'.n ≤ m.n + 1 ∧ Kept (m.fp g) w w' ∧ (∀ x ∈ m'.fp g, x ∈ m.fp g ∨ w.heap.size ≤ x) ∧ ∀ x ∈ m'.subs, x ∈ m.subs ∨ ∀ b, x.2.ca.map (·.block) = some b → w.heap.size ≤ b
def PhiN (t n : Nat) (cs : Array Value) (v : Value) (W : World) : Prop := ∃ g, v = .slice (some ⟨g, 0, none⟩) n n ∧ Blk W g t cs
theorem PhiN.kept {t n : Nat} {cs : Array Value} {v : Value} {W W' : World} (h : PhiN t n cs v W) (hk : Kept [] W W') : PhiN t n cs v W' := by
  obtain ⟨g, e, b⟩ := h
  exact ⟨g, e, b.kept hk (by simp)⟩
section
variable {m : TrM} {g B : Nat} {t : Tr} {w w' : World} {A A' A2 : Option Addr} {n : Nat}
theorem fp_g : g ∈ m.fp g := by simp [TrM.fp, fp]
theorem fp_o : m.mo ∈ m.fp g := by simp [TrM.fp, fp]
theorem fp_f : m.mf ∈ m.fp g := by simp [TrM.fp, fp]
theorem bk_mem {x : Nat} : x ∈ bk A ↔ A.map (·.block) = some x := by unfold bk; simp
theorem fp_mem {x : Nat} : x ∈ m.fp g ↔ x = g ∨ x = m.mo ∨ x = m.mf ∨ m.At.map (·.block) = some x ∨ m.Au.map (·.block) = some x ∨ m.An.map (·.block) = some x := by
  unfold TrM.fp fp
  simp [bk_mem]
theorem fp_ownRT {x l c : Nat} (h : (Value.slice m.At l c).ownBlock = some x) : x ∈ m.fp g := fp_mem.2 (.inr (.inr (.inr (.inl ((own_block _ _ _ _).1 h)))))
theorem fp_ownRS {x l c : Nat} (h : (Value.slice m.Au l c).ownBlock = some x) : x ∈ m.fp g := fp_mem.2 (.inr (.inr (.inr (.inr (.inl ((own_block _ _ _ _).1 h))))))
theorem fp_ownRU {x l c : Nat} (h : (Value.slice m.An l c).ownBlock = some x) : x ∈ m.fp g := fp_mem.2 (.inr (.inr (.inr (.inr (.inr ((own_block _ _ _ _).1 h))))))
theorem Apart.symm (h : Apart A A') : Apart A' A := fun b hb e => h b e hb
theorem own_apart {k c k2 c2 : Nat} (h : Apart A A') : ∀ k0, (Value.slice A' k c).ownBlock = some k0 → k0 ∉ (Value.slice A k2 c2).ownBlock.toList := fun b hb hm => by
  have h1 := (own_block _ _ _ _).1 hb
  have h2 : (Value.slice A k2 c2).ownBlock = some b := by simpa using hm
  exact h b ((own_block _ _ _ _).1 h2) h1
theorem own_lt {e size k c : Nat} {xs : List Value} (h : Own w e size (.slice A k c) k xs) : ∀ b, A.map (·.block) = some b → b < w.heap.size := fun b hb => (h.blk b ((own_block _ _ _ _).2 hb)).1
theorem apart_new (h : Apart A A2) (hw : ∀ b, A'.map (·.block) = some b → A.map (·.block) = some b ∨ n ≤ b) (hl : ∀ b, A2.map (·.block) = some b → b < n) : Apart A' A2 := fun b hb e => by
  rcases hw b hb with h1 | h1
  · exact h b h1 e
  have := hl b e
  omega
theorem fpT {l : List (Pk × Ad)} {c k : Nat} (hw : ∀ b, A'.map (·.block) = some b → m.At.map (·.block) = some b ∨ n ≤ b) : ∀ x ∈ ({ m with told := l, At := A', ct := c, n := k } : TrM).fp g, x ∈ m.fp g ∨ n ≤ x := fun x hx => by
  rcases fp_mem.1 hx with h | h | h | h | h | h
  · exact .inl (fp_mem.2 (.inl h))
  · exact .inl (fp_mem.2 (.inr (.inl h)))
  · exact .inl (fp_mem.2 (.inr (.inr (.inl h))))
  · exact (hw x h).imp (fun h => fp_mem.2 (.inr (.inr (.inr (.inl h))))) id
  · exact .inl (fp_mem.2 (.inr (.inr (.inr (.inr (.inl h))))))
  exact .inl (fp_mem.2 (.inr (.inr (.inr (.inr (.inr h))))))
theorem fpS {l : List (Pk × Ad)} {c k : Nat} (hw : ∀ b, A'.map (·.block) = some b → m.Au.map (·.block) = some b ∨ n ≤ b) : ∀ x ∈ ({ m with subs := l, Au := A', cu := c, n := k } : TrM).fp g, x ∈ m.fp g ∨ n ≤ x := fun x hx => by
  rcases fp_mem.1 hx with h | h | h | h | h | h
  · exact .inl (fp_mem.2 (.inl h))
  · exact .inl (fp_mem.2 (.inr (.inl h)))
  · exact .inl (fp_mem.2 (.inr (.inr (.inl h))))
  · exact .inl (fp_mem.2 (.inr (.inr (.inr (.inl h)))))
  · exact (hw x h).imp (fun h => fp_mem.2 (.inr (.inr (.inr (.inr (.inl h)))))) id
  exact .inl (fp_mem.2 (.inr (.inr (.inr (.inr (.inr h))))))
theorem fpU {l : List (Pk × Ad)} {c k : Nat} (hw : ∀ b, A'.map (·.block) = some b → m.An.map (·.block) = some b ∨ n ≤ b) : ∀ x ∈ ({ m with uns := l, An := A', cn := c, n := k } : TrM).fp g, x ∈ m.fp g ∨ n ≤ x := fun x hx => by
  rcases fp_mem.1 hx with h | h | h | h | h | h
  · exact .inl (fp_mem.2 (.inl h))
  · exact .inl (fp_mem.2 (.inr (.inl h)))
  · exact .inl (fp_mem.2 (.inr (.inr (.inl h))))
  · exact .inl (fp_mem.2 (.inr (.inr (.inr (.inl h)))))
  · exact .inl (fp_mem.2 (.inr (.inr (.inr (.inr (.inl h))))))
  exact (hw x h).imp (fun h => fp_mem.2 (.inr (.inr (.inr (.inr (.inr h)))))) id
theorem fp_lo {m' : TrM} (hlo : ∀ x ∈ fp g m.mo m.mf m.At m.Au m.An, B ≤ x) (hg : g < w.heap.size) (h : ∀ x ∈ m'.fp g, x ∈ m.fp g ∨ w.heap.size ≤ x) : ∀ x ∈ fp g m'.mo m'.mf m'.At m'.Au m'.An, B ≤ x := fun x hx => by
  have hB : B ≤ g := hlo g (fp_g (m := m))
  rcases h x hx with h | h
  · exact hlo x h
  omega
theorem own_kept1 {x t e size k c : Nat} {xs : List Value} {cs : Array Value} (h : Own w e size (.slice A k c) k xs) (hk : Kept [x] w w') (b : Blk w x t cs) (ht : t ≠ e) : Own w' e size (.slice A k c) k xs := h.kept hk fun b' hb hx => by
  obtain rfl := List.mem_singleton.1 hx
  exact own_ne h b ht (by simpa using hb)
theorem own_keptF {x e size k c : Nat} {xs : List Value} (h : Own w e size (.slice A k c) k xs) (hk : Kept [x] w w') (hb : ∀ b, A.map (·.block) = some b → b < n) (hx : n ≤ x) : Own w' e size (.slice A k c) k xs := h.kept hk fun b' hb' hx' => by
  obtain rfl := List.mem_singleton.1 hx'
  have := hb b' ((own_block _ _ _ _).1 hb')
  omega
theorem own_keptM {M : MT} [DecidableEq M.K] {P : Program} {mm : Nat} {E : List (M.K × M.V)} {e size k c : Nat} {xs : List Value} (h : Own w e size (.slice A k c) k xs) (hk : Kept [mm] w w') (b : IsAss M P w mm E) : Own w' e size (.slice A k c) k xs := h.kept hk fun b' hb hx => by
  obtain rfl := List.mem_singleton.1 hx
  exact own_ne_map b h (by simpa using hb)
theorem cnt_up {E : List ((Int × Int) × Int)} {n : Nat} (h : ∀ p ∈ E, 0 ≤ p.2 ∧ p.2 ≤ (n : Int)) : ∀ p ∈ E, 0 ≤ p.2 ∧ p.2 ≤ ((n + 1 : Nat) : Int) := fun p hp => by
  have := h p hp
  omega
theorem cnt_put {E : List ((Int × Int) × Int)} {n : Nat} (h : ∀ p ∈ E, 0 ≤ p.2 ∧ p.2 ≤ (n : Int)) (k : Int × Int) {v : Int} (hv : 0 ≤ v ∧ v ≤ n + 1) : ∀ p ∈ (k, v) :: strike E k, 0 ≤ p.2 ∧ p.2 ≤ ((n + 1 : Nat) : Int) := fun p hp => by
  rcases List.mem_cons.1 hp with rfl | hp
  · simpa using hv
  exact cnt_up h p (List.mem_filter.1 hp).1
theorem cnt_ok {E : List ((Int × Int) × Int)} {n : Nat} (h : ∀ p ∈ E, 0 ≤ p.2 ∧ p.2 ≤ (n : Int)) (k : Int × Int) : 0 ≤ (lk E k).getD 0 ∧ (lk E k).getD 0 ≤ n := by
  cases hl : lk E k with
  | none => simp
  | some v => exact h _ (lk_some hl)
theorem strike_le {K V : Type} [DecidableEq K] {E : List (K × V)} {n : Nat} (h : E.length ≤ n) (k : K) (v : V) : ((k, v) :: Go.Hub.strike E k).length ≤ n + 1 := by
  have := List.length_filter_le (fun p => !decide (p.1 = k)) E
  simp only [List.length_cons]
  unfold Go.Hub.strike
  omega
theorem ready_none (e : t.told = m.told.map (·.1)) (h : m.told.length = 0) : t.readyB = false := by
  unfold Tr.readyB
  rw [e, List.eq_nil_of_length_eq_zero h]
  rfl
theorem ready_some {x : Pk × Ad} {r : List (Pk × Ad)} (e : t.told = m.told.map (·.1)) (h : m.told = x :: r) : t.readyB = decide (x.1.code = 0) := by
  unfold Tr.readyB
  rw [e, h]
  rfl
theorem conn_f {p : Pk} (h : t.greeted = false ∨ t.told ≠ [] ∨ (p.present = true ∧ (t.clean = true ∨ t.gr.clean = true))) : t.connT p = (false, t) := by unfold Tr.connT; rw [if_pos h]
theorem conn_t {p : Pk} (e : t.told = m.told.map (·.1)) (h1 : t.greeted = true) (h2 : m.told = []) (h3 : ¬ (p.present = true ∧ (t.clean = true ∨ t.gr.clean = true))) : t.connT p = (true, { t with told := [p] }) := by
  unfold Tr.connT
  rw [if_neg]
  rintro (h | h | h)
  · rw [h1] at h; cases h
  · rw [e, h2] at h; exact h rfl
  exact h3 h
end
set_option maxHeartbeats 1000000 in
theorem ready_any (B g : Nat) (t : Tr) (m : TrM) (w : World) (T : TrIn B w g t m) (hn : m.n ≤ 1000000) : Calls Try.prog 33 #[.pointer (some ⟨g, 0, none⟩)] w (fun e w' => Kept [] w w' ∧ e = .returned (.bool t.readyB)) := by
 have HK : Kept [] w w := Kept.refl [] w
 obtain ⟨e1, e2, e3, e4, BT, RT, RS, RU, MO, MF, nof, tu, tn, un, hlo, PS, PF, hl1, hl2, hl3, hl4, hl5, hcn⟩ := T
 replace BT : Blk w g 53 #[.bool t.clean, .int .i64 t.gr.kind, .bool t.gr.dup, .bool t.gr.retain, .int .i64 t.gr.qos, .int .i64 t.gr.id, .string t.gr.topic, .slice m.gs.pa t.gr.pay.length m.gs.pc, .int .i64 t.gr.level, .string t.gr.client, .bool t.gr.clean, .int .i64 t.gr.keep, .bool t.gr.hasWill, .string t.gr.wt, .slice m.gs.wa t.gr.wp.length m.gs.wc, .int .i64 t.gr.wq, .bool t.gr.wr, .bool t.gr.hasUser, .bool t.gr.hasPass, .string t.gr.user, .slice m.gs.sa t.gr.pass.length m.gs.sc, .bool t.gr.present, .int .i64 t.gr.code, .slice m.gs.ua t.gr.subs.length m.gs.uc, .slice m.gs.ca t.gr.codes.length m.gs.cc, .bool t.greeted, .slice m.At m.told.length m.ct, .bool t.left, .slice m.Au m.subs.length m.cu, .slice m.An m.uns.length m.cn, .map (some m.mo), .map (some m.mf)] := BT
 have hgl := BT.lt
 have hgo := IsAss.ne_blk MO BT
 have hgf := IsAss.ne_blk MF BT
 have hmo := IsAss.lt MO
 have hmf := IsAss.lt MF
 have hT0 := own_lt RT
 have hS0 := own_lt RS
 have hU0 := own_lt RU
 refine C.enter Try.func33 rfl Try.ntmps33 rfl ?_
 intro a0 f0
 have f1 : Fr 19 a0 [(0, .pointer (some ⟨g, 0, none⟩))] := f0
 refine C.sk fun K0 hK0 => ?_
 refine L.ag f1 fun a2 f2 => ?_
 have f3 := f2.sub (sc 0 sn)
 refine wpList_nil (hK0 _ _ (C.sk fun K1 hK1 => ?_))
 refine L.mv f3 fun a4 f4 => ?_
 refine L.va f4 (E.nilCheck f4 rfl) fun a5 f5 => ?_
 refine L.fa 26 f5 U53 rfl wsz51_tf fun a6 f6 => ?_
 refine L.ld f6 U51 BT fun a7 f7 => ?_
 refine L.va f7 (E.lenL f7 U51 rfl) fun a8 f8 => ?_
 clear f0 f1 a0 f2 f3 a2 f4 a4 f5 a5 f6 a6 f7 a7
 refine L.va f8 (E.gtr f8 rfl rfl) fun a9 f9 => ?_
 refine L.mv f9 fun a10 f10 => ?_
 clear f8 a8 f9 a9
 refine f10.splitD 9 rfl (fun h0 f11 => ?_) (fun h0 f11 => ?_)
 ·obtain ⟨x, r, hx⟩ : ∃ x r, m.told = x :: r := List.exists_cons_of_ne_nil (fun h => by rw [h] at h0; simp at h0)
  obtain ⟨b, off, hA, hc⟩ := Row.cell0 (hx ▸ RT) 21 rfl
  refine L.mv f11 (hw := (f11.yes rfl rfl)) fun a12 f12 => ?_
  refine L.va f12 (E.nilCheck f12 rfl) (hw := (f12.yes rfl rfl)) fun a13 f13 => ?_
  refine L.fa 26 f13 U53 rfl wsz51_tf (hw := (f13.yes rfl rfl)) fun a14 f14 => ?_
  refine L.ld f14 U51 BT (hw := (f14.yes rfl rfl)) fun a15 f15 => ?_
  refine L.va f15 (E.indexA f15 (by assumption) U51 wsz34_tf rfl rfl (by omega) (by omega)) (hw := (f15.yes rfl rfl)) fun a16 f16 => ?_
  refine L.fa 21 f16 U34 rfl wsz3_tf (hw := (f16.yes rfl rfl)) fun a17 f17 => ?_
  refine L.va f17 (E.load f17 U3 rfl rfl (hc)) (hw := (f17.yes rfl rfl)) fun a18 f18 => ?_
  clear f10 f11 a10 f12 a12 f13 a13 f14 a14 f15 a15 f16 a16 f17 a17
  refine L.va f18 (E.eq f18) (hw := (f18.yes rfl rfl)) fun a19 f19 => ?_
  refine L.va f19 (E.pickT f19 rfl rfl) fun a20 f20 => ?_
  refine L.ag f20 fun a21 f21 => ?_
  have f22 := f21.sub (sc 2 sn)
  refine wpList_nil (hK1 _ _ (wp_ret ?_)); (try simp only [xt, xb]); refine C.ret f22 rfl rfl ?_
  exact ⟨HK, by rw [ready_some e1 hx]⟩
 have h8 := h0
 refine L.run f11 (rest' := []) (by kernel_rfl) fun a12 f12 => ?_
 clear f10
 have f13 := f12.sub (sv 2 (.bool false) sn)
 refine wpList_nil (hK1 _ _ (wp_ret ?_)); (try simp only [xt, xb]); refine C.ret f13 rfl rfl ?_
 exact ⟨HK, by rw [ready_none e1 (by omega)]⟩
set_option maxHeartbeats 2000000 in
theorem conn_any (p : Pk) (s : Ad) (B g : Nat) (t : Tr) (m : TrM) (w : World) (T : TrIn B w g t m) (hn : m.n ≤ 1000000) : Calls Try.prog 32 #[.pointer (some ⟨g, 0, none⟩), .agg (p.cells s)] w (TrPost B g m w (t.connT p).2 (.bool (t.connT p).1)) := by
 have HK : Kept (m.fp g) w w := Kept.refl _ _
 obtain ⟨e1, e2, e3, e4, BT, RT, RS, RU, MO, MF, nof, tu, tn, un, hlo, PS, PF, hl1, hl2, hl3, hl4, hl5, hcn⟩ := T
 replace BT : Blk w g 53 #[.bool t.clean, .int .i64 t.gr.kind, .bool t.gr.dup, .bool t.gr.retain, .int .i64 t.gr.qos, .int .i64 t.gr.id, .string t.gr.topic, .slice m.gs.pa t.gr.pay.length m.gs.pc, .int .i64 t.gr.level, .string t.gr.client, .bool t.gr.clean, .int .i64 t.gr.keep, .bool t.gr.hasWill, .string t.gr.wt, .slice m.gs.wa t.gr.wp.length m.gs.wc, .int .i64 t.gr.wq, .bool t.gr.wr, .bool t.gr.hasUser, .bool t.gr.hasPass, .string t.gr.user, .slice m.gs.sa t.gr.pass.length m.gs.sc, .bool t.gr.present, .int .i64 t.gr.code, .slice m.gs.ua t.gr.subs.length m.gs.uc, .slice m.gs.ca t.gr.codes.length m.gs.cc, .bool t.greeted, .slice m.At m.told.length m.ct, .bool t.left, .slice m.Au m.subs.length m.cu, .slice m.An m.uns.length m.cn, .map (some m.mo), .map (some m.mf)] := BT
 have hgl := BT.lt
 have hgo := IsAss.ne_blk MO BT
 have hgf := IsAss.ne_blk MF BT
 have hmo := IsAss.lt MO
 have hmf := IsAss.lt MF
 have hT0 := own_lt RT
 have hS0 := own_lt RS
 have hU0 := own_lt RU
 refine C.enter Try.func32 rfl Try.ntmps32 rfl ?_
 intro a0 f0
 have f1 : Fr 45 a0 [(0, .pointer (some ⟨g, 0, none⟩)), (1, .agg (p.cells s))] := f0
 refine C.sk fun K0 hK0 => ?_
 refine L.box f1 wantedN (by decide) rfl rfl fun a2 w1 g0 N0 f2 => ?_
 have Bg0 := N0.blk
 have kg0 := N0.kept
 have log0 := N0.lo
 have ltg0 := Bg0.lt
 have szw1 := kg0.size
 have frg0 : w.heap.size ≤ g0 := Nat.le_trans HK.size log0
 have neg_g0 : g ≠ g0 := by have := BT.lt; omega
 replace HK := HK.z kg0
 replace BT := BT.z kg0
 replace RT := Own.z RT kg0
 replace RS := Own.z RS kg0
 replace RU := Own.z RU kg0
 replace MO := IsAss.z MO kg0
 replace MF := IsAss.z MF kg0
 replace PS := PS.keptT kg0 (NoPk.nil _)
 replace PF := PF.keptT kg0 (NoPk.nil _)
 clear f0 N0 kg0
 refine L.ag f2 fun a3 f3 => ?_
 refine wpList_nil (hK0 _ _ ?_)
 have f4 := f3.sub (sc 0 (sc 3 sn))
 refine wp_seq_k fun K1 hK1 => ?_
 refine C.sk fun K2 hK2 => ?_
 refine L.mv f4 fun a5 f5 => ?_
 refine L.va f5 (E.nilCheck f5 rfl) fun a6 f6 => ?_
 refine L.fa 25 f6 U53 rfl wsz4_tf fun a7 f7 => ?_
 refine L.ld f7 U4 BT fun a8 f8 => ?_
 refine L.va f8 (E.not f8 rfl) fun a9 f9 => ?_
 clear f1 a0 f2 a2 f3 f4 a3 f5 a5 f6 a6 f7 a7 f8 a8
 refine L.mv f9 fun a10 f10 => ?_
 clear f9 a9
 refine f10.splitNB 10 rfl (fun h0 f11 => ?_) (fun h0 f11 => ?_)
 ·refine L.run f11 (rest' := []) (by kernel_rfl) fun a12 f12 => ?_
  clear f10
  refine wpList_nil (hK2 _ _ ?_)
  have f13 := f12.sub (scR f12 0 (scR f12 3 (sv 34 (.bool true) sn)))
  refine C.condT f13 rfl ?_
  refine C.sk fun K3 hK3 => ?_
  refine L.ag f13 fun a14 f14 => ?_
  have f15 := f14.sub (sc 4 sn)
  refine wpList_nil (hK3 _ _ (wp_ret ?_)); (try simp only [xt, xb]); refine C.ret f15 rfl rfl ?_
  rw [conn_f (by simp_all [List.length_pos_iff])]
  exact ⟨rfl, m, ⟨e1, e2, e3, e4, BT, RT, RS, RU, MO, MF, nof, tu, tn, un, hlo, PS, PF, hl1, hl2, hl3, hl4, hl5, hcn⟩, by omega, HK, fun x hx => .inl hx, fun x hx => .inl hx⟩
 refine L.mv f11 (hw := (f11.yes rfl rfl)) fun a12 f12 => ?_
 refine L.va f12 (E.nilCheck f12 rfl) (hw := (f12.yes rfl rfl)) fun a13 f13 => ?_
 refine L.fa 26 f13 U53 rfl wsz51_tf (hw := (f13.yes rfl rfl)) fun a14 f14 => ?_
 refine L.ld f14 U51 BT (hw := (f14.yes rfl rfl)) fun a15 f15 => ?_
 refine L.va f15 (E.lenL f15 U51 rfl) (hw := (f15.yes rfl rfl)) fun a16 f16 => ?_
 refine L.va f16 (E.gtr f16 rfl rfl) (hw := (f16.yes rfl rfl)) fun a17 f17 => ?_
 refine L.va f17 (E.pickF f17 rfl rfl) fun a18 f18 => ?_
 clear f10 f11 a10 f12 a12 f13 a13 f14 a14 f15 a15 f16 a16 f17 a17
 refine L.mv f18 fun a19 f19 => ?_
 clear f18 a18
 refine f19.splitD 18 rfl (fun h1 f20 => ?_) (fun h1 f20 => ?_)
 ·refine L.run f20 (rest' := []) (by kernel_rfl) fun a21 f21 => ?_
  clear f19
  refine wpList_nil (hK2 _ _ ?_)
  have f22 := f21.sub (scR f21 0 (scR f21 3 (sv 34 (.bool true) sn)))
  refine C.condT f22 rfl ?_
  refine C.sk fun K4 hK4 => ?_
  refine L.ag f22 fun a23 f23 => ?_
  have f24 := f23.sub (sc 4 sn)
  refine wpList_nil (hK4 _ _ (wp_ret ?_)); (try simp only [xt, xb]); refine C.ret f24 rfl rfl ?_
  rw [conn_f (by simp_all [List.length_pos_iff])]
  exact ⟨rfl, m, ⟨e1, e2, e3, e4, BT, RT, RS, RU, MO, MF, nof, tu, tn, un, hlo, PS, PF, hl1, hl2, hl3, hl4, hl5, hcn⟩, by omega, HK, fun x hx => .inl hx, fun x hx => .inl hx⟩
 refine L.fa 20 f20 U34 rfl wsz4_tf (hw := (f20.yes rfl rfl)) fun a21 f21 => ?_
 refine L.ld f21 U4 Bg0 (hw := (f21.yes rfl rfl)) fun a22 f22 => ?_
 refine L.mv f22 (hw := (f22.yes rfl rfl)) fun a23 f23 => ?_
 clear f19 f20 a19 f21 a21 f22 a22
 refine f23.split 21 rfl (fun h2 f24 => ?_) (fun h2 f24 => ?_)
 ·refine L.mv f24 (hw := (f24.yes rfl rfl)) fun a25 f25 => ?_
  refine L.va f25 (E.nilCheck f25 rfl) (hw := (f25.yes rfl rfl)) fun a26 f26 => ?_
  refine L.fa 0 f26 U53 rfl wsz4_tf (hw := (f26.yes rfl rfl)) fun a27 f27 => ?_
  refine L.ld f27 U4 BT (hw := (f27.yes rfl rfl)) fun a28 f28 => ?_
  refine L.mv f28 (hw := (f28.yes rfl rfl)) fun a29 f29 => ?_
  clear f23 f24 a23 f25 a25 f26 a26 f27 a27 f28 a28
  refine f29.split 26 rfl (fun h3 f30 => ?_) (fun h3 f30 => ?_)
  ·refine L.run f30 (rest' := []) (by kernel_rfl) fun a31 f31 => ?_
   clear f29
   refine wpList_nil (hK2 _ _ ?_)
   have f32 := f31.sub (scR f31 0 (scR f31 3 (sv 34 (.bool true) sn)))
   refine C.condT f32 rfl ?_
   refine C.sk fun K5 hK5 => ?_
   refine L.ag f32 fun a33 f33 => ?_
   have f34 := f33.sub (sc 4 sn)
   refine wpList_nil (hK5 _ _ (wp_ret ?_)); (try simp only [xt, xb]); refine C.ret f34 rfl rfl ?_
   rw [conn_f (by simp_all [List.length_pos_iff])]
   exact ⟨rfl, m, ⟨e1, e2, e3, e4, BT, RT, RS, RU, MO, MF, nof, tu, tn, un, hlo, PS, PF, hl1, hl2, hl3, hl4, hl5, hcn⟩, by omega, HK, fun x hx => .inl hx, fun x hx => .inl hx⟩
  refine L.mv f30 (hw := (f30.yes rfl rfl)) fun a31 f31 => ?_
  refine L.va f31 (E.nilCheck f31 rfl) (hw := (f31.yes rfl rfl)) fun a32 f32 => ?_
  refine L.fa 1 f32 U53 rfl wsz34_tf (hw := (f32.yes rfl rfl)) fun a33 f33 => ?_
  refine L.fa 9 f33 U34 rfl wsz4_tf (hw := (f33.yes rfl rfl)) fun a34 f34 => ?_
  refine L.ld f34 U4 BT (hw := (f34.yes rfl rfl)) fun a35 f35 => ?_
  refine L.va f35 (E.pickF f35 rfl rfl) (hw := (f35.yes rfl rfl)) fun a36 f36 => ?_
  refine L.va f36 (E.pickT f36 rfl rfl) (hw := (f36.yes rfl rfl)) fun a37 f37 => ?_
  clear f29 f30 a29 f31 a31 f32 a32 f33 a33 f34 a34 f35 a35 f36 a36
  refine L.va f37 (E.pickF f37 rfl rfl) fun a38 f38 => ?_
  refine wpList_nil (hK2 _ _ ?_)
  have f39 := f38.sub (sc 0 (sc 3 (sc 34 sn)))
  clear f37 a37 f38
  refine f39.split 34 rfl (fun h4 f40 => ?_) (fun h4 f40 => ?_)
  ·refine C.condT f40 rfl ?_
   refine C.sk fun K6 hK6 => ?_
   refine L.ag f40 fun a41 f41 => ?_
   have f42 := f41.sub (sc 4 sn)
   refine wpList_nil (hK6 _ _ (wp_ret ?_)); (try simp only [xt, xb]); refine C.ret f42 rfl rfl ?_
   rw [conn_f (by simp_all [List.length_pos_iff])]
   exact ⟨rfl, m, ⟨e1, e2, e3, e4, BT, RT, RS, RU, MO, MF, nof, tu, tn, un, hlo, PS, PF, hl1, hl2, hl3, hl4, hl5, hcn⟩, by omega, HK, fun x hx => .inl hx, fun x hx => .inl hx⟩
  refine C.condF f40 rfl ?_
  refine wp_skip (hK1 _ _ ?_)
  have f41 := f40.sub (sc 0 (sc 3 sn))
  refine wp_seq_k fun K7 hK7 => ?_
  replace Bg0 : Blk w1 g0 34 (p.cells s) := Bg0
  have hnl : m.told = [] := List.eq_nil_of_length_eq_zero (by omega)
  have hd3 : Kept [] w1 (w1.drewN 1) := (Kept.refl _ _).drewN 1
  refine R.beginT (S := fun _ => True) (by kernel_rfl) (by kernel_rfl) trivial fun ht => ?_
  obtain ⟨w2, hww2⟩ : ∃ W, W = w1.drewN 1 := ⟨_, rfl⟩
  rw [← hww2] at hd3 ⊢
  clear f39 f40 hww2
  have szw2 := hd3.size
  replace HK := HK.z hd3
  replace BT := BT.z hd3
  replace RT := Own.z RT hd3
  replace RS := Own.z RS hd3
  replace RU := Own.z RU hd3
  replace MO := IsAss.z MO hd3
  replace MF := IsAss.z MF hd3
  replace PS := PS.keptT hd3 (NoPk.nil _)
  replace PF := PF.keptT hd3 (NoPk.nil _)
  replace Bg0 := Bg0.z hd3
  clear hd3
  refine R.u 0 f41 rfl ht trivial (fun W hW => (E.move f41 rfl)) fun a42 f42 => ?_
  refine R.u 1 f42 rfl ht trivial (fun W hW => (E.move f42 rfl)) fun a43 f43 => ?_
  refine R.u 2 f43 rfl ht trivial (fun W hW => (E.nilCheck f43 rfl)) fun a44 f44 => ?_
  refine R.u 3 f44 rfl ht trivial (fun W hW => (E.fa 26 f44 U53 rfl wsz51_tf)) fun a45 f45 => ?_
  clear f41 a38 f42 a42 f43 a43 f44 a44
  refine Gp.enter (G := [4, 5, 6]) (L0 := #[true, true, true, true, false, false, false, false, false, false, false]) (L1 := #[true, true, true, true, true, true, true, false, false, false, false]) (fuel := 4) (fun mS a W => ∃ v39 v40 v41 : Value, Fr 45 a [(0, .pointer (some ⟨g, 0, none⟩)), (3, .pointer (some ⟨g0, 0, none⟩)), (35, .pointer (some ⟨g, 0, none⟩)), (38, .pointer (some ⟨g, 0 + 26, none⟩)), (39, v39), (40, v40), (41, v41)] ∧ (Kept (m.fp g) w W) ∧ (Blk W g 53 #[.bool t.clean, .int .i64 t.gr.kind, .bool t.gr.dup, .bool t.gr.retain, .int .i64 t.gr.qos, .int .i64 t.gr.id, .string t.gr.topic, .slice m.gs.pa t.gr.pay.length m.gs.pc, .int .i64 t.gr.level, .string t.gr.client, .bool t.gr.clean, .int .i64 t.gr.keep, .bool t.gr.hasWill, .string t.gr.wt, .slice m.gs.wa t.gr.wp.length m.gs.wc, .int .i64 t.gr.wq, .bool t.gr.wr, .bool t.gr.hasUser, .bool t.gr.hasPass, .string t.gr.user, .slice m.gs.sa t.gr.pass.length m.gs.sc, .bool t.gr.present, .int .i64 t.gr.code, .slice m.gs.ua t.gr.subs.length m.gs.uc, .slice m.gs.ca t.gr.codes.length m.gs.cc, .bool t.greeted, .slice m.At m.told.length m.ct, .bool t.left, .slice m.Au m.subs.length m.cu, .slice m.An m.uns.length m.cn, .map (some m.mo), .map (some m.mf)]) ∧ (Row W m.At m.ct m.told) ∧ (Row W m.Au m.cu m.subs) ∧ (Row W m.An m.cn m.uns) ∧ (IsAss ansM Try.prog W m.mo t.owed) ∧ (IsAss outM Try.prog W m.mf m.out) ∧ (PksO W m.subs) ∧ (FlsO W m.out) ∧ (Blk W g0 34 (p.cells s)) ∧ (mS.testBit 4 = true → PhiV (.slice m.At m.told.length m.ct) v39 W) ∧ (mS.testBit 5 = true → PhiV (.agg (p.cells s)) v40 W) ∧ (mS.testBit 6 = true → PhiN 34 1 (p.cells s) v41 W)) (by kernel_rfl) (by kernel_rfl) ?_ ?_ ?_
  ·obtain ⟨v39, f46⟩ := f45.any 39 (by decide)
   obtain ⟨v40, f47⟩ := f46.any 40 (by decide)
   obtain ⟨v41, f48⟩ := f47.any 41 (by decide)
   exact ⟨v39, v40, v41, f48.sub (sx (sx (sx (sx (sx (sx (sx sn))))))), HK, BT, RT, RS, RU, MO, MF, PS, PF, Bg0, fun q => absurd q (by simp), fun q => absurd q (by simp), fun q => absurd q (by simp)⟩
  ·intro mS i_ a46 w3 hm hcl hi hG hI
   obtain ⟨v39, v40, v41, f46, HK, BT, RT, RS, RU, MO, MF, PS, PF, Bg0, P4, P5, P6⟩ := hI
   simp only [List.mem_cons, List.not_mem_nil, or_false] at hG
   rcases hG with rfl | rfl | rfl
   ·skip
    refine O.val f46 rfl rfl (by decide) wantedN (by exact E.ld f46 U51 (BT)) trivial fun a47 f47 => ?_
    exact ⟨_, _, _, f47.sub (sr rfl (sr rfl (sr rfl (sr rfl (sr rfl (sr rfl (sr rfl sn))))))), HK, BT, RT, RS, RU, MO, MF, PS, PF, Bg0, fun _ => rfl, fun q => P5 (by rwa [Gp.other (by decide)] at q), fun q => P6 (by rwa [Gp.other (by decide)] at q)⟩
   ·skip
    refine O.val f46 rfl rfl (by decide) wantedN (by exact E.loadB f46 U34 rfl wsz34_tf rfl (Bg0) rfl) trivial fun a47 f47 => ?_
    exact ⟨_, _, _, f47.sub (sr rfl (sr rfl (sr rfl (sr rfl (sr rfl (sr rfl (sr rfl sn))))))), HK, BT, RT, RS, RU, MO, MF, PS, PF, Bg0, fun q => P4 (by rwa [Gp.other (by decide)] at q), fun _ => rfl, fun q => P6 (by rwa [Gp.other (by decide)] at q)⟩
   skip
   have D5 := P5 (Gp.need (j := 5) (by kernel_rfl) hm hcl hi)
   obtain rfl := D5
   refine O.buildSlice f46 rfl wantedN (by decide) (parts1 f46 rfl) U51 wzi34_tf rfl rfl (wbs51_1_tf _ _ _ _ _ _ _ _ _ _ _ _ _ _ _ _ _ _ _ _ _ _ _ _) (fun _ _ => trivial) fun a47 w4 g3 N3 hSn f47 => ?_
   clear hSn
   have Bg3 := N3.blk
   have kg3 := N3.kept
   have log3 := N3.lo
   have ltg3 := Bg3.lt
   have szw4 := kg3.size
   have frg3 : w.heap.size ≤ g3 := Nat.le_trans HK.size log3
   have neg_g3 : g ≠ g3 := by have := BT.lt; omega
   have neg0_g3 : g0 ≠ g3 := by have := Bg0.lt; omega
   replace HK := HK.z kg3
   replace BT := BT.z kg3
   replace RT := Own.z RT kg3
   replace RS := Own.z RS kg3
   replace RU := Own.z RU kg3
   replace MO := IsAss.z MO kg3
   replace MF := IsAss.z MF kg3
   replace PS := PS.keptT kg3 (NoPk.nil _)
   replace PF := PF.keptT kg3 (NoPk.nil _)
   replace Bg0 := Bg0.z kg3
   replace P4 := fun q => (P4 q).kept kg3
   replace P5 := fun q => (P5 q).kept kg3
   replace P6 := fun q => (P6 q).kept kg3
   clear N3 kg3
   exact ⟨_, _, _, f47.sub (sr rfl (sr rfl (sr rfl (sr rfl (sr rfl (sr rfl (sr rfl sn))))))), HK, BT, RT, RS, RU, MO, MF, PS, PF, Bg0, fun q => P4 (by rwa [Gp.other (by decide)] at q), fun q => P5 (by rwa [Gp.other (by decide)] at q), fun _ => ⟨g3, rfl, Bg3⟩⟩
  intro mS a46 w3 hm hI
  obtain ⟨v39, v40, v41, f46, HK, BT, RT, RS, RU, MO, MF, PS, PF, Bg0, P4, P5, P6⟩ := hI
  have D4 := P4 (hm 4 (by decide))
  obtain rfl := D4
  have D6 := P6 (hm 6 (by decide))
  obtain ⟨gb, rfl, Bgb⟩ := D6
  clear P4 P5 P6
  refine R.one 7 (by kernel_rfl) ?_
  refine O.append f46 rfl wantedN (by decide) U51 wzib34_tf rfl rfl rfl rfl RT (Sl1 p s Bgb) (Pk.one1 p s) (by unfold maxLen; omega) (by omega) fun a47 w4 A4 c4 AP => ?_
  have szw4 := AP.kept.size
  have hwh : ∀ b, A4.map (·.block) = some b → m.At.map (·.block) = some b ∨ w.heap.size ≤ b := fun b hb => (AP.where_ b hb).imp id (fun h => Nat.le_trans HK.size h)
  have HKn := HK.trans AP.kept (fun x hx _ => fp_ownRT (by simpa using hx))
  have BTn := BT.kept AP.kept (own_ne RT BT (by decide))
  have RTn := (show Row w4 A4 c4 (m.told ++ [(p, s)]) by unfold Row; rw [pkRow_app, pkRow_one, List.length_append]; exact AP.own)
  have RSn := Own.kept RS AP.kept (own_apart tu)
  have RUn := Own.kept RU AP.kept (own_apart tn)
  have MOn := IsAss.kept MO AP.kept (own_ne_map MO RT)
  have MFn := IsAss.kept MF AP.kept (own_ne_map MF RT)
  have PSn := PS.keptT AP.kept (NoPk.own RT)
  have PFn := PF.keptT AP.kept (NoPk.own RT)
  refine ⟨trivial, fun f47 => ?_⟩
  clear f46 HK BT RT RS RU MO MF PS PF AP Bgb
  have HK := HKn
  have BT := BTn
  have RT := RTn
  have RS := RSn
  have RU := RUn
  have MO := MOn
  have MF := MFn
  have PS := PSn
  have PF := PFn
  clear HKn BTn RTn RSn RUn MOn MFn PSn PFn
  refine R.u 8 f47 rfl ht trivial (fun W hW => (E.nilCheck f47 rfl)) fun a48 f48 => ?_
  refine R.u 9 f48 rfl ht trivial (fun W hW => (E.fa 26 f48 U53 rfl wsz51_tf)) fun a49 f49 => ?_
  refine R.one 10 (by kernel_rfl) ?_
  refine OT.store f49 rfl wantedN wsz51_tf rfl rfl rfl BT (by (simp [Value.cells]; done)) fun a50 w5 f50 NB5 ks5 => ?_
  have szw5 := ks5.size
  replace HK := HK.trans ks5 (fun x hx hlt => by obtain rfl := List.mem_singleton.1 hx; exact fp_g)
  replace RT := own_kept1 RT ks5 BT (by decide)
  replace RS := own_kept1 RS ks5 BT (by decide)
  replace RU := own_kept1 RU ks5 BT (by decide)
  replace MO := IsAss.kept MO ks5 (by simpa using IsAss.ne_blk MO BT)
  replace MF := IsAss.kept MF ks5 (by simpa using IsAss.ne_blk MF BT)
  replace PS := PS.keptT ks5 (NoPk.blk BT (by decide))
  replace PF := PF.keptT ks5 (NoPk.blk BT (by decide))
  replace BT := NB5
  simp only [Value.cells, z1, z2, z3, Nat.reduceAdd, Nat.zero_add] at BT
  clear f47 a47 f48 a48 ks5 f49 a49
  refine R.done (by kernel_rfl) (hK7 _ _ ?_)
  have f51 := f50.sub sn
  refine C.sk fun K8 hK8 => ?_
  refine L.ag f51 fun a52 f52 => ?_
  have f53 := f52.sub (sc 4 sn)
  refine wpList_nil (hK8 _ _ (wp_ret ?_)); (try simp only [xt, xb]); refine C.ret f53 rfl rfl ?_
  rw [conn_t e1 (by simp_all [List.length_pos_iff]) (by simp_all [List.length_pos_iff]) (by simp_all [List.length_pos_iff])]
  exact ⟨rfl, { m with told := [(p, s)], At := A4, ct := c4, n := m.n + 1 }, ⟨rfl, e2, e3, e4, (by rw [hnl] at BT; exact BT), (by rw [hnl] at RT; exact RT), RS, RU, MO, MF, nof, apart_new tu hwh hS0, apart_new tn hwh hU0, un, fp_lo hlo hgl (fpT hwh), PS, PF, by simp, Nat.le_succ_of_le hl2, Nat.le_succ_of_le hl3, Nat.le_succ_of_le hl4, Nat.le_succ_of_le hl5, cnt_up hcn⟩, Nat.le_refl _, HK, fpT hwh, fun x hx => .inl hx⟩
 refine L.run f24 (rest' := []) (by kernel_rfl) fun a25 f25 => ?_
 clear f23
 refine wpList_nil (hK2 _ _ ?_)
 have f26 := f25.sub (scR f25 0 (scR f25 3 (sv 34 (.bool false) sn)))
 refine C.condF f26 rfl ?_
 refine wp_skip (hK1 _ _ ?_)
 have f27 := f26.sub (sc 0 (sc 3 sn))
 refine wp_seq_k fun K9 hK9 => ?_
 replace Bg0 : Blk w1 g0 34 (p.cells s) := Bg0
 have hnl : m.told = [] := List.eq_nil_of_length_eq_zero (by omega)
 have hd3 : Kept [] w1 (w1.drewN 1) := (Kept.refl _ _).drewN 1
 refine R.beginT (S := fun _ => True) (by kernel_rfl) (by kernel_rfl) trivial fun ht => ?_
 obtain ⟨w2, hww2⟩ : ∃ W, W = w1.drewN 1 := ⟨_, rfl⟩
 rw [← hww2] at hd3 ⊢
 clear f25 f24 f26 hww2
 have szw2 := hd3.size
 replace HK := HK.z hd3
 replace BT := BT.z hd3
 replace RT := Own.z RT hd3
 replace RS := Own.z RS hd3
 replace RU := Own.z RU hd3
 replace MO := IsAss.z MO hd3
 replace MF := IsAss.z MF hd3
 replace PS := PS.keptT hd3 (NoPk.nil _)
 replace PF := PF.keptT hd3 (NoPk.nil _)
 replace Bg0 := Bg0.z hd3
 clear hd3
 refine R.u 0 f27 rfl ht trivial (fun W hW => (E.move f27 rfl)) fun a28 f28 => ?_
 refine R.u 1 f28 rfl ht trivial (fun W hW => (E.move f28 rfl)) fun a29 f29 => ?_
 refine R.u 2 f29 rfl ht trivial (fun W hW => (E.nilCheck f29 rfl)) fun a30 f30 => ?_
 refine R.u 3 f30 rfl ht trivial (fun W hW => (E.fa 26 f30 U53 rfl wsz51_tf)) fun a31 f31 => ?_
 clear f27 a25 f28 a28 f29 a29 f30 a30
 refine Gp.enter (G := [4, 5, 6]) (L0 := #[true, true, true, true, false, false, false, false, false, false, false]) (L1 := #[true, true, true, true, true, true, true, false, false, false, false]) (fuel := 4) (fun mS a W => ∃ v39 v40 v41 : Value, Fr 45 a [(0, .pointer (some ⟨g, 0, none⟩)), (3, .pointer (some ⟨g0, 0, none⟩)), (35, .pointer (some ⟨g, 0, none⟩)), (38, .pointer (some ⟨g, 0 + 26, none⟩)), (39, v39), (40, v40), (41, v41)] ∧ (Kept (m.fp g) w W) ∧ (Blk W g 53 #[.bool t.clean, .int .i64 t.gr.kind, .bool t.gr.dup, .bool t.gr.retain, .int .i64 t.gr.qos, .int .i64 t.gr.id, .string t.gr.topic, .slice m.gs.pa t.gr.pay.length m.gs.pc, .int .i64 t.gr.level, .string t.gr.client, .bool t.gr.clean, .int .i64 t.gr.keep, .bool t.gr.hasWill, .string t.gr.wt, .slice m.gs.wa t.gr.wp.length m.gs.wc, .int .i64 t.gr.wq, .bool t.gr.wr, .bool t.gr.hasUser, .bool t.gr.hasPass, .string t.gr.user, .slice m.gs.sa t.gr.pass.length m.gs.sc, .bool t.gr.present, .int .i64 t.gr.code, .slice m.gs.ua t.gr.subs.length m.gs.uc, .slice m.gs.ca t.gr.codes.length m.gs.cc, .bool t.greeted, .slice m.At m.told.length m.ct, .bool t.left, .slice m.Au m.subs.length m.cu, .slice m.An m.uns.length m.cn, .map (some m.mo), .map (some m.mf)]) ∧ (Row W m.At m.ct m.told) ∧ (Row W m.Au m.cu m.subs) ∧ (Row W m.An m.cn m.uns) ∧ (IsAss ansM Try.prog W m.mo t.owed) ∧ (IsAss outM Try.prog W m.mf m.out) ∧ (PksO W m.subs) ∧ (FlsO W m.out) ∧ (Blk W g0 34 (p.cells s)) ∧ (mS.testBit 4 = true → PhiV (.slice m.At m.told.length m.ct) v39 W) ∧ (mS.testBit 5 = true → PhiV (.agg (p.cells s)) v40 W) ∧ (mS.testBit 6 = true → PhiN 34 1 (p.cells s) v41 W)) (by kernel_rfl) (by kernel_rfl) ?_ ?_ ?_
 ·obtain ⟨v39, f32⟩ := f31.any 39 (by decide)
  obtain ⟨v40, f33⟩ := f32.any 40 (by decide)
  obtain ⟨v41, f34⟩ := f33.any 41 (by decide)
  exact ⟨v39, v40, v41, f34.sub (sx (sx (sx (sx (sx (sx (sx sn))))))), HK, BT, RT, RS, RU, MO, MF, PS, PF, Bg0, fun q => absurd q (by simp), fun q => absurd q (by simp), fun q => absurd q (by simp)⟩
 ·intro mS i_ a32 w3 hm hcl hi hG hI
  obtain ⟨v39, v40, v41, f32, HK, BT, RT, RS, RU, MO, MF, PS, PF, Bg0, P4, P5, P6⟩ := hI
  simp only [List.mem_cons, List.not_mem_nil, or_false] at hG
  rcases hG with rfl | rfl | rfl
  ·skip
   refine O.val f32 rfl rfl (by decide) wantedN (by exact E.ld f32 U51 (BT)) trivial fun a33 f33 => ?_
   exact ⟨_, _, _, f33.sub (sr rfl (sr rfl (sr rfl (sr rfl (sr rfl (sr rfl (sr rfl sn))))))), HK, BT, RT, RS, RU, MO, MF, PS, PF, Bg0, fun _ => rfl, fun q => P5 (by rwa [Gp.other (by decide)] at q), fun q => P6 (by rwa [Gp.other (by decide)] at q)⟩
  ·skip
   refine O.val f32 rfl rfl (by decide) wantedN (by exact E.loadB f32 U34 rfl wsz34_tf rfl (Bg0) rfl) trivial fun a33 f33 => ?_
   exact ⟨_, _, _, f33.sub (sr rfl (sr rfl (sr rfl (sr rfl (sr rfl (sr rfl (sr rfl sn))))))), HK, BT, RT, RS, RU, MO, MF, PS, PF, Bg0, fun q => P4 (by rwa [Gp.other (by decide)] at q), fun _ => rfl, fun q => P6 (by rwa [Gp.other (by decide)] at q)⟩
  skip
  have D5 := P5 (Gp.need (j := 5) (by kernel_rfl) hm hcl hi)
  obtain rfl := D5
  refine O.buildSlice f32 rfl wantedN (by decide) (parts1 f32 rfl) U51 wzi34_tf rfl rfl (wbs51_1_tf _ _ _ _ _ _ _ _ _ _ _ _ _ _ _ _ _ _ _ _ _ _ _ _) (fun _ _ => trivial) fun a33 w4 g3 N3 hSn f33 => ?_
  clear hSn
  have Bg3 := N3.blk
  have kg3 := N3.kept
  have log3 := N3.lo
  have ltg3 := Bg3.lt
  have szw4 := kg3.size
  have frg3 : w.heap.size ≤ g3 := Nat.le_trans HK.size log3
  have neg_g3 : g ≠ g3 := by have := BT.lt; omega
  have neg0_g3 : g0 ≠ g3 := by have := Bg0.lt; omega
  replace HK := HK.z kg3
  replace BT := BT.z kg3
  replace RT := Own.z RT kg3
  replace RS := Own.z RS kg3
  replace RU := Own.z RU kg3
  replace MO := IsAss.z MO kg3
  replace MF := IsAss.z MF kg3
  replace PS := PS.keptT kg3 (NoPk.nil _)
  replace PF := PF.keptT kg3 (NoPk.nil _)
  replace Bg0 := Bg0.z kg3
  replace P4 := fun q => (P4 q).kept kg3
  replace P5 := fun q => (P5 q).kept kg3
  replace P6 := fun q => (P6 q).kept kg3
  clear N3 kg3
  exact ⟨_, _, _, f33.sub (sr rfl (sr rfl (sr rfl (sr rfl (sr rfl (sr rfl (sr rfl sn))))))), HK, BT, RT, RS, RU, MO, MF, PS, PF, Bg0, fun q => P4 (by rwa [Gp.other (by decide)] at q), fun q => P5 (by rwa [Gp.other (by decide)] at q), fun _ => ⟨g3, rfl, Bg3⟩⟩
 intro mS a32 w3 hm hI
 obtain ⟨v39, v40, v41, f32, HK, BT, RT, RS, RU, MO, MF, PS, PF, Bg0, P4, P5, P6⟩ := hI
 have D4 := P4 (hm 4 (by decide))
 obtain rfl := D4
 have D6 := P6 (hm 6 (by decide))
 obtain ⟨gb, rfl, Bgb⟩ := D6
 clear P4 P5 P6
 refine R.one 7 (by kernel_rfl) ?_
 refine O.append f32 rfl wantedN (by decide) U51 wzib34_tf rfl rfl rfl rfl RT (Sl1 p s Bgb) (Pk.one1 p s) (by unfold maxLen; omega) (by omega) fun a33 w4 A4 c4 AP => ?_
 have szw4 := AP.kept.size
 have hwh : ∀ b, A4.map (·.block) = some b → m.At.map (·.block) = some b ∨ w.heap.size ≤ b := fun b hb => (AP.where_ b hb).imp id (fun h => Nat.le_trans HK.size h)
 have HKn := HK.trans AP.kept (fun x hx _ => fp_ownRT (by simpa using hx))
 have BTn := BT.kept AP.kept (own_ne RT BT (by decide))
 have RTn := (show Row w4 A4 c4 (m.told ++ [(p, s)]) by unfold Row; rw [pkRow_app, pkRow_one, List.length_append]; exact AP.own)
 have RSn := Own.kept RS AP.kept (own_apart tu)
 have RUn := Own.kept RU AP.kept (own_apart tn)
 have MOn := IsAss.kept MO AP.kept (own_ne_map MO RT)
 have MFn := IsAss.kept MF AP.kept (own_ne_map MF RT)
 have PSn := PS.keptT AP.kept (NoPk.own RT)
 have PFn := PF.keptT AP.kept (NoPk.own RT)
 refine ⟨trivial, fun f33 => ?_⟩
 clear f32 HK BT RT RS RU MO MF PS PF AP Bgb
 have HK := HKn
 have BT := BTn
 have RT := RTn
 have RS := RSn
 have RU := RUn
 have MO := MOn
 have MF := MFn
 have PS := PSn
 have PF := PFn
 clear HKn BTn RTn RSn RUn MOn MFn PSn PFn
 refine R.u 8 f33 rfl ht trivial (fun W hW => (E.nilCheck f33 rfl)) fun a34 f34 => ?_
 refine R.u 9 f34 rfl ht trivial (fun W hW => (E.fa 26 f34 U53 rfl wsz51_tf)) fun a35 f35 => ?_
 refine R.one 10 (by kernel_rfl) ?_
 refine OT.store f35 rfl wantedN wsz51_tf rfl rfl rfl BT (by (simp [Value.cells]; done)) fun a36 w5 f36 NB5 ks5 => ?_
 have szw5 := ks5.size
 replace HK := HK.trans ks5 (fun x hx hlt => by obtain rfl := List.mem_singleton.1 hx; exact fp_g)
 replace RT := own_kept1 RT ks5 BT (by decide)
 replace RS := own_kept1 RS ks5 BT (by decide)
 replace RU := own_kept1 RU ks5 BT (by decide)
 replace MO := IsAss.kept MO ks5 (by simpa using IsAss.ne_blk MO BT)
 replace MF := IsAss.kept MF ks5 (by simpa using IsAss.ne_blk MF BT)
 replace PS := PS.keptT ks5 (NoPk.blk BT (by decide))
 replace PF := PF.keptT ks5 (NoPk.blk BT (by decide))
 replace BT := NB5
 simp only [Value.cells, z1, z2, z3, Nat.reduceAdd, Nat.zero_add] at BT
 clear f33 a33 f34 a34 ks5 f35 a35
 refine R.done (by kernel_rfl) (hK9 _ _ ?_)
 have f37 := f36.sub sn
 refine C.sk fun K10 hK10 => ?_
 refine L.ag f37 fun a38 f38 => ?_
 have f39 := f38.sub (sc 4 sn)
 refine wpList_nil (hK10 _ _ (wp_ret ?_)); (try simp only [xt, xb]); refine C.ret f39 rfl rfl ?_
 rw [conn_t e1 (by simp_all [List.length_pos_iff]) (by simp_all [List.length_pos_iff]) (by simp_all [List.length_pos_iff])]
 exact ⟨rfl, { m with told := [(p, s)], At := A4, ct := c4, n := m.n + 1 }, ⟨rfl, e2, e3, e4, (by rw [hnl] at BT; exact BT), (by rw [hnl] at RT; exact RT), RS, RU, MO, MF, nof, apart_new tu hwh hS0, apart_new tn hwh hU0, un, fp_lo hlo hgl (fpT hwh), PS, PF, by simp, Nat.le_succ_of_le hl2, Nat.le_succ_of_le hl3, Nat.le_succ_of_le hl4, Nat.le_succ_of_le hl5, cnt_up hcn⟩, Nat.le_refl _, HK, fpT hwh, fun x hx => .inl hx⟩
end Go.Proofs.Ytkdeedhjkjffpaa
namespace Go.Proofs.Ytkdeedhjkjffpaa
open Go.RowKit Go.Hub Go.Lib Go.WideShapes Go.ChangeMaps Go.ChangeShapes Go.MapKept Go.WideMaps
theorem wsz49_tg : (Try.prog.info? 49).map (·.size) = some 1 := by kernel_rfl
theorem wsz72_tg : (Try.prog.info? 72).map (·.size) = some 2 := by kernel_rfl
theorem wzi3_tg : (Try.prog.info? 3).map (fun i => (i.zero, i.size)) = some (some (.int .i64 0), 1) := by kernel_rfl
theorem wbs32_3_tg (x0 : Int) (x1 : Int) (x2 : Int) : Instr.fill (fun i => some (i * 1, 1)) ((Array.range (3 * 1)).map fun j => (Value.cells (.int .i64 0))[j % (Value.cells (.int .i64 0)).size]!) [(0, .int .i64 x0), (1, .int .i64 x1), (2, .int .i64 x2)] = some #[.int .i64 x0, .int .i64 x1, .int .i64 x2] := by kernel_rfl
theorem wsz3_tg : (Try.prog.info? 3).map (·.size) = some 1 := by kernel_rfl
theorem wbl72_0_1_tg (x0 : Int) (x1 : Int) : Try.prog.built 72 [(0, .int .i64 x0), (1, .int .i64 x1)] = some #[.int .i64 x0, .int .i64 x1] := by kernel_rfl
theorem msg_cell {W : World} {g : Nat} {q : Int} (B : Blk W g 3 #[.int .i64 0, .int .i64 4, .int .i64 5]) (h : 0 < q) : W.cell? ⟨g, 0 + (min q 2).toNat * 1, none⟩ = some (.int .i64 (if q = 1 then 4 else 5)) := by
  by_cases e : q = 1
  · subst e
    exact B.cl rfl
  rw [if_neg e, Int.min_eq_right (by omega)]
  exact B.cl rfl
theorem msg_t {t : Tr} {p : Pk} (h : 0 < p.qos) : t.msgT p = { t with owed := ((if p.qos = 1 then 4 else 5, p.id), (lk t.owed (if p.qos = 1 then 4 else 5, p.id)).getD 0 + 1) :: strike t.owed (if p.qos = 1 then 4 else 5, p.id) } := by
  unfold Tr.msgT Tr.owe
  rw [if_pos h]
theorem msg_f {t : Tr} {p : Pk} (h : ¬ 0 < p.qos) : t.msgT p = t := by unfold Tr.msgT; rw [if_neg h]
theorem IsAss.entry_then {M : MT} [DecidableEq M.K] {P : Program} {w : World} {mm : Nat} {E : List (M.K × M.V)} {t : TypeId} (h : IsAss M P w mm E) (ok : M.Ok P) (KL : KeyLaw P M.k) (ht : P.underlying t = some (.map M.k M.e)) {z : M.V} (hz : ∀ w, (zeroValue M.e).run P w = .ok (M.ev z) w) {key : M.K} (hd : M.dom key) (hE : E.length < maxLen) {r : Value} {w' : World}
    (hrun : (Instr.mapEntry t (.map (some mm)) (M.kv key)).run P w = .ok r w') : IsAss M P w' mm E ∨ (IsAss M P w' mm ((key, z) :: Go.Hub.strike E key) ∧ (Instr.lookup t (.map (some mm)) (M.kv key) false).run P w = .ok (M.ev z) w) := by
  have h0 := h
  obtain ⟨hnd, hdm, D, ho, hs, hrest⟩ := h
  obtain ⟨es, clock, hb, F, hsz, hD⟩ := ho
  have hkey := ok.of key hd
  rcases KL.find w hkey es.toList F.keys with ⟨h1, h2⟩ | ⟨j, e0, h1, h2, h3⟩
  · obtain ⟨w1, hput, hass, _⟩ := h0.put ok ht hd z hE
    have e : w1 = w' := by
      simp [Instr.mapUpdate, run_underlying ht, MapKept.run_getObj_map hb, KL.check w false hkey, h1, MapKept.run_setObj_map _ hb, Result.andThen] at hput
      simp [Instr.mapEntry, run_underlying ht, MapKept.run_getObj_map hb, KL.check w false hkey, h1, hz, MapKept.run_setObj_map _ hb, Result.andThen] at hrun
      rw [← hput, ← hrun.2]
    subst e
    refine .inr ⟨hass, ?_⟩
    simp [Instr.lookup, run_underlying ht, MapKept.run_getObj_map hb, KL.check w es.isEmpty hkey, h1, hz, Result.andThen]
  have hj : es[j]? = some e0 := by simpa using h2
  have hsame : es.modify j (fun e => { e with key := M.kv key }) = es := by
    apply Array.ext'
    rw [Array.toList_modify, modify_eq_set _ _ _ _ h2]
    have : ({ e0 with key := M.kv key } : MapEntry) = e0 := by rw [← h3]
    rw [this]
    exact Go.WideElems.set_self _ _ _ h2
  simp [Instr.mapEntry, run_underlying ht, MapKept.run_getObj_map hb, KL.check w false hkey, h1, hj, h3, KL.stays w hkey, hsame, MapKept.run_setObj_map _ hb, Result.andThen, setBlock] at hrun
  refine .inl (h0.of_block ?_)
  rw [← hrun.2]
  exact (heap_setBlock_same hb _).trans hb.symm
def AnsE (w : World) (mo : Nat) (E : List ((Int × Int) × Int)) (k : Int × Int) : Prop := ∃ E' : List ((Int × Int) × Int), IsAss ansM Try.prog w mo E' ∧ (lk E' k).getD 0 = (lk E k).getD 0 ∧ strike E' k = strike E k ∧ E'.length ≤ E.length + 1
section
variable {w w' : World} {mo : Nat} {E : List ((Int × Int) × Int)} {k : Int × Int} {ops : Array Oper} {a : Act} {Q : Exit → Act → World → Prop} {n d : Nat} {l : FL} {dst : Option Nat} {ty : TypeId} {ps : String} {af : Array Edge} {gd : Option (Nat × Bool)} {x y z : Operand} {Sw : World → Prop} {K : Act → World → Prop}
theorem AnsE.of (h : IsAss ansM Try.prog w mo E) (k : Int × Int) : AnsE w mo E k := ⟨E, h, rfl, rfl, by omega⟩
theorem AnsE.kept {L : List Nat} (h : AnsE w mo E k) (hk : Kept L w w') (hm : mo ∉ L) : AnsE w' mo E k := by
  obtain ⟨E', a, b⟩ := h
  exact ⟨E', IsAss.kept a hk hm, b⟩
theorem AnsE.look (h : AnsE w mo E k) (hd : ansM.dom k) : (Instr.lookup 49 (.map (some mo)) (.agg #[.int .i64 k.1, .int .i64 k.2]) false).run Try.prog w = .ok (.int .i64 ((lk E k).getD 0)) w := by
  obtain ⟨E', hA, e, _⟩ := h
  rw [← e]
  refine (IsAss.look hA ansOk Try.underlying49 (zero3 w) hd).trans ?_
  cases h : lk (K := ansM.K) (V := ansM.V) E' k with
  | none =>
    have h2 : lk E' k = none := h
    rw [h2]
    rfl
  | some v =>
    have h2 : lk E' k = some v := h
    rw [h2]
    rfl
theorem E.lookO (f : Fr n a l) (h : AnsE w mo E k) (k' : Int × Int) (hd : ansM.dom k) (hx : evl l x = some (.map (some mo))) (hy : evl l y = some (.agg #[.int .i64 k.1, .int .i64 k.2])) :
    (execOp a.eval ⟨dst, .lookup 49 x y false, ty, ps, af, gd⟩).run Try.prog w = .ok (.value (.int .i64 ((lk E k).getD 0))) w := by
  simp only [execOp, f.ev hx, f.ev hy, Sem.run_bind, h.look hd, Result.andThen, Sem.run_pure]
theorem AnsE.entry (h : AnsE w mo E k) (hd : ansM.dom k) (hE : E.length + 1 < maxLen) :
    ∃ v0, ∃ st : Nat, ∃ w', (Instr.mapEntry 49 (.map (some mo)) (ansM.kv k)).run Try.prog w = .ok (.tuple #[v0, goInt st]) w' ∧ Kept [mo] w w' ∧ AnsE w' mo E k ∧ Ent ansM Try.prog 49 w' mo E k st := by
  have h0 := h
  obtain ⟨E', hA, e1, e2, e3⟩ := h
  have hE' : List.length (α := ansM.K × ansM.V) E' < maxLen := by have h5 : List.length (α := (Int × Int) × Int) E' < maxLen := by omega
                                                                  exact h5
  obtain ⟨v0, st, w', hrun, hk, hent⟩ := IsAss.entry hA ansOk ans_law Try.underlying49 zero3 hd hE'
  have hEnt : Ent ansM Try.prog 49 w' mo E k st := ⟨hent.1, fun w2 u hw2 => by
    obtain ⟨w3, a1, a2, a3⟩ := hent.2 w2 u hw2
    refine ⟨w3, a1, ?_, a3⟩
    have : Go.Hub.strike E' k = Go.Hub.strike E k := e2
    exact this ▸ a2⟩
  refine ⟨v0, st, w', hrun, hk, ?_, hEnt⟩
  rcases IsAss.entry_then (z := (0 : Int)) hA ansOk ans_law Try.underlying49 zero3 hd hE' hrun with a1 | ⟨a1, a2⟩
  · exact ⟨E', a1, e1, e2, e3⟩
  have hl := h0.look hd
  have : (Value.int .i64 ((lk E k).getD 0)) = .int .i64 0 := by
    have := hl.symm.trans a2
    injection this
  injection this with _ hz
  refine ⟨_, a1, ?_, ?_, ?_⟩
  · rw [hz]
    exact congrArg (·.getD 0) ((lk_cons k (0 : Int) _ k).trans (if_pos rfl))
  · rw [← e2]
    show (((k, (0 : Int)) :: Go.Hub.strike E' k).filter fun p => !decide (p.1 = k)) = _
    rw [List.filter_cons, if_neg (by simp)]
    unfold Go.Hub.strike
    rw [List.filter_filter]
    simp
  exact Nat.le_trans (Nat.le_of_eq (congrArg (fun l : List ((Int × Int) × Int) => l.length + 1) e2)) (strike_le (E := E) (Nat.le_refl _) k 0)
theorem O.mapEntryO {q : Nat} (f : Fr n a l) (ho : ops[q]? = some ⟨some d, .mapEntry 49 x y, ty, ps, af, gd⟩) (hw : Region.wanted ⟨some d, .mapEntry 49 x y, ty, ps, af, gd⟩ (yielded ops a.tmps) = true) (hn : d < n) (h : AnsE w mo E k) (hd : ansM.dom k)
    (hx : evl l x = some (.map (some mo))) (hy : evl l y = some (.agg #[.int .i64 k.1, .int .i64 k.2])) (hE : E.length + 1 < maxLen) (hSw : ∀ w', AnsE w' mo E k → Kept [mo] w w' → Sw w')
    (hK : ∀ a' w' v0 (st : Nat), AnsE w' mo E k → Ent ansM Try.prog 49 w' mo E k st → Kept [mo] w w' → Fr n a' ((d, .tuple #[v0, .int .i64 (st : Nat)]) :: l) → K a' w') : wpOp Try.prog ops Q q (fun a w => Sw w ∧ K a w) a w := by
  obtain ⟨v0, st, w', hrun, r1, r2, r3⟩ := h.entry hd hE
  have hrun' : (Instr.mapEntry 49 (.map (some mo)) (.agg #[.int .i64 k.1, .int .i64 k.2])).run Try.prog w = .ok (.tuple #[v0, goInt st]) w' := hrun
  exact O.val f ho rfl hn hw (by simp [execOp, f.ev hx, f.ev hy, hrun', goInt]) (hSw w' r2 r1) fun a' f' => hK a' w' v0 st r2 r3 r1 f'
theorem AnsE.mapB (h : AnsE w mo E k) : MapB w mo := by
  obtain ⟨E', a, _⟩ := h
  exact IsAss.mapB a
theorem AnsE.ne_blk {g : Nat} {t : TypeId} {cs : Array Value} (h : AnsE w mo E k) (b : Blk w g t cs) : mo ≠ g := fun e => by
  subst e
  exact b.not_map h.mapB
theorem own_keptE {e size c k0 : Nat} {A : Option Addr} {xs : List Value} (h : Own w e size (.slice A k0 c) k0 xs) (hk : Kept [mo] w w') (b : AnsE w mo E k) : Own w' e size (.slice A k0 c) k0 xs := by
  obtain ⟨E', a, _⟩ := b
  exact own_keptM h hk a
theorem NoPk.ans (h : AnsE w mo E k) : NoPk w [mo] := by
  obtain ⟨E', a, _⟩ := h
  exact NoPk.map a
theorem pay_f {t : Tr} (h : (lk t.owed k).getD 0 = 0) : t.payT k = (false, t) := by unfold Tr.payT; rw [if_pos h]
theorem pay_t {t : Tr} (h : (lk t.owed k).getD 0 ≠ 0) : t.payT k = (true, { t with owed := (k, (lk t.owed k).getD 0 - 1) :: strike t.owed k }) := by unfold Tr.payT; rw [if_neg h]
end
set_option maxHeartbeats 1000000 in
theorem pay_any (k : Int × Int) (hd : ansM.dom k) (B g : Nat) (t : Tr) (m : TrM) (w : World) (T : TrIn B w g t m) (hn : m.n ≤ 1000000) : Calls Try.prog 38 #[.pointer (some ⟨g, 0, none⟩), .agg #[.int .i64 k.1, .int .i64 k.2]] w (TrPost B g m w (t.payT k).2 (.bool (t.payT k).1)) := by
 have HK : Kept (m.fp g) w w := Kept.refl _ _
 obtain ⟨e1, e2, e3, e4, BT, RT, RS, RU, MO, MF, nof, tu, tn, un, hlo, PS, PF, hl1, hl2, hl3, hl4, hl5, hcn⟩ := T
 replace BT : Blk w g 53 #[.bool t.clean, .int .i64 t.gr.kind, .bool t.gr.dup, .bool t.gr.retain, .int .i64 t.gr.qos, .int .i64 t.gr.id, .string t.gr.topic, .slice m.gs.pa t.gr.pay.length m.gs.pc, .int .i64 t.gr.level, .string t.gr.client, .bool t.gr.clean, .int .i64 t.gr.keep, .bool t.gr.hasWill, .string t.gr.wt, .slice m.gs.wa t.gr.wp.length m.gs.wc, .int .i64 t.gr.wq, .bool t.gr.wr, .bool t.gr.hasUser, .bool t.gr.hasPass, .string t.gr.user, .slice m.gs.sa t.gr.pass.length m.gs.sc, .bool t.gr.present, .int .i64 t.gr.code, .slice m.gs.ua t.gr.subs.length m.gs.uc, .slice m.gs.ca t.gr.codes.length m.gs.cc, .bool t.greeted, .slice m.At m.told.length m.ct, .bool t.left, .slice m.Au m.subs.length m.cu, .slice m.An m.uns.length m.cn, .map (some m.mo), .map (some m.mf)] := BT
 have hgl := BT.lt
 have hgo := IsAss.ne_blk MO BT
 have hgf := IsAss.ne_blk MF BT
 have hmo := IsAss.lt MO
 have hmf := IsAss.lt MF
 have hT0 := own_lt RT
 have hS0 := own_lt RS
 have hU0 := own_lt RU
 have hc := cnt_ok hcn k
 refine C.enter Try.func38 rfl Try.ntmps38 rfl ?_
 intro a0 f0
 have f1 : Fr 21 a0 [(0, .pointer (some ⟨g, 0, none⟩)), (1, .agg #[.int .i64 k.1, .int .i64 k.2])] := f0
 refine C.sk fun K0 hK0 => ?_
 refine L.box f1 wantedN (by decide) rfl rfl fun a2 w1 g0 N0 f2 => ?_
 have Bg0 := N0.blk
 have kg0 := N0.kept
 have log0 := N0.lo
 have ltg0 := Bg0.lt
 have szw1 := kg0.size
 have frg0 : w.heap.size ≤ g0 := Nat.le_trans HK.size log0
 have neg_g0 : g ≠ g0 := by have := BT.lt; omega
 replace HK := HK.z kg0
 replace BT := BT.z kg0
 replace RT := Own.z RT kg0
 replace RS := Own.z RS kg0
 replace RU := Own.z RU kg0
 replace MO := IsAss.z MO kg0
 replace MF := IsAss.z MF kg0
 replace PS := PS.keptT kg0 (NoPk.nil _)
 replace PF := PF.keptT kg0 (NoPk.nil _)
 clear f0 N0 kg0
 refine L.ag f2 fun a3 f3 => ?_
 refine wpList_nil (hK0 _ _ ?_)
 have f4 := f3.sub (sc 0 (sc 3 sn))
 refine wp_seq_k fun K1 hK1 => ?_
 refine wp_seq_k fun K2 hK2 => ?_
 have hd1 : Kept [] w1 (w1.drewN 1) := (Kept.refl _ _).drewN 1
 refine R.beginT (S := fun W => (Kept (m.fp g) w W) ∧ (Blk W g 53 (trL t m)) ∧ (Row W m.At m.ct m.told) ∧ (Row W m.Au m.cu m.subs) ∧ (Row W m.An m.cn m.uns) ∧ (IsAss ansM Try.prog W m.mo t.owed) ∧ (IsAss outM Try.prog W m.mf m.out) ∧ (PksO W m.subs) ∧ (FlsO W m.out) ∧ (Blk W g0 72 #[.int .i64 k.1, .int .i64 k.2])) (by kernel_rfl) (by kernel_rfl) ⟨HK.z hd1, BT.z hd1, Own.z RT hd1, Own.z RS hd1, Own.z RU hd1, IsAss.z MO hd1, IsAss.z MF hd1, PS.keptT hd1 (NoPk.nil _), PF.keptT hd1 (NoPk.nil _), Bg0.z hd1⟩ fun ht => ?_
 obtain ⟨w2, hww2⟩ : ∃ W, W = w1.drewN 1 := ⟨_, rfl⟩
 rw [← hww2] at hd1 ⊢
 clear f1 a0 f2 a2 f3 hww2
 have szw2 := hd1.size
 replace HK := HK.z hd1
 replace BT := BT.z hd1
 replace RT := Own.z RT hd1
 replace RS := Own.z RS hd1
 replace RU := Own.z RU hd1
 replace MO := IsAss.z MO hd1
 replace MF := IsAss.z MF hd1
 replace PS := PS.keptT hd1 (NoPk.nil _)
 replace PF := PF.keptT hd1 (NoPk.nil _)
 replace Bg0 := Bg0.z hd1
 clear hd1
 refine R.u 0 f4 rfl ht ⟨HK, BT, RT, RS, RU, MO, MF, PS, PF, Bg0⟩ (fun W hW => (E.move f4 rfl)) fun a5 f5 => ?_
 refine R.u 1 f5 rfl ht ⟨HK, BT, RT, RS, RU, MO, MF, PS, PF, Bg0⟩ (fun W hW => (E.nilCheck f5 rfl)) fun a6 f6 => ?_
 refine R.u 2 f6 rfl ht ⟨HK, BT, RT, RS, RU, MO, MF, PS, PF, Bg0⟩ (fun W hW => (E.fa 30 f6 U53 rfl wsz49_tg)) fun a7 f7 => ?_
 refine R.u 3 f7 rfl ht ⟨HK, BT, RT, RS, RU, MO, MF, PS, PF, Bg0⟩ (fun W hW => (E.ld f7 Try.underlying49 (hW.2.1))) fun a8 f8 => ?_
 refine R.u 4 f8 rfl ht ⟨HK, BT, RT, RS, RU, MO, MF, PS, PF, Bg0⟩ (fun W hW => (E.loadB f8 Try.underlying72 rfl wsz72_tg rfl (hW.2.2.2.2.2.2.2.2.2) rfl)) fun a9 f9 => ?_
 refine R.u 5 f9 rfl ht ⟨HK, BT, RT, RS, RU, MO, MF, PS, PF, Bg0⟩ (fun W hW => (E.lookO f9 (AnsE.of hW.2.2.2.2.2.1 k) k hd rfl rfl)) fun a10 f10 => ?_
 refine R.u 6 f10 rfl ht ⟨HK, BT, RT, RS, RU, MO, MF, PS, PF, Bg0⟩ (fun W hW => (E.eq f10)) fun a11 f11 => ?_
 clear f4 a3 f5 a5 f6 a6 f7 a7 f8 a8 f9 a9 f10 a10
 refine R.done (by kernel_rfl) (hK2 _ _ ?_)
 have f12 := f11.sub (sc 0 (sc 3 (sc 11 sn)))
 clear f11
 refine f12.splitD 11 rfl (fun h0 f13 => ?_) (fun h0 f13 => ?_)
 ·have h11 := h0
  refine C.condT f13 rfl ?_
  refine C.sk fun K3 hK3 => ?_
  refine L.ag f13 fun a14 f14 => ?_
  have f15 := f14.sub (sc 4 sn)
  refine wpList_nil (hK3 _ _ (wp_ret ?_)); (try simp only [xt, xb]); refine C.ret f15 rfl rfl ?_
  rw [pay_f h11]
  exact ⟨rfl, m, ⟨e1, e2, e3, e4, BT, RT, RS, RU, MO, MF, nof, tu, tn, un, hlo, PS, PF, hl1, hl2, hl3, hl4, hl5, hcn⟩, by omega, HK, fun x hx => .inl hx, fun x hx => .inl hx⟩
 have h11 := h0
 refine C.condF f13 rfl ?_
 refine wp_skip (hK1 _ _ ?_)
 have f14 := f13.sub (sc 0 (sc 3 sn))
 refine wp_seq_k fun K4 hK4 => ?_
 have ME := AnsE.of MO k
 have hd3 : Kept [] w2 (w2.drewN 1) := (Kept.refl _ _).drewN 1
 refine RB.begin (S := fun W => (Kept (m.fp g) w W) ∧ (Blk W g 53 (trL t m)) ∧ (Row W m.At m.ct m.told) ∧ (Row W m.Au m.cu m.subs) ∧ (Row W m.An m.cn m.uns) ∧ (IsAss outM Try.prog W m.mf m.out) ∧ (PksO W m.subs) ∧ (FlsO W m.out) ∧ (Blk W g0 72 #[.int .i64 k.1, .int .i64 k.2]) ∧ (AnsE W m.mo t.owed k)) 9 (by kernel_rfl) ⟨HK.z hd3, BT.z hd3, Own.z RT hd3, Own.z RS hd3, Own.z RU hd3, IsAss.z MF hd3, PS.keptT hd3 (NoPk.nil _), PF.keptT hd3 (NoPk.nil _), Bg0.z hd3, ME.kept hd3 (by simp)⟩ ?_
 obtain ⟨w3, hww3⟩ : ∃ W, W = w2.drewN 1 := ⟨_, rfl⟩
 rw [← hww3] at hd3 ⊢
 clear f12 f13 hww3
 have szw3 := hd3.size
 replace HK := HK.z hd3
 replace BT := BT.z hd3
 replace RT := Own.z RT hd3
 replace RS := Own.z RS hd3
 replace RU := Own.z RU hd3
 replace MF := IsAss.z MF hd3
 replace PS := PS.keptT hd3 (NoPk.nil _)
 replace PF := PF.keptT hd3 (NoPk.nil _)
 replace Bg0 := Bg0.z hd3
 replace ME := ME.kept hd3 (by simp)
 clear hd3
 refine RB.tk 0 f14 rfl ⟨HK, BT, RT, RS, RU, MF, PS, PF, Bg0, ME⟩ (fun W hW => (E.move f14 rfl)) fun a15 f15 => ?_
 refine RB.tk 1 f15 rfl ⟨HK, BT, RT, RS, RU, MF, PS, PF, Bg0, ME⟩ (fun W hW => (E.nilCheck f15 rfl)) fun a16 f16 => ?_
 refine RB.tk 2 f16 rfl ⟨HK, BT, RT, RS, RU, MF, PS, PF, Bg0, ME⟩ (fun W hW => (E.fa 30 f16 U53 rfl wsz49_tg)) fun a17 f17 => ?_
 refine RB.tk 3 f17 rfl ⟨HK, BT, RT, RS, RU, MF, PS, PF, Bg0, ME⟩ (fun W hW => (E.ld f17 Try.underlying49 (hW.2.1))) fun a18 f18 => ?_
 refine RB.tk 4 f18 rfl ⟨HK, BT, RT, RS, RU, MF, PS, PF, Bg0, ME⟩ (fun W hW => (E.loadB f18 Try.underlying72 rfl wsz72_tg rfl (hW.2.2.2.2.2.2.2.2.1) rfl)) fun a19 f19 => ?_
 refine RB.tk 5 f19 rfl ⟨HK, BT, RT, RS, RU, MF, PS, PF, Bg0, ME⟩ (fun W hW => (E.lookO f19 hW.2.2.2.2.2.2.2.2.2 k hd rfl rfl)) fun a20 f20 => ?_
 refine RB.tk 6 f20 rfl ⟨HK, BT, RT, RS, RU, MF, PS, PF, Bg0, ME⟩ (fun W hW => (E.sub f20 rfl rfl (IntWalk.i64_in _ (by omega)))) fun a21 f21 => ?_
 clear f14 a11 f15 a15 f16 a16 f17 a17 f18 a18 f19 a19 f20 a20
 refine RB.one 7 (by kernel_rfl) (by kernel_rfl) ?_
 refine O.mapEntryO f21 rfl wantedN (by decide) ME hd rfl rfl (by unfold maxLen; omega) (fun w' ma ks => ⟨HK.trans ks (fun x hx hlt => by obtain rfl := List.mem_singleton.1 hx; exact fp_o), BT.kept ks (by simpa using Ne.symm (AnsE.ne_blk ME BT)), own_keptE RT ks ME, own_keptE RS ks ME, own_keptE RU ks ME, IsAss.kept MF ks (by simpa using (Ne.symm nof)), PS.keptT ks (NoPk.ans ME), PF.keptT ks (NoPk.ans ME), Bg0.kept ks (by simpa using Ne.symm (AnsE.ne_blk ME Bg0)), ma⟩) fun a22 w4 v0 stp ma EN ks f22 => ?_
 have szw4 := ks.size
 have HKn := HK.trans ks (fun x hx hlt => by obtain rfl := List.mem_singleton.1 hx; exact fp_o)
 have BTn := BT.kept ks (by simpa using Ne.symm (AnsE.ne_blk ME BT))
 have RTn := own_keptE RT ks ME
 have RSn := own_keptE RS ks ME
 have RUn := own_keptE RU ks ME
 have MFn := IsAss.kept MF ks (by simpa using (Ne.symm nof))
 have PSn := PS.keptT ks (NoPk.ans ME)
 have PFn := PF.keptT ks (NoPk.ans ME)
 have Bg0n := Bg0.kept ks (by simpa using Ne.symm (AnsE.ne_blk ME Bg0))
 have MEn := ma
 clear f21 a21 HK BT RT RS RU MF PS PF Bg0 ME ks ma
 have HK := HKn
 have BT := BTn
 have RT := RTn
 have RS := RSn
 have RU := RUn
 have MF := MFn
 have PS := PSn
 have PF := PFn
 have Bg0 := Bg0n
 have ME := MEn
 clear HKn BTn RTn RSn RUn MFn PSn PFn Bg0n MEn
 refine RB.tk 8 f22 rfl ⟨HK, BT, RT, RS, RU, MF, PS, PF, Bg0, ME⟩ (fun W hW => (E.extract f22 rfl rfl)) fun a23 f23 => ?_
 refine RB.stop (by kernel_rfl) ?_
 refine R.one 9 (by kernel_rfl) ?_
 refine O.entryStoreA f23 rfl wantedN EN ((lk t.owed k).getD 0 - 1) rfl rfl rfl (fun _ _ _ => trivial) fun a24 w5 MN ks f24 => ?_
 have szw5 := ks.size
 have HKn := HK.trans ks (fun x hx hlt => by obtain rfl := List.mem_singleton.1 hx; exact fp_o)
 have BTn := BT.kept ks (by simpa using Ne.symm (AnsE.ne_blk ME BT))
 have RTn := own_keptE RT ks ME
 have RSn := own_keptE RS ks ME
 have RUn := own_keptE RU ks ME
 have MFn := IsAss.kept MF ks (by simpa using (Ne.symm nof))
 have PSn := PS.keptT ks (NoPk.ans ME)
 have PFn := PF.keptT ks (NoPk.ans ME)
 have Bg0n := Bg0.kept ks (by simpa using Ne.symm (AnsE.ne_blk ME Bg0))
 clear f22 a22
 clear f23 a23 ks EN ME HK BT RT RS RU MF PS PF Bg0
 have HK := HKn
 have BT := BTn
 have RT := RTn
 have RS := RSn
 have RU := RUn
 have MF := MFn
 have PS := PSn
 have PF := PFn
 have Bg0 := Bg0n
 clear HKn BTn RTn RSn RUn MFn PSn PFn Bg0n
 have MO := MN
 clear MN
 refine R.done (by kernel_rfl) (hK4 _ _ ?_)
 have f25 := f24.sub sn
 refine C.sk fun K5 hK5 => ?_
 refine L.ag f25 fun a26 f26 => ?_
 have f27 := f26.sub (sc 4 sn)
 refine wpList_nil (hK5 _ _ (wp_ret ?_)); (try simp only [xt, xb]); refine C.ret f27 rfl rfl ?_
 rw [pay_t h11]
 exact ⟨rfl, { m with n := m.n + 1 }, ⟨e1, e2, e3, e4, BT, RT, RS, RU, MO, MF, nof, tu, tn, un, hlo, PS, PF, Nat.le_succ_of_le hl1, Nat.le_succ_of_le hl2, Nat.le_succ_of_le hl3, strike_le hl4 _ _, Nat.le_succ_of_le hl5, cnt_put hcn k (by omega)⟩, Nat.le_refl _, HK, fun x hx => .inl hx, fun x hx => .inl hx⟩
set_option maxHeartbeats 1000000 in
theorem msg_any (p : Pk) (s : Ad) (hid : (Lit.int .i64 p.id).wf = true) (B g : Nat) (t : Tr) (m : TrM) (w : World) (T : TrIn B w g t m) (hn : m.n ≤ 1000000) : Calls Try.prog 29 #[.pointer (some ⟨g, 0, none⟩), .agg (p.cells s)] w (TrPost B g m w (t.msgT p) (.tuple #[])) := by
 have HK : Kept (m.fp g) w w := Kept.refl _ _
 obtain ⟨e1, e2, e3, e4, BT, RT, RS, RU, MO, MF, nof, tu, tn, un, hlo, PS, PF, hl1, hl2, hl3, hl4, hl5, hcn⟩ := T
 replace BT : Blk w g 53 #[.bool t.clean, .int .i64 t.gr.kind, .bool t.gr.dup, .bool t.gr.retain, .int .i64 t.gr.qos, .int .i64 t.gr.id, .string t.gr.topic, .slice m.gs.pa t.gr.pay.length m.gs.pc, .int .i64 t.gr.level, .string t.gr.client, .bool t.gr.clean, .int .i64 t.gr.keep, .bool t.gr.hasWill, .string t.gr.wt, .slice m.gs.wa t.gr.wp.length m.gs.wc, .int .i64 t.gr.wq, .bool t.gr.wr, .bool t.gr.hasUser, .bool t.gr.hasPass, .string t.gr.user, .slice m.gs.sa t.gr.pass.length m.gs.sc, .bool t.gr.present, .int .i64 t.gr.code, .slice m.gs.ua t.gr.subs.length m.gs.uc, .slice m.gs.ca t.gr.codes.length m.gs.cc, .bool t.greeted, .slice m.At m.told.length m.ct, .bool t.left, .slice m.Au m.subs.length m.cu, .slice m.An m.uns.length m.cn, .map (some m.mo), .map (some m.mf)] := BT
 have hgl := BT.lt
 have hgo := IsAss.ne_blk MO BT
 have hgf := IsAss.ne_blk MF BT
 have hmo := IsAss.lt MO
 have hmf := IsAss.lt MF
 have hT0 := own_lt RT
 have hS0 := own_lt RS
 have hU0 := own_lt RU
 refine C.enter Try.func29 rfl Try.ntmps29 rfl ?_
 intro a0 f0
 have f1 : Fr 24 a0 [(0, .pointer (some ⟨g, 0, none⟩)), (1, .agg (p.cells s))] := f0
 refine C.sk fun K0 hK0 => ?_
 refine L.box f1 wantedN (by decide) rfl rfl fun a2 w1 g0 N0 f2 => ?_
 have Bg0 := N0.blk
 have kg0 := N0.kept
 have log0 := N0.lo
 have ltg0 := Bg0.lt
 have szw1 := kg0.size
 have frg0 : w.heap.size ≤ g0 := Nat.le_trans HK.size log0
 have neg_g0 : g ≠ g0 := by have := BT.lt; omega
 replace HK := HK.z kg0
 replace BT := BT.z kg0
 replace RT := Own.z RT kg0
 replace RS := Own.z RS kg0
 replace RU := Own.z RU kg0
 replace MO := IsAss.z MO kg0
 replace MF := IsAss.z MF kg0
 replace PS := PS.keptT kg0 (NoPk.nil _)
 replace PF := PF.keptT kg0 (NoPk.nil _)
 clear f0 N0 kg0
 have f3 := f2.sub (sc 0 (sc 3 sn))
 refine wpList_nil (hK0 _ _ (C.sk fun K1 hK1 => ?_))
 refine L.fa 3 f3 U34 rfl wsz3_tg fun a4 f4 => ?_
 refine L.ld f4 U3 Bg0 fun a5 f5 => ?_
 refine L.va f5 (E.gtr f5 rfl rfl) fun a6 f6 => ?_
 refine wpList_nil (hK1 _ _ ?_)
 have f7 := f6.sub (sc 0 (sc 3 (sc 6 sn)))
 clear f1 a0 f2 f3 a2 f4 a4 f5 a5 f6
 refine f7.splitD 6 rfl (fun h0 f8 => ?_) (fun h0 f8 => ?_)
 ·have hq := h0
  refine C.condT f8 rfl ?_
  replace Bg0 : Blk w1 g0 34 (p.cells s) := Bg0
  have hd : ansM.dom (if p.qos = 1 then 4 else 5, p.id) := ⟨by dsimp only; split <;> decide, hid⟩
  have hc := cnt_ok hcn (if p.qos = 1 then 4 else 5, p.id)
  have ME := AnsE.of MO (if p.qos = 1 then 4 else 5, p.id)
  have hd2 : Kept [] w1 (w1.drewN 1) := (Kept.refl _ _).drewN 1
  refine RB.begin (S := fun W => (Kept (m.fp g) w W) ∧ (Blk W g 53 (trL t m)) ∧ (Row W m.At m.ct m.told) ∧ (Row W m.Au m.cu m.subs) ∧ (Row W m.An m.cn m.uns) ∧ (IsAss outM Try.prog W m.mf m.out) ∧ (PksO W m.subs) ∧ (FlsO W m.out) ∧ (Blk W g0 34 (p.cells s)) ∧ (AnsE W m.mo t.owed (if p.qos = 1 then 4 else 5, p.id))) 17 (by kernel_rfl) ⟨HK.z hd2, BT.z hd2, Own.z RT hd2, Own.z RS hd2, Own.z RU hd2, IsAss.z MF hd2, PS.keptT hd2 (NoPk.nil _), PF.keptT hd2 (NoPk.nil _), Bg0.z hd2, ME.kept hd2 (by simp)⟩ ?_
  obtain ⟨w2, hww2⟩ : ∃ W, W = w1.drewN 1 := ⟨_, rfl⟩
  rw [← hww2] at hd2 ⊢
  clear f7 hww2
  have szw2 := hd2.size
  replace HK := HK.z hd2
  replace BT := BT.z hd2
  replace RT := Own.z RT hd2
  replace RS := Own.z RS hd2
  replace RU := Own.z RU hd2
  replace MF := IsAss.z MF hd2
  replace PS := PS.keptT hd2 (NoPk.nil _)
  replace PF := PF.keptT hd2 (NoPk.nil _)
  replace Bg0 := Bg0.z hd2
  replace ME := ME.kept hd2 (by simp)
  clear hd2
  refine RB.tk 0 f8 rfl ⟨HK, BT, RT, RS, RU, MF, PS, PF, Bg0, ME⟩ (fun W hW => (E.move f8 rfl)) fun a9 f9 => ?_
  refine RB.tk 1 f9 rfl ⟨HK, BT, RT, RS, RU, MF, PS, PF, Bg0, ME⟩ (fun W hW => (E.nilCheck f9 rfl)) fun a10 f10 => ?_
  refine RB.tk 2 f10 rfl ⟨HK, BT, RT, RS, RU, MF, PS, PF, Bg0, ME⟩ (fun W hW => (E.fa 30 f10 U53 rfl wsz49_tg)) fun a11 f11 => ?_
  refine RB.tk 3 f11 rfl ⟨HK, BT, RT, RS, RU, MF, PS, PF, Bg0, ME⟩ (fun W hW => (E.ld f11 Try.underlying49 (hW.2.1))) fun a12 f12 => ?_
  refine RB.tk 5 f12 rfl ⟨HK, BT, RT, RS, RU, MF, PS, PF, Bg0, ME⟩ (fun W hW => (E.fa 3 f12 U34 rfl wsz3_tg)) fun a13 f13 => ?_
  refine RB.tk 6 f13 rfl ⟨HK, BT, RT, RS, RU, MF, PS, PF, Bg0, ME⟩ (fun W hW => (E.ld f13 U3 (hW.2.2.2.2.2.2.2.2.1))) fun a14 f14 => ?_
  refine RB.tk 7 f14 rfl ⟨HK, BT, RT, RS, RU, MF, PS, PF, Bg0, ME⟩ (fun W hW => (E.min f14 rfl rfl)) fun a15 f15 => ?_
  clear f8 a6 f9 a9 f10 a10 f11 a11 f12 a12 f13 a13 f14 a14
  refine RB.tk 10 f15 rfl ⟨HK, BT, RT, RS, RU, MF, PS, PF, Bg0, ME⟩ (fun W hW => (E.fa 4 f15 U34 rfl wsz3_tg)) fun a16 f16 => ?_
  refine RB.tk 11 f16 rfl ⟨HK, BT, RT, RS, RU, MF, PS, PF, Bg0, ME⟩ (fun W hW => (E.ld f16 U3 (hW.2.2.2.2.2.2.2.2.1))) fun a17 f17 => ?_
  refine RB.one 4 (by kernel_rfl) (by kernel_rfl) ?_
  refine O.buildSlice f17 rfl wantedN (by decide) (parts3 f17 rfl rfl rfl) U32 wzi3_tg rfl rfl (wbs32_3_tg _ _ _) (fun _ hk => ⟨HK.z hk, BT.z hk, Own.z RT hk, Own.z RS hk, Own.z RU hk, IsAss.z MF hk, PS.keptT hk (NoPk.nil _), PF.keptT hk (NoPk.nil _), Bg0.z hk, ME.kept hk (by simp)⟩) fun a18 w3 g2 N2 hSn f18 => ?_
  clear f15 a15 f16 a16 hSn
  have Bg2 := N2.blk
  have kg2 := N2.kept
  have log2 := N2.lo
  have ltg2 := Bg2.lt
  have szw3 := kg2.size
  have frg2 : w.heap.size ≤ g2 := Nat.le_trans HK.size log2
  have neg_g2 : g ≠ g2 := by have := BT.lt; omega
  have neg0_g2 : g0 ≠ g2 := by have := Bg0.lt; omega
  replace HK := HK.z kg2
  replace BT := BT.z kg2
  replace RT := Own.z RT kg2
  replace RS := Own.z RS kg2
  replace RU := Own.z RU kg2
  replace MF := IsAss.z MF kg2
  replace PS := PS.keptT kg2 (NoPk.nil _)
  replace PF := PF.keptT kg2 (NoPk.nil _)
  replace Bg0 := Bg0.z kg2
  replace ME := ME.kept kg2 (by simp)
  clear N2 kg2
  refine RB.tk 8 f18 rfl ⟨HK, BT, RT, RS, RU, MF, PS, PF, Bg0, ME⟩ (fun W hW => (E.indexA f18 (by rfl) U32 wsz3_tg rfl rfl (by omega) (by omega))) fun a19 f19 => ?_
  refine RB.one 9 (by kernel_rfl) (by kernel_rfl) ?_
  refine O.val f19 rfl rfl (by decide) wantedN (E.load f19 U3 rfl rfl (msg_cell Bg2 hq)) ⟨HK, BT, RT, RS, RU, MF, PS, PF, Bg0, ME⟩ fun a20 f20 => ?_
  refine RB.tk 12 f20 rfl ⟨HK, BT, RT, RS, RU, MF, PS, PF, Bg0, ME⟩ (fun W hW => (E.build f20 (parts2 f20 rfl rfl) (wbl72_0_1_tg _ _))) fun a21 f21 => ?_
  refine RB.tk 13 f21 rfl ⟨HK, BT, RT, RS, RU, MF, PS, PF, Bg0, ME⟩ (fun W hW => (E.lookO f21 hW.2.2.2.2.2.2.2.2.2 (if p.qos = 1 then 4 else 5, p.id) hd rfl rfl)) fun a22 f22 => ?_
  refine RB.tk 14 f22 rfl ⟨HK, BT, RT, RS, RU, MF, PS, PF, Bg0, ME⟩ (fun W hW => (E.add f22 rfl rfl (IntWalk.i64_in _ (by omega)))) fun a23 f23 => ?_
  refine RB.one 15 (by kernel_rfl) (by kernel_rfl) ?_
  refine O.mapEntryO f23 rfl wantedN (by decide) ME hd rfl rfl (by unfold maxLen; omega) (fun w' ma ks => ⟨HK.trans ks (fun x hx hlt => by obtain rfl := List.mem_singleton.1 hx; exact fp_o), BT.kept ks (by simpa using Ne.symm (AnsE.ne_blk ME BT)), own_keptE RT ks ME, own_keptE RS ks ME, own_keptE RU ks ME, IsAss.kept MF ks (by simpa using (Ne.symm nof)), PS.keptT ks (NoPk.ans ME), PF.keptT ks (NoPk.ans ME), Bg0.kept ks (by simpa using Ne.symm (AnsE.ne_blk ME Bg0)), ma⟩) fun a24 w4 v0 stp ma EN ks f24 => ?_
  have szw4 := ks.size
  have HKn := HK.trans ks (fun x hx hlt => by obtain rfl := List.mem_singleton.1 hx; exact fp_o)
  have BTn := BT.kept ks (by simpa using Ne.symm (AnsE.ne_blk ME BT))
  have RTn := own_keptE RT ks ME
  have RSn := own_keptE RS ks ME
  have RUn := own_keptE RU ks ME
  have MFn := IsAss.kept MF ks (by simpa using (Ne.symm nof))
  have PSn := PS.keptT ks (NoPk.ans ME)
  have PFn := PF.keptT ks (NoPk.ans ME)
  have Bg0n := Bg0.kept ks (by simpa using Ne.symm (AnsE.ne_blk ME Bg0))
  have MEn := ma
  clear f17 a17 f18 a18 f19 a19 f20 a20 f21 a21 f22 a22 f23 a23 HK BT RT RS RU MF PS PF Bg0 ME ks ma
  have HK := HKn
  have BT := BTn
  have RT := RTn
  have RS := RSn
  have RU := RUn
  have MF := MFn
  have PS := PSn
  have PF := PFn
  have Bg0 := Bg0n
  have ME := MEn
  clear HKn BTn RTn RSn RUn MFn PSn PFn Bg0n MEn
  refine RB.tk 16 f24 rfl ⟨HK, BT, RT, RS, RU, MF, PS, PF, Bg0, ME⟩ (fun W hW => (E.extract f24 rfl rfl)) fun a25 f25 => ?_
  refine RB.stop (by kernel_rfl) ?_
  refine R.one 17 (by kernel_rfl) ?_
  refine O.entryStoreA f25 rfl wantedN EN ((lk t.owed (if p.qos = 1 then 4 else 5, p.id)).getD 0 + 1) rfl rfl rfl (fun _ _ _ => trivial) fun a26 w5 MN ks f26 => ?_
  have szw5 := ks.size
  have HKn := HK.trans ks (fun x hx hlt => by obtain rfl := List.mem_singleton.1 hx; exact fp_o)
  have BTn := BT.kept ks (by simpa using Ne.symm (AnsE.ne_blk ME BT))
  have RTn := own_keptE RT ks ME
  have RSn := own_keptE RS ks ME
  have RUn := own_keptE RU ks ME
  have MFn := IsAss.kept MF ks (by simpa using (Ne.symm nof))
  have PSn := PS.keptT ks (NoPk.ans ME)
  have PFn := PF.keptT ks (NoPk.ans ME)
  have Bg0n := Bg0.kept ks (by simpa using Ne.symm (AnsE.ne_blk ME Bg0))
  clear f24 a24
  clear f25 a25 ks EN ME HK BT RT RS RU MF PS PF Bg0
  have HK := HKn
  have BT := BTn
  have RT := RTn
  have RS := RSn
  have RU := RUn
  have MF := MFn
  have PS := PSn
  have PF := PFn
  have Bg0 := Bg0n
  clear HKn BTn RTn RSn RUn MFn PSn PFn Bg0n
  have MO := MN
  clear MN
  refine R.done (by kernel_rfl) (C.end0 (fn := Try.f29) f26 rfl ?_)
  rw [msg_t hq]
  exact ⟨rfl, { m with n := m.n + 1 }, ⟨e1, e2, e3, e4, BT, RT, RS, RU, MO, MF, nof, tu, tn, un, hlo, PS, PF, Nat.le_succ_of_le hl1, Nat.le_succ_of_le hl2, Nat.le_succ_of_le hl3, strike_le hl4 _ _, Nat.le_succ_of_le hl5, cnt_put hcn (if p.qos = 1 then 4 else 5, p.id) (by omega)⟩, Nat.le_refl _, HK, fun x hx => .inl hx, fun x hx => .inl hx⟩
 have hq := h0
 refine C.condF f8 rfl ?_
 refine wp_skip (C.end0 (fn := Try.f29) f8 rfl ?_)
 rw [msg_f hq]
 exact ⟨rfl, m, ⟨e1, e2, e3, e4, BT, RT, RS, RU, MO, MF, nof, tu, tn, un, hlo, PS, PF, hl1, hl2, hl3, hl4, hl5, hcn⟩, by omega, HK, fun x hx => .inl hx, fun x hx => .inl hx⟩
end Go.Proofs.Ytkdeedhjkjffpaa
namespace Go.Proofs.Ytkdeedhjkjffpaa
open Go.RowKit Go.Hub Go.Lib Go.WideShapes Go.ChangeMaps
theorem wsz3_th : (Try.prog.info? 3).map (·.size) = some 1 := by kernel_rfl
theorem wsz4_th : (Try.prog.info? 4).map (·.size) = some 1 := by kernel_rfl
theorem wsz34_th : (Try.prog.info? 34).map (·.size) = some 24 := by kernel_rfl
theorem wsz49_th : (Try.prog.info? 49).map (·.size) = some 1 := by kernel_rfl
theorem wsz50_th : (Try.prog.info? 50).map (·.size) = some 1 := by kernel_rfl
theorem wsz89_th : (Try.prog.info? 89).map (·.size) = some 27 := by kernel_rfl
theorem wbl72_0_1_th (x0 : Int) (x1 : Int) : Try.prog.built 72 [(0, .int .i64 x0), (1, .int .i64 x1)] = some #[.int .i64 x0, .int .i64 x1] := by kernel_rfl
theorem strike_le0 {K V : Type} [DecidableEq K] {E : List (K × V)} {n : Nat} (h : E.length ≤ n) (k : K) : (Go.Hub.strike E k).length ≤ n + 1 := by
  have := List.length_filter_le (fun p => !decide (p.1 = k)) E
  unfold Go.Hub.strike
  omega
theorem lk_get {E : List (Int × Fl)} {k : Int} {fo z : Fl} (h : (lk E k).isSome = true) (e : fo = (lk E k).getD z) : lk E k = some fo := by
  cases hl : lk E k with
  | none => rw [hl] at h; cases h
  | some v => rw [e, hl]; rfl
theorem lk_map {K V W : Type} [DecidableEq K] (g : V → W) (E : List (K × V)) (k : K) : lk (E.map fun p => (p.1, g p.2)) k = (lk E k).map g := by
  induction E with
  | nil => rfl
  | cons p r ih =>
    obtain ⟨a, v⟩ := p
    rw [List.map_cons, lk_cons, lk_cons]
    by_cases h : a = k
    · rw [if_pos h, if_pos h]; rfl
    rw [if_neg h, if_neg h]; exact ih
theorem strike_map {K V W : Type} [DecidableEq K] (g : V → W) (E : List (K × V)) (k : K) : Go.Hub.strike (E.map fun p => (p.1, g p.2)) k = (Go.Hub.strike E k).map fun p => (p.1, g p.2) := by
  unfold Go.Hub.strike
  rw [List.filter_map]
  rfl
theorem out_del {t : Tr} {o : List (Int × Fl)} (e : t.out = o.map fun p => (p.1, p.2.pure)) (k : Int) : Go.Hub.strike t.out k = (Go.Hub.strike o k).map fun p => (p.1, p.2.pure) := by rw [e, strike_map]
theorem out_put {t : Tr} {o : List (Int × Fl)} (e : t.out = o.map fun p => (p.1, p.2.pure)) (k : Int) (f : Fl) : (k, f.pure) :: Go.Hub.strike t.out k = ((k, f) :: Go.Hub.strike o k).map fun p => (p.1, p.2.pure) := by rw [out_del e, List.map_cons]
theorem ack_eq {t : Tr} {p : Pk} {o : List (Int × Fl)} {fo : Fl} (e : t.out = o.map fun p => (p.1, p.2.pure)) (hfo : fo = (lk o p.id).getD Fl.zero) : t.ackT p = if p.kind = 6 then { t with owed := ((7, p.id), (lk t.owed (7, p.id)).getD 0 + 1) :: strike t.owed (7, p.id) } else if (lk o p.id).isSome = false then t else
    if (p.kind = 4 ∧ fo.p.qos = 1) ∨ (p.kind = 7 ∧ fo.gone = true) then { t with out := strike t.out p.id } else if p.kind = 5 ∧ fo.p.qos = 2 then { t with out := (p.id, ({ fo with recd := true } : Fl).pure) :: strike t.out p.id } else t := by
  unfold Tr.ackT
  by_cases h6 : p.kind = 6
  · rw [if_pos h6, if_pos h6]
    rfl
  rw [if_neg h6, if_neg h6]
  cases hl : lk o p.id with
  | none => rw [e, lk_map, hl, if_pos (by rfl)]; rfl
  | some v =>
    rw [hl] at hfo
    subst hfo
    rw [show lk t.out p.id = some fo.pure by rw [e, lk_map, hl]; rfl, if_neg (by simp)]
    rfl
section
variable {P : Program} {w w' : World} {ops : Array Oper} {a : Act} {Q : Exit → Act → World → Prop} {n d : Nat} {l : FL} {dst : Option Nat} {ty : TypeId} {ps : String} {af : Array Edge} {gd : Option (Nat × Bool)} {x y z : Operand} {Sw : World → Prop} {K : Act → World → Prop} {t : TypeId} {i : Nat}
theorem O.storeRS (f : Fr n a l) (hio : ops[i]? = some ⟨none, .store t x y, ty, ps, af, gd⟩) (hw : Region.wanted ⟨none, .store t x y, ty, ps, af, gd⟩ (yielded ops a.tmps) = true) {g : Nat} {e : TypeId} {cs cs' : Array Value} {s : Nat} (hi : (P.info? t).map (·.size) = some s) (hx : evl l x = some (.pointer (some ⟨g, 0, none⟩))) (hy : evl l y = some (.agg cs')) (h1 : cs'.toList.all (·.oneCell') = true)
    (B : Blk w g e cs) (hs : cs'.size = cs.size) (hl : cs'.size = s) (hSw : ∀ w', Kept [g] w w' → Sw w') (hK : ∀ a' w', Fr n a' l → Blk w' g e cs' → Kept [g] w w' → K a' w') : wpOp P ops Q i (fun a w => Sw w ∧ K a w) a w :=
  O.act f hio rfl hw (E.storeR f (hl ▸ hi) hx hy (by simpa using h1) (B.there (by omega))) (hSw _ (setCells_kept w g 0 _)) fun a' f' => hK a' _ f' (setCells_blk B cs' hs) (setCells_kept w g 0 _)
theorem E.lookF {mf : Nat} {EE : List (Int × Fl)} {k : Int} {fo : Fl} (f : Fr n a l) (h : IsAss outM Try.prog w mf EE) (hd : (Lit.int .i64 k).wf = true) (e : fo = (lk EE k).getD Fl.zero) (hx : evl l x = some (.map (some mf))) (hy : evl l y = some (.int .i64 k)) :
    (execOp a.eval ⟨dst, .lookup 50 x y true, ty, ps, af, gd⟩).run Try.prog w = .ok (.value (.tuple #[.agg fo.cells, .bool (lk EE k).isSome])) w := by
  have := E.lookOkA (dst := dst) (ty := ty) (ps := ps) (af := af) (gd := gd) f h outOk U50 zero89 k hd hx hy
  rw [this]
  subst e
  cases h : lk (K := outM.K) (V := outM.V) EE k with
  | none =>
    have h2 : lk EE k = none := h
    rw [h2]
    rfl
  | some v =>
    have h2 : lk EE k = some v := h
    rw [h2]
    rfl
end
set_option maxHeartbeats 4000000 in
theorem ack_any (p : Pk) (s : Ad) (hid : (Lit.int .i64 p.id).wf = true) (B g : Nat) (t : Tr) (m : TrM) (w : World) (T : TrIn B w g t m) (hn : m.n ≤ 1000000) : Calls Try.prog 30 #[.pointer (some ⟨g, 0, none⟩), .agg (p.cells s)] w (TrPost B g m w (t.ackT p) (.tuple #[])) := by
 have HK : Kept (m.fp g) w w := Kept.refl _ _
 obtain ⟨e1, e2, e3, e4, BT, RT, RS, RU, MO, MF, nof, tu, tn, un, hlo, PS, PF, hl1, hl2, hl3, hl4, hl5, hcn⟩ := T
 replace BT : Blk w g 53 #[.bool t.clean, .int .i64 t.gr.kind, .bool t.gr.dup, .bool t.gr.retain, .int .i64 t.gr.qos, .int .i64 t.gr.id, .string t.gr.topic, .slice m.gs.pa t.gr.pay.length m.gs.pc, .int .i64 t.gr.level, .string t.gr.client, .bool t.gr.clean, .int .i64 t.gr.keep, .bool t.gr.hasWill, .string t.gr.wt, .slice m.gs.wa t.gr.wp.length m.gs.wc, .int .i64 t.gr.wq, .bool t.gr.wr, .bool t.gr.hasUser, .bool t.gr.hasPass, .string t.gr.user, .slice m.gs.sa t.gr.pass.length m.gs.sc, .bool t.gr.present, .int .i64 t.gr.code, .slice m.gs.ua t.gr.subs.length m.gs.uc, .slice m.gs.ca t.gr.codes.length m.gs.cc, .bool t.greeted, .slice m.At m.told.length m.ct, .bool t.left, .slice m.Au m.subs.length m.cu, .slice m.An m.uns.length m.cn, .map (some m.mo), .map (some m.mf)] := BT
 have hgl := BT.lt
 have hgo := IsAss.ne_blk MO BT
 have hgf := IsAss.ne_blk MF BT
 have hmo := IsAss.lt MO
 have hmf := IsAss.lt MF
 have hT0 := own_lt RT
 have hS0 := own_lt RS
 have hU0 := own_lt RU
 obtain ⟨fo, hfo⟩ : ∃ fo, fo = (lk m.out p.id).getD Fl.zero := ⟨_, rfl⟩
 refine C.enter Try.func30 rfl Try.ntmps30 rfl ?_
 intro a0 f0
 have f1 : Fr 75 a0 [(0, .pointer (some ⟨g, 0, none⟩)), (1, .agg (p.cells s))] := f0
 refine C.sk fun K0 hK0 => ?_
 refine L.box f1 wantedN (by decide) rfl rfl fun a2 w1 g0 N0 f2 => ?_
 have Bg0 := N0.blk
 have kg0 := N0.kept
 have log0 := N0.lo
 have ltg0 := Bg0.lt
 have szw1 := kg0.size
 have frg0 : w.heap.size ≤ g0 := Nat.le_trans HK.size log0
 have neg_g0 : g ≠ g0 := by have := BT.lt; omega
 replace HK := HK.z kg0
 replace BT := BT.z kg0
 replace RT := Own.z RT kg0
 replace RS := Own.z RS kg0
 replace RU := Own.z RU kg0
 replace MO := IsAss.z MO kg0
 replace MF := IsAss.z MF kg0
 replace PS := PS.keptT kg0 (NoPk.nil _)
 replace PF := PF.keptT kg0 (NoPk.nil _)
 clear f0 N0 kg0
 refine wpList_nil (hK0 _ _ ?_)
 have f3 := f2.sub (sc 0 (sc 3 sn))
 refine wp_seq_k fun K1 hK1 => ?_
 have hd1 : Kept [] w1 (w1.drewN 1) := (Kept.refl _ _).drewN 1
 refine R.beginT (S := fun W => (Kept (m.fp g) w W) ∧ (Blk W g 53 (trL t m)) ∧ (Row W m.At m.ct m.told) ∧ (Row W m.Au m.cu m.subs) ∧ (Row W m.An m.cn m.uns) ∧ (IsAss ansM Try.prog W m.mo t.owed) ∧ (IsAss outM Try.prog W m.mf m.out) ∧ (PksO W m.subs) ∧ (FlsO W m.out) ∧ (Blk W g0 34 (p.cells s))) (by kernel_rfl) (by kernel_rfl) ⟨HK.z hd1, BT.z hd1, Own.z RT hd1, Own.z RS hd1, Own.z RU hd1, IsAss.z MO hd1, IsAss.z MF hd1, PS.keptT hd1 (NoPk.nil _), PF.keptT hd1 (NoPk.nil _), Bg0.z hd1⟩ fun ht => ?_
 obtain ⟨w2, hww2⟩ : ∃ W, W = w1.drewN 1 := ⟨_, rfl⟩
 rw [← hww2] at hd1 ⊢
 clear f1 a0 f2 hww2
 have szw2 := hd1.size
 replace HK := HK.z hd1
 replace BT := BT.z hd1
 replace RT := Own.z RT hd1
 replace RS := Own.z RS hd1
 replace RU := Own.z RU hd1
 replace MO := IsAss.z MO hd1
 replace MF := IsAss.z MF hd1
 replace PS := PS.keptT hd1 (NoPk.nil _)
 replace PF := PF.keptT hd1 (NoPk.nil _)
 replace Bg0 := Bg0.z hd1
 clear hd1
 refine R.u 0 f3 rfl ht ⟨HK, BT, RT, RS, RU, MO, MF, PS, PF, Bg0⟩ (fun W hW => (E.move f3 rfl)) fun a4 f4 => ?_
 refine R.u 1 f4 rfl ht ⟨HK, BT, RT, RS, RU, MO, MF, PS, PF, Bg0⟩ (fun W hW => (E.nilCheck f4 rfl)) fun a5 f5 => ?_
 refine R.u 2 f5 rfl ht ⟨HK, BT, RT, RS, RU, MO, MF, PS, PF, Bg0⟩ (fun W hW => (E.fa 31 f5 U53 rfl wsz50_th)) fun a6 f6 => ?_
 refine R.u 3 f6 rfl ht ⟨HK, BT, RT, RS, RU, MO, MF, PS, PF, Bg0⟩ (fun W hW => (E.ld f6 U50 (hW.2.1))) fun a7 f7 => ?_
 refine R.u 4 f7 rfl ht ⟨HK, BT, RT, RS, RU, MO, MF, PS, PF, Bg0⟩ (fun W hW => (E.fa 4 f7 U34 rfl wsz3_th)) fun a8 f8 => ?_
 refine R.u 5 f8 rfl ht ⟨HK, BT, RT, RS, RU, MO, MF, PS, PF, Bg0⟩ (fun W hW => (E.ld f8 U3 (hW.2.2.2.2.2.2.2.2.2))) fun a9 f9 => ?_
 refine R.u 6 f9 rfl ht ⟨HK, BT, RT, RS, RU, MO, MF, PS, PF, Bg0⟩ (fun W hW => (E.lookF f9 hW.2.2.2.2.2.2.1 hid hfo rfl rfl)) fun a10 f10 => ?_
 clear f3 a2 f4 a4 f5 a5 f6 a6 f7 a7 f8 a8 f9 a9
 refine R.u 7 f10 rfl ht ⟨HK, BT, RT, RS, RU, MO, MF, PS, PF, Bg0⟩ (fun W hW => (E.move f10 rfl)) fun a11 f11 => ?_
 refine R.u 8 f11 rfl ht ⟨HK, BT, RT, RS, RU, MO, MF, PS, PF, Bg0⟩ (fun W hW => (E.extract f11 rfl rfl)) fun a12 f12 => ?_
 refine R.u 9 f12 rfl ht ⟨HK, BT, RT, RS, RU, MO, MF, PS, PF, Bg0⟩ (fun W hW => (E.extract f12 rfl rfl)) fun a13 f13 => ?_
 refine R.one 10 (by kernel_rfl) ?_
 refine O.alloc f13 rfl wantedN (by decide) (z := z89) (fun _ => by kernel_rfl) rfl (fun _ hk => ⟨HK.z hk, BT.z hk, Own.z RT hk, Own.z RS hk, Own.z RU hk, IsAss.z MO hk, IsAss.z MF hk, PS.keptT hk (NoPk.nil _), PF.keptT hk (NoPk.nil _), Bg0.z hk⟩) fun a14 w3 g2 N2 hSn f14 => ?_
 clear f10 a10 f11 a11 f12 a12 hSn
 have Bg2 := N2.blk
 have kg2 := N2.kept
 have log2 := N2.lo
 have ltg2 := Bg2.lt
 have szw3 := kg2.size
 have frg2 : w.heap.size ≤ g2 := Nat.le_trans HK.size log2
 have neg_g2 : g ≠ g2 := by have := BT.lt; omega
 have neg0_g2 : g0 ≠ g2 := by have := Bg0.lt; omega
 replace HK := HK.z kg2
 replace BT := BT.z kg2
 replace RT := Own.z RT kg2
 replace RS := Own.z RS kg2
 replace RU := Own.z RU kg2
 replace MO := IsAss.z MO kg2
 replace MF := IsAss.z MF kg2
 replace PS := PS.keptT kg2 (NoPk.nil _)
 replace PF := PF.keptT kg2 (NoPk.nil _)
 replace Bg0 := Bg0.z kg2
 clear N2 kg2
 refine R.one 11 (by kernel_rfl) ?_
 refine O.storeRS f14 rfl wantedN wsz89_th rfl rfl rfl Bg2 rfl rfl (fun w' ks => ⟨HK.trans ks (fun x hx hlt => by obtain rfl := List.mem_singleton.1 hx; (exfalso; omega)), BT.kept ks (by simp; omega), own_keptF RT ks hT0 frg2, own_keptF RS ks hS0 frg2, own_keptF RU ks hU0 frg2, IsAss.kept MO ks (by simpa using IsAss.ne_blk MO Bg2), IsAss.kept MF ks (by simpa using IsAss.ne_blk MF Bg2), PS.keptT ks (NoPk.blk Bg2 (by decide)), PF.keptT ks (NoPk.blk Bg2 (by decide)), Bg0.kept ks (by simp; omega)⟩) fun a15 w4 f15 NB ks => ?_
 have szw4 := ks.size
 have HKn := HK.trans ks (fun x hx hlt => by obtain rfl := List.mem_singleton.1 hx; (exfalso; omega))
 have BTn := BT.kept ks (by simp; omega)
 have RTn := own_keptF RT ks hT0 frg2
 have RSn := own_keptF RS ks hS0 frg2
 have RUn := own_keptF RU ks hU0 frg2
 have MOn := IsAss.kept MO ks (by simpa using IsAss.ne_blk MO Bg2)
 have MFn := IsAss.kept MF ks (by simpa using IsAss.ne_blk MF Bg2)
 have PSn := PS.keptT ks (NoPk.blk Bg2 (by decide))
 have PFn := PF.keptT ks (NoPk.blk Bg2 (by decide))
 have Bg0n := Bg0.kept ks (by simp; omega)
 replace Bg2 := NB
 clear f13 a13 f14 a14 NB ks HK BT RT RS RU MO MF PS PF Bg0
 have HK := HKn
 have BT := BTn
 have RT := RTn
 have RS := RSn
 have RU := RUn
 have MO := MOn
 have MF := MFn
 have PS := PSn
 have PF := PFn
 have Bg0 := Bg0n
 clear HKn BTn RTn RSn RUn MOn MFn PSn PFn Bg0n
 refine R.u 12 f15 rfl ht ⟨HK, BT, RT, RS, RU, MO, MF, PS, PF, Bg0⟩ (fun W hW => (E.assign f15 rfl)) fun a16 f16 => ?_
 refine R.done (by kernel_rfl) (hK1 _ _ ?_)
 have f17 := f16.sub (sc 0 (sc 3 (sc 4 (sc 5 sn))))
 refine wp_block ?_
 refine wp_seq_k fun K2 hK2 => ?_
 replace Bg2 : Blk w4 g2 89 fo.cells := Bg2
 refine C.region ?_
 refine L.fa 0 f17 U34 rfl wsz3_th fun a18 f18 => ?_
 refine L.ld f18 U3 Bg0 fun a19 f19 => ?_
 refine L.va f19 (E.eq f19) fun a20 f20 => ?_
 refine L.ag f20 fun a21 f21 => ?_
 refine wpList_nil (hK2 _ _ ?_)
 have f22 := f21.sub (sc 0 (sc 3 (sc 4 (sc 5 (sc 16 sn)))))
 clear f15 a15 f16 f17 a16 f18 a18 f19 a19 f20 a20 f21
 refine f22.splitD 16 rfl (fun h0 f23 => ?_) (fun h0 f23 => ?_)
 ·have hs16 := h0
  refine C.condT f23 rfl ?_
  have hd : ansM.dom (7, p.id) := ⟨(by decide : (Lit.int .i64 7).wf = true), hid⟩
  have hc := cnt_ok hcn (7, p.id)
  have ME := AnsE.of MO (7, p.id)
  have hd3 : Kept [] w4 (w4.drewN 1) := (Kept.refl _ _).drewN 1
  refine RB.begin (S := fun W => (Kept (m.fp g) w W) ∧ (Blk W g 53 (trL t m)) ∧ (Row W m.At m.ct m.told) ∧ (Row W m.Au m.cu m.subs) ∧ (Row W m.An m.cn m.uns) ∧ (IsAss outM Try.prog W m.mf m.out) ∧ (PksO W m.subs) ∧ (FlsO W m.out) ∧ (Blk W g0 34 (p.cells s)) ∧ (Blk W g2 89 fo.cells) ∧ (AnsE W m.mo t.owed (7, p.id))) 11 (by kernel_rfl) ⟨HK.z hd3, BT.z hd3, Own.z RT hd3, Own.z RS hd3, Own.z RU hd3, IsAss.z MF hd3, PS.keptT hd3 (NoPk.nil _), PF.keptT hd3 (NoPk.nil _), Bg0.z hd3, Bg2.z hd3, ME.kept hd3 (by simp)⟩ ?_
  obtain ⟨w5, hww5⟩ : ∃ W, W = w4.drewN 1 := ⟨_, rfl⟩
  rw [← hww5] at hd3 ⊢
  clear f22 hww5
  have szw5 := hd3.size
  replace HK := HK.z hd3
  replace BT := BT.z hd3
  replace RT := Own.z RT hd3
  replace RS := Own.z RS hd3
  replace RU := Own.z RU hd3
  replace MF := IsAss.z MF hd3
  replace PS := PS.keptT hd3 (NoPk.nil _)
  replace PF := PF.keptT hd3 (NoPk.nil _)
  replace Bg0 := Bg0.z hd3
  replace Bg2 := Bg2.z hd3
  replace ME := ME.kept hd3 (by simp)
  clear hd3
  refine RB.tk 0 f23 rfl ⟨HK, BT, RT, RS, RU, MF, PS, PF, Bg0, Bg2, ME⟩ (fun W hW => (E.move f23 rfl)) fun a24 f24 => ?_
  refine RB.tk 1 f24 rfl ⟨HK, BT, RT, RS, RU, MF, PS, PF, Bg0, Bg2, ME⟩ (fun W hW => (E.nilCheck f24 rfl)) fun a25 f25 => ?_
  refine RB.tk 2 f25 rfl ⟨HK, BT, RT, RS, RU, MF, PS, PF, Bg0, Bg2, ME⟩ (fun W hW => (E.fa 30 f25 U53 rfl wsz49_th)) fun a26 f26 => ?_
  refine RB.tk 3 f26 rfl ⟨HK, BT, RT, RS, RU, MF, PS, PF, Bg0, Bg2, ME⟩ (fun W hW => (E.ld f26 Try.underlying49 (hW.2.1))) fun a27 f27 => ?_
  refine RB.tk 4 f27 rfl ⟨HK, BT, RT, RS, RU, MF, PS, PF, Bg0, Bg2, ME⟩ (fun W hW => (E.fa 4 f27 U34 rfl wsz3_th)) fun a28 f28 => ?_
  refine RB.tk 5 f28 rfl ⟨HK, BT, RT, RS, RU, MF, PS, PF, Bg0, Bg2, ME⟩ (fun W hW => (E.ld f28 U3 (hW.2.2.2.2.2.2.2.2.1))) fun a29 f29 => ?_
  refine RB.tk 6 f29 rfl ⟨HK, BT, RT, RS, RU, MF, PS, PF, Bg0, Bg2, ME⟩ (fun W hW => (E.build f29 (parts2 f29 rfl rfl) (wbl72_0_1_th _ _))) fun a30 f30 => ?_
  clear f23 a21 f24 a24 f25 a25 f26 a26 f27 a27 f28 a28 f29 a29
  refine RB.tk 7 f30 rfl ⟨HK, BT, RT, RS, RU, MF, PS, PF, Bg0, Bg2, ME⟩ (fun W hW => (E.lookO f30 hW.2.2.2.2.2.2.2.2.2.2 (7, p.id) hd rfl rfl)) fun a31 f31 => ?_
  refine RB.tk 8 f31 rfl ⟨HK, BT, RT, RS, RU, MF, PS, PF, Bg0, Bg2, ME⟩ (fun W hW => (E.add f31 rfl rfl (IntWalk.i64_in _ (by omega)))) fun a32 f32 => ?_
  refine RB.one 9 (by kernel_rfl) (by kernel_rfl) ?_
  refine O.mapEntryO f32 rfl wantedN (by decide) ME hd rfl rfl (by unfold maxLen; omega) (fun w' ma ks => ⟨HK.trans ks (fun x hx hlt => by obtain rfl := List.mem_singleton.1 hx; exact fp_o), BT.kept ks (by simpa using Ne.symm (AnsE.ne_blk ME BT)), own_keptE RT ks ME, own_keptE RS ks ME, own_keptE RU ks ME, IsAss.kept MF ks (by simpa using (Ne.symm nof)), PS.keptT ks (NoPk.ans ME), PF.keptT ks (NoPk.ans ME), Bg0.kept ks (by simpa using Ne.symm (AnsE.ne_blk ME Bg0)), Bg2.kept ks (by simpa using Ne.symm (AnsE.ne_blk ME Bg2)), ma⟩) fun a33 w6 v0 stp ma EN ks f33 => ?_
  have szw6 := ks.size
  have HKn := HK.trans ks (fun x hx hlt => by obtain rfl := List.mem_singleton.1 hx; exact fp_o)
  have BTn := BT.kept ks (by simpa using Ne.symm (AnsE.ne_blk ME BT))
  have RTn := own_keptE RT ks ME
  have RSn := own_keptE RS ks ME
  have RUn := own_keptE RU ks ME
  have MFn := IsAss.kept MF ks (by simpa using (Ne.symm nof))
  have PSn := PS.keptT ks (NoPk.ans ME)
  have PFn := PF.keptT ks (NoPk.ans ME)
  have Bg0n := Bg0.kept ks (by simpa using Ne.symm (AnsE.ne_blk ME Bg0))
  have Bg2n := Bg2.kept ks (by simpa using Ne.symm (AnsE.ne_blk ME Bg2))
  have MEn := ma
  clear f30 a30 f31 a31 f32 a32 HK BT RT RS RU MF PS PF Bg0 Bg2 ME ks ma
  have HK := HKn
  have BT := BTn
  have RT := RTn
  have RS := RSn
  have RU := RUn
  have MF := MFn
  have PS := PSn
  have PF := PFn
  have Bg0 := Bg0n
  have Bg2 := Bg2n
  have ME := MEn
  clear HKn BTn RTn RSn RUn MFn PSn PFn Bg0n Bg2n MEn
  refine RB.tk 10 f33 rfl ⟨HK, BT, RT, RS, RU, MF, PS, PF, Bg0, Bg2, ME⟩ (fun W hW => (E.extract f33 rfl rfl)) fun a34 f34 => ?_
  refine RB.stop (by kernel_rfl) ?_
  refine R.one 11 (by kernel_rfl) ?_
  refine O.entryStoreA f34 rfl wantedN EN ((lk t.owed (7, p.id)).getD 0 + 1) rfl rfl rfl (fun _ _ _ => trivial) fun a35 w7 MN ks f35 => ?_
  have szw7 := ks.size
  have HKn := HK.trans ks (fun x hx hlt => by obtain rfl := List.mem_singleton.1 hx; exact fp_o)
  have BTn := BT.kept ks (by simpa using Ne.symm (AnsE.ne_blk ME BT))
  have RTn := own_keptE RT ks ME
  have RSn := own_keptE RS ks ME
  have RUn := own_keptE RU ks ME
  have MFn := IsAss.kept MF ks (by simpa using (Ne.symm nof))
  have PSn := PS.keptT ks (NoPk.ans ME)
  have PFn := PF.keptT ks (NoPk.ans ME)
  have Bg0n := Bg0.kept ks (by simpa using Ne.symm (AnsE.ne_blk ME Bg0))
  have Bg2n := Bg2.kept ks (by simpa using Ne.symm (AnsE.ne_blk ME Bg2))
  clear f33 a33
  clear f34 a34 ks EN ME HK BT RT RS RU MF PS PF Bg0 Bg2
  have HK := HKn
  have BT := BTn
  have RT := RTn
  have RS := RSn
  have RU := RUn
  have MF := MFn
  have PS := PSn
  have PF := PFn
  have Bg0 := Bg0n
  have Bg2 := Bg2n
  clear HKn BTn RTn RSn RUn MFn PSn PFn Bg0n Bg2n
  have MO := MN
  clear MN
  refine R.done (by kernel_rfl) (C.end0 (fn := Try.f30) f35 rfl ?_)
  rw [ack_eq e4 hfo, if_pos hs16]
  exact ⟨rfl, { m with n := m.n + 1 }, ⟨e1, e2, e3, e4, BT, RT, RS, RU, MO, MF, nof, tu, tn, un, hlo, PS, PF, Nat.le_succ_of_le hl1, Nat.le_succ_of_le hl2, Nat.le_succ_of_le hl3, strike_le hl4 _ _, Nat.le_succ_of_le hl5, cnt_put hcn (7, p.id) (by omega)⟩, Nat.le_refl _, HK, fun x hx => .inl hx, fun x hx => .inl hx⟩
 have hs16 := h0
 refine C.condF f23 rfl ?_
 refine C.sk fun K3 hK3 => ?_
 refine L.mv f23 fun a24 f24 => ?_
 refine L.va f24 (E.not f24 rfl) fun a25 f25 => ?_
 refine L.ag f25 fun a26 f26 => ?_
 refine wpList_nil (hK3 _ _ ?_)
 have f27 := f26.sub (sc 0 (sc 3 (sc 4 (sc 31 sn))))
 clear f22 f23 a21 f24 a24 f25 a25 f26
 refine f27.splitNB 31 rfl (fun h1 f28 => ?_) (fun h1 f28 => ?_)
 ·have hs31 := h1
  refine C.condT f28 rfl ?_
  refine wp_skip (C.end0 (fn := Try.f30) f28 rfl ?_)
  rw [ack_eq e4 hfo, if_neg hs16, if_pos hs31]
  exact ⟨rfl, m, ⟨e1, e2, e3, e4, BT, RT, RS, RU, MO, MF, nof, tu, tn, un, hlo, PS, PF, hl1, hl2, hl3, hl4, hl5, hcn⟩, by omega, HK, fun x hx => .inl hx, fun x hx => .inl hx⟩
 have hs31 := h1
 refine C.condF f28 rfl ?_
 refine wp_seq_k fun K4 hK4 => ?_
 refine C.sk fun K5 hK5 => ?_
 refine L.fa 0 f28 U34 rfl wsz3_th fun a29 f29 => ?_
 refine L.ld f29 U3 Bg0 fun a30 f30 => ?_
 refine L.va f30 (E.eq f30) fun a31 f31 => ?_
 refine L.mv f31 fun a32 f32 => ?_
 clear f27 f28 a26 f29 a29 f30 a30 f31 a31
 refine f32.splitD 38 rfl (fun h2 f33 => ?_) (fun h2 f33 => ?_)
 ·refine L.fa 0 f33 U89 rfl wsz34_th (hw := (f33.yes rfl rfl)) fun a34 f34 => ?_
  refine L.fa 3 f34 U34 rfl wsz3_th (hw := (f34.yes rfl rfl)) fun a35 f35 => ?_
  refine L.ld f35 U3 Bg2 (hw := (f35.yes rfl rfl)) fun a36 f36 => ?_
  refine L.va f36 (E.eq f36) (hw := (f36.yes rfl rfl)) fun a37 f37 => ?_
  refine L.va f37 (E.pickT f37 rfl rfl) fun a38 f38 => ?_
  refine L.ag f38 fun a39 f39 => ?_
  refine wpList_nil (hK5 _ _ ?_)
  have f40 := f39.sub (sc 0 (sc 3 (sc 4 (sc 34 sn))))
  clear f32 f33 a32 f34 a34 f35 a35 f36 a36 f37 a37 f38 a38 f39
  refine f40.splitD 34 rfl (fun h3 f41 => ?_) (fun h3 f41 => ?_)
  ·refine C.condT f41 rfl ?_
   refine wp_skip (hK4 _ _ ?_)
   have f42 := f41.sub (sc 0 (sc 3 (sc 4 (sc 34 sn))))
   refine C.condT f42 rfl ?_
   have hd7 : Kept [] w4 (w4.drewN 1) := (Kept.refl _ _).drewN 1
   refine R.beginT (S := fun _ => True) (by kernel_rfl) (by kernel_rfl) trivial fun ht => ?_
   obtain ⟨w5, hww5⟩ : ∃ W, W = w4.drewN 1 := ⟨_, rfl⟩
   rw [← hww5] at hd7 ⊢
   clear f40 f41 hww5
   have szw5 := hd7.size
   replace HK := HK.z hd7
   replace BT := BT.z hd7
   replace RT := Own.z RT hd7
   replace RS := Own.z RS hd7
   replace RU := Own.z RU hd7
   replace MO := IsAss.z MO hd7
   replace MF := IsAss.z MF hd7
   replace PS := PS.keptT hd7 (NoPk.nil _)
   replace PF := PF.keptT hd7 (NoPk.nil _)
   replace Bg0 := Bg0.z hd7
   replace Bg2 := Bg2.z hd7
   clear hd7
   refine R.u 0 f42 rfl ht trivial (fun W hW => (E.move f42 rfl)) fun a43 f43 => ?_
   refine R.u 1 f43 rfl ht trivial (fun W hW => (E.nilCheck f43 rfl)) fun a44 f44 => ?_
   refine R.u 2 f44 rfl ht trivial (fun W hW => (E.fa 31 f44 U53 rfl wsz50_th)) fun a45 f45 => ?_
   refine R.u 4 f45 rfl ht trivial (fun W hW => (E.fa 4 f45 U34 rfl wsz3_th)) fun a46 f46 => ?_
   clear f42 a39 f43 a43 f44 a44 f45 a45
   refine R.two 3 5 (by kernel_rfl) ?_ ?_
   ·skip
    refine O.val f46 rfl rfl (by decide) wantedN (by exact E.ld f46 U50 (BT)) trivial fun a47 f47 => ?_
    refine R.one 5 (by kernel_rfl) ?_
    refine O.val f47 rfl rfl (by decide) wantedN (by exact E.ld f47 U3 (Bg0)) trivial fun a48 f48 => ?_
    refine R.one 6 (by kernel_rfl) ?_
    refine O.mapDropA f48 rfl wantedN MF outOk U50 rfl (p.id) hid rfl rfl (fun _ _ _ => trivial) fun a49 w6 MN ks f49 => ?_
    have szw6 := ks.size
    have HKn := HK.trans ks (fun x hx hlt => by obtain rfl := List.mem_singleton.1 hx; exact fp_f)
    have BTn := BT.kept ks (by simpa using Ne.symm (IsAss.ne_blk MF BT))
    have RTn := own_keptM RT ks MF
    have RSn := own_keptM RS ks MF
    have RUn := own_keptM RU ks MF
    have MOn := IsAss.kept MO ks (by simpa using nof)
    have PSn := PS.keptT ks (NoPk.map MF)
    have PFn := PF.keptT ks (NoPk.map MF)
    have Bg0n := Bg0.kept ks (by simpa using Ne.symm (IsAss.ne_blk MF Bg0))
    have Bg2n := Bg2.kept ks (by simpa using Ne.symm (IsAss.ne_blk MF Bg2))
    clear f46 a46 f47 a47 f48 a48 ks MF HK BT RT RS RU MO PS PF Bg0 Bg2
    have HK := HKn
    have BT := BTn
    have RT := RTn
    have RS := RSn
    have RU := RUn
    have MO := MOn
    have PS := PSn
    have PF := PFn
    have Bg0 := Bg0n
    have Bg2 := Bg2n
    clear HKn BTn RTn RSn RUn MOn PSn PFn Bg0n Bg2n
    have MF := MN
    clear MN
    refine R.done (by kernel_rfl) (C.end0 (fn := Try.f30) f49 rfl ?_)
    have hsome := lk_get (show (lk m.out p.id).isSome = true by assumption) hfo
    rw [ack_eq e4 hfo, if_neg hs16, if_neg (fun e => Bool.noConfusion (e.symm.trans (show (lk m.out p.id).isSome = true by assumption))), if_pos (by exact .inl ⟨by assumption, by assumption⟩)]
    exact ⟨rfl, { m with out := strike m.out p.id, n := m.n + 1 }, ⟨e1, e2, e3, out_del e4 _, BT, RT, RS, RU, MO, MF, nof, tu, tn, un, hlo, PS, PF.strike _, Nat.le_succ_of_le hl1, Nat.le_succ_of_le hl2, Nat.le_succ_of_le hl3, Nat.le_succ_of_le hl4, strike_le0 hl5 _, cnt_up hcn⟩, Nat.le_refl _, HK, fun x hx => .inl hx, fun x hx => .inl hx⟩
   skip
   refine O.val f46 rfl rfl (by decide) wantedN (by exact E.ld f46 U3 (Bg0)) trivial fun a47 f47 => ?_
   refine R.one 3 (by kernel_rfl) ?_
   refine O.val f47 rfl rfl (by decide) wantedN (by exact E.ld f47 U50 (BT)) trivial fun a48 f48 => ?_
   refine R.one 6 (by kernel_rfl) ?_
   refine O.mapDropA f48 rfl wantedN MF outOk U50 rfl (p.id) hid rfl rfl (fun _ _ _ => trivial) fun a49 w6 MN ks f49 => ?_
   have szw6 := ks.size
   have HKn := HK.trans ks (fun x hx hlt => by obtain rfl := List.mem_singleton.1 hx; exact fp_f)
   have BTn := BT.kept ks (by simpa using Ne.symm (IsAss.ne_blk MF BT))
   have RTn := own_keptM RT ks MF
   have RSn := own_keptM RS ks MF
   have RUn := own_keptM RU ks MF
   have MOn := IsAss.kept MO ks (by simpa using nof)
   have PSn := PS.keptT ks (NoPk.map MF)
   have PFn := PF.keptT ks (NoPk.map MF)
   have Bg0n := Bg0.kept ks (by simpa using Ne.symm (IsAss.ne_blk MF Bg0))
   have Bg2n := Bg2.kept ks (by simpa using Ne.symm (IsAss.ne_blk MF Bg2))
   clear f46 a46 f47 a47 f48 a48 ks MF HK BT RT RS RU MO PS PF Bg0 Bg2
   have HK := HKn
   have BT := BTn
   have RT := RTn
   have RS := RSn
   have RU := RUn
   have MO := MOn
   have PS := PSn
   have PF := PFn
   have Bg0 := Bg0n
   have Bg2 := Bg2n
   clear HKn BTn RTn RSn RUn MOn PSn PFn Bg0n Bg2n
   have MF := MN
   clear MN
   refine R.done (by kernel_rfl) (C.end0 (fn := Try.f30) f49 rfl ?_)
   have hsome := lk_get (show (lk m.out p.id).isSome = true by assumption) hfo
   rw [ack_eq e4 hfo, if_neg hs16, if_neg (fun e => Bool.noConfusion (e.symm.trans (show (lk m.out p.id).isSome = true by assumption))), if_pos (by exact .inl ⟨by assumption, by assumption⟩)]
   exact ⟨rfl, { m with out := strike m.out p.id, n := m.n + 1 }, ⟨e1, e2, e3, out_del e4 _, BT, RT, RS, RU, MO, MF, nof, tu, tn, un, hlo, PS, PF.strike _, Nat.le_succ_of_le hl1, Nat.le_succ_of_le hl2, Nat.le_succ_of_le hl3, Nat.le_succ_of_le hl4, strike_le0 hl5 _, cnt_up hcn⟩, Nat.le_refl _, HK, fun x hx => .inl hx, fun x hx => .inl hx⟩
  refine C.condF f41 rfl ?_
  refine C.region ?_
  refine L.fa 0 f41 U34 rfl wsz3_th fun a42 f42 => ?_
  refine L.ld f42 U3 Bg0 fun a43 f43 => ?_
  refine L.va f43 (E.eq f43) fun a44 f44 => ?_
  refine L.mv f44 fun a45 f45 => ?_
  clear f40 f41 a39 f42 a42 f43 a43 f44 a44
  refine f45.splitD 47 rfl (fun h4 f46 => ?_) (fun h4 f46 => ?_)
  ·refine L.fa 26 f46 U89 rfl wsz4_th (hw := (f46.yes rfl rfl)) fun a47 f47 => ?_
   refine L.ld f47 U4 Bg2 (hw := (f47.yes rfl rfl)) fun a48 f48 => ?_
   refine L.va f48 (E.pickT f48 rfl rfl) fun a49 f49 => ?_
   refine L.ag f49 fun a50 f50 => ?_
   refine wpList_nil (hK4 _ _ ?_)
   have f51 := f50.sub (sc 0 (sc 3 (sc 4 (sc 34 sn))))
   clear f45 f46 a45 f47 a47 f48 a48 f49 a49 f50
   refine f51.split 34 rfl (fun h5 f52 => ?_) (fun h5 f52 => ?_)
   ·refine C.condT f52 rfl ?_
    have hd7 : Kept [] w4 (w4.drewN 1) := (Kept.refl _ _).drewN 1
    refine R.beginT (S := fun _ => True) (by kernel_rfl) (by kernel_rfl) trivial fun ht => ?_
    obtain ⟨w5, hww5⟩ : ∃ W, W = w4.drewN 1 := ⟨_, rfl⟩
    rw [← hww5] at hd7 ⊢
    clear f51 hww5
    have szw5 := hd7.size
    replace HK := HK.z hd7
    replace BT := BT.z hd7
    replace RT := Own.z RT hd7
    replace RS := Own.z RS hd7
    replace RU := Own.z RU hd7
    replace MO := IsAss.z MO hd7
    replace MF := IsAss.z MF hd7
    replace PS := PS.keptT hd7 (NoPk.nil _)
    replace PF := PF.keptT hd7 (NoPk.nil _)
    replace Bg0 := Bg0.z hd7
    replace Bg2 := Bg2.z hd7
    clear hd7
    refine R.u 0 f52 rfl ht trivial (fun W hW => (E.move f52 rfl)) fun a53 f53 => ?_
    refine R.u 1 f53 rfl ht trivial (fun W hW => (E.nilCheck f53 rfl)) fun a54 f54 => ?_
    refine R.u 2 f54 rfl ht trivial (fun W hW => (E.fa 31 f54 U53 rfl wsz50_th)) fun a55 f55 => ?_
    refine R.u 4 f55 rfl ht trivial (fun W hW => (E.fa 4 f55 U34 rfl wsz3_th)) fun a56 f56 => ?_
    clear f52 a50 f53 a53 f54 a54 f55 a55
    refine R.two 3 5 (by kernel_rfl) ?_ ?_
    ·skip
     refine O.val f56 rfl rfl (by decide) wantedN (by exact E.ld f56 U50 (BT)) trivial fun a57 f57 => ?_
     refine R.one 5 (by kernel_rfl) ?_
     refine O.val f57 rfl rfl (by decide) wantedN (by exact E.ld f57 U3 (Bg0)) trivial fun a58 f58 => ?_
     refine R.one 6 (by kernel_rfl) ?_
     refine O.mapDropA f58 rfl wantedN MF outOk U50 rfl (p.id) hid rfl rfl (fun _ _ _ => trivial) fun a59 w6 MN ks f59 => ?_
     have szw6 := ks.size
     have HKn := HK.trans ks (fun x hx hlt => by obtain rfl := List.mem_singleton.1 hx; exact fp_f)
     have BTn := BT.kept ks (by simpa using Ne.symm (IsAss.ne_blk MF BT))
     have RTn := own_keptM RT ks MF
     have RSn := own_keptM RS ks MF
     have RUn := own_keptM RU ks MF
     have MOn := IsAss.kept MO ks (by simpa using nof)
     have PSn := PS.keptT ks (NoPk.map MF)
     have PFn := PF.keptT ks (NoPk.map MF)
     have Bg0n := Bg0.kept ks (by simpa using Ne.symm (IsAss.ne_blk MF Bg0))
     have Bg2n := Bg2.kept ks (by simpa using Ne.symm (IsAss.ne_blk MF Bg2))
     clear f56 a56 f57 a57 f58 a58 ks MF HK BT RT RS RU MO PS PF Bg0 Bg2
     have HK := HKn
     have BT := BTn
     have RT := RTn
     have RS := RSn
     have RU := RUn
     have MO := MOn
     have PS := PSn
     have PF := PFn
     have Bg0 := Bg0n
     have Bg2 := Bg2n
     clear HKn BTn RTn RSn RUn MOn PSn PFn Bg0n Bg2n
     have MF := MN
     clear MN
     refine R.done (by kernel_rfl) (C.end0 (fn := Try.f30) f59 rfl ?_)
     have hsome := lk_get (show (lk m.out p.id).isSome = true by assumption) hfo
     rw [ack_eq e4 hfo, if_neg hs16, if_neg (fun e => Bool.noConfusion (e.symm.trans (show (lk m.out p.id).isSome = true by assumption))), if_pos (by exact .inr ⟨by assumption, by assumption⟩)]
     exact ⟨rfl, { m with out := strike m.out p.id, n := m.n + 1 }, ⟨e1, e2, e3, out_del e4 _, BT, RT, RS, RU, MO, MF, nof, tu, tn, un, hlo, PS, PF.strike _, Nat.le_succ_of_le hl1, Nat.le_succ_of_le hl2, Nat.le_succ_of_le hl3, Nat.le_succ_of_le hl4, strike_le0 hl5 _, cnt_up hcn⟩, Nat.le_refl _, HK, fun x hx => .inl hx, fun x hx => .inl hx⟩
    skip
    refine O.val f56 rfl rfl (by decide) wantedN (by exact E.ld f56 U3 (Bg0)) trivial fun a57 f57 => ?_
    refine R.one 3 (by kernel_rfl) ?_
    refine O.val f57 rfl rfl (by decide) wantedN (by exact E.ld f57 U50 (BT)) trivial fun a58 f58 => ?_
    refine R.one 6 (by kernel_rfl) ?_
    refine O.mapDropA f58 rfl wantedN MF outOk U50 rfl (p.id) hid rfl rfl (fun _ _ _ => trivial) fun a59 w6 MN ks f59 => ?_
    have szw6 := ks.size
    have HKn := HK.trans ks (fun x hx hlt => by obtain rfl := List.mem_singleton.1 hx; exact fp_f)
    have BTn := BT.kept ks (by simpa using Ne.symm (IsAss.ne_blk MF BT))
    have RTn := own_keptM RT ks MF
    have RSn := own_keptM RS ks MF
    have RUn := own_keptM RU ks MF
    have MOn := IsAss.kept MO ks (by simpa using nof)
    have PSn := PS.keptT ks (NoPk.map MF)
    have PFn := PF.keptT ks (NoPk.map MF)
    have Bg0n := Bg0.kept ks (by simpa using Ne.symm (IsAss.ne_blk MF Bg0))
    have Bg2n := Bg2.kept ks (by simpa using Ne.symm (IsAss.ne_blk MF Bg2))
    clear f56 a56 f57 a57 f58 a58 ks MF HK BT RT RS RU MO PS PF Bg0 Bg2
    have HK := HKn
    have BT := BTn
    have RT := RTn
    have RS := RSn
    have RU := RUn
    have MO := MOn
    have PS := PSn
    have PF := PFn
    have Bg0 := Bg0n
    have Bg2 := Bg2n
    clear HKn BTn RTn RSn RUn MOn PSn PFn Bg0n Bg2n
    have MF := MN
    clear MN
    refine R.done (by kernel_rfl) (C.end0 (fn := Try.f30) f59 rfl ?_)
    have hsome := lk_get (show (lk m.out p.id).isSome = true by assumption) hfo
    rw [ack_eq e4 hfo, if_neg hs16, if_neg (fun e => Bool.noConfusion (e.symm.trans (show (lk m.out p.id).isSome = true by assumption))), if_pos (by exact .inr ⟨by assumption, by assumption⟩)]
    exact ⟨rfl, { m with out := strike m.out p.id, n := m.n + 1 }, ⟨e1, e2, e3, out_del e4 _, BT, RT, RS, RU, MO, MF, nof, tu, tn, un, hlo, PS, PF.strike _, Nat.le_succ_of_le hl1, Nat.le_succ_of_le hl2, Nat.le_succ_of_le hl3, Nat.le_succ_of_le hl4, strike_le0 hl5 _, cnt_up hcn⟩, Nat.le_refl _, HK, fun x hx => .inl hx, fun x hx => .inl hx⟩
   refine C.condF f52 rfl ?_
   refine C.sk fun K6 hK6 => ?_
   refine L.fa 0 f52 U34 rfl wsz3_th fun a53 f53 => ?_
   refine L.ld f53 U3 Bg0 fun a54 f54 => ?_
   refine L.va f54 (E.eq f54) fun a55 f55 => ?_
   refine L.mv f55 fun a56 f56 => ?_
   clear f51 f52 a50 f53 a53 f54 a54 f55 a55
   refine f56.splitD 61 rfl (fun h6 f57 => ?_) (fun h6 f57 => ?_)
   ·refine L.fa 0 f57 U89 rfl wsz34_th (hw := (f57.yes rfl rfl)) fun a58 f58 => ?_
    refine L.fa 3 f58 U34 rfl wsz3_th (hw := (f58.yes rfl rfl)) fun a59 f59 => ?_
    refine L.ld f59 U3 Bg2 (hw := (f59.yes rfl rfl)) fun a60 f60 => ?_
    refine L.va f60 (E.eq f60) (hw := (f60.yes rfl rfl)) fun a61 f61 => ?_
    refine L.va f61 (E.pickT f61 rfl rfl) fun a62 f62 => ?_
    refine L.ag f62 fun a63 f63 => ?_
    refine wpList_nil (hK6 _ _ ?_)
    have f64 := f63.sub (sc 0 (sc 3 (sc 4 (sc 57 sn))))
    clear f56 f57 a56 f58 a58 f59 a59 f60 a60 f61 a61 f62 a62 f63
    refine f64.splitD 57 rfl (fun h7 f65 => ?_) (fun h7 f65 => ?_)
    ·refine C.condT f65 rfl ?_
     refine wp_seq_k fun K7 hK7 => ?_
     replace Bg2 : Blk w4 g2 89 #[.int .i64 fo.p.kind, .bool fo.p.dup, .bool fo.p.retain, .int .i64 fo.p.qos, .int .i64 fo.p.id, .string fo.p.topic, .slice fo.s.pa fo.p.pay.length fo.s.pc, .int .i64 fo.p.level, .string fo.p.client, .bool fo.p.clean, .int .i64 fo.p.keep, .bool fo.p.hasWill, .string fo.p.wt, .slice fo.s.wa fo.p.wp.length fo.s.wc, .int .i64 fo.p.wq, .bool fo.p.wr, .bool fo.p.hasUser, .bool fo.p.hasPass, .string fo.p.user, .slice fo.s.sa fo.p.pass.length fo.s.sc, .bool fo.p.present, .int .i64 fo.p.code, .slice fo.s.ua fo.p.subs.length fo.s.uc, .slice fo.s.ca fo.p.codes.length fo.s.cc, .bool fo.alone, .bool fo.recd, .bool fo.gone] := Bg2
     refine C.region ?_
     refine L.fa 25 f65 U89 rfl wsz4_th fun a66 f66 => ?_
     refine L.store f66 wantedN wsz4_th rfl rfl rfl Bg2 (by (simp [Value.cells]; done)) fun a67 w5 f67 NB5 ks5 => ?_
     have szw5 := ks5.size
     replace HK := HK.trans ks5 (fun x hx hlt => by obtain rfl := List.mem_singleton.1 hx; (exfalso; omega))
     replace BT := BT.kept ks5 (by simp; omega)
     replace RT := own_keptF RT ks5 hT0 frg2
     replace RS := own_keptF RS ks5 hS0 frg2
     replace RU := own_keptF RU ks5 hU0 frg2
     replace MO := IsAss.kept MO ks5 (by simpa using IsAss.ne_blk MO Bg2)
     replace MF := IsAss.kept MF ks5 (by simpa using IsAss.ne_blk MF Bg2)
     replace PS := PS.keptT ks5 (NoPk.blk Bg2 (by decide))
     replace PF := PF.keptT ks5 (NoPk.blk Bg2 (by decide))
     replace Bg0 := Bg0.kept ks5 (by simp; omega)
     replace Bg2 := NB5
     simp only [Value.cells, z1, z2, z3, Nat.reduceAdd, Nat.zero_add] at Bg2
     clear f64 f65 a63 ks5 f66 a66
     refine wpList_nil (hK7 _ _ ?_)
     have f68 := f67.sub (sc 0 (sc 3 (sc 4 sn)))
     have hd10 : Kept [] w5 (w5.drewN 1) := (Kept.refl _ _).drewN 1
     refine RB.begin (S := fun W => (Kept (m.fp g) w W) ∧ (Blk W g 53 (trL t m)) ∧ (Row W m.At m.ct m.told) ∧ (Row W m.Au m.cu m.subs) ∧ (Row W m.An m.cn m.uns) ∧ (IsAss ansM Try.prog W m.mo t.owed) ∧ (IsAss outM Try.prog W m.mf m.out) ∧ (PksO W m.subs) ∧ (FlsO W m.out) ∧ (Blk W g0 34 (p.cells s)) ∧ (Blk W g2 89 #[.int .i64 fo.p.kind, .bool fo.p.dup, .bool fo.p.retain, .int .i64 fo.p.qos, .int .i64 fo.p.id, .string fo.p.topic, .slice fo.s.pa fo.p.pay.length fo.s.pc, .int .i64 fo.p.level, .string fo.p.client, .bool fo.p.clean, .int .i64 fo.p.keep, .bool fo.p.hasWill, .string fo.p.wt, .slice fo.s.wa fo.p.wp.length fo.s.wc, .int .i64 fo.p.wq, .bool fo.p.wr, .bool fo.p.hasUser, .bool fo.p.hasPass, .string fo.p.user, .slice fo.s.sa fo.p.pass.length fo.s.sc, .bool fo.p.present, .int .i64 fo.p.code, .slice fo.s.ua fo.p.subs.length fo.s.uc, .slice fo.s.ca fo.p.codes.length fo.s.cc, .bool fo.alone, .bool true, .bool fo.gone])) 7 (by kernel_rfl) ⟨HK.z hd10, BT.z hd10, Own.z RT hd10, Own.z RS hd10, Own.z RU hd10, IsAss.z MO hd10, IsAss.z MF hd10, PS.keptT hd10 (NoPk.nil _), PF.keptT hd10 (NoPk.nil _), Bg0.z hd10, Bg2.z hd10⟩ ?_
     obtain ⟨w6, hww6⟩ : ∃ W, W = w5.drewN 1 := ⟨_, rfl⟩
     rw [← hww6] at hd10 ⊢
     clear f67 hww6
     have szw6 := hd10.size
     replace HK := HK.z hd10
     replace BT := BT.z hd10
     replace RT := Own.z RT hd10
     replace RS := Own.z RS hd10
     replace RU := Own.z RU hd10
     replace MO := IsAss.z MO hd10
     replace MF := IsAss.z MF hd10
     replace PS := PS.keptT hd10 (NoPk.nil _)
     replace PF := PF.keptT hd10 (NoPk.nil _)
     replace Bg0 := Bg0.z hd10
     replace Bg2 := Bg2.z hd10
     clear hd10
     refine RB.tk 0 f68 rfl ⟨HK, BT, RT, RS, RU, MO, MF, PS, PF, Bg0, Bg2⟩ (fun W hW => (E.move f68 rfl)) fun a69 f69 => ?_
     refine RB.tk 1 f69 rfl ⟨HK, BT, RT, RS, RU, MO, MF, PS, PF, Bg0, Bg2⟩ (fun W hW => (E.nilCheck f69 rfl)) fun a70 f70 => ?_
     refine RB.tk 2 f70 rfl ⟨HK, BT, RT, RS, RU, MO, MF, PS, PF, Bg0, Bg2⟩ (fun W hW => (E.fa 31 f70 U53 rfl wsz50_th)) fun a71 f71 => ?_
     refine RB.tk 3 f71 rfl ⟨HK, BT, RT, RS, RU, MO, MF, PS, PF, Bg0, Bg2⟩ (fun W hW => (E.ld f71 U50 (hW.2.1))) fun a72 f72 => ?_
     refine RB.tk 4 f72 rfl ⟨HK, BT, RT, RS, RU, MO, MF, PS, PF, Bg0, Bg2⟩ (fun W hW => (E.fa 4 f72 U34 rfl wsz3_th)) fun a73 f73 => ?_
     refine RB.tk 5 f73 rfl ⟨HK, BT, RT, RS, RU, MO, MF, PS, PF, Bg0, Bg2⟩ (fun W hW => (E.ld f73 U3 (hW.2.2.2.2.2.2.2.2.2.1))) fun a74 f74 => ?_
     refine RB.tk 6 f74 rfl ⟨HK, BT, RT, RS, RU, MO, MF, PS, PF, Bg0, Bg2⟩ (fun W hW => (E.loadB f74 U89 rfl wsz89_th rfl (hW.2.2.2.2.2.2.2.2.2.2) rfl)) fun a75 f75 => ?_
     clear f68 a67 f69 a69 f70 a70 f71 a71 f72 a72 f73 a73 f74 a74
     refine RB.stop (by kernel_rfl) ?_
     refine R.one 7 (by kernel_rfl) ?_
     refine O.mapPutA f75 rfl wantedN MF outOk U50 (p.id) hid ({ fo with recd := true }) rfl rfl rfl (Nat.lt_of_le_of_lt hl5 (by unfold maxLen; omega)) (fun _ _ _ => trivial) fun a76 w7 MN ks f76 => ?_
     have szw7 := ks.size
     have HKn := HK.trans ks (fun x hx hlt => by obtain rfl := List.mem_singleton.1 hx; exact fp_f)
     have BTn := BT.kept ks (by simpa using Ne.symm (IsAss.ne_blk MF BT))
     have RTn := own_keptM RT ks MF
     have RSn := own_keptM RS ks MF
     have RUn := own_keptM RU ks MF
     have MOn := IsAss.kept MO ks (by simpa using nof)
     have PSn := PS.keptT ks (NoPk.map MF)
     have PFn := PF.keptT ks (NoPk.map MF)
     have Bg0n := Bg0.kept ks (by simpa using Ne.symm (IsAss.ne_blk MF Bg0))
     have Bg2n := Bg2.kept ks (by simpa using Ne.symm (IsAss.ne_blk MF Bg2))
     clear f75 a75 ks MF HK BT RT RS RU MO PS PF Bg0 Bg2
     have HK := HKn
     have BT := BTn
     have RT := RTn
     have RS := RSn
     have RU := RUn
     have MO := MOn
     have PS := PSn
     have PF := PFn
     have Bg0 := Bg0n
     have Bg2 := Bg2n
     clear HKn BTn RTn RSn RUn MOn PSn PFn Bg0n Bg2n
     have MF := MN
     clear MN
     refine R.done (by kernel_rfl) (C.end0 (fn := Try.f30) f76 rfl ?_)
     have hsome := lk_get (show (lk m.out p.id).isSome = true by assumption) hfo
     obtain ⟨pk, pl⟩ := PF.at_ hsome
     rw [ack_eq e4 hfo, if_neg hs16, if_neg (fun e => Bool.noConfusion (e.symm.trans (show (lk m.out p.id).isSome = true by assumption))), if_neg (by rintro (⟨c1, c2⟩ | ⟨c1, c2⟩) <;> omega), if_pos ⟨by assumption, by assumption⟩]
     exact ⟨rfl, { m with out := (p.id, { fo with recd := true }) :: strike m.out p.id, n := m.n + 1 }, ⟨e1, e2, e3, out_put e4 _ _, BT, RT, RS, RU, MO, MF, nof, tu, tn, un, hlo, PS, PF.put _ pk pl, Nat.le_succ_of_le hl1, Nat.le_succ_of_le hl2, Nat.le_succ_of_le hl3, Nat.le_succ_of_le hl4, strike_le hl5 _ _, cnt_up hcn⟩, Nat.le_refl _, HK, fun x hx => .inl hx, fun x hx => .inl hx⟩
    refine C.condF f65 rfl ?_
    refine wp_skip (C.end0 (fn := Try.f30) f65 rfl ?_)
    rw [ack_eq e4 hfo, if_neg hs16, if_neg (fun e => Bool.noConfusion (e.symm.trans (show (lk m.out p.id).isSome = true by assumption))), if_neg (by rintro (⟨c1, c2⟩ | ⟨c1, c2⟩) <;> omega), if_neg (by omega)]
    exact ⟨rfl, m, ⟨e1, e2, e3, e4, BT, RT, RS, RU, MO, MF, nof, tu, tn, un, hlo, PS, PF, hl1, hl2, hl3, hl4, hl5, hcn⟩, by omega, HK, fun x hx => .inl hx, fun x hx => .inl hx⟩
   refine L.run f57 (rest' := []) (by kernel_rfl) fun a58 f58 => ?_
   clear f56
   refine wpList_nil (hK6 _ _ ?_)
   have f59 := f58.sub (scR f58 0 (scR f58 3 (scR f58 4 (sv 57 (.bool false) sn))))
   refine C.condF f59 rfl ?_
   refine wp_skip (C.end0 (fn := Try.f30) f59 rfl ?_)
   rw [ack_eq e4 hfo, if_neg hs16, if_neg (fun e => Bool.noConfusion (e.symm.trans (show (lk m.out p.id).isSome = true by assumption))), if_neg (by rintro (⟨c1, c2⟩ | ⟨c1, c2⟩) <;> omega), if_neg (by omega)]
   exact ⟨rfl, m, ⟨e1, e2, e3, e4, BT, RT, RS, RU, MO, MF, nof, tu, tn, un, hlo, PS, PF, hl1, hl2, hl3, hl4, hl5, hcn⟩, by omega, HK, fun x hx => .inl hx, fun x hx => .inl hx⟩
  refine L.run f46 (rest' := []) (by kernel_rfl) fun a47 f47 => ?_
  clear f45
  refine wpList_nil (hK4 _ _ ?_)
  have f48 := f47.sub (scR f47 0 (scR f47 3 (scR f47 4 (sv 34 (.bool false) sn))))
  refine C.condF f48 rfl ?_
  refine C.sk fun K8 hK8 => ?_
  refine L.fa 0 f48 U34 rfl wsz3_th fun a49 f49 => ?_
  refine L.ld f49 U3 Bg0 fun a50 f50 => ?_
  refine L.va f50 (E.eq f50) fun a51 f51 => ?_
  refine L.mv f51 fun a52 f52 => ?_
  clear f47 f46 f48 a47 f49 a49 f50 a50 f51 a51
  refine f52.splitD 61 rfl (fun h8 f53 => ?_) (fun h8 f53 => ?_)
  ·refine L.fa 0 f53 U89 rfl wsz34_th (hw := (f53.yes rfl rfl)) fun a54 f54 => ?_
   refine L.fa 3 f54 U34 rfl wsz3_th (hw := (f54.yes rfl rfl)) fun a55 f55 => ?_
   refine L.ld f55 U3 Bg2 (hw := (f55.yes rfl rfl)) fun a56 f56 => ?_
   refine L.va f56 (E.eq f56) (hw := (f56.yes rfl rfl)) fun a57 f57 => ?_
   refine L.va f57 (E.pickT f57 rfl rfl) fun a58 f58 => ?_
   refine L.ag f58 fun a59 f59 => ?_
   refine wpList_nil (hK8 _ _ ?_)
   have f60 := f59.sub (sc 0 (sc 3 (sc 4 (sc 57 sn))))
   clear f52 f53 a52 f54 a54 f55 a55 f56 a56 f57 a57 f58 a58 f59
   refine f60.splitD 57 rfl (fun h9 f61 => ?_) (fun h9 f61 => ?_)
   ·refine C.condT f61 rfl ?_
    refine wp_seq_k fun K9 hK9 => ?_
    replace Bg2 : Blk w4 g2 89 #[.int .i64 fo.p.kind, .bool fo.p.dup, .bool fo.p.retain, .int .i64 fo.p.qos, .int .i64 fo.p.id, .string fo.p.topic, .slice fo.s.pa fo.p.pay.length fo.s.pc, .int .i64 fo.p.level, .string fo.p.client, .bool fo.p.clean, .int .i64 fo.p.keep, .bool fo.p.hasWill, .string fo.p.wt, .slice fo.s.wa fo.p.wp.length fo.s.wc, .int .i64 fo.p.wq, .bool fo.p.wr, .bool fo.p.hasUser, .bool fo.p.hasPass, .string fo.p.user, .slice fo.s.sa fo.p.pass.length fo.s.sc, .bool fo.p.present, .int .i64 fo.p.code, .slice fo.s.ua fo.p.subs.length fo.s.uc, .slice fo.s.ca fo.p.codes.length fo.s.cc, .bool fo.alone, .bool fo.recd, .bool fo.gone] := Bg2
    refine C.region ?_
    refine L.fa 25 f61 U89 rfl wsz4_th fun a62 f62 => ?_
    refine L.store f62 wantedN wsz4_th rfl rfl rfl Bg2 (by (simp [Value.cells]; done)) fun a63 w5 f63 NB5 ks5 => ?_
    have szw5 := ks5.size
    replace HK := HK.trans ks5 (fun x hx hlt => by obtain rfl := List.mem_singleton.1 hx; (exfalso; omega))
    replace BT := BT.kept ks5 (by simp; omega)
    replace RT := own_keptF RT ks5 hT0 frg2
    replace RS := own_keptF RS ks5 hS0 frg2
    replace RU := own_keptF RU ks5 hU0 frg2
    replace MO := IsAss.kept MO ks5 (by simpa using IsAss.ne_blk MO Bg2)
    replace MF := IsAss.kept MF ks5 (by simpa using IsAss.ne_blk MF Bg2)
    replace PS := PS.keptT ks5 (NoPk.blk Bg2 (by decide))
    replace PF := PF.keptT ks5 (NoPk.blk Bg2 (by decide))
    replace Bg0 := Bg0.kept ks5 (by simp; omega)
    replace Bg2 := NB5
    simp only [Value.cells, z1, z2, z3, Nat.reduceAdd, Nat.zero_add] at Bg2
    clear f60 f61 a59 ks5 f62 a62
    refine wpList_nil (hK9 _ _ ?_)
    have f64 := f63.sub (sc 0 (sc 3 (sc 4 sn)))
    have hd10 : Kept [] w5 (w5.drewN 1) := (Kept.refl _ _).drewN 1
    refine RB.begin (S := fun W => (Kept (m.fp g) w W) ∧ (Blk W g 53 (trL t m)) ∧ (Row W m.At m.ct m.told) ∧ (Row W m.Au m.cu m.subs) ∧ (Row W m.An m.cn m.uns) ∧ (IsAss ansM Try.prog W m.mo t.owed) ∧ (IsAss outM Try.prog W m.mf m.out) ∧ (PksO W m.subs) ∧ (FlsO W m.out) ∧ (Blk W g0 34 (p.cells s)) ∧ (Blk W g2 89 #[.int .i64 fo.p.kind, .bool fo.p.dup, .bool fo.p.retain, .int .i64 fo.p.qos, .int .i64 fo.p.id, .string fo.p.topic, .slice fo.s.pa fo.p.pay.length fo.s.pc, .int .i64 fo.p.level, .string fo.p.client, .bool fo.p.clean, .int .i64 fo.p.keep, .bool fo.p.hasWill, .string fo.p.wt, .slice fo.s.wa fo.p.wp.length fo.s.wc, .int .i64 fo.p.wq, .bool fo.p.wr, .bool fo.p.hasUser, .bool fo.p.hasPass, .string fo.p.user, .slice fo.s.sa fo.p.pass.length fo.s.sc, .bool fo.p.present, .int .i64 fo.p.code, .slice fo.s.ua fo.p.subs.length fo.s.uc, .slice fo.s.ca fo.p.codes.length fo.s.cc, .bool fo.alone, .bool true, .bool fo.gone])) 7 (by kernel_rfl) ⟨HK.z hd10, BT.z hd10, Own.z RT hd10, Own.z RS hd10, Own.z RU hd10, IsAss.z MO hd10, IsAss.z MF hd10, PS.keptT hd10 (NoPk.nil _), PF.keptT hd10 (NoPk.nil _), Bg0.z hd10, Bg2.z hd10⟩ ?_
    obtain ⟨w6, hww6⟩ : ∃ W, W = w5.drewN 1 := ⟨_, rfl⟩
    rw [← hww6] at hd10 ⊢
    clear f63 hww6
    have szw6 := hd10.size
    replace HK := HK.z hd10
    replace BT := BT.z hd10
    replace RT := Own.z RT hd10
    replace RS := Own.z RS hd10
    replace RU := Own.z RU hd10
    replace MO := IsAss.z MO hd10
    replace MF := IsAss.z MF hd10
    replace PS := PS.keptT hd10 (NoPk.nil _)
    replace PF := PF.keptT hd10 (NoPk.nil _)
    replace Bg0 := Bg0.z hd10
    replace Bg2 := Bg2.z hd10
    clear hd10
    refine RB.tk 0 f64 rfl ⟨HK, BT, RT, RS, RU, MO, MF, PS, PF, Bg0, Bg2⟩ (fun W hW => (E.move f64 rfl)) fun a65 f65 => ?_
    refine RB.tk 1 f65 rfl ⟨HK, BT, RT, RS, RU, MO, MF, PS, PF, Bg0, Bg2⟩ (fun W hW => (E.nilCheck f65 rfl)) fun a66 f66 => ?_
    refine RB.tk 2 f66 rfl ⟨HK, BT, RT, RS, RU, MO, MF, PS, PF, Bg0, Bg2⟩ (fun W hW => (E.fa 31 f66 U53 rfl wsz50_th)) fun a67 f67 => ?_
    refine RB.tk 3 f67 rfl ⟨HK, BT, RT, RS, RU, MO, MF, PS, PF, Bg0, Bg2⟩ (fun W hW => (E.ld f67 U50 (hW.2.1))) fun a68 f68 => ?_
    refine RB.tk 4 f68 rfl ⟨HK, BT, RT, RS, RU, MO, MF, PS, PF, Bg0, Bg2⟩ (fun W hW => (E.fa 4 f68 U34 rfl wsz3_th)) fun a69 f69 => ?_
    refine RB.tk 5 f69 rfl ⟨HK, BT, RT, RS, RU, MO, MF, PS, PF, Bg0, Bg2⟩ (fun W hW => (E.ld f69 U3 (hW.2.2.2.2.2.2.2.2.2.1))) fun a70 f70 => ?_
    refine RB.tk 6 f70 rfl ⟨HK, BT, RT, RS, RU, MO, MF, PS, PF, Bg0, Bg2⟩ (fun W hW => (E.loadB f70 U89 rfl wsz89_th rfl (hW.2.2.2.2.2.2.2.2.2.2) rfl)) fun a71 f71 => ?_
    clear f64 a63 f65 a65 f66 a66 f67 a67 f68 a68 f69 a69 f70 a70
    refine RB.stop (by kernel_rfl) ?_
    refine R.one 7 (by kernel_rfl) ?_
    refine O.mapPutA f71 rfl wantedN MF outOk U50 (p.id) hid ({ fo with recd := true }) rfl rfl rfl (Nat.lt_of_le_of_lt hl5 (by unfold maxLen; omega)) (fun _ _ _ => trivial) fun a72 w7 MN ks f72 => ?_
    have szw7 := ks.size
    have HKn := HK.trans ks (fun x hx hlt => by obtain rfl := List.mem_singleton.1 hx; exact fp_f)
    have BTn := BT.kept ks (by simpa using Ne.symm (IsAss.ne_blk MF BT))
    have RTn := own_keptM RT ks MF
    have RSn := own_keptM RS ks MF
    have RUn := own_keptM RU ks MF
    have MOn := IsAss.kept MO ks (by simpa using nof)
    have PSn := PS.keptT ks (NoPk.map MF)
    have PFn := PF.keptT ks (NoPk.map MF)
    have Bg0n := Bg0.kept ks (by simpa using Ne.symm (IsAss.ne_blk MF Bg0))
    have Bg2n := Bg2.kept ks (by simpa using Ne.symm (IsAss.ne_blk MF Bg2))
    clear f71 a71 ks MF HK BT RT RS RU MO PS PF Bg0 Bg2
    have HK := HKn
    have BT := BTn
    have RT := RTn
    have RS := RSn
    have RU := RUn
    have MO := MOn
    have PS := PSn
    have PF := PFn
    have Bg0 := Bg0n
    have Bg2 := Bg2n
    clear HKn BTn RTn RSn RUn MOn PSn PFn Bg0n Bg2n
    have MF := MN
    clear MN
    refine R.done (by kernel_rfl) (C.end0 (fn := Try.f30) f72 rfl ?_)
    have hsome := lk_get (show (lk m.out p.id).isSome = true by assumption) hfo
    obtain ⟨pk, pl⟩ := PF.at_ hsome
    rw [ack_eq e4 hfo, if_neg hs16, if_neg (fun e => Bool.noConfusion (e.symm.trans (show (lk m.out p.id).isSome = true by assumption))), if_neg (by rintro (⟨c1, c2⟩ | ⟨c1, c2⟩) <;> omega), if_pos ⟨by assumption, by assumption⟩]
    exact ⟨rfl, { m with out := (p.id, { fo with recd := true }) :: strike m.out p.id, n := m.n + 1 }, ⟨e1, e2, e3, out_put e4 _ _, BT, RT, RS, RU, MO, MF, nof, tu, tn, un, hlo, PS, PF.put _ pk pl, Nat.le_succ_of_le hl1, Nat.le_succ_of_le hl2, Nat.le_succ_of_le hl3, Nat.le_succ_of_le hl4, strike_le hl5 _ _, cnt_up hcn⟩, Nat.le_refl _, HK, fun x hx => .inl hx, fun x hx => .inl hx⟩
   refine C.condF f61 rfl ?_
   refine wp_skip (C.end0 (fn := Try.f30) f61 rfl ?_)
   rw [ack_eq e4 hfo, if_neg hs16, if_neg (fun e => Bool.noConfusion (e.symm.trans (show (lk m.out p.id).isSome = true by assumption))), if_neg (by rintro (⟨c1, c2⟩ | ⟨c1, c2⟩) <;> omega), if_neg (by omega)]
   exact ⟨rfl, m, ⟨e1, e2, e3, e4, BT, RT, RS, RU, MO, MF, nof, tu, tn, un, hlo, PS, PF, hl1, hl2, hl3, hl4, hl5, hcn⟩, by omega, HK, fun x hx => .inl hx, fun x hx => .inl hx⟩
  refine L.run f53 (rest' := []) (by kernel_rfl) fun a54 f54 => ?_
  clear f52
  refine wpList_nil (hK8 _ _ ?_)
  have f55 := f54.sub (scR f54 0 (scR f54 3 (scR f54 4 (sv 57 (.bool false) sn))))
  refine C.condF f55 rfl ?_
  refine wp_skip (C.end0 (fn := Try.f30) f55 rfl ?_)
  rw [ack_eq e4 hfo, if_neg hs16, if_neg (fun e => Bool.noConfusion (e.symm.trans (show (lk m.out p.id).isSome = true by assumption))), if_neg (by rintro (⟨c1, c2⟩ | ⟨c1, c2⟩) <;> omega), if_neg (by omega)]
  exact ⟨rfl, m, ⟨e1, e2, e3, e4, BT, RT, RS, RU, MO, MF, nof, tu, tn, un, hlo, PS, PF, hl1, hl2, hl3, hl4, hl5, hcn⟩, by omega, HK, fun x hx => .inl hx, fun x hx => .inl hx⟩
 refine L.run f33 (rest' := []) (by kernel_rfl) fun a34 f34 => ?_
 clear f32
 refine wpList_nil (hK5 _ _ ?_)
 have f35 := f34.sub (scR f34 0 (scR f34 3 (scR f34 4 (sv 34 (.bool false) sn))))
 refine C.condF f35 rfl ?_
 refine C.region ?_
 refine L.fa 0 f35 U34 rfl wsz3_th fun a36 f36 => ?_
 refine L.ld f36 U3 Bg0 fun a37 f37 => ?_
 refine L.va f37 (E.eq f37) fun a38 f38 => ?_
 refine L.mv f38 fun a39 f39 => ?_
 clear f34 f33 f35 a34 f36 a36 f37 a37 f38 a38
 refine f39.splitD 47 rfl (fun h10 f40 => ?_) (fun h10 f40 => ?_)
 ·refine L.fa 26 f40 U89 rfl wsz4_th (hw := (f40.yes rfl rfl)) fun a41 f41 => ?_
  refine L.ld f41 U4 Bg2 (hw := (f41.yes rfl rfl)) fun a42 f42 => ?_
  refine L.va f42 (E.pickT f42 rfl rfl) fun a43 f43 => ?_
  refine L.ag f43 fun a44 f44 => ?_
  refine wpList_nil (hK4 _ _ ?_)
  have f45 := f44.sub (sc 0 (sc 3 (sc 4 (sc 34 sn))))
  clear f39 f40 a39 f41 a41 f42 a42 f43 a43 f44
  refine f45.split 34 rfl (fun h11 f46 => ?_) (fun h11 f46 => ?_)
  ·refine C.condT f46 rfl ?_
   have hd7 : Kept [] w4 (w4.drewN 1) := (Kept.refl _ _).drewN 1
   refine R.beginT (S := fun _ => True) (by kernel_rfl) (by kernel_rfl) trivial fun ht => ?_
   obtain ⟨w5, hww5⟩ : ∃ W, W = w4.drewN 1 := ⟨_, rfl⟩
   rw [← hww5] at hd7 ⊢
   clear f45 hww5
   have szw5 := hd7.size
   replace HK := HK.z hd7
   replace BT := BT.z hd7
   replace RT := Own.z RT hd7
   replace RS := Own.z RS hd7
   replace RU := Own.z RU hd7
   replace MO := IsAss.z MO hd7
   replace MF := IsAss.z MF hd7
   replace PS := PS.keptT hd7 (NoPk.nil _)
   replace PF := PF.keptT hd7 (NoPk.nil _)
   replace Bg0 := Bg0.z hd7
   replace Bg2 := Bg2.z hd7
   clear hd7
   refine R.u 0 f46 rfl ht trivial (fun W hW => (E.move f46 rfl)) fun a47 f47 => ?_
   refine R.u 1 f47 rfl ht trivial (fun W hW => (E.nilCheck f47 rfl)) fun a48 f48 => ?_
   refine R.u 2 f48 rfl ht trivial (fun W hW => (E.fa 31 f48 U53 rfl wsz50_th)) fun a49 f49 => ?_
   refine R.u 4 f49 rfl ht trivial (fun W hW => (E.fa 4 f49 U34 rfl wsz3_th)) fun a50 f50 => ?_
   clear f46 a44 f47 a47 f48 a48 f49 a49
   refine R.two 3 5 (by kernel_rfl) ?_ ?_
   ·skip
    refine O.val f50 rfl rfl (by decide) wantedN (by exact E.ld f50 U50 (BT)) trivial fun a51 f51 => ?_
    refine R.one 5 (by kernel_rfl) ?_
    refine O.val f51 rfl rfl (by decide) wantedN (by exact E.ld f51 U3 (Bg0)) trivial fun a52 f52 => ?_
    refine R.one 6 (by kernel_rfl) ?_
    refine O.mapDropA f52 rfl wantedN MF outOk U50 rfl (p.id) hid rfl rfl (fun _ _ _ => trivial) fun a53 w6 MN ks f53 => ?_
    have szw6 := ks.size
    have HKn := HK.trans ks (fun x hx hlt => by obtain rfl := List.mem_singleton.1 hx; exact fp_f)
    have BTn := BT.kept ks (by simpa using Ne.symm (IsAss.ne_blk MF BT))
    have RTn := own_keptM RT ks MF
    have RSn := own_keptM RS ks MF
    have RUn := own_keptM RU ks MF
    have MOn := IsAss.kept MO ks (by simpa using nof)
    have PSn := PS.keptT ks (NoPk.map MF)
    have PFn := PF.keptT ks (NoPk.map MF)
    have Bg0n := Bg0.kept ks (by simpa using Ne.symm (IsAss.ne_blk MF Bg0))
    have Bg2n := Bg2.kept ks (by simpa using Ne.symm (IsAss.ne_blk MF Bg2))
    clear f50 a50 f51 a51 f52 a52 ks MF HK BT RT RS RU MO PS PF Bg0 Bg2
    have HK := HKn
    have BT := BTn
    have RT := RTn
    have RS := RSn
    have RU := RUn
    have MO := MOn
    have PS := PSn
    have PF := PFn
    have Bg0 := Bg0n
    have Bg2 := Bg2n
    clear HKn BTn RTn RSn RUn MOn PSn PFn Bg0n Bg2n
    have MF := MN
    clear MN
    refine R.done (by kernel_rfl) (C.end0 (fn := Try.f30) f53 rfl ?_)
    have hsome := lk_get (show (lk m.out p.id).isSome = true by assumption) hfo
    rw [ack_eq e4 hfo, if_neg hs16, if_neg (fun e => Bool.noConfusion (e.symm.trans (show (lk m.out p.id).isSome = true by assumption))), if_pos (by exact .inr ⟨by assumption, by assumption⟩)]
    exact ⟨rfl, { m with out := strike m.out p.id, n := m.n + 1 }, ⟨e1, e2, e3, out_del e4 _, BT, RT, RS, RU, MO, MF, nof, tu, tn, un, hlo, PS, PF.strike _, Nat.le_succ_of_le hl1, Nat.le_succ_of_le hl2, Nat.le_succ_of_le hl3, Nat.le_succ_of_le hl4, strike_le0 hl5 _, cnt_up hcn⟩, Nat.le_refl _, HK, fun x hx => .inl hx, fun x hx => .inl hx⟩
   skip
   refine O.val f50 rfl rfl (by decide) wantedN (by exact E.ld f50 U3 (Bg0)) trivial fun a51 f51 => ?_
   refine R.one 3 (by kernel_rfl) ?_
   refine O.val f51 rfl rfl (by decide) wantedN (by exact E.ld f51 U50 (BT)) trivial fun a52 f52 => ?_
   refine R.one 6 (by kernel_rfl) ?_
   refine O.mapDropA f52 rfl wantedN MF outOk U50 rfl (p.id) hid rfl rfl (fun _ _ _ => trivial) fun a53 w6 MN ks f53 => ?_
   have szw6 := ks.size
   have HKn := HK.trans ks (fun x hx hlt => by obtain rfl := List.mem_singleton.1 hx; exact fp_f)
   have BTn := BT.kept ks (by simpa using Ne.symm (IsAss.ne_blk MF BT))
   have RTn := own_keptM RT ks MF
   have RSn := own_keptM RS ks MF
   have RUn := own_keptM RU ks MF
   have MOn := IsAss.kept MO ks (by simpa using nof)
   have PSn := PS.keptT ks (NoPk.map MF)
   have PFn := PF.keptT ks (NoPk.map MF)
   have Bg0n := Bg0.kept ks (by simpa using Ne.symm (IsAss.ne_blk MF Bg0))
   have Bg2n := Bg2.kept ks (by simpa using Ne.symm (IsAss.ne_blk MF Bg2))
   clear f50 a50 f51 a51 f52 a52 ks MF HK BT RT RS RU MO PS PF Bg0 Bg2
   have HK := HKn
   have BT := BTn
   have RT := RTn
   have RS := RSn
   have RU := RUn
   have MO := MOn
   have PS := PSn
   have PF := PFn
   have Bg0 := Bg0n
   have Bg2 := Bg2n
   clear HKn BTn RTn RSn RUn MOn PSn PFn Bg0n Bg2n
   have MF := MN
   clear MN
   refine R.done (by kernel_rfl) (C.end0 (fn := Try.f30) f53 rfl ?_)
   have hsome := lk_get (show (lk m.out p.id).isSome = true by assumption) hfo
   rw [ack_eq e4 hfo, if_neg hs16, if_neg (fun e => Bool.noConfusion (e.symm.trans (show (lk m.out p.id).isSome = true by assumption))), if_pos (by exact .inr ⟨by assumption, by assumption⟩)]
   exact ⟨rfl, { m with out := strike m.out p.id, n := m.n + 1 }, ⟨e1, e2, e3, out_del e4 _, BT, RT, RS, RU, MO, MF, nof, tu, tn, un, hlo, PS, PF.strike _, Nat.le_succ_of_le hl1, Nat.le_succ_of_le hl2, Nat.le_succ_of_le hl3, Nat.le_succ_of_le hl4, strike_le0 hl5 _, cnt_up hcn⟩, Nat.le_refl _, HK, fun x hx => .inl hx, fun x hx => .inl hx⟩
  refine C.condF f46 rfl ?_
  refine C.sk fun K10 hK10 => ?_
  refine L.fa 0 f46 U34 rfl wsz3_th fun a47 f47 => ?_
  refine L.ld f47 U3 Bg0 fun a48 f48 => ?_
  refine L.va f48 (E.eq f48) fun a49 f49 => ?_
  refine L.mv f49 fun a50 f50 => ?_
  clear f45 f46 a44 f47 a47 f48 a48 f49 a49
  refine f50.splitD 61 rfl (fun h12 f51 => ?_) (fun h12 f51 => ?_)
  ·refine L.fa 0 f51 U89 rfl wsz34_th (hw := (f51.yes rfl rfl)) fun a52 f52 => ?_
   refine L.fa 3 f52 U34 rfl wsz3_th (hw := (f52.yes rfl rfl)) fun a53 f53 => ?_
   refine L.ld f53 U3 Bg2 (hw := (f53.yes rfl rfl)) fun a54 f54 => ?_
   refine L.va f54 (E.eq f54) (hw := (f54.yes rfl rfl)) fun a55 f55 => ?_
   refine L.va f55 (E.pickT f55 rfl rfl) fun a56 f56 => ?_
   refine L.ag f56 fun a57 f57 => ?_
   refine wpList_nil (hK10 _ _ ?_)
   have f58 := f57.sub (sc 0 (sc 3 (sc 4 (sc 57 sn))))
   clear f50 f51 a50 f52 a52 f53 a53 f54 a54 f55 a55 f56 a56 f57
   refine f58.splitD 57 rfl (fun h13 f59 => ?_) (fun h13 f59 => ?_)
   ·refine C.condT f59 rfl ?_
    refine wp_seq_k fun K11 hK11 => ?_
    replace Bg2 : Blk w4 g2 89 #[.int .i64 fo.p.kind, .bool fo.p.dup, .bool fo.p.retain, .int .i64 fo.p.qos, .int .i64 fo.p.id, .string fo.p.topic, .slice fo.s.pa fo.p.pay.length fo.s.pc, .int .i64 fo.p.level, .string fo.p.client, .bool fo.p.clean, .int .i64 fo.p.keep, .bool fo.p.hasWill, .string fo.p.wt, .slice fo.s.wa fo.p.wp.length fo.s.wc, .int .i64 fo.p.wq, .bool fo.p.wr, .bool fo.p.hasUser, .bool fo.p.hasPass, .string fo.p.user, .slice fo.s.sa fo.p.pass.length fo.s.sc, .bool fo.p.present, .int .i64 fo.p.code, .slice fo.s.ua fo.p.subs.length fo.s.uc, .slice fo.s.ca fo.p.codes.length fo.s.cc, .bool fo.alone, .bool fo.recd, .bool fo.gone] := Bg2
    refine C.region ?_
    refine L.fa 25 f59 U89 rfl wsz4_th fun a60 f60 => ?_
    refine L.store f60 wantedN wsz4_th rfl rfl rfl Bg2 (by (simp [Value.cells]; done)) fun a61 w5 f61 NB5 ks5 => ?_
    have szw5 := ks5.size
    replace HK := HK.trans ks5 (fun x hx hlt => by obtain rfl := List.mem_singleton.1 hx; (exfalso; omega))
    replace BT := BT.kept ks5 (by simp; omega)
    replace RT := own_keptF RT ks5 hT0 frg2
    replace RS := own_keptF RS ks5 hS0 frg2
    replace RU := own_keptF RU ks5 hU0 frg2
    replace MO := IsAss.kept MO ks5 (by simpa using IsAss.ne_blk MO Bg2)
    replace MF := IsAss.kept MF ks5 (by simpa using IsAss.ne_blk MF Bg2)
    replace PS := PS.keptT ks5 (NoPk.blk Bg2 (by decide))
    replace PF := PF.keptT ks5 (NoPk.blk Bg2 (by decide))
    replace Bg0 := Bg0.kept ks5 (by simp; omega)
    replace Bg2 := NB5
    simp only [Value.cells, z1, z2, z3, Nat.reduceAdd, Nat.zero_add] at Bg2
    clear f58 f59 a57 ks5 f60 a60
    refine wpList_nil (hK11 _ _ ?_)
    have f62 := f61.sub (sc 0 (sc 3 (sc 4 sn)))
    have hd10 : Kept [] w5 (w5.drewN 1) := (Kept.refl _ _).drewN 1
    refine RB.begin (S := fun W => (Kept (m.fp g) w W) ∧ (Blk W g 53 (trL t m)) ∧ (Row W m.At m.ct m.told) ∧ (Row W m.Au m.cu m.subs) ∧ (Row W m.An m.cn m.uns) ∧ (IsAss ansM Try.prog W m.mo t.owed) ∧ (IsAss outM Try.prog W m.mf m.out) ∧ (PksO W m.subs) ∧ (FlsO W m.out) ∧ (Blk W g0 34 (p.cells s)) ∧ (Blk W g2 89 #[.int .i64 fo.p.kind, .bool fo.p.dup, .bool fo.p.retain, .int .i64 fo.p.qos, .int .i64 fo.p.id, .string fo.p.topic, .slice fo.s.pa fo.p.pay.length fo.s.pc, .int .i64 fo.p.level, .string fo.p.client, .bool fo.p.clean, .int .i64 fo.p.keep, .bool fo.p.hasWill, .string fo.p.wt, .slice fo.s.wa fo.p.wp.length fo.s.wc, .int .i64 fo.p.wq, .bool fo.p.wr, .bool fo.p.hasUser, .bool fo.p.hasPass, .string fo.p.user, .slice fo.s.sa fo.p.pass.length fo.s.sc, .bool fo.p.present, .int .i64 fo.p.code, .slice fo.s.ua fo.p.subs.length fo.s.uc, .slice fo.s.ca fo.p.codes.length fo.s.cc, .bool fo.alone, .bool true, .bool fo.gone])) 7 (by kernel_rfl) ⟨HK.z hd10, BT.z hd10, Own.z RT hd10, Own.z RS hd10, Own.z RU hd10, IsAss.z MO hd10, IsAss.z MF hd10, PS.keptT hd10 (NoPk.nil _), PF.keptT hd10 (NoPk.nil _), Bg0.z hd10, Bg2.z hd10⟩ ?_
    obtain ⟨w6, hww6⟩ : ∃ W, W = w5.drewN 1 := ⟨_, rfl⟩
    rw [← hww6] at hd10 ⊢
    clear f61 hww6
    have szw6 := hd10.size
    replace HK := HK.z hd10
    replace BT := BT.z hd10
    replace RT := Own.z RT hd10
    replace RS := Own.z RS hd10
    replace RU := Own.z RU hd10
    replace MO := IsAss.z MO hd10
    replace MF := IsAss.z MF hd10
    replace PS := PS.keptT hd10 (NoPk.nil _)
    replace PF := PF.keptT hd10 (NoPk.nil _)
    replace Bg0 := Bg0.z hd10
    replace Bg2 := Bg2.z hd10
    clear hd10
    refine RB.tk 0 f62 rfl ⟨HK, BT, RT, RS, RU, MO, MF, PS, PF, Bg0, Bg2⟩ (fun W hW => (E.move f62 rfl)) fun a63 f63 => ?_
    refine RB.tk 1 f63 rfl ⟨HK, BT, RT, RS, RU, MO, MF, PS, PF, Bg0, Bg2⟩ (fun W hW => (E.nilCheck f63 rfl)) fun a64 f64 => ?_
    refine RB.tk 2 f64 rfl ⟨HK, BT, RT, RS, RU, MO, MF, PS, PF, Bg0, Bg2⟩ (fun W hW => (E.fa 31 f64 U53 rfl wsz50_th)) fun a65 f65 => ?_
    refine RB.tk 3 f65 rfl ⟨HK, BT, RT, RS, RU, MO, MF, PS, PF, Bg0, Bg2⟩ (fun W hW => (E.ld f65 U50 (hW.2.1))) fun a66 f66 => ?_
    refine RB.tk 4 f66 rfl ⟨HK, BT, RT, RS, RU, MO, MF, PS, PF, Bg0, Bg2⟩ (fun W hW => (E.fa 4 f66 U34 rfl wsz3_th)) fun a67 f67 => ?_
    refine RB.tk 5 f67 rfl ⟨HK, BT, RT, RS, RU, MO, MF, PS, PF, Bg0, Bg2⟩ (fun W hW => (E.ld f67 U3 (hW.2.2.2.2.2.2.2.2.2.1))) fun a68 f68 => ?_
    refine RB.tk 6 f68 rfl ⟨HK, BT, RT, RS, RU, MO, MF, PS, PF, Bg0, Bg2⟩ (fun W hW => (E.loadB f68 U89 rfl wsz89_th rfl (hW.2.2.2.2.2.2.2.2.2.2) rfl)) fun a69 f69 => ?_
    clear f62 a61 f63 a63 f64 a64 f65 a65 f66 a66 f67 a67 f68 a68
    refine RB.stop (by kernel_rfl) ?_
    refine R.one 7 (by kernel_rfl) ?_
    refine O.mapPutA f69 rfl wantedN MF outOk U50 (p.id) hid ({ fo with recd := true }) rfl rfl rfl (Nat.lt_of_le_of_lt hl5 (by unfold maxLen; omega)) (fun _ _ _ => trivial) fun a70 w7 MN ks f70 => ?_
    have szw7 := ks.size
    have HKn := HK.trans ks (fun x hx hlt => by obtain rfl := List.mem_singleton.1 hx; exact fp_f)
    have BTn := BT.kept ks (by simpa using Ne.symm (IsAss.ne_blk MF BT))
    have RTn := own_keptM RT ks MF
    have RSn := own_keptM RS ks MF
    have RUn := own_keptM RU ks MF
    have MOn := IsAss.kept MO ks (by simpa using nof)
    have PSn := PS.keptT ks (NoPk.map MF)
    have PFn := PF.keptT ks (NoPk.map MF)
    have Bg0n := Bg0.kept ks (by simpa using Ne.symm (IsAss.ne_blk MF Bg0))
    have Bg2n := Bg2.kept ks (by simpa using Ne.symm (IsAss.ne_blk MF Bg2))
    clear f69 a69 ks MF HK BT RT RS RU MO PS PF Bg0 Bg2
    have HK := HKn
    have BT := BTn
    have RT := RTn
    have RS := RSn
    have RU := RUn
    have MO := MOn
    have PS := PSn
    have PF := PFn
    have Bg0 := Bg0n
    have Bg2 := Bg2n
    clear HKn BTn RTn RSn RUn MOn PSn PFn Bg0n Bg2n
    have MF := MN
    clear MN
    refine R.done (by kernel_rfl) (C.end0 (fn := Try.f30) f70 rfl ?_)
    have hsome := lk_get (show (lk m.out p.id).isSome = true by assumption) hfo
    obtain ⟨pk, pl⟩ := PF.at_ hsome
    rw [ack_eq e4 hfo, if_neg hs16, if_neg (fun e => Bool.noConfusion (e.symm.trans (show (lk m.out p.id).isSome = true by assumption))), if_neg (by rintro (⟨c1, c2⟩ | ⟨c1, c2⟩) <;> omega), if_pos ⟨by assumption, by assumption⟩]
    exact ⟨rfl, { m with out := (p.id, { fo with recd := true }) :: strike m.out p.id, n := m.n + 1 }, ⟨e1, e2, e3, out_put e4 _ _, BT, RT, RS, RU, MO, MF, nof, tu, tn, un, hlo, PS, PF.put _ pk pl, Nat.le_succ_of_le hl1, Nat.le_succ_of_le hl2, Nat.le_succ_of_le hl3, Nat.le_succ_of_le hl4, strike_le hl5 _ _, cnt_up hcn⟩, Nat.le_refl _, HK, fun x hx => .inl hx, fun x hx => .inl hx⟩
   refine C.condF f59 rfl ?_
   refine wp_skip (C.end0 (fn := Try.f30) f59 rfl ?_)
   rw [ack_eq e4 hfo, if_neg hs16, if_neg (fun e => Bool.noConfusion (e.symm.trans (show (lk m.out p.id).isSome = true by assumption))), if_neg (by rintro (⟨c1, c2⟩ | ⟨c1, c2⟩) <;> omega), if_neg (by omega)]
   exact ⟨rfl, m, ⟨e1, e2, e3, e4, BT, RT, RS, RU, MO, MF, nof, tu, tn, un, hlo, PS, PF, hl1, hl2, hl3, hl4, hl5, hcn⟩, by omega, HK, fun x hx => .inl hx, fun x hx => .inl hx⟩
  refine L.run f51 (rest' := []) (by kernel_rfl) fun a52 f52 => ?_
  clear f50
  refine wpList_nil (hK10 _ _ ?_)
  have f53 := f52.sub (scR f52 0 (scR f52 3 (scR f52 4 (sv 57 (.bool false) sn))))
  refine C.condF f53 rfl ?_
  refine wp_skip (C.end0 (fn := Try.f30) f53 rfl ?_)
  rw [ack_eq e4 hfo, if_neg hs16, if_neg (fun e => Bool.noConfusion (e.symm.trans (show (lk m.out p.id).isSome = true by assumption))), if_neg (by rintro (⟨c1, c2⟩ | ⟨c1, c2⟩) <;> first | omega | exact Bool.noConfusion (c2.symm.trans (show fo.gone = false by assumption))), if_neg (by omega)]
  exact ⟨rfl, m, ⟨e1, e2, e3, e4, BT, RT, RS, RU, MO, MF, nof, tu, tn, un, hlo, PS, PF, hl1, hl2, hl3, hl4, hl5, hcn⟩, by omega, HK, fun x hx => .inl hx, fun x hx => .inl hx⟩
 refine L.run f40 (rest' := []) (by kernel_rfl) fun a41 f41 => ?_
 clear f39
 refine wpList_nil (hK4 _ _ ?_)
 have f42 := f41.sub (scR f41 0 (scR f41 3 (scR f41 4 (sv 34 (.bool false) sn))))
 refine C.condF f42 rfl ?_
 refine C.sk fun K12 hK12 => ?_
 refine L.fa 0 f42 U34 rfl wsz3_th fun a43 f43 => ?_
 refine L.ld f43 U3 Bg0 fun a44 f44 => ?_
 refine L.va f44 (E.eq f44) fun a45 f45 => ?_
 refine L.mv f45 fun a46 f46 => ?_
 clear f41 f40 f42 a41 f43 a43 f44 a44 f45 a45
 refine f46.splitD 61 rfl (fun h14 f47 => ?_) (fun h14 f47 => ?_)
 ·refine L.fa 0 f47 U89 rfl wsz34_th (hw := (f47.yes rfl rfl)) fun a48 f48 => ?_
  refine L.fa 3 f48 U34 rfl wsz3_th (hw := (f48.yes rfl rfl)) fun a49 f49 => ?_
  refine L.ld f49 U3 Bg2 (hw := (f49.yes rfl rfl)) fun a50 f50 => ?_
  refine L.va f50 (E.eq f50) (hw := (f50.yes rfl rfl)) fun a51 f51 => ?_
  refine L.va f51 (E.pickT f51 rfl rfl) fun a52 f52 => ?_
  refine L.ag f52 fun a53 f53 => ?_
  refine wpList_nil (hK12 _ _ ?_)
  have f54 := f53.sub (sc 0 (sc 3 (sc 4 (sc 57 sn))))
  clear f46 f47 a46 f48 a48 f49 a49 f50 a50 f51 a51 f52 a52 f53
  refine f54.splitD 57 rfl (fun h15 f55 => ?_) (fun h15 f55 => ?_)
  ·refine C.condT f55 rfl ?_
   refine wp_seq_k fun K13 hK13 => ?_
   replace Bg2 : Blk w4 g2 89 #[.int .i64 fo.p.kind, .bool fo.p.dup, .bool fo.p.retain, .int .i64 fo.p.qos, .int .i64 fo.p.id, .string fo.p.topic, .slice fo.s.pa fo.p.pay.length fo.s.pc, .int .i64 fo.p.level, .string fo.p.client, .bool fo.p.clean, .int .i64 fo.p.keep, .bool fo.p.hasWill, .string fo.p.wt, .slice fo.s.wa fo.p.wp.length fo.s.wc, .int .i64 fo.p.wq, .bool fo.p.wr, .bool fo.p.hasUser, .bool fo.p.hasPass, .string fo.p.user, .slice fo.s.sa fo.p.pass.length fo.s.sc, .bool fo.p.present, .int .i64 fo.p.code, .slice fo.s.ua fo.p.subs.length fo.s.uc, .slice fo.s.ca fo.p.codes.length fo.s.cc, .bool fo.alone, .bool fo.recd, .bool fo.gone] := Bg2
   refine C.region ?_
   refine L.fa 25 f55 U89 rfl wsz4_th fun a56 f56 => ?_
   refine L.store f56 wantedN wsz4_th rfl rfl rfl Bg2 (by (simp [Value.cells]; done)) fun a57 w5 f57 NB5 ks5 => ?_
   have szw5 := ks5.size
   replace HK := HK.trans ks5 (fun x hx hlt => by obtain rfl := List.mem_singleton.1 hx; (exfalso; omega))
   replace BT := BT.kept ks5 (by simp; omega)
   replace RT := own_keptF RT ks5 hT0 frg2
   replace RS := own_keptF RS ks5 hS0 frg2
   replace RU := own_keptF RU ks5 hU0 frg2
   replace MO := IsAss.kept MO ks5 (by simpa using IsAss.ne_blk MO Bg2)
   replace MF := IsAss.kept MF ks5 (by simpa using IsAss.ne_blk MF Bg2)
   replace PS := PS.keptT ks5 (NoPk.blk Bg2 (by decide))
   replace PF := PF.keptT ks5 (NoPk.blk Bg2 (by decide))
   replace Bg0 := Bg0.kept ks5 (by simp; omega)
   replace Bg2 := NB5
   simp only [Value.cells, z1, z2, z3, Nat.reduceAdd, Nat.zero_add] at Bg2
   clear f54 f55 a53 ks5 f56 a56
   refine wpList_nil (hK13 _ _ ?_)
   have f58 := f57.sub (sc 0 (sc 3 (sc 4 sn)))
   have hd10 : Kept [] w5 (w5.drewN 1) := (Kept.refl _ _).drewN 1
   refine RB.begin (S := fun W => (Kept (m.fp g) w W) ∧ (Blk W g 53 (trL t m)) ∧ (Row W m.At m.ct m.told) ∧ (Row W m.Au m.cu m.subs) ∧ (Row W m.An m.cn m.uns) ∧ (IsAss ansM Try.prog W m.mo t.owed) ∧ (IsAss outM Try.prog W m.mf m.out) ∧ (PksO W m.subs) ∧ (FlsO W m.out) ∧ (Blk W g0 34 (p.cells s)) ∧ (Blk W g2 89 #[.int .i64 fo.p.kind, .bool fo.p.dup, .bool fo.p.retain, .int .i64 fo.p.qos, .int .i64 fo.p.id, .string fo.p.topic, .slice fo.s.pa fo.p.pay.length fo.s.pc, .int .i64 fo.p.level, .string fo.p.client, .bool fo.p.clean, .int .i64 fo.p.keep, .bool fo.p.hasWill, .string fo.p.wt, .slice fo.s.wa fo.p.wp.length fo.s.wc, .int .i64 fo.p.wq, .bool fo.p.wr, .bool fo.p.hasUser, .bool fo.p.hasPass, .string fo.p.user, .slice fo.s.sa fo.p.pass.length fo.s.sc, .bool fo.p.present, .int .i64 fo.p.code, .slice fo.s.ua fo.p.subs.length fo.s.uc, .slice fo.s.ca fo.p.codes.length fo.s.cc, .bool fo.alone, .bool true, .bool fo.gone])) 7 (by kernel_rfl) ⟨HK.z hd10, BT.z hd10, Own.z RT hd10, Own.z RS hd10, Own.z RU hd10, IsAss.z MO hd10, IsAss.z MF hd10, PS.keptT hd10 (NoPk.nil _), PF.keptT hd10 (NoPk.nil _), Bg0.z hd10, Bg2.z hd10⟩ ?_
   obtain ⟨w6, hww6⟩ : ∃ W, W = w5.drewN 1 := ⟨_, rfl⟩
   rw [← hww6] at hd10 ⊢
   clear f57 hww6
   have szw6 := hd10.size
   replace HK := HK.z hd10
   replace BT := BT.z hd10
   replace RT := Own.z RT hd10
   replace RS := Own.z RS hd10
   replace RU := Own.z RU hd10
   replace MO := IsAss.z MO hd10
   replace MF := IsAss.z MF hd10
   replace PS := PS.keptT hd10 (NoPk.nil _)
   replace PF := PF.keptT hd10 (NoPk.nil _)
   replace Bg0 := Bg0.z hd10
   replace Bg2 := Bg2.z hd10
   clear hd10
   refine RB.tk 0 f58 rfl ⟨HK, BT, RT, RS, RU, MO, MF, PS, PF, Bg0, Bg2⟩ (fun W hW => (E.move f58 rfl)) fun a59 f59 => ?_
   refine RB.tk 1 f59 rfl ⟨HK, BT, RT, RS, RU, MO, MF, PS, PF, Bg0, Bg2⟩ (fun W hW => (E.nilCheck f59 rfl)) fun a60 f60 => ?_
   refine RB.tk 2 f60 rfl ⟨HK, BT, RT, RS, RU, MO, MF, PS, PF, Bg0, Bg2⟩ (fun W hW => (E.fa 31 f60 U53 rfl wsz50_th)) fun a61 f61 => ?_
   refine RB.tk 3 f61 rfl ⟨HK, BT, RT, RS, RU, MO, MF, PS, PF, Bg0, Bg2⟩ (fun W hW => (E.ld f61 U50 (hW.2.1))) fun a62 f62 => ?_
   refine RB.tk 4 f62 rfl ⟨HK, BT, RT, RS, RU, MO, MF, PS, PF, Bg0, Bg2⟩ (fun W hW => (E.fa 4 f62 U34 rfl wsz3_th)) fun a63 f63 => ?_
   refine RB.tk 5 f63 rfl ⟨HK, BT, RT, RS, RU, MO, MF, PS, PF, Bg0, Bg2⟩ (fun W hW => (E.ld f63 U3 (hW.2.2.2.2.2.2.2.2.2.1))) fun a64 f64 => ?_
   refine RB.tk 6 f64 rfl ⟨HK, BT, RT, RS, RU, MO, MF, PS, PF, Bg0, Bg2⟩ (fun W hW => (E.loadB f64 U89 rfl wsz89_th rfl (hW.2.2.2.2.2.2.2.2.2.2) rfl)) fun a65 f65 => ?_
   clear f58 a57 f59 a59 f60 a60 f61 a61 f62 a62 f63 a63 f64 a64
   refine RB.stop (by kernel_rfl) ?_
   refine R.one 7 (by kernel_rfl) ?_
   refine O.mapPutA f65 rfl wantedN MF outOk U50 (p.id) hid ({ fo with recd := true }) rfl rfl rfl (Nat.lt_of_le_of_lt hl5 (by unfold maxLen; omega)) (fun _ _ _ => trivial) fun a66 w7 MN ks f66 => ?_
   have szw7 := ks.size
   have HKn := HK.trans ks (fun x hx hlt => by obtain rfl := List.mem_singleton.1 hx; exact fp_f)
   have BTn := BT.kept ks (by simpa using Ne.symm (IsAss.ne_blk MF BT))
   have RTn := own_keptM RT ks MF
   have RSn := own_keptM RS ks MF
   have RUn := own_keptM RU ks MF
   have MOn := IsAss.kept MO ks (by simpa using nof)
   have PSn := PS.keptT ks (NoPk.map MF)
   have PFn := PF.keptT ks (NoPk.map MF)
   have Bg0n := Bg0.kept ks (by simpa using Ne.symm (IsAss.ne_blk MF Bg0))
   have Bg2n := Bg2.kept ks (by simpa using Ne.symm (IsAss.ne_blk MF Bg2))
   clear f65 a65 ks MF HK BT RT RS RU MO PS PF Bg0 Bg2
   have HK := HKn
   have BT := BTn
   have RT := RTn
   have RS := RSn
   have RU := RUn
   have MO := MOn
   have PS := PSn
   have PF := PFn
   have Bg0 := Bg0n
   have Bg2 := Bg2n
   clear HKn BTn RTn RSn RUn MOn PSn PFn Bg0n Bg2n
   have MF := MN
   clear MN
   refine R.done (by kernel_rfl) (C.end0 (fn := Try.f30) f66 rfl ?_)
   have hsome := lk_get (show (lk m.out p.id).isSome = true by assumption) hfo
   obtain ⟨pk, pl⟩ := PF.at_ hsome
   rw [ack_eq e4 hfo, if_neg hs16, if_neg (fun e => Bool.noConfusion (e.symm.trans (show (lk m.out p.id).isSome = true by assumption))), if_neg (by rintro (⟨c1, c2⟩ | ⟨c1, c2⟩) <;> omega), if_pos ⟨by assumption, by assumption⟩]
   exact ⟨rfl, { m with out := (p.id, { fo with recd := true }) :: strike m.out p.id, n := m.n + 1 }, ⟨e1, e2, e3, out_put e4 _ _, BT, RT, RS, RU, MO, MF, nof, tu, tn, un, hlo, PS, PF.put _ pk pl, Nat.le_succ_of_le hl1, Nat.le_succ_of_le hl2, Nat.le_succ_of_le hl3, Nat.le_succ_of_le hl4, strike_le hl5 _ _, cnt_up hcn⟩, Nat.le_refl _, HK, fun x hx => .inl hx, fun x hx => .inl hx⟩
  refine C.condF f55 rfl ?_
  refine wp_skip (C.end0 (fn := Try.f30) f55 rfl ?_)
  rw [ack_eq e4 hfo, if_neg hs16, if_neg (fun e => Bool.noConfusion (e.symm.trans (show (lk m.out p.id).isSome = true by assumption))), if_neg (by rintro (⟨c1, c2⟩ | ⟨c1, c2⟩) <;> omega), if_neg (by omega)]
  exact ⟨rfl, m, ⟨e1, e2, e3, e4, BT, RT, RS, RU, MO, MF, nof, tu, tn, un, hlo, PS, PF, hl1, hl2, hl3, hl4, hl5, hcn⟩, by omega, HK, fun x hx => .inl hx, fun x hx => .inl hx⟩
 refine L.run f47 (rest' := []) (by kernel_rfl) fun a48 f48 => ?_
 clear f46
 refine wpList_nil (hK12 _ _ ?_)
 have f49 := f48.sub (scR f48 0 (scR f48 3 (scR f48 4 (sv 57 (.bool false) sn))))
 refine C.condF f49 rfl ?_
 refine wp_skip (C.end0 (fn := Try.f30) f49 rfl ?_)
 rw [ack_eq e4 hfo, if_neg hs16, if_neg (fun e => Bool.noConfusion (e.symm.trans (show (lk m.out p.id).isSome = true by assumption))), if_neg (by rintro (⟨c1, c2⟩ | ⟨c1, c2⟩) <;> omega), if_neg (by omega)]
 exact ⟨rfl, m, ⟨e1, e2, e3, e4, BT, RT, RS, RU, MO, MF, nof, tu, tn, un, hlo, PS, PF, hl1, hl2, hl3, hl4, hl5, hcn⟩, by omega, HK, fun x hx => .inl hx, fun x hx => .inl hx⟩
end Go.Proofs.Ytkdeedhjkjffpaa
namespace Go.Proofs.Ytkdeedhjkjffpaa
open Go.RowKit Go.Hub Go.Lib Go.WideShapes Go.ChangeMaps
theorem wsz3_ti : (Try.prog.info? 3).map (·.size) = some 1 := by kernel_rfl
theorem wsz4_ti : (Try.prog.info? 4).map (·.size) = some 1 := by kernel_rfl
theorem wsz34_ti : (Try.prog.info? 34).map (·.size) = some 24 := by kernel_rfl
theorem wsz50_ti : (Try.prog.info? 50).map (·.size) = some 1 := by kernel_rfl
theorem wsz89_ti : (Try.prog.info? 89).map (·.size) = some 27 := by kernel_rfl
theorem wbl89_0_ti (x0_0 x0_1 x0_2 x0_3 x0_4 x0_5 x0_6 x0_7 x0_8 x0_9 x0_10 x0_11 x0_12 x0_13 x0_14 x0_15 x0_16 x0_17 x0_18 x0_19 x0_20 x0_21 x0_22 x0_23 : Value) : Try.prog.built 89 [(0, .agg #[x0_0, x0_1, x0_2, x0_3, x0_4, x0_5, x0_6, x0_7, x0_8, x0_9, x0_10, x0_11, x0_12, x0_13, x0_14, x0_15, x0_16, x0_17, x0_18, x0_19, x0_20, x0_21, x0_22, x0_23])] = some #[x0_0, x0_1, x0_2, x0_3, x0_4, x0_5, x0_6, x0_7, x0_8, x0_9, x0_10, x0_11, x0_12, x0_13, x0_14, x0_15, x0_16, x0_17, x0_18, x0_19, x0_20, x0_21, x0_22, x0_23, (.bool false), (.bool false), (.bool false)] := by kernel_rfl
theorem fl_row {w : World} {g : Nat} {t : TypeId} {fo : Fl} (B : Blk w g t fo.cells) : w.rangeAt g (0 + 0) (fo.p.cells fo.s).toList := fun j u hj => by
  have e : fo.cells.toList = (fo.p.cells fo.s).toList ++ [.bool fo.alone, .bool fo.recd, .bool fo.gone] := rfl
  have h : fo.cells.toList[j]? = some u := by
    rw [e, List.getElem?_append_left (List.getElem?_eq_some_iff.1 hj).1]
    exact hj
  have := B.cl h
  simpa using this
section
variable {t : Tr} {p : Pk} {o : List (Int × Fl)} {fo : Fl}
theorem pub_0 (h : p.qos = 0) : t.pubT p = (true, t) := by unfold Tr.pubT; rw [if_pos h]
theorem pub_new (e : t.out = o.map fun p => (p.1, p.2.pure)) (h : ¬ p.qos = 0) (hl : (lk o p.id).isSome = false) : t.pubT p = (true, { t with out := (p.id, (p, false, false, false)) :: strike t.out p.id }) := by
  unfold Tr.pubT
  have hn : lk o p.id = none := by
    cases hq : lk o p.id with
    | none => rfl
    | some v => rw [hq] at hl; cases hl
  rw [if_neg h, show lk t.out p.id = none by rw [e, lk_map, hn]; rfl]
theorem pub_old (e : t.out = o.map fun p => (p.1, p.2.pure)) (h : ¬ p.qos = 0) (hl : lk o p.id = some fo) : t.pubT p = (p.dup && !fo.alone && !fo.recd && samePk { fo.p with dup := p.dup, retain := p.retain } p, t) := by
  unfold Tr.pubT
  rw [if_neg h, show lk t.out p.id = some fo.pure by rw [e, lk_map, hl]; rfl]
  rfl
end
set_option maxHeartbeats 4000000 in
theorem pub_any (p : Pk) (s : Ad) (hid : (Lit.int .i64 p.id).wf = true) (B g : Nat) (t : Tr) (m : TrM) (w : World) (T : TrIn B w g t m) (hn : m.n ≤ 1000000) (PP : PkS B w p s) (hL : p.Len) : Calls Try.prog 34 #[.pointer (some ⟨g, 0, none⟩), .agg (p.cells s)] w (TrPost B g m w (t.pubT p).2 (.bool (t.pubT p).1)) := by
 have HK : Kept (m.fp g) w w := Kept.refl _ _
 obtain ⟨e1, e2, e3, e4, BT, RT, RS, RU, MO, MF, nof, tu, tn, un, hlo, PS, PF, hl1, hl2, hl3, hl4, hl5, hcn⟩ := T
 replace BT : Blk w g 53 #[.bool t.clean, .int .i64 t.gr.kind, .bool t.gr.dup, .bool t.gr.retain, .int .i64 t.gr.qos, .int .i64 t.gr.id, .string t.gr.topic, .slice m.gs.pa t.gr.pay.length m.gs.pc, .int .i64 t.gr.level, .string t.gr.client, .bool t.gr.clean, .int .i64 t.gr.keep, .bool t.gr.hasWill, .string t.gr.wt, .slice m.gs.wa t.gr.wp.length m.gs.wc, .int .i64 t.gr.wq, .bool t.gr.wr, .bool t.gr.hasUser, .bool t.gr.hasPass, .string t.gr.user, .slice m.gs.sa t.gr.pass.length m.gs.sc, .bool t.gr.present, .int .i64 t.gr.code, .slice m.gs.ua t.gr.subs.length m.gs.uc, .slice m.gs.ca t.gr.codes.length m.gs.cc, .bool t.greeted, .slice m.At m.told.length m.ct, .bool t.left, .slice m.Au m.subs.length m.cu, .slice m.An m.uns.length m.cn, .map (some m.mo), .map (some m.mf)] := BT
 have hgl := BT.lt
 have hgo := IsAss.ne_blk MO BT
 have hgf := IsAss.ne_blk MF BT
 have hmo := IsAss.lt MO
 have hmf := IsAss.lt MF
 have hT0 := own_lt RT
 have hS0 := own_lt RS
 have hU0 := own_lt RU
 obtain ⟨fo, hfo⟩ : ∃ fo, fo = (lk m.out p.id).getD Fl.zero := ⟨_, rfl⟩
 refine C.enter Try.func34 rfl Try.ntmps34 rfl ?_
 intro a0 f0
 have f1 : Fr 57 a0 [(0, .pointer (some ⟨g, 0, none⟩)), (1, .agg (p.cells s))] := f0
 refine C.sk fun K0 hK0 => ?_
 refine L.box f1 wantedN (by decide) rfl rfl fun a2 w1 g0 N0 f2 => ?_
 have Bg0 := N0.blk
 have kg0 := N0.kept
 have log0 := N0.lo
 have ltg0 := Bg0.lt
 have szw1 := kg0.size
 have frg0 : w.heap.size ≤ g0 := Nat.le_trans HK.size log0
 have neg_g0 : g ≠ g0 := by have := BT.lt; omega
 replace HK := HK.z kg0
 replace BT := BT.z kg0
 replace RT := Own.z RT kg0
 replace RS := Own.z RS kg0
 replace RU := Own.z RU kg0
 replace MO := IsAss.z MO kg0
 replace MF := IsAss.z MF kg0
 replace PS := PS.keptT kg0 (NoPk.nil _)
 replace PF := PF.keptT kg0 (NoPk.nil _)
 replace PP := PP.kept0 kg0
 clear f0 N0 kg0
 refine L.ag f2 fun a3 f3 => ?_
 refine wpList_nil (hK0 _ _ ?_)
 have f4 := f3.sub (sc 0 (sc 3 sn))
 refine wp_seq_k fun K1 hK1 => ?_
 refine C.sk fun K2 hK2 => ?_
 refine L.fa 3 f4 U34 rfl wsz3_ti fun a5 f5 => ?_
 refine L.ld f5 U3 Bg0 fun a6 f6 => ?_
 refine L.va f6 (E.eq f6) fun a7 f7 => ?_
 refine wpList_nil (hK2 _ _ ?_)
 have f8 := f7.sub (sc 0 (sc 3 (sc 10 sn)))
 clear f1 a0 f2 a2 f3 f4 a3 f5 a5 f6 a6 f7
 refine f8.splitD 10 rfl (fun h0 f9 => ?_) (fun h0 f9 => ?_)
 ·have hs10 := h0
  refine C.condT f9 rfl ?_
  refine C.sk fun K3 hK3 => ?_
  refine L.ag f9 fun a10 f10 => ?_
  have f11 := f10.sub (sc 4 sn)
  refine wpList_nil (hK3 _ _ (wp_ret ?_)); (try simp only [xt, xb]); refine C.ret f11 rfl rfl ?_
  rw [pub_0 (by assumption)]
  exact ⟨rfl, m, ⟨e1, e2, e3, e4, BT, RT, RS, RU, MO, MF, nof, tu, tn, un, hlo, PS, PF, hl1, hl2, hl3, hl4, hl5, hcn⟩, by omega, HK, fun x hx => .inl hx, fun x hx => .inl hx⟩
 have hs10 := h0
 refine C.condF f9 rfl ?_
 refine wp_skip (hK1 _ _ ?_)
 have f10 := f9.sub (sc 0 (sc 3 sn))
 refine wp_seq_k fun K4 hK4 => ?_
 have hd3 : Kept [] w1 (w1.drewN 1) := (Kept.refl _ _).drewN 1
 refine R.beginT (S := fun W => (Kept (m.fp g) w W) ∧ (Blk W g 53 (trL t m)) ∧ (Row W m.At m.ct m.told) ∧ (Row W m.Au m.cu m.subs) ∧ (Row W m.An m.cn m.uns) ∧ (IsAss ansM Try.prog W m.mo t.owed) ∧ (IsAss outM Try.prog W m.mf m.out) ∧ (PksO W m.subs) ∧ (FlsO W m.out) ∧ (PkS B W p s) ∧ (Blk W g0 34 (p.cells s))) (by kernel_rfl) (by kernel_rfl) ⟨HK.z hd3, BT.z hd3, Own.z RT hd3, Own.z RS hd3, Own.z RU hd3, IsAss.z MO hd3, IsAss.z MF hd3, PS.keptT hd3 (NoPk.nil _), PF.keptT hd3 (NoPk.nil _), PP.kept0 hd3, Bg0.z hd3⟩ fun ht => ?_
 obtain ⟨w2, hww2⟩ : ∃ W, W = w1.drewN 1 := ⟨_, rfl⟩
 rw [← hww2] at hd3 ⊢
 clear f8 f9 hww2
 have szw2 := hd3.size
 replace HK := HK.z hd3
 replace BT := BT.z hd3
 replace RT := Own.z RT hd3
 replace RS := Own.z RS hd3
 replace RU := Own.z RU hd3
 replace MO := IsAss.z MO hd3
 replace MF := IsAss.z MF hd3
 replace PS := PS.keptT hd3 (NoPk.nil _)
 replace PF := PF.keptT hd3 (NoPk.nil _)
 replace PP := PP.kept0 hd3
 replace Bg0 := Bg0.z hd3
 clear hd3
 refine R.u 0 f10 rfl ht ⟨HK, BT, RT, RS, RU, MO, MF, PS, PF, PP, Bg0⟩ (fun W hW => (E.move f10 rfl)) fun a11 f11 => ?_
 refine R.u 1 f11 rfl ht ⟨HK, BT, RT, RS, RU, MO, MF, PS, PF, PP, Bg0⟩ (fun W hW => (E.nilCheck f11 rfl)) fun a12 f12 => ?_
 refine R.u 2 f12 rfl ht ⟨HK, BT, RT, RS, RU, MO, MF, PS, PF, PP, Bg0⟩ (fun W hW => (E.fa 31 f12 U53 rfl wsz50_ti)) fun a13 f13 => ?_
 refine R.u 3 f13 rfl ht ⟨HK, BT, RT, RS, RU, MO, MF, PS, PF, PP, Bg0⟩ (fun W hW => (E.ld f13 U50 (hW.2.1))) fun a14 f14 => ?_
 refine R.u 4 f14 rfl ht ⟨HK, BT, RT, RS, RU, MO, MF, PS, PF, PP, Bg0⟩ (fun W hW => (E.fa 4 f14 U34 rfl wsz3_ti)) fun a15 f15 => ?_
 refine R.u 5 f15 rfl ht ⟨HK, BT, RT, RS, RU, MO, MF, PS, PF, PP, Bg0⟩ (fun W hW => (E.ld f15 U3 (hW.2.2.2.2.2.2.2.2.2.2))) fun a16 f16 => ?_
 refine R.u 6 f16 rfl ht ⟨HK, BT, RT, RS, RU, MO, MF, PS, PF, PP, Bg0⟩ (fun W hW => (E.lookF f16 hW.2.2.2.2.2.2.1 hid hfo rfl rfl)) fun a17 f17 => ?_
 clear f10 a7 f11 a11 f12 a12 f13 a13 f14 a14 f15 a15 f16 a16
 refine R.u 7 f17 rfl ht ⟨HK, BT, RT, RS, RU, MO, MF, PS, PF, PP, Bg0⟩ (fun W hW => (E.move f17 rfl)) fun a18 f18 => ?_
 refine R.u 8 f18 rfl ht ⟨HK, BT, RT, RS, RU, MO, MF, PS, PF, PP, Bg0⟩ (fun W hW => (E.extract f18 rfl rfl)) fun a19 f19 => ?_
 refine R.u 9 f19 rfl ht ⟨HK, BT, RT, RS, RU, MO, MF, PS, PF, PP, Bg0⟩ (fun W hW => (E.extract f19 rfl rfl)) fun a20 f20 => ?_
 refine R.one 10 (by kernel_rfl) ?_
 refine O.alloc f20 rfl wantedN (by decide) (z := z89) (fun _ => by kernel_rfl) rfl (fun _ hk => ⟨HK.z hk, BT.z hk, Own.z RT hk, Own.z RS hk, Own.z RU hk, IsAss.z MO hk, IsAss.z MF hk, PS.keptT hk (NoPk.nil _), PF.keptT hk (NoPk.nil _), PP.kept0 hk, Bg0.z hk⟩) fun a21 w3 g2 N2 hSn f21 => ?_
 clear f17 a17 f18 a18 f19 a19 hSn
 have Bg2 := N2.blk
 have kg2 := N2.kept
 have log2 := N2.lo
 have ltg2 := Bg2.lt
 have szw3 := kg2.size
 have frg2 : w.heap.size ≤ g2 := Nat.le_trans HK.size log2
 have neg_g2 : g ≠ g2 := by have := BT.lt; omega
 have neg0_g2 : g0 ≠ g2 := by have := Bg0.lt; omega
 replace HK := HK.z kg2
 replace BT := BT.z kg2
 replace RT := Own.z RT kg2
 replace RS := Own.z RS kg2
 replace RU := Own.z RU kg2
 replace MO := IsAss.z MO kg2
 replace MF := IsAss.z MF kg2
 replace PS := PS.keptT kg2 (NoPk.nil _)
 replace PF := PF.keptT kg2 (NoPk.nil _)
 replace PP := PP.kept0 kg2
 replace Bg0 := Bg0.z kg2
 clear N2 kg2
 refine R.one 11 (by kernel_rfl) ?_
 refine O.storeRS f21 rfl wantedN wsz89_ti rfl rfl rfl Bg2 rfl rfl (fun w' ks => ⟨HK.trans ks (fun x hx hlt => by obtain rfl := List.mem_singleton.1 hx; (exfalso; omega)), BT.kept ks (by simp; omega), own_keptF RT ks hT0 frg2, own_keptF RS ks hS0 frg2, own_keptF RU ks hU0 frg2, IsAss.kept MO ks (by simpa using IsAss.ne_blk MO Bg2), IsAss.kept MF ks (by simpa using IsAss.ne_blk MF Bg2), PS.keptT ks (NoPk.blk Bg2 (by decide)), PF.keptT ks (NoPk.blk Bg2 (by decide)), PP.keptT ks (NoPk.blk Bg2 (by decide)) (fun y hy => by have := List.mem_singleton.1 hy; have := hlo m.mo (by simp [fp]); have := hlo m.mf (by simp [fp]); have := hlo g (by simp [fp]); omega), Bg0.kept ks (by simp; omega)⟩) fun a22 w4 f22 NB ks => ?_
 have szw4 := ks.size
 have HKn := HK.trans ks (fun x hx hlt => by obtain rfl := List.mem_singleton.1 hx; (exfalso; omega))
 have BTn := BT.kept ks (by simp; omega)
 have RTn := own_keptF RT ks hT0 frg2
 have RSn := own_keptF RS ks hS0 frg2
 have RUn := own_keptF RU ks hU0 frg2
 have MOn := IsAss.kept MO ks (by simpa using IsAss.ne_blk MO Bg2)
 have MFn := IsAss.kept MF ks (by simpa using IsAss.ne_blk MF Bg2)
 have PSn := PS.keptT ks (NoPk.blk Bg2 (by decide))
 have PFn := PF.keptT ks (NoPk.blk Bg2 (by decide))
 have PPn := PP.keptT ks (NoPk.blk Bg2 (by decide)) (fun y hy => by have := List.mem_singleton.1 hy; have := hlo m.mo (by simp [fp]); have := hlo m.mf (by simp [fp]); have := hlo g (by simp [fp]); omega)
 have Bg0n := Bg0.kept ks (by simp; omega)
 replace Bg2 := NB
 clear f20 a20 f21 a21 NB ks HK BT RT RS RU MO MF PS PF PP Bg0
 have HK := HKn
 have BT := BTn
 have RT := RTn
 have RS := RSn
 have RU := RUn
 have MO := MOn
 have MF := MFn
 have PS := PSn
 have PF := PFn
 have PP := PPn
 have Bg0 := Bg0n
 clear HKn BTn RTn RSn RUn MOn MFn PSn PFn PPn Bg0n
 refine R.u 12 f22 rfl ht ⟨HK, BT, RT, RS, RU, MO, MF, PS, PF, PP, Bg0⟩ (fun W hW => (E.assign f22 rfl)) fun a23 f23 => ?_
 refine R.done (by kernel_rfl) (hK4 _ _ ?_)
 have f24 := f23.sub (sc 0 (sc 3 (sc 5 (sc 6 sn))))
 refine wp_seq_k fun K5 hK5 => ?_
 refine wp_seq_k fun K6 hK6 => ?_
 replace Bg2 : Blk w4 g2 89 fo.cells := Bg2
 refine C.region ?_
 refine L.mv f24 fun a25 f25 => ?_
 refine L.va f25 (E.not f25 rfl) fun a26 f26 => ?_
 refine wpList_nil (hK6 _ _ ?_)
 have f27 := f26.sub (sc 0 (sc 3 (sc 5 (sc 22 sn))))
 clear f22 a22 f23 f24 a23 f25 a25 f26
 refine f27.splitNB 22 rfl (fun h1 f28 => ?_) (fun h1 f28 => ?_)
 ·refine C.condT f28 rfl ?_
  refine wp_seq_k fun K7 hK7 => ?_
  have hd5 : Kept [] w4 (w4.drewN 1) := (Kept.refl _ _).drewN 1
  refine RB.begin (S := fun W => (Kept (m.fp g) w W) ∧ (Blk W g 53 (trL t m)) ∧ (Row W m.At m.ct m.told) ∧ (Row W m.Au m.cu m.subs) ∧ (Row W m.An m.cn m.uns) ∧ (IsAss ansM Try.prog W m.mo t.owed) ∧ (IsAss outM Try.prog W m.mf m.out) ∧ (PksO W m.subs) ∧ (FlsO W m.out) ∧ (PkS B W p s) ∧ (Blk W g0 34 (p.cells s)) ∧ (Blk W g2 89 fo.cells)) 9 (by kernel_rfl) ⟨HK.z hd5, BT.z hd5, Own.z RT hd5, Own.z RS hd5, Own.z RU hd5, IsAss.z MO hd5, IsAss.z MF hd5, PS.keptT hd5 (NoPk.nil _), PF.keptT hd5 (NoPk.nil _), PP.kept0 hd5, Bg0.z hd5, Bg2.z hd5⟩ ?_
  obtain ⟨w5, hww5⟩ : ∃ W, W = w4.drewN 1 := ⟨_, rfl⟩
  rw [← hww5] at hd5 ⊢
  clear f27 hww5
  have szw5 := hd5.size
  replace HK := HK.z hd5
  replace BT := BT.z hd5
  replace RT := Own.z RT hd5
  replace RS := Own.z RS hd5
  replace RU := Own.z RU hd5
  replace MO := IsAss.z MO hd5
  replace MF := IsAss.z MF hd5
  replace PS := PS.keptT hd5 (NoPk.nil _)
  replace PF := PF.keptT hd5 (NoPk.nil _)
  replace PP := PP.kept0 hd5
  replace Bg0 := Bg0.z hd5
  replace Bg2 := Bg2.z hd5
  clear hd5
  refine RB.tk 0 f28 rfl ⟨HK, BT, RT, RS, RU, MO, MF, PS, PF, PP, Bg0, Bg2⟩ (fun W hW => (E.move f28 rfl)) fun a29 f29 => ?_
  refine RB.tk 1 f29 rfl ⟨HK, BT, RT, RS, RU, MO, MF, PS, PF, PP, Bg0, Bg2⟩ (fun W hW => (E.nilCheck f29 rfl)) fun a30 f30 => ?_
  refine RB.tk 2 f30 rfl ⟨HK, BT, RT, RS, RU, MO, MF, PS, PF, PP, Bg0, Bg2⟩ (fun W hW => (E.fa 31 f30 U53 rfl wsz50_ti)) fun a31 f31 => ?_
  refine RB.tk 3 f31 rfl ⟨HK, BT, RT, RS, RU, MO, MF, PS, PF, PP, Bg0, Bg2⟩ (fun W hW => (E.ld f31 U50 (hW.2.1))) fun a32 f32 => ?_
  refine RB.tk 4 f32 rfl ⟨HK, BT, RT, RS, RU, MO, MF, PS, PF, PP, Bg0, Bg2⟩ (fun W hW => (E.fa 4 f32 U34 rfl wsz3_ti)) fun a33 f33 => ?_
  refine RB.tk 5 f33 rfl ⟨HK, BT, RT, RS, RU, MO, MF, PS, PF, PP, Bg0, Bg2⟩ (fun W hW => (E.ld f33 U3 (hW.2.2.2.2.2.2.2.2.2.2.1))) fun a34 f34 => ?_
  refine RB.tk 6 f34 rfl ⟨HK, BT, RT, RS, RU, MO, MF, PS, PF, PP, Bg0, Bg2⟩ (fun W hW => (E.loadB f34 U34 rfl wsz34_ti rfl (hW.2.2.2.2.2.2.2.2.2.2.1) rfl)) fun a35 f35 => ?_
  clear f28 a26 f29 a29 f30 a30 f31 a31 f32 a32 f33 a33 f34 a34
  refine RB.call 7 f35 rfl rfl (by decide) (by kernel_rfl) (by kernel_rfl) wantedN (run_call Try.call27 (args1 f35 rfl)) (copy_any p s _ PP.toIn hL) ?_
  rintro e w6 ⟨kc6, tt, rfl, PT⟩
  have szw6 := kc6.size
  replace HK := HK.z kc6
  replace BT := BT.z kc6
  replace RT := Own.z RT kc6
  replace RS := Own.z RS kc6
  replace RU := Own.z RU kc6
  replace MO := IsAss.z MO kc6
  replace MF := IsAss.z MF kc6
  replace PS := PS.keptT kc6 (NoPk.nil _)
  replace PF := PF.keptT kc6 (NoPk.nil _)
  replace PP := PP.kept0 kc6
  replace Bg0 := Bg0.z kc6
  replace Bg2 := Bg2.z kc6
  refine ⟨_, rfl, ⟨HK, BT, RT, RS, RU, MO, MF, PS, PF, PP, Bg0, Bg2⟩, fun a36 f36 => ?_⟩
  clear f35 a35 kc6
  refine RB.tk 8 f36 rfl ⟨HK, BT, RT, RS, RU, MO, MF, PS, PF, PP, Bg0, Bg2⟩ (fun W hW => (E.build f36 (parts1 f36 rfl) (wbl89_0_ti _ _ _ _ _ _ _ _ _ _ _ _ _ _ _ _ _ _ _ _ _ _ _ _))) fun a37 f37 => ?_
  refine RB.stop (by kernel_rfl) ?_
  refine R.one 9 (by kernel_rfl) ?_
  refine O.mapPutA f37 rfl wantedN MF outOk U50 (p.id) hid (⟨p, tt, false, false, false⟩) rfl rfl rfl (Nat.lt_of_le_of_lt hl5 (by unfold maxLen; omega)) (fun _ _ _ => trivial) fun a38 w7 MN ks f38 => ?_
  have szw7 := ks.size
  have HKn := HK.trans ks (fun x hx hlt => by obtain rfl := List.mem_singleton.1 hx; exact fp_f)
  have BTn := BT.kept ks (by simpa using Ne.symm (IsAss.ne_blk MF BT))
  have RTn := own_keptM RT ks MF
  have RSn := own_keptM RS ks MF
  have RUn := own_keptM RU ks MF
  have MOn := IsAss.kept MO ks (by simpa using nof)
  have PSn := PS.keptT ks (NoPk.map MF)
  have PFn := PF.keptT ks (NoPk.map MF)
  have PPn := PP.keptT ks (NoPk.map MF) (fun y hy => by obtain rfl := List.mem_singleton.1 hy; exact hlo _ (by simp [fp]))
  have Bg0n := Bg0.kept ks (by simpa using Ne.symm (IsAss.ne_blk MF Bg0))
  have Bg2n := Bg2.kept ks (by simpa using Ne.symm (IsAss.ne_blk MF Bg2))
  have PO := PT.o.keptT ks (NoPk.map MF)
  clear f36 a36 f37 a37 ks MF HK BT RT RS RU MO PS PF PP Bg0 Bg2
  have HK := HKn
  have BT := BTn
  have RT := RTn
  have RS := RSn
  have RU := RUn
  have MO := MOn
  have PS := PSn
  have PF := PFn
  have PP := PPn
  have Bg0 := Bg0n
  have Bg2 := Bg2n
  clear HKn BTn RTn RSn RUn MOn PSn PFn PPn Bg0n Bg2n
  have MF := MN
  clear MN
  refine R.done (by kernel_rfl) (hK7 _ _ ?_)
  have f39 := f38.sub sn
  refine C.sk fun K8 hK8 => ?_
  refine L.ag f39 fun a40 f40 => ?_
  have f41 := f40.sub (sc 4 sn)
  refine wpList_nil (hK8 _ _ (wp_ret ?_)); (try simp only [xt, xb]); refine C.ret f41 rfl rfl ?_
  rw [pub_new e4 hs10 (show (lk m.out p.id).isSome = false by assumption)]
  exact ⟨rfl, { m with out := (p.id, { p := p, s := tt, alone := false, recd := false, gone := false }) :: strike m.out p.id, n := m.n + 1 }, ⟨e1, e2, e3, out_put e4 p.id ⟨p, tt, false, false, false⟩, BT, RT, RS, RU, MO, MF, nof, tu, tn, un, hlo, PS, PF.put _ PO hL, Nat.le_succ_of_le hl1, Nat.le_succ_of_le hl2, Nat.le_succ_of_le hl3, Nat.le_succ_of_le hl4, strike_le hl5 _ _, cnt_up hcn⟩, Nat.le_refl _, HK, fun x hx => .inl hx, fun x hx => .inl hx⟩
 refine C.condF f28 rfl ?_
 refine wp_skip (hK5 _ _ ?_)
 have f29 := f28.sub (sc 3 (sc 5 sn))
 refine wp_seq_k fun K9 hK9 => ?_
 have hsome := lk_get (show (lk m.out p.id).isSome = true by assumption) hfo
 refine C.region ?_
 refine L.fa 0 f29 U89 rfl wsz34_ti fun a30 f30 => ?_
 refine L.va f30 (E.loadR f30 U34 rfl wsz34_ti rfl (fl_row Bg2) rfl) fun a31 f31 => ?_
 refine L.alloc f31 wantedN (by decide) (z := z34) (fun _ => by kernel_rfl) rfl fun a32 w5 g4 N4 f32 => ?_
 have Bg4 := N4.blk
 have kg4 := N4.kept
 have log4 := N4.lo
 have ltg4 := Bg4.lt
 have szw5 := kg4.size
 have frg4 : w.heap.size ≤ g4 := Nat.le_trans HK.size log4
 have neg_g4 : g ≠ g4 := by have := BT.lt; omega
 have neg0_g4 : g0 ≠ g4 := by have := Bg0.lt; omega
 have neg2_g4 : g2 ≠ g4 := by have := Bg2.lt; omega
 replace HK := HK.z kg4
 replace BT := BT.z kg4
 replace RT := Own.z RT kg4
 replace RS := Own.z RS kg4
 replace RU := Own.z RU kg4
 replace MO := IsAss.z MO kg4
 replace MF := IsAss.z MF kg4
 replace PS := PS.keptT kg4 (NoPk.nil _)
 replace PF := PF.keptT kg4 (NoPk.nil _)
 replace PP := PP.kept0 kg4
 replace Bg0 := Bg0.z kg4
 replace Bg2 := Bg2.z kg4
 clear f27 f28 f29 a26 f30 a30 N4 kg4
 refine L.storeR f32 wantedN wsz34_ti rfl rfl rfl Bg4 rfl rfl fun a33 w6 f33 NB6 ks6 => ?_
 have szw6 := ks6.size
 replace HK := HK.trans ks6 (fun x hx hlt => by obtain rfl := List.mem_singleton.1 hx; (exfalso; omega))
 replace BT := BT.kept ks6 (by simp; omega)
 replace RT := own_keptF RT ks6 hT0 frg4
 replace RS := own_keptF RS ks6 hS0 frg4
 replace RU := own_keptF RU ks6 hU0 frg4
 replace MO := IsAss.kept MO ks6 (by simpa using IsAss.ne_blk MO Bg4)
 replace MF := IsAss.kept MF ks6 (by simpa using IsAss.ne_blk MF Bg4)
 replace PS := PS.keptT ks6 (NoPk.blk Bg4 (by decide))
 replace PF := PF.keptT ks6 (NoPk.blk Bg4 (by decide))
 replace PP := PP.keptT ks6 (NoPk.blk Bg4 (by decide)) (fun y hy => by have := List.mem_singleton.1 hy; have := hlo m.mo (by simp [fp]); have := hlo m.mf (by simp [fp]); have := hlo g (by simp [fp]); omega)
 replace Bg0 := Bg0.kept ks6 (by simp; omega)
 replace Bg2 := Bg2.kept ks6 (by simp; omega)
 replace Bg4 := NB6
 clear f31 a31 ks6 f32 a32
 refine wpList_nil (hK9 _ _ ?_)
 have f34 := f33.sub (sc 3 (sc 5 (sc 7 sn)))
 refine wp_seq_k fun K10 hK10 => ?_
 replace Bg4 : Blk w6 g4 34 #[.int .i64 fo.p.kind, .bool fo.p.dup, .bool fo.p.retain, .int .i64 fo.p.qos, .int .i64 fo.p.id, .string fo.p.topic, .slice fo.s.pa fo.p.pay.length fo.s.pc, .int .i64 fo.p.level, .string fo.p.client, .bool fo.p.clean, .int .i64 fo.p.keep, .bool fo.p.hasWill, .string fo.p.wt, .slice fo.s.wa fo.p.wp.length fo.s.wc, .int .i64 fo.p.wq, .bool fo.p.wr, .bool fo.p.hasUser, .bool fo.p.hasPass, .string fo.p.user, .slice fo.s.sa fo.p.pass.length fo.s.sc, .bool fo.p.present, .int .i64 fo.p.code, .slice fo.s.ua fo.p.subs.length fo.s.uc, .slice fo.s.ca fo.p.codes.length fo.s.cc] := Bg4
 have hd8 : Kept [] w6 (w6.drewN 1) := (Kept.refl _ _).drewN 1
 refine R.beginT (S := fun W => (Kept (m.fp g) w W) ∧ (Blk W g 53 (trL t m)) ∧ (Row W m.At m.ct m.told) ∧ (Row W m.Au m.cu m.subs) ∧ (Row W m.An m.cn m.uns) ∧ (IsAss ansM Try.prog W m.mo t.owed) ∧ (IsAss outM Try.prog W m.mf m.out) ∧ (PksO W m.subs) ∧ (FlsO W m.out) ∧ (PkS B W p s) ∧ (Blk W g0 34 (p.cells s)) ∧ (Blk W g2 89 fo.cells)) (by kernel_rfl) (by kernel_rfl) ⟨HK.z hd8, BT.z hd8, Own.z RT hd8, Own.z RS hd8, Own.z RU hd8, IsAss.z MO hd8, IsAss.z MF hd8, PS.keptT hd8 (NoPk.nil _), PF.keptT hd8 (NoPk.nil _), PP.kept0 hd8, Bg0.z hd8, Bg2.z hd8⟩ fun ht => ?_
 obtain ⟨w7, hww7⟩ : ∃ W, W = w6.drewN 1 := ⟨_, rfl⟩
 rw [← hww7] at hd8 ⊢
 clear f33 hww7
 have szw7 := hd8.size
 replace HK := HK.z hd8
 replace BT := BT.z hd8
 replace RT := Own.z RT hd8
 replace RS := Own.z RS hd8
 replace RU := Own.z RU hd8
 replace MO := IsAss.z MO hd8
 replace MF := IsAss.z MF hd8
 replace PS := PS.keptT hd8 (NoPk.nil _)
 replace PF := PF.keptT hd8 (NoPk.nil _)
 replace PP := PP.kept0 hd8
 replace Bg0 := Bg0.z hd8
 replace Bg2 := Bg2.z hd8
 replace Bg4 := Bg4.z hd8
 clear hd8
 refine R.u 0 f34 rfl ht ⟨HK, BT, RT, RS, RU, MO, MF, PS, PF, PP, Bg0, Bg2⟩ (fun W hW => (E.fa 1 f34 U34 rfl wsz4_ti)) fun a35 f35 => ?_
 refine R.u 1 f35 rfl ht ⟨HK, BT, RT, RS, RU, MO, MF, PS, PF, PP, Bg0, Bg2⟩ (fun W hW => (E.ld f35 U4 (hW.2.2.2.2.2.2.2.2.2.2.1))) fun a36 f36 => ?_
 refine R.u 2 f36 rfl ht ⟨HK, BT, RT, RS, RU, MO, MF, PS, PF, PP, Bg0, Bg2⟩ (fun W hW => (E.fa 2 f36 U34 rfl wsz4_ti)) fun a37 f37 => ?_
 refine R.u 3 f37 rfl ht ⟨HK, BT, RT, RS, RU, MO, MF, PS, PF, PP, Bg0, Bg2⟩ (fun W hW => (E.ld f37 U4 (hW.2.2.2.2.2.2.2.2.2.2.1))) fun a38 f38 => ?_
 refine R.u 4 f38 rfl ht ⟨HK, BT, RT, RS, RU, MO, MF, PS, PF, PP, Bg0, Bg2⟩ (fun W hW => (E.fa 1 f38 U34 rfl wsz4_ti)) fun a39 f39 => ?_
 refine R.one 5 (by kernel_rfl) ?_
 refine O.store f39 rfl wantedN wsz4_ti rfl rfl rfl Bg4 (by simp) (fun w' ks => ⟨HK.trans ks (fun x hx hlt => by obtain rfl := List.mem_singleton.1 hx; (exfalso; omega)), BT.kept ks (by simp; omega), own_keptF RT ks hT0 frg4, own_keptF RS ks hS0 frg4, own_keptF RU ks hU0 frg4, IsAss.kept MO ks (by simpa using IsAss.ne_blk MO Bg4), IsAss.kept MF ks (by simpa using IsAss.ne_blk MF Bg4), PS.keptT ks (NoPk.blk Bg4 (by decide)), PF.keptT ks (NoPk.blk Bg4 (by decide)), PP.keptT ks (NoPk.blk Bg4 (by decide)) (fun y hy => by have := List.mem_singleton.1 hy; have := hlo m.mo (by simp [fp]); have := hlo m.mf (by simp [fp]); have := hlo g (by simp [fp]); omega), Bg0.kept ks (by simp; omega), Bg2.kept ks (by simp; omega)⟩) fun a40 w8 f40 NB ks => ?_
 have szw8 := ks.size
 have HKn := HK.trans ks (fun x hx hlt => by obtain rfl := List.mem_singleton.1 hx; (exfalso; omega))
 have BTn := BT.kept ks (by simp; omega)
 have RTn := own_keptF RT ks hT0 frg4
 have RSn := own_keptF RS ks hS0 frg4
 have RUn := own_keptF RU ks hU0 frg4
 have MOn := IsAss.kept MO ks (by simpa using IsAss.ne_blk MO Bg4)
 have MFn := IsAss.kept MF ks (by simpa using IsAss.ne_blk MF Bg4)
 have PSn := PS.keptT ks (NoPk.blk Bg4 (by decide))
 have PFn := PF.keptT ks (NoPk.blk Bg4 (by decide))
 have PPn := PP.keptT ks (NoPk.blk Bg4 (by decide)) (fun y hy => by have := List.mem_singleton.1 hy; have := hlo m.mo (by simp [fp]); have := hlo m.mf (by simp [fp]); have := hlo g (by simp [fp]); omega)
 have Bg0n := Bg0.kept ks (by simp; omega)
 have Bg2n := Bg2.kept ks (by simp; omega)
 simp only [Nat.zero_add, Nat.reduceAdd, List.set_cons_zero, List.set_cons_succ] at NB
 replace Bg4 := NB
 clear f34 a33 f35 a35 f36 a36 f37 a37 f38 a38 f39 a39 ks HK BT RT RS RU MO MF PS PF PP Bg0 Bg2
 have HK := HKn
 have BT := BTn
 have RT := RTn
 have RS := RSn
 have RU := RUn
 have MO := MOn
 have MF := MFn
 have PS := PSn
 have PF := PFn
 have PP := PPn
 have Bg0 := Bg0n
 have Bg2 := Bg2n
 clear HKn BTn RTn RSn RUn MOn MFn PSn PFn PPn Bg0n Bg2n
 refine R.u 6 f40 rfl ht ⟨HK, BT, RT, RS, RU, MO, MF, PS, PF, PP, Bg0, Bg2⟩ (fun W hW => (E.fa 2 f40 U34 rfl wsz4_ti)) fun a41 f41 => ?_
 refine R.one 7 (by kernel_rfl) ?_
 refine O.store f41 rfl wantedN wsz4_ti rfl rfl rfl Bg4 (by simp) (fun w' ks => ⟨HK.trans ks (fun x hx hlt => by obtain rfl := List.mem_singleton.1 hx; (exfalso; omega)), BT.kept ks (by simp; omega), own_keptF RT ks hT0 frg4, own_keptF RS ks hS0 frg4, own_keptF RU ks hU0 frg4, IsAss.kept MO ks (by simpa using IsAss.ne_blk MO Bg4), IsAss.kept MF ks (by simpa using IsAss.ne_blk MF Bg4), PS.keptT ks (NoPk.blk Bg4 (by decide)), PF.keptT ks (NoPk.blk Bg4 (by decide)), PP.keptT ks (NoPk.blk Bg4 (by decide)) (fun y hy => by have := List.mem_singleton.1 hy; have := hlo m.mo (by simp [fp]); have := hlo m.mf (by simp [fp]); have := hlo g (by simp [fp]); omega), Bg0.kept ks (by simp; omega), Bg2.kept ks (by simp; omega)⟩) fun a42 w9 f42 NB ks => ?_
 have szw9 := ks.size
 have HKn := HK.trans ks (fun x hx hlt => by obtain rfl := List.mem_singleton.1 hx; (exfalso; omega))
 have BTn := BT.kept ks (by simp; omega)
 have RTn := own_keptF RT ks hT0 frg4
 have RSn := own_keptF RS ks hS0 frg4
 have RUn := own_keptF RU ks hU0 frg4
 have MOn := IsAss.kept MO ks (by simpa using IsAss.ne_blk MO Bg4)
 have MFn := IsAss.kept MF ks (by simpa using IsAss.ne_blk MF Bg4)
 have PSn := PS.keptT ks (NoPk.blk Bg4 (by decide))
 have PFn := PF.keptT ks (NoPk.blk Bg4 (by decide))
 have PPn := PP.keptT ks (NoPk.blk Bg4 (by decide)) (fun y hy => by have := List.mem_singleton.1 hy; have := hlo m.mo (by simp [fp]); have := hlo m.mf (by simp [fp]); have := hlo g (by simp [fp]); omega)
 have Bg0n := Bg0.kept ks (by simp; omega)
 have Bg2n := Bg2.kept ks (by simp; omega)
 simp only [Nat.zero_add, Nat.reduceAdd, List.set_cons_zero, List.set_cons_succ] at NB
 replace Bg4 := NB
 clear f40 a40 f41 a41 ks HK BT RT RS RU MO MF PS PF PP Bg0 Bg2
 have HK := HKn
 have BT := BTn
 have RT := RTn
 have RS := RSn
 have RU := RUn
 have MO := MOn
 have MF := MFn
 have PS := PSn
 have PF := PFn
 have PP := PPn
 have Bg0 := Bg0n
 have Bg2 := Bg2n
 clear HKn BTn RTn RSn RUn MOn MFn PSn PFn PPn Bg0n Bg2n
 refine R.done (by kernel_rfl) (hK10 _ _ ?_)
 have f43 := f42.sub (sc 3 (sc 5 (sc 7 sn)))
 refine wp_seq_k fun K11 hK11 => ?_
 replace Bg4 : Blk w9 g4 34 (({ fo.p with dup := p.dup, retain := p.retain } : Pk).cells fo.s) := Bg4
 obtain ⟨pk, pl⟩ := PF.at_ hsome
 refine C.region ?_
 refine L.fa 1 f43 U34 rfl wsz4_ti fun a44 f44 => ?_
 refine L.ld f44 U4 Bg0 fun a45 f45 => ?_
 refine L.mv f45 fun a46 f46 => ?_
 clear f42 f43 a42 f44 a44 f45 a45
 refine f46.split 42 rfl (fun h2 f47 => ?_) (fun h2 f47 => ?_)
 ·have hs42 := h2
  refine L.fa 24 f47 U89 rfl wsz4_ti (hw := (f47.yes rfl rfl)) fun a48 f48 => ?_
  refine L.ld f48 U4 Bg2 (hw := (f48.yes rfl rfl)) fun a49 f49 => ?_
  refine L.va f49 (E.not f49 rfl) (hw := (f49.yes rfl rfl)) fun a50 f50 => ?_
  refine L.va f50 (E.pickT f50 rfl rfl) fun a51 f51 => ?_
  refine L.mv f51 fun a52 f52 => ?_
  clear f46 f47 a46 f48 a48 f49 a49 f50 a50 f51 a51
  refine f52.splitNB 47 rfl (fun h3 f53 => ?_) (fun h3 f53 => ?_)
  ·have hs47 := h3
   refine L.fa 25 f53 U89 rfl wsz4_ti (hw := (f53.yes rfl rfl)) fun a54 f54 => ?_
   refine L.ld f54 U4 Bg2 (hw := (f54.yes rfl rfl)) fun a55 f55 => ?_
   refine L.va f55 (E.not f55 rfl) (hw := (f55.yes rfl rfl)) fun a56 f56 => ?_
   refine L.va f56 (E.pickT f56 rfl rfl) fun a57 f57 => ?_
   refine L.mv f57 fun a58 f58 => ?_
   clear f52 f53 a52 f54 a54 f55 a55 f56 a56 f57 a57
   refine f58.splitNB 52 rfl (fun h4 f59 => ?_) (fun h4 f59 => ?_)
   ·have hs52 := h4
    refine L.va f59 (E.loadB f59 U34 rfl wsz34_ti rfl (Bg4) rfl) (hw := (f59.yes rfl rfl)) fun a60 f60 => ?_
    refine L.va f60 (E.loadB f60 U34 rfl wsz34_ti rfl (Bg0) rfl) (hw := (f60.yes rfl rfl)) fun a61 f61 => ?_
    refine L.cl f61 (run_call Try.call53 (args2 f61 rfl rfl)) (same_any ({ fo.p with dup := p.dup, retain := p.retain } : Pk) p fo.s s _ ⟨pk.pay.toSl, pk.wp.toSl, pk.pass.toSl, Sl.of_own pk.subs, Sl.of_own pk.codes⟩ PP.toIn pl.subs pl.codes) ?_ (hw := (f61.yes rfl rfl))
    clear f58 f59 a58 f60 a60
    rintro e w10 ⟨kc10, rfl⟩
    refine ⟨_, rfl, fun a62 f62 => ?_⟩
    have szw10 := kc10.size
    replace HK := HK.z kc10
    replace BT := BT.z kc10
    replace RT := Own.z RT kc10
    replace RS := Own.z RS kc10
    replace RU := Own.z RU kc10
    replace MO := IsAss.z MO kc10
    replace MF := IsAss.z MF kc10
    replace PS := PS.keptT kc10 (NoPk.nil _)
    replace PF := PF.keptT kc10 (NoPk.nil _)
    replace PP := PP.kept0 kc10
    replace Bg0 := Bg0.z kc10
    replace Bg2 := Bg2.z kc10
    replace Bg4 := Bg4.z kc10
    clear f61 a61 kc10
    refine L.va f62 (E.pickT f62 rfl rfl) fun a63 f63 => ?_
    refine L.ag f63 fun a64 f64 => ?_
    have f65 := f64.sub (sc 4 sn)
    refine wpList_nil (hK11 _ _ (wp_ret ?_)); (try simp only [xt, xb]); refine C.ret f65 rfl rfl ?_
    rw [pub_old e4 hs10 hsome]
    refine ⟨by rw [hs42, hs47, hs52]; rfl, ?_⟩
    exact ⟨m, ⟨e1, e2, e3, e4, BT, RT, RS, RU, MO, MF, nof, tu, tn, un, hlo, PS, PF, hl1, hl2, hl3, hl4, hl5, hcn⟩, by omega, HK, fun x hx => .inl hx, fun x hx => .inl hx⟩
   have hs52 := h4
   refine L.run f59 (rest' := []) (by kernel_rfl) fun a60 f60 => ?_
   clear f58
   have f61 := f60.sub (sv 4 (.bool false) sn)
   refine wpList_nil (hK11 _ _ (wp_ret ?_)); (try simp only [xt, xb]); refine C.ret f61 rfl rfl ?_
   rw [pub_old e4 hs10 hsome]
   refine ⟨by rw [hs42, hs47, hs52]; rfl, ?_⟩
   exact ⟨m, ⟨e1, e2, e3, e4, BT, RT, RS, RU, MO, MF, nof, tu, tn, un, hlo, PS, PF, hl1, hl2, hl3, hl4, hl5, hcn⟩, by omega, HK, fun x hx => .inl hx, fun x hx => .inl hx⟩
  have hs47 := h3
  refine L.run f53 (rest' := []) (by kernel_rfl) fun a54 f54 => ?_
  clear f52
  have f55 := f54.sub (sv 4 (.bool false) sn)
  refine wpList_nil (hK11 _ _ (wp_ret ?_)); (try simp only [xt, xb]); refine C.ret f55 rfl rfl ?_
  rw [pub_old e4 hs10 hsome]
  refine ⟨by rw [hs42, hs47]; rfl, ?_⟩
  exact ⟨m, ⟨e1, e2, e3, e4, BT, RT, RS, RU, MO, MF, nof, tu, tn, un, hlo, PS, PF, hl1, hl2, hl3, hl4, hl5, hcn⟩, by omega, HK, fun x hx => .inl hx, fun x hx => .inl hx⟩
 have hs42 := h2
 refine L.run f47 (rest' := []) (by kernel_rfl) fun a48 f48 => ?_
 clear f46
 have f49 := f48.sub (sv 4 (.bool false) sn)
 refine wpList_nil (hK11 _ _ (wp_ret ?_)); (try simp only [xt, xb]); refine C.ret f49 rfl rfl ?_
 rw [pub_old e4 hs10 hsome]
 refine ⟨by rw [hs42]; rfl, ?_⟩
 exact ⟨m, ⟨e1, e2, e3, e4, BT, RT, RS, RU, MO, MF, nof, tu, tn, un, hlo, PS, PF, hl1, hl2, hl3, hl4, hl5, hcn⟩, by omega, HK, fun x hx => .inl hx, fun x hx => .inl hx⟩
end Go.Proofs.Ytkdeedhjkjffpaa
