/- Merged by program (shrink.py): contracts and plain laws that the claim's statement uses, part 4. -/
import Derived.Test.YtekmhcdgmgbheaaDoorMa3
set_option linter.all false

namespace Go.Proofs.YtekmhcdgmgbheaaDoor
open Go.RowKit Go.Hub Go.Lib
theorem wsz9_cq : (Tryd.prog.info? 9).map (·.size) = some 1 := by kernel_rfl
theorem wsz23_cq : (Tryd.prog.info? 23).map (·.size) = some 3 := by kernel_rfl
theorem wsz25_cq : (Tryd.prog.info? 25).map (·.size) = some 3 := by kernel_rfl
theorem wsz26_cq : (Tryd.prog.info? 26).map (·.size) = some 1 := by kernel_rfl
theorem wsz28_cq : (Tryd.prog.info? 28).map (·.size) = some 10 := by kernel_rfl
theorem wbl23_0_1_2_cq (x0 : Int) (x1 : Int) (x2 : Int) : Tryd.prog.built 23 [(0, .int .i64 x0), (1, .int .i64 x1), (2, .int .i64 x2)] = some #[.int .i64 x0, .int .i64 x1, .int .i64 x2] := by kernel_rfl
theorem wbl25_0_2_cq (x0 : Int) (x1 : Int) : Tryd.prog.built 25 [(0, .int .i64 x0), (2, .int .i64 x1)] = some #[.int .i64 x0, (.int .i64 0), .int .i64 x1] := by kernel_rfl
theorem wbl28_0_1_cq (x0_0 x0_1 x0_2 : Value) (x1_0 x1_1 x1_2 : Value) : Tryd.prog.built 28 [(0, .agg #[x0_0, x0_1, x0_2]), (1, .agg #[x1_0, x1_1, x1_2])] = some #[x0_0, x0_1, x0_2, x1_0, x1_1, x1_2, (.string ⟨#[]⟩), (.slice none 0 0), (.int .i64 0), (.bool false)] := by kernel_rfl
def cO (k j : Int) : Cp := ⟨⟨⟨k % 2, 1, j % 3⟩, ⟨k / 2 % 2, 0, j / 3 % 2⟩, ⟨#[]⟩, [], 0, false⟩, none, 0⟩
theorem newer_irr (a : Ce) : newerB a a = false := by
  unfold newerB
  have h1 := ltS_irrefl a.s
  have h2 : ¬ lt3 a.d a.d := by unfold lt3; omega
  simp [h1, h2]
theorem lt3_asym {a b : Dt} (h : lt3 a b) : ¬ lt3 b a := by unfold lt3 at *; omega
theorem newer_asym {a b : Ce} (h : newerB a b = true) : newerB b a = false := by
  unfold newerB at *
  simp only [Bool.or_eq_true, Bool.and_eq_true, Bool.not_eq_true', decide_eq_true_eq, decide_eq_false_iff_not, Bool.or_eq_false_iff, Bool.and_eq_false_iff, Bool.not_eq_false'] at *
  rcases h with h | ⟨h1, h2⟩
  · exact ⟨ltS_asymm h, .inl h⟩
  exact ⟨h1, .inr (lt3_asym h2)⟩
theorem near_sm {x : Int} (h : 0 ≤ x) (h2 : x ≤ 4611686018427387904) : nearI x = x := by unfold nearI; omega
theorem ord_asym {k j : Int} : newerB (cO k j).x (cO j k).x = true → newerB (cO j k).x (cO k j).x = false := newer_asym
theorem fieldsD : (Tryd.prog.fieldsOf 23).toList = [{ name := "Node", type := 3, offset := 0, embedded := false, tag := "", pkgPath := "", byteOffset := 0 }, { name := "Epoch", type := 3, offset := 1, embedded := false, tag := "", pkgPath := "", byteOffset := 8 }, { name := "N", type := 3, offset := 2, embedded := false, tag := "", pkgPath := "", byteOffset := 16 }] := by kernel_rfl
theorem eqlDot (x y : Operand) (d d' : Dt) (w : World) : (do eqGuard .eql 23 x y (.agg (dcell d).toArray) (.agg (dcell d').toArray); binOp .eql 23 (.agg (dcell d).toArray) (.agg (dcell d').toArray) : Sem Value).run Tryd.prog w = .ok (.bool (decide (d = d'))) w := by
  rw [Sem.run_bind, run_eqGuard_agg w .eql 23 x y _ _ (by kernel_rfl)]
  simp only [Result.andThen_ok]
  rw [run_eql_struct, run_equalIn_struct w 9999 23 _ _ (by kernel_rfl) (by kernel_rfl)]
  rw [fieldsD]
  simp [go_sem]
  obtain ⟨a, b, c⟩ := d
  obtain ⟨a', b', c'⟩ := d'
  by_cases h1 : a = a' <;> by_cases h2 : b = b' <;> by_cases h3 : c = c' <;> simp [h1, h2, h3]
theorem fieldsS : (Tryd.prog.fieldsOf 25).toList = [{ name := "L", type := 2, offset := 0, embedded := false, tag := "", pkgPath := "", byteOffset := 0 }, { name := "C", type := 2, offset := 1, embedded := false, tag := "", pkgPath := "", byteOffset := 8 }, { name := "Node", type := 3, offset := 2, embedded := false, tag := "", pkgPath := "", byteOffset := 16 }] := by kernel_rfl
theorem eqlSp (x y : Operand) (d d' : Sp) (w : World) : (do eqGuard .eql 25 x y (.agg (scell d).toArray) (.agg (scell d').toArray); binOp .eql 25 (.agg (scell d).toArray) (.agg (scell d').toArray) : Sem Value).run Tryd.prog w = .ok (.bool (decide (d = d'))) w := by
  rw [Sem.run_bind, run_eqGuard_agg w .eql 25 x y _ _ (by kernel_rfl)]
  simp only [Result.andThen_ok]
  rw [run_eql_struct, run_equalIn_struct w 9999 25 _ _ (by kernel_rfl) (by kernel_rfl)]
  rw [fieldsS]
  simp [go_sem]
  obtain ⟨a, b, c⟩ := d
  obtain ⟨a', b', c'⟩ := d'
  by_cases h1 : a = a' <;> by_cases h2 : b = b' <;> by_cases h3 : c = c' <;> simp [h1, h2, h3]
theorem ord_tot {k j : Int} (lk : 0 ≤ k ∧ k < 256) (lj : 0 ≤ j ∧ j < 256) (h1 : newerB (cO k j).x (cO j k).x = false) (h2 : newerB (cO j k).x (cO k j).x = false) : (cO k j).x.d = (cO j k).x.d ∧ (cO k j).x.s = (cO j k).x.s := by
  unfold newerB at *
  simp only [Bool.or_eq_false_iff, decide_eq_false_iff_not, Bool.and_eq_false_iff, Bool.not_eq_false', decide_eq_true_eq] at h1 h2
  obtain ⟨a1, a2⟩ := h1
  obtain ⟨b1, b2⟩ := h2
  replace a2 := a2.resolve_left b1
  replace b2 := b2.resolve_left a1
  simp only [cO, ltS, lt3] at a1 a2 b1 b2 ⊢
  rw [near_sm (show 0 ≤ k / 2 % 2 by omega) (by omega), near_sm (show 0 ≤ j / 2 % 2 by omega) (by omega)] at a1 b1
  rw [near_sm (Int.le_refl 0) (by omega)] at a1 b1
  generalize k / 2 % 2 = x1 at *
  generalize j / 2 % 2 = x2 at *
  generalize k / 3 % 2 = x3 at *
  generalize j / 3 % 2 = x4 at *
  generalize k % 2 = x5 at *
  generalize j % 2 = x6 at *
  generalize k % 3 = x7 at *
  generalize j % 3 = x8 at *
  constructor
  · simp only [Dt.mk.injEq, true_and]; simp only [Int.lt_irrefl, false_or, true_and] at a1 a2 b1 b2; omega
  simp only [Sp.mk.injEq, true_and]; simp only [Int.lt_irrefl, false_or, true_and] at a1 a2 b1 b2; omega
set_option maxRecDepth 100000 in
set_option maxHeartbeats 4000000 in
theorem order_walk (p q : Cp) (k j : Int) (w : World) (G : Glob w) (lk : 0 ≤ k ∧ k < 256) (lj : 0 ≤ j ∧ j < 256) : Calls Tryd.prog 3 #[.agg (pcell p).toArray, .agg (pcell q).toArray, .int .u8 k, .int .u8 j] w (fun e w' => Kept [] w w' ∧ e = .returned (.bool true)) := by
  have HK : Kept [] w w := Kept.refl [] w
  refine C.enter Tryd.func3 rfl Tryd.ntmps3 rfl ?_
  intro a0 f0
  have f1 : Fr 123 a0 [(0, .agg (pcell p).toArray), (1, .agg (pcell q).toArray), (2, .int .u8 k), (3, .int .u8 j)] := f0
  refine C.sk fun K0 hK0 => ?_
  refine L.box f1 wantedN (by decide) rfl rfl fun a2 w1 g0 N0 f2 => ?_
  have Bg0 := N0.blk
  have kg0 := N0.kept
  have log0 := N0.lo
  have ltg0 := Bg0.lt
  have szw1 := kg0.size
  have frg0 : w.heap.size ≤ g0 := Nat.le_trans HK.size log0
  replace HK := HK.z kg0
  clear f0 N0 kg0
  refine L.box f2 wantedN (by decide) rfl rfl fun a3 w2 g1 N1 f3 => ?_
  have Bg1 := N1.blk
  have kg1 := N1.kept
  have log1 := N1.lo
  have ltg1 := Bg1.lt
  have szw2 := kg1.size
  have frg1 : w.heap.size ≤ g1 := Nat.le_trans HK.size log1
  have neg0_g1 : g0 ≠ g1 := by have := Bg0.lt; omega
  replace HK := HK.z kg1
  replace Bg0 := Bg0.z kg1
  clear f1 a0 N1 kg1
  refine L.val f3 wantedN rfl (by decide) (E.assign f3 rfl) fun a4 f4 => ?_
  refine wpList_nil (hK0 _ _ ?_)
  have f5 := f4.sub (sub_cons (i := 2) rfl (sub_cons (i := 3) rfl (sub_cons (i := 4) rfl (sub_cons (i := 5) rfl (sub_cons (i := 8) rfl sn)))))
  refine wp_seq_k fun K1 hK1 => ?_
  refine C.sk fun K2 hK2 => ?_
  refine L.call f5 wantedN rfl (by decide) (run_call Tryd.call6 (args0 f5)) (known_any _ (G.kept HK)) ?_
  clear f2 a2 f3 a3 f4
  rintro e w3 ⟨kc3, rfl⟩
  refine ⟨_, rfl, fun a6 f6 => ?_⟩
  have szw3 := kc3.size
  replace HK := HK.z kc3
  replace Bg0 := Bg0.z kc3
  replace Bg1 := Bg1.z kc3
  clear f5 a4 kc3
  refine L.val f6 wantedN rfl (by decide) (E.not f6 rfl) fun a7 f7 => ?_
  refine wpList_nil (hK2 _ _ ?_)
  have f8 := f7.sub (sub_cons (i := 2) rfl (sub_cons (i := 3) rfl (sub_cons (i := 4) rfl (sub_cons (i := 5) rfl (sub_cons (i := 8) rfl (sub_cons (i := 12) rfl sn))))))
  refine C.condF f8 rfl ?_
  refine wp_skip (hK1 _ _ ?_)
  have f9 := f8.sub (sub_cons (i := 2) rfl (sub_cons (i := 3) rfl (sub_cons (i := 4) rfl (sub_cons (i := 5) rfl (sub_cons (i := 8) rfl sn)))))
  refine wp_seq_k fun K3 hK3 => ?_
  refine C.sk fun K4 hK4 => ?_
  refine L.val f9 wantedN rfl (by decide) (E.fieldAddrN 7 f9 U28 rfl rfl rfl wsz26_cq) fun a10 f10 => ?_
  refine L.val f10 wantedN rfl (by decide) (E.load f10 U26 rfl rfl ((Bg0).cl rfl)) fun a11 f11 => ?_
  refine L.val f11 wantedN rfl (by decide) (E.lenL f11 U26 rfl) fun a12 f12 => ?_
  refine L.val f12 wantedN rfl (by decide) (E.gtr f12 rfl rfl) fun a13 f13 => ?_
  refine L.val f13 wantedN rfl (by decide) (E.move f13 rfl) fun a14 f14 => ?_
  clear f6 a6 f7 f8 f9 a7 f10 a10 f11 a11 f12 a12 f13 a13
  refine f14.splitD 17 rfl (fun h0 f15 => ?_) (fun h0 f15 => ?_)
  · refine L.run f15 (rest' := []) (by kernel_rfl) fun a16 f16 => ?_
    clear f14
    refine wpList_nil (hK4 _ _ ?_)
    have f17 := f16.sub (scR f16 2 (scR f16 3 (scR f16 4 (scR f16 5 (scR f16 8 (sv 34 (.bool true) sn))))))
    refine C.condT f17 rfl ?_
    refine C.sk fun K5 hK5 => ?_
    refine L.val f17 wantedN rfl (by decide) (E.assign f17 rfl) fun a18 f18 => ?_
    have f19 := f18.sub (sub_cons (i := 2) rfl (sub_cons (i := 3) rfl (sub_cons (i := 4) rfl (sub_cons (i := 5) rfl (sub_cons (i := 8) rfl sn)))))
    refine wpList_nil (hK5 _ _ (wp_ret ?_)); (try simp only [xt, xb]); refine C.ret f19 rfl rfl ?_
    exact ⟨HK, rfl⟩
  refine L.val f15 (f15.yes rfl rfl) rfl (by decide) (E.fieldAddrN 7 f15 U28 rfl rfl rfl wsz26_cq) fun a16 f16 => ?_
  refine L.val f16 (f16.yes rfl rfl) rfl (by decide) (E.load f16 U26 rfl rfl ((Bg1).cl rfl)) fun a17 f17 => ?_
  refine L.val f17 (f17.yes rfl rfl) rfl (by decide) (E.lenL f17 U26 rfl) fun a18 f18 => ?_
  refine L.val f18 (f18.yes rfl rfl) rfl (by decide) (E.gtr f18 rfl rfl) fun a19 f19 => ?_
  refine L.val f19 wantedN rfl (by decide) (E.pickF f19 rfl rfl) fun a20 f20 => ?_
  refine L.val f20 wantedN rfl (by decide) (E.move f20 rfl) fun a21 f21 => ?_
  clear f14 f15 a14 f16 a16 f17 a17 f18 a18 f19 a19 f20 a20
  refine f21.splitD 23 rfl (fun h1 f22 => ?_) (fun h1 f22 => ?_)
  · refine L.run f22 (rest' := []) (by kernel_rfl) fun a23 f23 => ?_
    clear f21
    refine wpList_nil (hK4 _ _ ?_)
    have f24 := f23.sub (scR f23 2 (scR f23 3 (scR f23 4 (scR f23 5 (scR f23 8 (sv 34 (.bool true) sn))))))
    refine C.condT f24 rfl ?_
    refine C.sk fun K6 hK6 => ?_
    refine L.val f24 wantedN rfl (by decide) (E.assign f24 rfl) fun a25 f25 => ?_
    have f26 := f25.sub (sub_cons (i := 2) rfl (sub_cons (i := 3) rfl (sub_cons (i := 4) rfl (sub_cons (i := 5) rfl (sub_cons (i := 8) rfl sn)))))
    refine wpList_nil (hK6 _ _ (wp_ret ?_)); (try simp only [xt, xb]); refine C.ret f26 rfl rfl ?_
    exact ⟨HK, rfl⟩
  refine L.val f22 (f22.yes rfl rfl) rfl (by decide) (E.fieldAddrN 6 f22 U28 rfl rfl rfl wsz9_cq) fun a23 f23 => ?_
  refine L.val f23 (f23.yes rfl rfl) rfl (by decide) (E.load f23 U9 rfl rfl ((Bg0).cl rfl)) fun a24 f24 => ?_
  refine L.val f24 (f24.yes rfl rfl) rfl (by decide) (E.lenS f24 U9 rfl) fun a25 f25 => ?_
  refine L.val f25 (f25.yes rfl rfl) rfl (by decide) (E.gtr f25 rfl rfl) fun a26 f26 => ?_
  refine L.val f26 wantedN rfl (by decide) (E.pickF f26 rfl rfl) fun a27 f27 => ?_
  refine L.val f27 wantedN rfl (by decide) (E.move f27 rfl) fun a28 f28 => ?_
  clear f21 f22 a21 f23 a23 f24 a24 f25 a25 f26 a26 f27 a27
  refine f28.splitD 29 rfl (fun h2 f29 => ?_) (fun h2 f29 => ?_)
  · refine L.run f29 (rest' := []) (by kernel_rfl) fun a30 f30 => ?_
    clear f28
    refine wpList_nil (hK4 _ _ ?_)
    have f31 := f30.sub (scR f30 2 (scR f30 3 (scR f30 4 (scR f30 5 (scR f30 8 (sv 34 (.bool true) sn))))))
    refine C.condT f31 rfl ?_
    refine C.sk fun K7 hK7 => ?_
    refine L.val f31 wantedN rfl (by decide) (E.assign f31 rfl) fun a32 f32 => ?_
    have f33 := f32.sub (sub_cons (i := 2) rfl (sub_cons (i := 3) rfl (sub_cons (i := 4) rfl (sub_cons (i := 5) rfl (sub_cons (i := 8) rfl sn)))))
    refine wpList_nil (hK7 _ _ (wp_ret ?_)); (try simp only [xt, xb]); refine C.ret f33 rfl rfl ?_
    exact ⟨HK, rfl⟩
  refine L.val f29 (f29.yes rfl rfl) rfl (by decide) (E.fieldAddrN 6 f29 U28 rfl rfl rfl wsz9_cq) fun a30 f30 => ?_
  refine L.val f30 (f30.yes rfl rfl) rfl (by decide) (E.load f30 U9 rfl rfl ((Bg1).cl rfl)) fun a31 f31 => ?_
  refine L.val f31 (f31.yes rfl rfl) rfl (by decide) (E.lenS f31 U9 rfl) fun a32 f32 => ?_
  refine L.val f32 (f32.yes rfl rfl) rfl (by decide) (E.gtr f32 rfl rfl) fun a33 f33 => ?_
  refine L.val f33 wantedN rfl (by decide) (E.pickF f33 rfl rfl) fun a34 f34 => ?_
  refine wpList_nil (hK4 _ _ ?_)
  have f35 := f34.sub (sub_cons (i := 2) rfl (sub_cons (i := 3) rfl (sub_cons (i := 4) rfl (sub_cons (i := 5) rfl (sub_cons (i := 8) rfl (sub_cons (i := 34) rfl sn))))))
  clear f28 f29 a28 f30 a30 f31 a31 f32 a32 f33 a33 f34
  refine f35.splitD 34 rfl (fun h3 f36 => ?_) (fun h3 f36 => ?_)
  · refine C.condT f36 rfl ?_
    refine C.sk fun K8 hK8 => ?_
    refine L.val f36 wantedN rfl (by decide) (E.assign f36 rfl) fun a37 f37 => ?_
    have f38 := f37.sub (sub_cons (i := 2) rfl (sub_cons (i := 3) rfl (sub_cons (i := 4) rfl (sub_cons (i := 5) rfl (sub_cons (i := 8) rfl sn)))))
    refine wpList_nil (hK8 _ _ (wp_ret ?_)); (try simp only [xt, xb]); refine C.ret f38 rfl rfl ?_
    exact ⟨HK, rfl⟩
  refine C.condF f36 rfl ?_
  refine wp_skip (hK3 _ _ ?_)
  have f37 := f36.sub (sub_cons (i := 2) rfl (sub_cons (i := 3) rfl (sub_cons (i := 4) rfl (sub_cons (i := 5) rfl (sub_cons (i := 8) rfl sn)))))
  refine C.sk fun K9 hK9 => ?_
  refine L.val f37 wantedN rfl (by decide) (E.move f37 rfl) fun a38 f38 => ?_
  refine L.val f38 wantedN rfl (by decide) (E.rem f38 rfl rfl (by omega) (Int.tmod_eq_emod_of_nonneg (by omega))) fun a39 f39 => ?_
  refine L.val f39 wantedN rfl (by decide) (E.conv f39 U5 U3 rfl (IntWalk.i64_in _ (by omega))) fun a40 f40 => ?_
  refine L.val f40 wantedN rfl (by decide) (E.move f40 rfl) fun a41 f41 => ?_
  refine L.val f41 wantedN rfl (by decide) (E.rem f41 rfl rfl (by omega) (Int.tmod_eq_emod_of_nonneg (by omega))) fun a42 f42 => ?_
  refine L.val f42 wantedN rfl (by decide) (E.conv f42 U5 U3 rfl (IntWalk.i64_in _ (by omega))) fun a43 f43 => ?_
  clear f35 f36 f37 a34 f38 a38 f39 a39 f40 a40 f41 a41 f42 a42
  refine L.val f43 wantedN rfl (by decide) (E.build f43 (parts3 f43 rfl rfl rfl) (wbl23_0_1_2_cq _ _ _)) fun a44 f44 => ?_
  refine L.val f44 wantedN rfl (by decide) (E.move f44 rfl) fun a45 f45 => ?_
  refine L.val f45 wantedN rfl (by decide) (E.quo f45 rfl rfl (by omega) (IntWalk.u8_quo _ _ ⟨by omega, by omega, by omega⟩)) fun a46 f46 => ?_
  refine L.val f46 wantedN rfl (by decide) (E.rem f46 rfl rfl (by omega) (Int.tmod_eq_emod_of_nonneg (by omega))) fun a47 f47 => ?_
  refine L.val f47 wantedN rfl (by decide) (E.conv f47 U5 U2 rfl (IntWalk.i64_in _ (by omega))) fun a48 f48 => ?_
  refine L.val f48 wantedN rfl (by decide) (E.move f48 rfl) fun a49 f49 => ?_
  refine L.val f49 wantedN rfl (by decide) (E.quo f49 rfl rfl (by omega) (IntWalk.u8_quo _ _ ⟨by omega, by omega, by omega⟩)) fun a50 f50 => ?_
  clear f43 a43 f44 a44 f45 a45 f46 a46 f47 a47 f48 a48 f49 a49
  refine L.val f50 wantedN rfl (by decide) (E.rem f50 rfl rfl (by omega) (Int.tmod_eq_emod_of_nonneg (by omega))) fun a51 f51 => ?_
  refine L.val f51 wantedN rfl (by decide) (E.conv f51 U5 U3 rfl (IntWalk.i64_in _ (by omega))) fun a52 f52 => ?_
  refine L.val f52 wantedN rfl (by decide) (E.build f52 (parts2 f52 rfl rfl) (wbl25_0_2_cq _ _)) fun a53 f53 => ?_
  refine L.val f53 wantedN rfl (by decide) (E.build f53 (parts2 f53 rfl rfl) (wbl28_0_1_cq _ _ _ _ _ _)) fun a54 f54 => ?_
  refine L.alloc f54 wantedN (by decide) (z := (.agg #[(.int .i64 0), (.int .i64 0), (.int .i64 0), (.int .i64 0), (.int .i64 0), (.int .i64 0), (.string ⟨#[]⟩), (.slice none 0 0), (.int .i64 0), (.bool false)])) (fun _ => by kernel_rfl) rfl fun a55 w4 g3 N3 f55 => ?_
  have Bg3 := N3.blk
  have kg3 := N3.kept
  have log3 := N3.lo
  have ltg3 := Bg3.lt
  have szw4 := kg3.size
  have frg3 : w.heap.size ≤ g3 := Nat.le_trans HK.size log3
  have neg0_g3 : g0 ≠ g3 := by have := Bg0.lt; omega
  have neg1_g3 : g1 ≠ g3 := by have := Bg1.lt; omega
  replace HK := HK.z kg3
  replace Bg0 := Bg0.z kg3
  replace Bg1 := Bg1.z kg3
  clear f50 a50 f51 a51 f52 a52 f53 a53 N3 kg3
  refine L.storeR f55 wantedN wsz28_cq rfl rfl rfl Bg3 rfl rfl fun a56 w5 f56 NB5 ks5 => ?_
  have szw5 := ks5.size
  replace HK := HK.trans ks5 (by intro x hx hlt; simp at hx; subst hx; (exfalso; omega))
  replace Bg0 := Bg0.kept ks5 (by simp; omega)
  replace Bg1 := Bg1.kept ks5 (by simp; omega)
  replace Bg3 := NB5
  clear f54 a54 ks5 f55 a55
  refine wpList_nil (hK9 _ _ ?_)
  have f57 := f56.sub (sub_cons (i := 2) rfl (sub_cons (i := 3) rfl (sub_cons (i := 4) rfl (sub_cons (i := 5) rfl (sub_cons (i := 8) rfl (sub_cons (i := 9) rfl sn))))))
  refine wp_seq_k fun K10 hK10 => ?_
  replace Bg3 : Blk w5 g3 28 (pcell (cO k j)).toArray := Bg3
  refine C.region ?_
  refine L.val f57 wantedN rfl (by decide) (E.move f57 rfl) fun a58 f58 => ?_
  refine L.val f58 wantedN rfl (by decide) (E.rem f58 rfl rfl (by omega) (Int.tmod_eq_emod_of_nonneg (by omega))) fun a59 f59 => ?_
  refine L.val f59 wantedN rfl (by decide) (E.conv f59 U5 U3 rfl (IntWalk.i64_in _ (by omega))) fun a60 f60 => ?_
  refine L.val f60 wantedN rfl (by decide) (E.move f60 rfl) fun a61 f61 => ?_
  refine L.val f61 wantedN rfl (by decide) (E.rem f61 rfl rfl (by omega) (Int.tmod_eq_emod_of_nonneg (by omega))) fun a62 f62 => ?_
  refine L.val f62 wantedN rfl (by decide) (E.conv f62 U5 U3 rfl (IntWalk.i64_in _ (by omega))) fun a63 f63 => ?_
  refine L.val f63 wantedN rfl (by decide) (E.build f63 (parts3 f63 rfl rfl rfl) (wbl23_0_1_2_cq _ _ _)) fun a64 f64 => ?_
  clear f56 f57 a56 f58 a58 f59 a59 f60 a60 f61 a61 f62 a62 f63 a63
  refine L.val f64 wantedN rfl (by decide) (E.move f64 rfl) fun a65 f65 => ?_
  refine L.val f65 wantedN rfl (by decide) (E.quo f65 rfl rfl (by omega) (IntWalk.u8_quo _ _ ⟨by omega, by omega, by omega⟩)) fun a66 f66 => ?_
  refine L.val f66 wantedN rfl (by decide) (E.rem f66 rfl rfl (by omega) (Int.tmod_eq_emod_of_nonneg (by omega))) fun a67 f67 => ?_
  refine L.val f67 wantedN rfl (by decide) (E.conv f67 U5 U2 rfl (IntWalk.i64_in _ (by omega))) fun a68 f68 => ?_
  refine L.val f68 wantedN rfl (by decide) (E.move f68 rfl) fun a69 f69 => ?_
  refine L.val f69 wantedN rfl (by decide) (E.quo f69 rfl rfl (by omega) (IntWalk.u8_quo _ _ ⟨by omega, by omega, by omega⟩)) fun a70 f70 => ?_
  refine L.val f70 wantedN rfl (by decide) (E.rem f70 rfl rfl (by omega) (Int.tmod_eq_emod_of_nonneg (by omega))) fun a71 f71 => ?_
  clear f64 a64 f65 a65 f66 a66 f67 a67 f68 a68 f69 a69 f70 a70
  refine L.val f71 wantedN rfl (by decide) (E.conv f71 U5 U3 rfl (IntWalk.i64_in _ (by omega))) fun a72 f72 => ?_
  refine L.val f72 wantedN rfl (by decide) (E.build f72 (parts2 f72 rfl rfl) (wbl25_0_2_cq _ _)) fun a73 f73 => ?_
  refine L.val f73 wantedN rfl (by decide) (E.build f73 (parts2 f73 rfl rfl) (wbl28_0_1_cq _ _ _ _ _ _)) fun a74 f74 => ?_
  refine L.alloc f74 wantedN (by decide) (z := (.agg #[(.int .i64 0), (.int .i64 0), (.int .i64 0), (.int .i64 0), (.int .i64 0), (.int .i64 0), (.string ⟨#[]⟩), (.slice none 0 0), (.int .i64 0), (.bool false)])) (fun _ => by kernel_rfl) rfl fun a75 w6 g5 N5 f75 => ?_
  have Bg5 := N5.blk
  have kg5 := N5.kept
  have log5 := N5.lo
  have ltg5 := Bg5.lt
  have szw6 := kg5.size
  have frg5 : w.heap.size ≤ g5 := Nat.le_trans HK.size log5
  have neg0_g5 : g0 ≠ g5 := by have := Bg0.lt; omega
  have neg1_g5 : g1 ≠ g5 := by have := Bg1.lt; omega
  have neg3_g5 : g3 ≠ g5 := by have := Bg3.lt; omega
  replace HK := HK.z kg5
  replace Bg0 := Bg0.z kg5
  replace Bg1 := Bg1.z kg5
  replace Bg3 := Bg3.z kg5
  clear f71 a71 f72 a72 f73 a73 N5 kg5
  refine L.storeR f75 wantedN wsz28_cq rfl rfl rfl Bg5 rfl rfl fun a76 w7 f76 NB7 ks7 => ?_
  have szw7 := ks7.size
  replace HK := HK.trans ks7 (by intro x hx hlt; simp at hx; subst hx; (exfalso; omega))
  replace Bg0 := Bg0.kept ks7 (by simp; omega)
  replace Bg1 := Bg1.kept ks7 (by simp; omega)
  replace Bg3 := Bg3.kept ks7 (by simp; omega)
  replace Bg5 := NB7
  clear f74 a74 ks7 f75 a75
  refine wpList_nil (hK10 _ _ ?_)
  have f77 := f76.sub (sub_cons (i := 4) rfl (sub_cons (i := 5) rfl (sub_cons (i := 8) rfl (sub_cons (i := 9) rfl (sub_cons (i := 10) rfl sn)))))
  refine wp_seq_k fun K11 hK11 => ?_
  refine wp_seq_k fun K12 hK12 => ?_
  replace Bg5 : Blk w7 g5 28 (pcell (cO j k)).toArray := Bg5
  refine R.begin (S := fun W => Kept [] w7 W) (by kernel_rfl) (by exact (Kept.refl _ _).drewN 1) ?_
  have hS7 : Kept [] w7 (w7.drewN 1) := (Kept.refl _ _).drewN 1
  have hd7 : Kept [] w7 (w7.drewN 1) := (Kept.refl _ _).drewN 1
  obtain ⟨w8, hww8⟩ : ∃ W, W = w7.drewN 1 := ⟨_, rfl⟩
  rw [← hww8] at hS7 hd7 ⊢
  clear f76 hww8
  have szw8 := hS7.size
  refine R.take 0 f77 rfl rfl (by decide) (by kernel_rfl) (by kernel_rfl) (by kernel_rfl) (fun _ _ _ _ h => h) wantedN hS7 (fun W hW => (E.loadB f77 U28 rfl wsz28_cq rfl (Bg0.z hW) rfl)) fun a78 f78 => ?_
  refine R.take 1 f78 rfl rfl (by decide) (by kernel_rfl) (by kernel_rfl) (by kernel_rfl) (fun _ _ _ _ h => h) wantedN hS7 (fun W hW => (E.loadB f78 U28 rfl wsz28_cq rfl (Bg1.z hW) rfl)) fun a79 f79 => ?_
  refine R.take 3 f79 rfl rfl (by decide) (by kernel_rfl) (by kernel_rfl) (by kernel_rfl) (fun _ _ _ _ h => h) wantedN hS7 (fun W hW => (E.loadB f79 U28 rfl wsz28_cq rfl (Bg0.z hW) rfl)) fun a80 f80 => ?_
  refine R.take 4 f80 rfl rfl (by decide) (by kernel_rfl) (by kernel_rfl) (by kernel_rfl) (fun _ _ _ _ h => h) wantedN hS7 (fun W hW => (E.loadB f80 U28 rfl wsz28_cq rfl (Bg1.z hW) rfl)) fun a81 f81 => ?_
  refine R.call 2 f81 rfl rfl (by decide) (by kernel_rfl) wantedN (run_call Tryd.call7 (args2 f81 rfl rfl)) (Newer_any p q _) ?_
  clear f77 a76 f78 a78 f79 a79 f80 a80
  rintro e w9 ⟨kc9, rfl⟩
  replace hS7 := hS7.trans kc9 (by simp)
  refine ⟨_, rfl, hS7, fun a82 f82 => ?_⟩
  have szw9 := kc9.size
  clear f81 a81 kc9
  refine R.call 5 f82 rfl rfl (by decide) (by kernel_rfl) wantedN (run_call Tryd.call8 (args2 f82 rfl rfl)) (NewerR_any p q _) ?_
  rintro e w10 ⟨kc10, rfl⟩
  replace hS7 := hS7.trans kc10 (by simp)
  refine ⟨_, rfl, hS7, fun a83 f83 => ?_⟩
  have szw10 := kc10.size
  clear f82 a82 kc10
  refine R.take 6 f83 rfl rfl (by decide) (by kernel_rfl) (by kernel_rfl) (by kernel_rfl) (fun _ _ _ _ h => h) wantedN hS7 (fun W hW => (E.neqB f83 U4 rfl rfl)) fun a84 f84 => ?_
  have f85 := f84.as (i := 75) (v' := .bool false) rfl (by simp)
  refine R.take 7 f85 rfl rfl (by decide) (by kernel_rfl) (by kernel_rfl) (by kernel_rfl) (fun _ _ _ _ h => h) wantedN hS7 (fun W hW => (E.move f85 rfl)) fun a86 f86 => ?_
  refine R.take 8 f86 rfl rfl (by decide) (by kernel_rfl) (by kernel_rfl) (by kernel_rfl) (fun _ _ _ _ h => h) (f86.yes rfl rfl) hS7 (fun W hW => (E.loadB f86 U28 rfl wsz28_cq rfl (Bg3.z hW) rfl)) fun a87 f87 => ?_
  refine R.take 9 f87 rfl rfl (by decide) (by kernel_rfl) (by kernel_rfl) (by kernel_rfl) (fun _ _ _ _ h => h) (f87.yes rfl rfl) hS7 (fun W hW => (E.loadB f87 U28 rfl wsz28_cq rfl (Bg5.z hW) rfl)) fun a88 f88 => ?_
  refine R.take 11 f88 rfl rfl (by decide) (by kernel_rfl) (by kernel_rfl) (by kernel_rfl) (fun _ _ _ _ h => h) (f88.yes rfl rfl) hS7 (fun W hW => (E.loadB f88 U28 rfl wsz28_cq rfl (Bg3.z hW) rfl)) fun a89 f89 => ?_
  refine R.take 12 f89 rfl rfl (by decide) (by kernel_rfl) (by kernel_rfl) (by kernel_rfl) (fun _ _ _ _ h => h) (f89.yes rfl rfl) hS7 (fun W hW => (E.loadB f89 U28 rfl wsz28_cq rfl (Bg5.z hW) rfl)) fun a90 f90 => ?_
  refine R.call 10 f90 rfl rfl (by decide) (by kernel_rfl) (f90.yes rfl rfl) (run_call Tryd.call7 (args2 f90 rfl rfl)) (Newer_any (cO k j) (cO j k) _) ?_
  clear f83 a83 f84 f85 a84 f86 a86 f87 a87 f88 a88 f89 a89
  rintro e w11 ⟨kc11, rfl⟩
  replace hS7 := hS7.trans kc11 (by simp)
  refine ⟨_, rfl, hS7, fun a91 f91 => ?_⟩
  have szw11 := kc11.size
  clear f90 a90 kc11
  refine R.call 13 f91 rfl rfl (by decide) (by kernel_rfl) (f91.yes rfl rfl) (run_call Tryd.call8 (args2 f91 rfl rfl)) (NewerR_any (cO k j) (cO j k) _) ?_
  rintro e w12 ⟨kc12, rfl⟩
  replace hS7 := hS7.trans kc12 (by simp)
  refine ⟨_, rfl, hS7, fun a92 f92 => ?_⟩
  have szw12 := kc12.size
  clear f91 a91 kc12
  refine R.take 14 f92 rfl rfl (by decide) (by kernel_rfl) (by kernel_rfl) (by kernel_rfl) (fun _ _ _ _ h => h) (f92.yes rfl rfl) hS7 (fun W hW => (E.neqB f92 U4 rfl rfl)) fun a93 f93 => ?_
  have f94 := f93.as (i := 83) (v' := .bool false) rfl (by simp)
  refine R.take 15 f94 rfl rfl (by decide) (by kernel_rfl) (by kernel_rfl) (by kernel_rfl) (fun _ _ _ _ h => h) wantedN hS7 (fun W hW => (E.pickF f94 rfl rfl)) fun a95 f95 => ?_
  refine R.take 16 f95 rfl rfl (by decide) (by kernel_rfl) (by kernel_rfl) (by kernel_rfl) (fun _ _ _ _ h => h) wantedN hS7 (fun W hW => (E.move f95 rfl)) fun a96 f96 => ?_
  refine R.take 17 f96 rfl rfl (by decide) (by kernel_rfl) (by kernel_rfl) (by kernel_rfl) (fun _ _ _ _ h => h) (f96.yes rfl rfl) hS7 (fun W hW => (E.loadB f96 U28 rfl wsz28_cq rfl (Bg0.z hW) rfl)) fun a97 f97 => ?_
  refine R.take 18 f97 rfl rfl (by decide) (by kernel_rfl) (by kernel_rfl) (by kernel_rfl) (fun _ _ _ _ h => h) (f97.yes rfl rfl) hS7 (fun W hW => (E.loadB f97 U28 rfl wsz28_cq rfl (Bg0.z hW) rfl)) fun a98 f98 => ?_
  refine R.call 19 f98 rfl rfl (by decide) (by kernel_rfl) (f98.yes rfl rfl) (run_call Tryd.call7 (args2 f98 rfl rfl)) (Newer_any p p _) ?_
  clear f92 a92 f93 f94 a93 f95 a95 f96 a96 f97 a97
  rintro e w13 ⟨kc13, rfl⟩
  replace hS7 := hS7.trans kc13 (by simp)
  refine ⟨_, rfl, hS7, fun a99 f99 => ?_⟩
  have szw13 := kc13.size
  clear f98 a98 kc13
  have f100 := f99.as (i := 88) (v' := .bool false) rfl (by rw [newer_irr])
  refine R.take 20 f100 rfl rfl (by decide) (by kernel_rfl) (by kernel_rfl) (by kernel_rfl) (fun _ _ _ _ h => h) wantedN hS7 (fun W hW => (E.pickF f100 rfl rfl)) fun a101 f101 => ?_
  have szw13r := hS7.size
  replace HK := HK.z hS7
  replace Bg0 := Bg0.z hS7
  replace Bg1 := Bg1.z hS7
  replace Bg3 := Bg3.z hS7
  replace Bg5 := Bg5.z hS7
  clear f99 f100 a99 hS7
  refine R.done (by kernel_rfl) (hK12 _ _ ?_)
  have f102 := f101.sub (sub_cons (i := 8) rfl (sub_cons (i := 9) rfl (sub_cons (i := 10) rfl (sub_cons (i := 89) rfl sn))))
  refine C.condF f102 rfl ?_
  refine wp_skip (hK11 _ _ ?_)
  have f103 := f102.sub (sub_cons (i := 8) rfl (sub_cons (i := 9) rfl (sub_cons (i := 10) rfl sn)))
  refine C.sk fun K13 hK13 => ?_
  refine L.val f103 wantedN rfl (by decide) (E.loadB f103 U28 rfl wsz28_cq rfl (Bg3) rfl) fun a104 f104 => ?_
  refine L.val f104 wantedN rfl (by decide) (E.loadB f104 U28 rfl wsz28_cq rfl (Bg5) rfl) fun a105 f105 => ?_
  refine L.call f105 wantedN rfl (by decide) (run_call Tryd.call7 (args2 f105 rfl rfl)) (Newer_any (cO k j) (cO j k) _) ?_
  clear f101 f102 f103 a101 f104 a104
  rintro e w14 ⟨kc14, rfl⟩
  refine ⟨_, rfl, fun a106 f106 => ?_⟩
  have szw14 := kc14.size
  replace HK := HK.z kc14
  replace Bg0 := Bg0.z kc14
  replace Bg1 := Bg1.z kc14
  replace Bg3 := Bg3.z kc14
  replace Bg5 := Bg5.z kc14
  clear f105 a105 kc14
  refine L.val f106 wantedN rfl (by decide) (E.move f106 rfl) fun a107 f107 => ?_
  clear f106 a106
  refine f107.split 93 rfl (fun h4 f108 => ?_) (fun h4 f108 => ?_)
  · have h93 := h4
    refine L.val f108 (f108.yes rfl rfl) rfl (by decide) (E.loadB f108 U28 rfl wsz28_cq rfl (Bg5) rfl) fun a109 f109 => ?_
    refine L.val f109 (f109.yes rfl rfl) rfl (by decide) (E.loadB f109 U28 rfl wsz28_cq rfl (Bg3) rfl) fun a110 f110 => ?_
    refine L.call f110 (f110.yes rfl rfl) rfl (by decide) (run_call Tryd.call7 (args2 f110 rfl rfl)) (Newer_any (cO j k) (cO k j) _) ?_
    clear f107 f108 a107 f109 a109
    rintro e w15 ⟨kc15, rfl⟩
    refine ⟨_, rfl, fun a111 f111 => ?_⟩
    have szw15 := kc15.size
    replace HK := HK.z kc15
    replace Bg0 := Bg0.z kc15
    replace Bg1 := Bg1.z kc15
    replace Bg3 := Bg3.z kc15
    replace Bg5 := Bg5.z kc15
    clear f110 a110 kc15
    refine L.val f111 wantedN rfl (by decide) (E.pickT f111 rfl rfl) fun a112 f112 => ?_
    refine L.val f112 wantedN rfl (by decide) (E.not f112 rfl) fun a113 f113 => ?_
    refine L.val f113 wantedN rfl (by decide) (E.move f113 rfl) fun a114 f114 => ?_
    clear f111 a111 f112 a112 f113 a113
    refine f114.splitNB 99 rfl (fun h5 f115 => ?_) (fun h5 f115 => ?_)
    · have h99 := h5
      refine L.val f115 (f115.yes rfl rfl) rfl (by decide) (E.loadB f115 U28 rfl wsz28_cq rfl (Bg3) rfl) fun a116 f116 => ?_
      refine L.val f116 (f116.yes rfl rfl) rfl (by decide) (E.loadB f116 U28 rfl wsz28_cq rfl (Bg5) rfl) fun a117 f117 => ?_
      refine L.call f117 (f117.yes rfl rfl) rfl (by decide) (run_call Tryd.call7 (args2 f117 rfl rfl)) (Newer_any (cO k j) (cO j k) _) ?_
      clear f114 f115 a114 f116 a116
      rintro e w16 ⟨kc16, rfl⟩
      refine ⟨_, rfl, fun a118 f118 => ?_⟩
      have szw16 := kc16.size
      replace HK := HK.z kc16
      replace Bg0 := Bg0.z kc16
      replace Bg1 := Bg1.z kc16
      replace Bg3 := Bg3.z kc16
      replace Bg5 := Bg5.z kc16
      clear f117 a117 kc16
      refine L.val f118 (f118.yes rfl rfl) rfl (by decide) (E.move f118 rfl) fun a119 f119 => ?_
      clear f118 a118
      refine f119.split 103 rfl (fun h6 f120 => ?_) (fun h6 f120 => ?_)
      · have h103 := h6
        refine L.run f120 (rest' := []) (by kernel_rfl) fun a121 f121 => ?_
        clear f119
        have f122 := f121.sub (sv 8 (.bool true) sn)
        refine wpList_nil (hK13 _ _ (wp_ret ?_)); (try simp only [xt, xb]); refine C.ret f122 rfl rfl ?_
        exact ⟨HK, rfl⟩
      have h103 := h6
      refine L.val f120 (f120.yes rfl rfl) rfl (by decide) (E.loadB f120 U28 rfl wsz28_cq rfl (Bg5) rfl) fun a121 f121 => ?_
      refine L.val f121 (f121.yes rfl rfl) rfl (by decide) (E.loadB f121 U28 rfl wsz28_cq rfl (Bg3) rfl) fun a122 f122 => ?_
      refine L.call f122 (f122.yes rfl rfl) rfl (by decide) (run_call Tryd.call7 (args2 f122 rfl rfl)) (Newer_any (cO j k) (cO k j) _) ?_
      clear f119 f120 a119 f121 a121
      rintro e w17 ⟨kc17, rfl⟩
      refine ⟨_, rfl, fun a123 f123 => ?_⟩
      have szw17 := kc17.size
      replace HK := HK.z kc17
      replace Bg0 := Bg0.z kc17
      replace Bg1 := Bg1.z kc17
      replace Bg3 := Bg3.z kc17
      replace Bg5 := Bg5.z kc17
      clear f122 a122 kc17
      refine L.val f123 (f123.yes rfl rfl) rfl (by decide) (E.pickF f123 rfl rfl) fun a124 f124 => ?_
      refine L.val f124 (f124.yes rfl rfl) rfl (by decide) (E.move f124 rfl) fun a125 f125 => ?_
      clear f123 a123 f124 a124
      refine f125.split 108 rfl (fun h7 f126 => ?_) (fun h7 f126 => ?_)
      · have h108 := h7
        refine L.run f126 (rest' := []) (by kernel_rfl) fun a127 f127 => ?_
        clear f125
        have f128 := f127.sub (sv 8 (.bool true) sn)
        refine wpList_nil (hK13 _ _ (wp_ret ?_)); (try simp only [xt, xb]); refine C.ret f128 rfl rfl ?_
        exact absurd h93 (by rw [h103]; simp)
      have h108 := h7
      refine L.val f126 (f126.yes rfl rfl) rfl (by decide) (E.fieldAddrN 0 f126 U28 rfl rfl rfl wsz23_cq) fun a127 f127 => ?_
      refine L.val f127 (f127.yes rfl rfl) rfl (by decide) (E.loadR f127 U23 rfl wsz23_cq rfl ((Bg3.part 0 (dcell (cO k j).x.d) rfl)) rfl) fun a128 f128 => ?_
      refine L.val f128 (f128.yes rfl rfl) rfl (by decide) (E.fieldAddrN 0 f128 U28 rfl rfl rfl wsz23_cq) fun a129 f129 => ?_
      refine L.val f129 (f129.yes rfl rfl) rfl (by decide) (E.loadR f129 U23 rfl wsz23_cq rfl ((Bg5.part 0 (dcell (cO j k).x.d) rfl)) rfl) fun a130 f130 => ?_
      refine L.val f130 (f130.yes rfl rfl) rfl (by decide) (E.eqlV f130 rfl rfl (eqlDot _ _ _ _)) fun a131 f131 => ?_
      refine L.val f131 (f131.yes rfl rfl) rfl (by decide) (E.move f131 rfl) fun a132 f132 => ?_
      clear f125 f126 a125 f127 a127 f128 a128 f129 a129 f130 a130 f131 a131
      refine f132.splitD 114 rfl (fun h8 f133 => ?_) (fun h8 f133 => ?_)
      · have h114 := h8
        refine L.val f133 (f133.yes rfl rfl) rfl (by decide) (E.fieldAddrN 3 f133 U28 rfl rfl rfl wsz25_cq) fun a134 f134 => ?_
        refine L.val f134 (f134.yes rfl rfl) rfl (by decide) (E.loadR f134 U25 rfl wsz25_cq rfl ((Bg3.part 3 (scell (cO k j).x.s) rfl)) rfl) fun a135 f135 => ?_
        refine L.val f135 (f135.yes rfl rfl) rfl (by decide) (E.fieldAddrN 3 f135 U28 rfl rfl rfl wsz25_cq) fun a136 f136 => ?_
        refine L.val f136 (f136.yes rfl rfl) rfl (by decide) (E.loadR f136 U25 rfl wsz25_cq rfl ((Bg5.part 3 (scell (cO j k).x.s) rfl)) rfl) fun a137 f137 => ?_
        refine L.val f137 (f137.yes rfl rfl) rfl (by decide) (E.eqlV f137 rfl rfl (eqlSp _ _ _ _)) fun a138 f138 => ?_
        refine L.val f138 (f138.yes rfl rfl) rfl (by decide) (E.pickT f138 rfl rfl) fun a139 f139 => ?_
        refine L.val f139 (f139.yes rfl rfl) rfl (by decide) (E.pickF f139 rfl rfl) fun a140 f140 => ?_
        clear f132 f133 a132 f134 a134 f135 a135 f136 a136 f137 a137 f138 a138 f139 a139
        refine L.val f140 wantedN rfl (by decide) (E.pickT f140 rfl rfl) fun a141 f141 => ?_
        refine L.val f141 wantedN rfl (by decide) (E.assign f141 rfl) fun a142 f142 => ?_
        have f143 := f142.sub (sub_cons (i := 8) rfl sn)
        refine wpList_nil (hK13 _ _ (wp_ret ?_)); (try simp only [xt, xb]); refine C.ret f143 rfl rfl ?_
        exact absurd h93 (by rw [h103]; simp)
      have h114 := h8
      refine L.run f133 (rest' := []) (by kernel_rfl) fun a134 f134 => ?_
      clear f132
      have f135 := f134.sub (sv 8 (.bool false) sn)
      refine wpList_nil (hK13 _ _ (wp_ret ?_)); (try simp only [xt, xb]); refine C.ret f135 rfl rfl ?_
      exact absurd h93 (by rw [h103]; simp)
    have h99 := h5
    refine L.run f115 (rest' := []) (by kernel_rfl) fun a116 f116 => ?_
    clear f114
    have f117 := f116.sub (sv 8 (.bool false) sn)
    refine wpList_nil (hK13 _ _ (wp_ret ?_)); (try simp only [xt, xb]); refine C.ret f117 rfl rfl ?_
    exact absurd (ord_asym h93) (by rw [h99]; simp)
  have h93 := h4
  refine L.skip f108 (f108.noT rfl rfl) rfl (by decide) fun a109 f109 => ?_
  refine L.skip f109 (f109.noT rfl rfl) rfl (by decide) fun a110 f110 => ?_
  refine L.skip f110 (f110.noT rfl rfl) rfl (by decide) fun a111 f111 => ?_
  refine L.val f111 wantedN rfl (by decide) (E.pickF f111 rfl rfl) fun a112 f112 => ?_
  refine L.val f112 wantedN rfl (by decide) (E.not f112 rfl) fun a113 f113 => ?_
  refine L.val f113 wantedN rfl (by decide) (E.move f113 rfl) fun a114 f114 => ?_
  refine L.val f114 (f114.yes rfl rfl) rfl (by decide) (E.loadB f114 U28 rfl wsz28_cq rfl (Bg3) rfl) fun a115 f115 => ?_
  clear f107 f108 a107 f109 a109 f110 a110 f111 a111 f112 a112 f113 a113 f114 a114
  refine L.val f115 (f115.yes rfl rfl) rfl (by decide) (E.loadB f115 U28 rfl wsz28_cq rfl (Bg5) rfl) fun a116 f116 => ?_
  refine L.call f116 (f116.yes rfl rfl) rfl (by decide) (run_call Tryd.call7 (args2 f116 rfl rfl)) (Newer_any (cO k j) (cO j k) _) ?_
  clear f115 a115
  rintro e w15 ⟨kc15, rfl⟩
  refine ⟨_, rfl, fun a117 f117 => ?_⟩
  have szw15 := kc15.size
  replace HK := HK.z kc15
  replace Bg0 := Bg0.z kc15
  replace Bg1 := Bg1.z kc15
  replace Bg3 := Bg3.z kc15
  replace Bg5 := Bg5.z kc15
  clear f116 a116 kc15
  refine L.val f117 (f117.yes rfl rfl) rfl (by decide) (E.move f117 rfl) fun a118 f118 => ?_
  clear f117 a117
  refine f118.split 103 rfl (fun h9 f119 => ?_) (fun h9 f119 => ?_)
  · have h103 := h9
    refine L.run f119 (rest' := []) (by kernel_rfl) fun a120 f120 => ?_
    clear f118
    have f121 := f120.sub (sv 8 (.bool true) sn)
    refine wpList_nil (hK13 _ _ (wp_ret ?_)); (try simp only [xt, xb]); refine C.ret f121 rfl rfl ?_
    exact absurd h93 (by rw [h103]; simp)
  have h103 := h9
  refine L.val f119 (f119.yes rfl rfl) rfl (by decide) (E.loadB f119 U28 rfl wsz28_cq rfl (Bg5) rfl) fun a120 f120 => ?_
  refine L.val f120 (f120.yes rfl rfl) rfl (by decide) (E.loadB f120 U28 rfl wsz28_cq rfl (Bg3) rfl) fun a121 f121 => ?_
  refine L.call f121 (f121.yes rfl rfl) rfl (by decide) (run_call Tryd.call7 (args2 f121 rfl rfl)) (Newer_any (cO j k) (cO k j) _) ?_
  clear f118 f119 a118 f120 a120
  rintro e w16 ⟨kc16, rfl⟩
  refine ⟨_, rfl, fun a122 f122 => ?_⟩
  have szw16 := kc16.size
  replace HK := HK.z kc16
  replace Bg0 := Bg0.z kc16
  replace Bg1 := Bg1.z kc16
  replace Bg3 := Bg3.z kc16
  replace Bg5 := Bg5.z kc16
  clear f121 a121 kc16
  refine L.val f122 (f122.yes rfl rfl) rfl (by decide) (E.pickF f122 rfl rfl) fun a123 f123 => ?_
  refine L.val f123 (f123.yes rfl rfl) rfl (by decide) (E.move f123 rfl) fun a124 f124 => ?_
  clear f122 a122 f123 a123
  refine f124.split 108 rfl (fun h10 f125 => ?_) (fun h10 f125 => ?_)
  · have h108 := h10
    refine L.run f125 (rest' := []) (by kernel_rfl) fun a126 f126 => ?_
    clear f124
    have f127 := f126.sub (sv 8 (.bool true) sn)
    refine wpList_nil (hK13 _ _ (wp_ret ?_)); (try simp only [xt, xb]); refine C.ret f127 rfl rfl ?_
    exact ⟨HK, rfl⟩
  have h108 := h10
  refine L.val f125 (f125.yes rfl rfl) rfl (by decide) (E.fieldAddrN 0 f125 U28 rfl rfl rfl wsz23_cq) fun a126 f126 => ?_
  refine L.val f126 (f126.yes rfl rfl) rfl (by decide) (E.loadR f126 U23 rfl wsz23_cq rfl ((Bg3.part 0 (dcell (cO k j).x.d) rfl)) rfl) fun a127 f127 => ?_
  refine L.val f127 (f127.yes rfl rfl) rfl (by decide) (E.fieldAddrN 0 f127 U28 rfl rfl rfl wsz23_cq) fun a128 f128 => ?_
  refine L.val f128 (f128.yes rfl rfl) rfl (by decide) (E.loadR f128 U23 rfl wsz23_cq rfl ((Bg5.part 0 (dcell (cO j k).x.d) rfl)) rfl) fun a129 f129 => ?_
  refine L.val f129 (f129.yes rfl rfl) rfl (by decide) (E.eqlV f129 rfl rfl (eqlDot _ _ _ _)) fun a130 f130 => ?_
  refine L.val f130 (f130.yes rfl rfl) rfl (by decide) (E.move f130 rfl) fun a131 f131 => ?_
  clear f124 f125 a124 f126 a126 f127 a127 f128 a128 f129 a129 f130 a130
  refine f131.splitD 114 rfl (fun h11 f132 => ?_) (fun h11 f132 => ?_)
  · have h114 := h11
    refine L.val f132 (f132.yes rfl rfl) rfl (by decide) (E.fieldAddrN 3 f132 U28 rfl rfl rfl wsz25_cq) fun a133 f133 => ?_
    refine L.val f133 (f133.yes rfl rfl) rfl (by decide) (E.loadR f133 U25 rfl wsz25_cq rfl ((Bg3.part 3 (scell (cO k j).x.s) rfl)) rfl) fun a134 f134 => ?_
    refine L.val f134 (f134.yes rfl rfl) rfl (by decide) (E.fieldAddrN 3 f134 U28 rfl rfl rfl wsz25_cq) fun a135 f135 => ?_
    refine L.val f135 (f135.yes rfl rfl) rfl (by decide) (E.loadR f135 U25 rfl wsz25_cq rfl ((Bg5.part 3 (scell (cO j k).x.s) rfl)) rfl) fun a136 f136 => ?_
    refine L.val f136 (f136.yes rfl rfl) rfl (by decide) (E.eqlV f136 rfl rfl (eqlSp _ _ _ _)) fun a137 f137 => ?_
    refine L.val f137 (f137.yes rfl rfl) rfl (by decide) (E.pickT f137 rfl rfl) fun a138 f138 => ?_
    refine L.val f138 (f138.yes rfl rfl) rfl (by decide) (E.pickF f138 rfl rfl) fun a139 f139 => ?_
    clear f131 f132 a131 f133 a133 f134 a134 f135 a135 f136 a136 f137 a137 f138 a138
    refine L.val f139 wantedN rfl (by decide) (E.pickT f139 rfl rfl) fun a140 f140 => ?_
    refine L.val f140 wantedN rfl (by decide) (E.assign f140 rfl) fun a141 f141 => ?_
    have f142 := f141.sub (sub_cons (i := 8) rfl sn)
    refine wpList_nil (hK13 _ _ (wp_ret ?_)); (try simp only [xt, xb]); refine C.ret f142 rfl rfl ?_
    exact ⟨HK, by rw [decide_eq_true (ord_tot lk lj h93 h108).2]⟩
  have h114 := h11
  refine L.run f132 (rest' := []) (by kernel_rfl) fun a133 f133 => ?_
  clear f131
  have f134 := f133.sub (sv 8 (.bool false) sn)
  refine wpList_nil (hK13 _ _ (wp_ret ?_)); (try simp only [xt, xb]); refine C.ret f134 rfl rfl ?_
  exact absurd (ord_tot lk lj h93 h108).1 h114
end Go.Proofs.YtekmhcdgmgbheaaDoor
set_option maxRecDepth 100000
namespace Go.Proofs.YtekmhcdgmgbheaaDoor
open Go.RowKit Go.Hub Go.Lib Go.Shelf Go.ChangeShapes Go.WideShapes Go.Deep
def laidU : List (String × DataW Unit) := [("unicode/utf8.acceptRanges", Rows.laid_unicode_utf8_acceptRanges), ("unicode/utf8.first", Rows.laid_unicode_utf8_first)]
def tabRen : Ren := ⟨fun n => n, fun | 119 => 114 | 138 => 116 | 139 => 117 | n => n, fun | 3 => 0 | 4 => 1 | n => n⟩
theorem tabTypes : U8Types Tryd.prog tabRen := { t5 := by kernel_rfl, t119 := by kernel_rfl, t138 := by kernel_rfl, t139 := by kernel_rfl }
theorem tabExtra : U8Extra Tryd.prog tabRen := { n3 := by kernel_rfl, n4 := by kernel_rfl, y3 := by kernel_rfl, y4 := by kernel_rfl, c5 := by kernel_rfl, c119 := by kernel_rfl, c138 := by kernel_rfl }
theorem first_eq : Rows.laid_unicode_utf8_first = firstData := by kernel_rfl
theorem accept_eq : (Rows.laid_unicode_utf8_acceptRanges : DataW Unit) = acceptData := by kernel_rfl
theorem tabs_of {w : World} (h : laidMet Tryd.prog laidU w) : Tabs w := by
  have h1 := laidMet.reads h (n := "unicode/utf8.first") (d := Rows.laid_unicode_utf8_first) (by simp [laidU])
  have h2 := laidMet.reads h (n := "unicode/utf8.acceptRanges") (d := Rows.laid_unicode_utf8_acceptRanges) (by simp [laidU])
  rw [first_eq] at h1
  rw [accept_eq] at h2
  exact utf8Tabs_of_readsT tabTypes tabExtra h1 h2
theorem laid_filter : (laidU.filter fun x => x.2.handleName?.isSome) = [] := by kernel_rfl
theorem met_of {w : World} (h : laidMetH Tryd.prog laidU w) : laidMet Tryd.prog laidU w := by
  unfold laidMetH at h
  rw [laid_filter] at h
  exact h
def layIn (cs : List Value) : Obj → Obj
  | .cells _ t frozen => .cells cs.toArray t frozen
  | o => o
def firstCells : List Value := (List.range 256).map fun c => Value.int .u8 (firstT c : Int)
def acceptCells : List Value := (List.range 32).map fun c => Value.int .u8 (if c % 2 = 0 then (accLo (c / 2) : Int) else (accHi (c / 2) : Int))
noncomputable def laidWorld (os : Os) : World :=
  { World.holding Tryd.prog os ⟨#[], #[], []⟩ with heap := ((World.holding Tryd.prog os ⟨#[], #[], []⟩).heap.modify 0 (layIn firstCells)).modify 1 (layIn acceptCells) }
theorem glob_of {w : World} (h : laidMet Tryd.prog laidU w) (hsh : w.ShapedOpen Tryd.prog) : Glob w := by
  obtain ⟨s0, hs⟩ := cell_of_shapedOpen_int (P := Tryd.prog) (g := 2) (t := 3) (zero := #[.int .i64 0]) hsh (of_decide_eq_true (by kernel_rfl)) (by kernel_rfl) rfl (by kernel_rfl) (by kernel_rfl) U3
  exact ⟨tabs_of h, s0, hs⟩
section
variable {H : Type} {enc : TypeId × Value → H} {w : World} {spare : Nat → Bool} {held : Bool}
theorem bd8 {k : Int} (h : (Lit.int .u8 k).wf = true) : 0 ≤ k ∧ k < 256 := by have := bd_u8 h; omega
end
theorem end_of {e : Ending} {w w' : World} (h : Kept [] w w' ∧ e = .returned (.bool true)) : e = .returned (.bool true) ∧ Below w.heap.size w w' := ⟨h.2, h.1.below0⟩
section
variable {H : Type} {enc : TypeId × Value → H} {w : World} {spare : Nat → Bool} {held : Bool}
theorem trod_slice1 {t e n : Nat} {v : Value} {y : DataW H × List MemPlace} (hu : Tryd.prog.underlying t = some (.slice e)) (h : DataW.trod enc Tryd.prog w 0 spare held n t [v] = some y) : ∃ a len cap, v = .slice a len cap := by
  rcases open_slice hu h with ⟨hcs, _⟩ | ⟨a', len', cap', m, n, D, Pl, hcs, _⟩
  · simp at hcs; exact ⟨_, _, _, hcs⟩
  simp at hcs; exact ⟨_, _, _, hcs⟩
theorem open_cell (n : Nat) (cs : List Value) (y : DataW H × List MemPlace) (h : DataW.trod enc Tryd.prog w 0 spare held n 28 cs = some y) : ∃ p : Cp, cs = pcell p := by
  obtain ⟨ys, n', _, _, hcl, hyl, hf⟩ := DataW.trod_struct U28 h
  have hcells : Tryd.prog.cellsOf 28 = 10 := by kernel_rfl
  rw [hcells] at hcl
  match cs, hcl with
  | [v0, v1, v2, v3, v4, v5, v6, v7, v8, v9], _ =>
    have k2 : Tryd.prog.cellsOf 2 = 1 := by kernel_rfl
    have k3 : Tryd.prog.cellsOf 3 = 1 := by kernel_rfl
    have k4 : Tryd.prog.cellsOf 4 = 1 := by kernel_rfl
    have k9 : Tryd.prog.cellsOf 9 = 1 := by kernel_rfl
    have ku : Tryd.prog.cellsOf 26 = 1 := by kernel_rfl
    have kd : Tryd.prog.cellsOf 23 = 3 := by kernel_rfl
    have ks : Tryd.prog.cellsOf 25 = 3 := by kernel_rfl
    have l6 : ys.length = 6 := hyl
    have f0 : DataW.trod enc Tryd.prog w 0 spare held n' 23 [v0, v1, v2] = ys[0]? := by have := hf 0 _ rfl; simpa [kd] using this
    have f1 : DataW.trod enc Tryd.prog w 0 spare held n' 25 [v3, v4, v5] = ys[1]? := by have := hf 1 _ rfl; simpa [ks] using this
    have f2 : DataW.trod enc Tryd.prog w 0 spare held n' 9 [v6] = ys[2]? := by have := hf 2 _ rfl; simpa [k9] using this
    have f3 : DataW.trod enc Tryd.prog w 0 spare held n' 26 [v7] = ys[3]? := by have := hf 3 _ rfl; simpa [ku] using this
    have f4 : DataW.trod enc Tryd.prog w 0 spare held n' 3 [v8] = ys[4]? := by have := hf 4 _ rfl; simpa [k3] using this
    have f5 : DataW.trod enc Tryd.prog w 0 spare held n' 4 [v9] = ys[5]? := by have := hf 5 _ rfl; simpa [k4] using this
    rw [List.getElem?_eq_getElem (by omega)] at f0 f1 f2 f3 f4 f5
    obtain ⟨zs, n2, _, _, _, hzl, hg⟩ := DataW.trod_struct U23 f0
    have l3 : zs.length = 3 := hzl
    have g0 : DataW.trod enc Tryd.prog w 0 spare held n2 3 [v0] = zs[0]? := by have := hg 0 _ rfl; simpa [k3] using this
    have g1 : DataW.trod enc Tryd.prog w 0 spare held n2 3 [v1] = zs[1]? := by have := hg 1 _ rfl; simpa [k3] using this
    have g2 : DataW.trod enc Tryd.prog w 0 spare held n2 3 [v2] = zs[2]? := by have := hg 2 _ rfl; simpa [k3] using this
    rw [List.getElem?_eq_getElem (by omega)] at g0 g1 g2
    obtain ⟨us, n3, _, _, _, hul, hu⟩ := DataW.trod_struct U25 f1
    have l3' : us.length = 3 := hul
    have u0 : DataW.trod enc Tryd.prog w 0 spare held n3 2 [v3] = us[0]? := by have := hu 0 _ rfl; simpa [k2] using this
    have u1 : DataW.trod enc Tryd.prog w 0 spare held n3 2 [v4] = us[1]? := by have := hu 1 _ rfl; simpa [k2] using this
    have u2 : DataW.trod enc Tryd.prog w 0 spare held n3 3 [v5] = us[2]? := by have := hu 2 _ rfl; simpa [k3] using this
    rw [List.getElem?_eq_getElem (by omega)] at u0 u1 u2
    obtain ⟨x0, e0, _, _⟩ := DataW.trod_int U3 g0
    obtain ⟨x1, e1, _, _⟩ := DataW.trod_int U3 g1
    obtain ⟨x2, e2, _, _⟩ := DataW.trod_int U3 g2
    obtain ⟨x3, e3, _, _⟩ := DataW.trod_int U2 u0
    obtain ⟨x4, e4, _, _⟩ := DataW.trod_int U2 u1
    obtain ⟨x5, e5, _, _⟩ := DataW.trod_int U3 u2
    obtain ⟨x6, e6, _, _⟩ := DataW.trod_string U9 f2
    obtain ⟨a7, n7, c7, e7⟩ := trod_slice1 U26 f3
    obtain ⟨x8, e8, _, _⟩ := DataW.trod_int U3 f4
    obtain ⟨x9, e9, _⟩ := DataW.trod_bool U4 f5
    simp at e0 e1 e2 e3 e4 e5 e6 e8 e9
    subst e0 e1 e2 e3 e4 e5 e6 e7 e8 e9
    exact ⟨⟨⟨⟨x0, x1, x2⟩, ⟨x3, x4, x5⟩, x6, List.replicate n7 0, x8, x9⟩, a7, c7⟩, by simp⟩
def IsCell (v : Value) : Prop := ∃ p : Cp, v = .agg (pcell p).toArray
theorem open_ce {r : Reach} {b0 : Nat} {v : Value} {d : DataW H} {p : List MemPlace} (hv : Value.okWide Tryd.prog w r b0 28 v) (h : DataW.Trod enc Tryd.prog w 0 spare held 28 v d p) : IsCell v := by
  obtain ⟨fuel, hf⟩ := h
  obtain ⟨x, hcs⟩ := open_cell _ _ _ hf
  have hsz : v.cells = (pcell x).toArray := Array.toList_inj.1 hcs
  cases v with
  | agg cs => exact ⟨x, by rw [← hsz]; rfl⟩
  | _ =>
    have := congrArg Array.size hsz
    simp [Value.cells] at this
end
theorem order_row {v0 v1 : Value} {k j : Int} {w : World} (G : Glob w) (h0 : IsCell v0) (h1 : IsCell v1) (w2 : (Lit.int .u8 k).wf = true) (w3 : (Lit.int .u8 j).wf = true) :
    Calls Tryd.prog 3 #[v0, v1, .int .u8 k, .int .u8 j] w fun e w' => e = .returned (.bool true) ∧ Below w.heap.size w w' := by
  obtain ⟨p, rfl⟩ := h0
  obtain ⟨q, rfl⟩ := h1
  exact (order_walk p q k j w G (bd8 w2) (bd8 w3)).mono fun _ _ => end_of
end Go.Proofs.YtekmhcdgmgbheaaDoor
