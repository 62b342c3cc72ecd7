/- Contracts: the known ones. -/
import Derived.Test.YtahmlcjgcdajbaaMe
set_option linter.all false
namespace Go.Proofs.Ytahmlcjgcdajbaa
open Go.RowKit Go.Hub
theorem wzi32_r : (Try.prog.info? 32).map (fun i => (i.zero, i.size)) = some (some (.agg #[(.int .i64 0), (.int .i64 0), (.int .i64 0)]), 3) := by kernel_rfl
theorem wbs24_1_r (x0_0 x0_1 x0_2 : Value) : Instr.fill (fun i => some (i * 3, 3)) ((Array.range (1 * 3)).map fun j => (Value.cells (.agg #[(.int .i64 0), (.int .i64 0), (.int .i64 0)]))[j % (Value.cells (.agg #[(.int .i64 0), (.int .i64 0), (.int .i64 0)])).size]!) [(0, .agg #[x0_0, x0_1, x0_2])] = some #[x0_0, x0_1, x0_2] := by kernel_rfl
theorem wbl32_0_1_2_r (x0 : Int) (x1 : Int) (x2 : Int) : Try.prog.built 32 [(0, .int .i64 x0), (1, .int .i64 x1), (2, .int .i64 x2)] = some #[.int .i64 x0, .int .i64 x1, .int .i64 x2] := by kernel_rfl

set_option maxHeartbeats 1000000 in
theorem known_any (w : World) : Calls Try.prog 28 #[] w (fun e w' => Kept [] w w' ∧ e = .returned (.bool true)) := by
  have HK : Kept [] w w := Kept.refl _ _
  refine C.enter Try.func28 rfl Try.ntmps28 rfl ?_
  intro a0 f0
  have f1 : Fr 78 a0 [] := f0
  clear f0
  refine wp_seq_k fun K0 hK0 => ?_
  refine C.region ?_
  refine L.val f1 wantedN rfl (by decide) (E.assign f1 rfl) fun a2 f2 => ?_
  clear f1 a0
  refine wpList_nil (hK0 _ _ ?_)
  try clear hK0 K0
  have f3 := f2.sub (sub_cons (i := 0) rfl sub_nil)
  clear f2
  refine wp_seq_k fun K1 hK1 => ?_
  refine C.region ?_
  refine L.call f3 wantedN rfl (by decide) (run_call Try.call29 (args2 f3 rfl rfl)) (new_any 2 0 _) ?_
  rintro e w1 ⟨mA, fpA, rfl, ⟨rA, enA, hrA, MA⟩, kc1, loA⟩
  have ltA := MA.lt
  refine ⟨_, rfl, fun a4 f4 => ?_⟩
  clear f3 a2
  have szw1 := kc1.size
  replace HK := HK.trans kc1 (by simp)
  clear kc1
  refine L.call f4 wantedN rfl (by decide) (run_call Try.call29 (args2 f4 rfl rfl)) (new_any 1 0 _) ?_
  rintro e w2 ⟨mB, fpB, rfl, ⟨rB, enB, hrB, MB⟩, kc2, loB0⟩
  have dAB : ∀ x ∈ fpA, x ∉ fpB := fun x hx hy => by have := ltA x hx; have := loB0 x hy; omega
  have loB : ∀ x ∈ fpB, w.heap.size ≤ x := fun x hx => Nat.le_trans HK.size (loB0 x hx)
  refine ⟨_, rfl, fun a5 f5 => ?_⟩
  clear f4 a4
  have szw2 := kc2.size
  replace HK := HK.trans kc2 (by simp)
  replace MA := MA.kept kc2 (by simp)
  clear kc2
  refine L.val f5 wantedN rfl (by decide) (E.assign f5 rfl) fun a6 f6 => ?_
  clear f5 a5
  refine L.val f6 wantedN rfl (by decide) (E.assign f6 rfl) fun a7 f7 => ?_
  clear f6 a6
  refine wpList_nil (hK1 _ _ ?_)
  try clear hK1 K1
  have f8 := f7.sub (sub_cons (i := 0) rfl (sub_cons (i := 1) rfl (sub_cons (i := 2) rfl sub_nil)))
  clear f7
  refine wp_seq_k fun K2 hK2 => ?_
  refine wp_seq_k fun K3 hK3 => ?_
  refine C.region ?_
  refine L.val f8 wantedN rfl (by decide) (E.move f8 rfl) fun a9 f9 => ?_
  clear f8 a7
  refine L.val f9 wantedN rfl (by decide) (E.eqlP f9 Try.underlying43 rfl rfl) fun a10 f10 => ?_
  clear f9 a9
  refine L.val f10 wantedN rfl (by decide) (E.move f10 rfl) fun a11 f11 => ?_
  clear f10 a10
  refine L.val f11 (f11.yes rfl rfl) rfl (by decide) (E.move f11 rfl) fun a12 f12 => ?_
  clear f11 a11
  refine L.val f12 (f12.yes rfl rfl) rfl (by decide) (E.eqlP f12 Try.underlying43 rfl rfl) fun a13 f13 => ?_
  clear f12 a12
  refine L.val f13 wantedN rfl (by decide) (E.pickF f13 rfl rfl) fun a14 f14 => ?_
  clear f13 a13
  refine wpList_nil (hK3 _ _ ?_)
  try clear hK3 K3
  have f15 := f14.sub (sub_cons (i := 0) rfl (sub_cons (i := 1) rfl (sub_cons (i := 2) rfl (sub_cons (i := 19) rfl sub_nil))))
  clear f14
  refine C.condF f15 rfl ?_
  refine wp_skip (hK2 _ _ ?_)
  try clear hK2 K2
  have f16 := f15.sub (sub_cons (i := 0) rfl (sub_cons (i := 1) rfl (sub_cons (i := 2) rfl sub_nil)))
  clear f15
  refine wp_seq_k fun K4 hK4 => ?_
  refine C.region ?_
  refine L.val f16 wantedN rfl (by decide) (E.move f16 rfl) fun a17 f17 => ?_
  clear f16 a14
  refine L.call f17 wantedN rfl (by decide) (run_call Try.call32 (args3 f17 rfl rfl rfl)) (by have := cut_any mA rA fpA enA (newSelf 2 0) 5 [] none 0 w2 MA (Ds.nil _ _) (by decide); rw [hrA] at this; exact this) ?_
  rintro e w3 ⟨kc3, AX4, cX4, ss4, rfl, RO4, hl4, hq4⟩
  have hn4 : ss4.length = 0 := by rw [← List.length_map (f := fun x : SD => x.2.2), hl4]; kernel_rfl
  refine ⟨_, rfl, fun a18 f18 => ?_⟩
  clear f17 a17
  have szw3 := kc3.size
  replace HK := HK.trans kc3 (by simp)
  replace MA := MA.kept kc3 (by simp)
  replace MB := MB.kept kc3 (by simp)
  clear kc3
  refine L.val f18 wantedN rfl (by decide) (E.move f18 rfl) fun a19 f19 => ?_
  clear f18 a18
  refine L.val f19 wantedN rfl (by decide) (E.extract f19 rfl rfl) fun a20 f20 => ?_
  clear f19 a19
  refine L.val f20 wantedN rfl (by decide) (E.extract f20 rfl rfl) fun a21 f21 => ?_
  clear f20 a20
  have f22 := f21.as (i := 24) (v' := .bool false) rfl (by kernel_rfl)
  clear f21
  refine L.val f22 wantedN rfl (by decide) (E.assign f22 rfl) fun a23 f23 => ?_
  clear f22 a21
  refine L.val f23 wantedN rfl (by decide) (E.assign f23 rfl) fun a24 f24 => ?_
  clear f23 a23
  refine wpList_nil (hK4 _ _ ?_)
  try clear hK4 K4
  have f25 := f24.sub (sub_cons (i := 0) rfl (sub_cons (i := 1) rfl (sub_cons (i := 2) rfl (sub_cons (i := 4) rfl sub_nil))))
  clear f24
  refine wp_seq_k fun K5 hK5 => ?_
  refine C.region ?_
  refine L.val f25 wantedN rfl (by decide) (E.move f25 rfl) fun a26 f26 => ?_
  clear f25 a24
  refine L.val f26 wantedN rfl (by decide) (E.build f26 (parts3 f26 rfl rfl rfl) (wbl32_0_1_2_r _ _ _)) fun a27 f27 => ?_
  clear f26 a26
  refine L.buildSlice f27 wantedN (by decide) (parts1 f27 rfl) Try.underlying24 wzi32_r rfl rfl (wbs24_1_r _ _ _) fun a28 w4 g3 N3 f28 => ?_
  have Bg3 := N3.blk
  have kg3 := N3.kept
  have log3 := N3.lo
  have ltg3 := Bg3.lt
  have szw4 := kg3.size
  have frg3 : w.heap.size ≤ g3 := Nat.le_trans HK.size log3
  replace HK := HK.trans kg3 (by simp)
  replace MA := MA.kept kg3 (by simp)
  replace MB := MB.kept kg3 (by simp)
  clear N3 kg3
  clear f27 a27
  refine L.call f28 wantedN rfl (by decide) (run_call Try.call31 (args5 f28 rfl rfl rfl rfl rfl)) (by have := hear_any mA rA fpA enA (newSelf 2 0) 1 1 5 [⟨0, 1, 2⟩] (some ⟨g3, 0, none⟩) 1 w4 MA (sl_one _ _ _ Bg3) (by decide); rw [hrA] at this; exact this) ?_
  rintro e w5 ⟨rfl, kc5, fpA', ⟨rA', enA', hrA', MA'⟩, hfA⟩
  have loA' : ∀ x ∈ fpA', w.heap.size ≤ x := fun x hx => (hfA x hx).elim (loA x) fun h => by have := HK.size; omega
  have dAB' : ∀ x ∈ fpA', x ∉ fpB := fun x hx hy => (hfA x hx).elim (fun h => dAB x h hy) fun h => by have := MB.lt x hy; omega
  refine ⟨_, rfl, fun a29 f29 => ?_⟩
  clear f28 a28
  have szw5 := kc5.size
  replace HK := HK.trans kc5 (fun x hx hlt => absurd (loA x hx) (by omega))
  replace MB := MB.kept kc5 dAB
  clear kc5
  have f30 := f29.as (i := 28) (v' := .bool true) rfl (by kernel_rfl)
  clear f29
  refine L.val f30 wantedN rfl (by decide) (E.assign f30 rfl) fun a31 f31 => ?_
  clear f30 a29
  refine wpList_nil (hK5 _ _ ?_)
  try clear hK5 K5
  have f32 := f31.sub (sub_cons (i := 0) rfl (sub_cons (i := 1) rfl (sub_cons (i := 2) rfl (sub_cons (i := 4) rfl (sub_cons (i := 5) rfl sub_nil)))))
  clear f31
  refine wp_seq_k fun K6 hK6 => ?_
  refine C.region ?_
  refine L.val f32 wantedN rfl (by decide) (E.move f32 rfl) fun a33 f33 => ?_
  clear f32 a31
  refine L.val f33 wantedN rfl (by decide) (E.build f33 (parts3 f33 rfl rfl rfl) (wbl32_0_1_2_r _ _ _)) fun a34 f34 => ?_
  clear f33 a33
  refine L.buildSlice f34 wantedN (by decide) (parts1 f34 rfl) Try.underlying24 wzi32_r rfl rfl (wbs24_1_r _ _ _) fun a35 w6 g5 N5 f35 => ?_
  have Bg5 := N5.blk
  have kg5 := N5.kept
  have log5 := N5.lo
  have ltg5 := Bg5.lt
  have szw6 := kg5.size
  have frg5 : w.heap.size ≤ g5 := Nat.le_trans HK.size log5
  replace HK := HK.trans kg5 (by simp)
  replace MB := MB.kept kg5 (by simp)
  replace MA' := MA'.kept kg5 (by simp)
  clear N5 kg5
  clear f34 a34
  refine L.call f35 wantedN rfl (by decide) (run_call Try.call32 (args3 f35 rfl rfl rfl)) (by have := cut_any mA rA' fpA' enA' (newSelf 2 0) 5 [⟨0, 1, 3⟩] (some ⟨g5, 0, none⟩) 1 w6 MA' (sl_one _ _ _ Bg5) (by decide); rw [hrA'] at this; exact this) ?_
  rintro e w7 ⟨kc7, AX6, cX6, ss6, rfl, RO6, hl6, hq6⟩
  have hn6 : ss6.length = 1 := by rw [← List.length_map (f := fun x : SD => x.2.2), hl6]; kernel_rfl
  refine ⟨_, rfl, fun a36 f36 => ?_⟩
  clear f35 a35
  have szw7 := kc7.size
  replace HK := HK.trans kc7 (by simp)
  replace MB := MB.kept kc7 (by simp)
  replace MA' := MA'.kept kc7 (by simp)
  replace Bg5 := Bg5.kept kc7 (by simp)
  clear kc7
  refine L.val f36 wantedN rfl (by decide) (E.move f36 rfl) fun a37 f37 => ?_
  clear f36 a36
  refine L.val f37 wantedN rfl (by decide) (E.extract f37 rfl rfl) fun a38 f38 => ?_
  clear f37 a37
  refine L.val f38 wantedN rfl (by decide) (E.extract f38 rfl rfl) fun a39 f39 => ?_
  clear f38 a38
  have f40 := f39.as (i := 35) (v' := .bool true) rfl (by kernel_rfl)
  clear f39
  refine L.val f40 wantedN rfl (by decide) (E.assign f40 rfl) fun a41 f41 => ?_
  clear f40 a39
  refine L.val f41 wantedN rfl (by decide) (E.assign f41 rfl) fun a42 f42 => ?_
  clear f41 a41
  refine wpList_nil (hK6 _ _ ?_)
  try clear hK6 K6
  have f43 := f42.sub (sub_cons (i := 0) rfl (sub_cons (i := 1) rfl (sub_cons (i := 2) rfl (sub_cons (i := 4) rfl (sub_cons (i := 5) rfl (sub_cons (i := 6) rfl (sub_cons (i := 7) rfl sub_nil)))))))
  clear f42
  refine wp_seq_k fun K7 hK7 => ?_
  refine C.region ?_
  refine L.val f43 wantedN rfl (by decide) (E.move f43 rfl) fun a44 f44 => ?_
  clear f43 a42
  refine L.val f44 wantedN rfl (by decide) (E.build f44 (parts3 f44 rfl rfl rfl) (wbl32_0_1_2_r _ _ _)) fun a45 f45 => ?_
  clear f44 a44
  refine L.buildSlice f45 wantedN (by decide) (parts1 f45 rfl) Try.underlying24 wzi32_r rfl rfl (wbs24_1_r _ _ _) fun a46 w8 g7 N7 f46 => ?_
  have Bg7 := N7.blk
  have kg7 := N7.kept
  have log7 := N7.lo
  have ltg7 := Bg7.lt
  have szw8 := kg7.size
  have frg7 : w.heap.size ≤ g7 := Nat.le_trans HK.size log7
  replace HK := HK.trans kg7 (by simp)
  replace MB := MB.kept kg7 (by simp)
  replace MA' := MA'.kept kg7 (by simp)
  clear N7 kg7
  clear f45 a45
  refine L.call f46 wantedN rfl (by decide) (run_call Try.call32 (args3 f46 rfl rfl rfl)) (by have := cut_any mA rA' fpA' enA' (newSelf 2 0) 5 [⟨0, 1, 1⟩] (some ⟨g7, 0, none⟩) 1 w8 MA' (sl_one _ _ _ Bg7) (by decide); rw [hrA'] at this; exact this) ?_
  rintro e w9 ⟨kc9, AX7, cX7, ss7, rfl, RO7, hl7, hq7⟩
  have hn7 : ss7.length = 0 := by rw [← List.length_map (f := fun x : SD => x.2.2), hl7]; kernel_rfl
  refine ⟨_, rfl, fun a47 f47 => ?_⟩
  clear f46 a46
  have szw9 := kc9.size
  replace HK := HK.trans kc9 (by simp)
  replace MB := MB.kept kc9 (by simp)
  replace MA' := MA'.kept kc9 (by simp)
  replace Bg7 := Bg7.kept kc9 (by simp)
  clear kc9
  refine L.val f47 wantedN rfl (by decide) (E.move f47 rfl) fun a48 f48 => ?_
  clear f47 a47
  refine L.val f48 wantedN rfl (by decide) (E.extract f48 rfl rfl) fun a49 f49 => ?_
  clear f48 a48
  refine L.val f49 wantedN rfl (by decide) (E.extract f49 rfl rfl) fun a50 f50 => ?_
  clear f49 a49
  have f51 := f50.as (i := 42) (v' := .bool false) rfl (by kernel_rfl)
  clear f50
  refine L.val f51 wantedN rfl (by decide) (E.assign f51 rfl) fun a52 f52 => ?_
  clear f51 a50
  refine L.val f52 wantedN rfl (by decide) (E.assign f52 rfl) fun a53 f53 => ?_
  clear f52 a52
  refine wpList_nil (hK7 _ _ ?_)
  try clear hK7 K7
  have f54 := f53.sub (sub_cons (i := 0) rfl (sub_cons (i := 1) rfl (sub_cons (i := 2) rfl (sub_cons (i := 4) rfl (sub_cons (i := 5) rfl (sub_cons (i := 6) rfl (sub_cons (i := 7) rfl (sub_cons (i := 9) rfl sub_nil))))))))
  clear f53
  refine wp_seq_k fun K8 hK8 => ?_
  refine C.region ?_
  refine L.val f54 wantedN rfl (by decide) (E.move f54 rfl) fun a55 f55 => ?_
  clear f54 a53
  refine L.call f55 wantedN rfl (by decide) (run_call Try.call32 (args3 f55 rfl rfl rfl)) (by have := cut_any mB rB fpB enB (newSelf 1 0) 9 [] none 0 w9 MB (Ds.nil _ _) (by decide); rw [hrB] at this; exact this) ?_
  rintro e w10 ⟨kc10, AX8, cX8, ss8, rfl, RO8, hl8, hq8⟩
  have hn8 : ss8.length = 0 := by rw [← List.length_map (f := fun x : SD => x.2.2), hl8]; kernel_rfl
  refine ⟨_, rfl, fun a56 f56 => ?_⟩
  clear f55 a55
  have szw10 := kc10.size
  replace HK := HK.trans kc10 (by simp)
  replace MB := MB.kept kc10 (by simp)
  replace MA' := MA'.kept kc10 (by simp)
  clear kc10
  refine L.val f56 wantedN rfl (by decide) (E.move f56 rfl) fun a57 f57 => ?_
  clear f56 a56
  refine L.val f57 wantedN rfl (by decide) (E.extract f57 rfl rfl) fun a58 f58 => ?_
  clear f57 a57
  refine L.val f58 wantedN rfl (by decide) (E.extract f58 rfl rfl) fun a59 f59 => ?_
  clear f58 a58
  have f60 := f59.as (i := 47) (v' := .bool true) rfl (by kernel_rfl)
  clear f59
  refine L.val f60 wantedN rfl (by decide) (E.assign f60 rfl) fun a61 f61 => ?_
  clear f60 a59
  refine L.val f61 wantedN rfl (by decide) (E.assign f61 rfl) fun a62 f62 => ?_
  clear f61 a61
  refine wpList_nil (hK8 _ _ ?_)
  try clear hK8 K8
  have f63 := f62.sub (sub_cons (i := 0) rfl (sub_cons (i := 1) rfl (sub_cons (i := 4) rfl (sub_cons (i := 5) rfl (sub_cons (i := 6) rfl (sub_cons (i := 7) rfl (sub_cons (i := 9) rfl (sub_cons (i := 10) rfl (sub_cons (i := 11) rfl sub_nil)))))))))
  clear f62
  refine wp_seq_k fun K9 hK9 => ?_
  refine C.region ?_
  refine L.val f63 wantedN rfl (by decide) (E.move f63 rfl) fun a64 f64 => ?_
  clear f63 a62
  refine L.val f64 wantedN rfl (by decide) (E.not f64 rfl) fun a65 f65 => ?_
  clear f64 a64
  refine L.val f65 wantedN rfl (by decide) (E.move f65 rfl) fun a66 f66 => ?_
  clear f65 a65
  refine L.val f66 (f66.yes rfl rfl) rfl (by decide) (E.move f66 rfl) fun a67 f67 => ?_
  clear f66 a66
  refine L.val f67 wantedN rfl (by decide) (E.pickT f67 rfl rfl) fun a68 f68 => ?_
  clear f67 a67
  refine L.val f68 wantedN rfl (by decide) (E.move f68 rfl) fun a69 f69 => ?_
  clear f68 a68
  refine L.val f69 (f69.yes rfl rfl) rfl (by decide) (E.move f69 rfl) fun a70 f70 => ?_
  clear f69 a69
  refine L.val f70 wantedN rfl (by decide) (E.pickT f70 rfl rfl) fun a71 f71 => ?_
  clear f70 a70
  refine L.val f71 wantedN rfl (by decide) (E.move f71 rfl) fun a72 f72 => ?_
  clear f71 a71
  refine L.val f72 (f72.yes rfl rfl) rfl (by decide) (E.move f72 rfl) fun a73 f73 => ?_
  clear f72 a72
  refine L.val f73 (f73.yes rfl rfl) rfl (by decide) (E.lenL f73 Try.underlying46 rfl) fun a74 f74 => ?_
  clear f73 a73
  refine L.val f74 (f74.yes rfl rfl) rfl (by decide) (E.eql f74 rfl rfl) fun a75 f75 => ?_
  clear f74 a74
  have f76 := f75.as (i := 59) (v' := .bool true) rfl (by simp [hn6])
  clear f75
  refine L.val f76 wantedN rfl (by decide) (E.pickT f76 rfl rfl) fun a77 f77 => ?_
  clear f76 a75
  refine L.val f77 wantedN rfl (by decide) (E.move f77 rfl) fun a78 f78 => ?_
  clear f77 a77
  refine L.val f78 (f78.yes rfl rfl) rfl (by decide) (E.move f78 rfl) fun a79 f79 => ?_
  clear f78 a78
  refine L.val f79 (f79.yes rfl rfl) rfl (by decide) (E.not f79 rfl) fun a80 f80 => ?_
  clear f79 a79
  refine L.val f80 wantedN rfl (by decide) (E.pickT f80 rfl rfl) fun a81 f81 => ?_
  clear f80 a80
  refine L.val f81 wantedN rfl (by decide) (E.move f81 rfl) fun a82 f82 => ?_
  clear f81 a81
  refine L.val f82 (f82.yes rfl rfl) rfl (by decide) (E.move f82 rfl) fun a83 f83 => ?_
  clear f82 a82
  refine L.val f83 wantedN rfl (by decide) (E.pickT f83 rfl rfl) fun a84 f84 => ?_
  clear f83 a83
  refine L.val f84 wantedN rfl (by decide) (E.move f84 rfl) fun a85 f85 => ?_
  clear f84 a84
  refine L.val f85 (f85.yes rfl rfl) rfl (by decide) (E.move f85 rfl) fun a86 f86 => ?_
  clear f85 a85
  refine L.val f86 (f86.yes rfl rfl) rfl (by decide) (E.lenL f86 Try.underlying46 rfl) fun a87 f87 => ?_
  clear f86 a86
  refine L.val f87 (f87.yes rfl rfl) rfl (by decide) (E.eql f87 rfl rfl) fun a88 f88 => ?_
  clear f87 a87
  have f89 := f88.as (i := 71) (v' := .bool true) rfl (by simp [hn8])
  clear f88
  refine L.val f89 wantedN rfl (by decide) (E.pickT f89 rfl rfl) fun a90 f90 => ?_
  clear f89 a88
  refine L.val f90 wantedN rfl (by decide) (E.move f90 rfl) fun a91 f91 => ?_
  clear f90 a90
  refine L.val f91 (f91.yes rfl rfl) rfl (by decide) (E.move f91 rfl) fun a92 f92 => ?_
  clear f91 a91
  refine L.call f92 (f92.yes rfl rfl) rfl (by decide) (run_call Try.call31 (args5 f92 rfl rfl rfl rfl rfl)) (by have := hear_any mA rA' fpA' enA' (newSelf 2 0) 0 1 5 [] none 0 w10 MA' (Ds.nil _ _) (by decide); rw [hrA'] at this; exact this) ?_
  rintro e w11 ⟨rfl, kc11, fpA2, hM2, hfA2⟩
  refine ⟨_, rfl, fun a93 f93 => ?_⟩
  clear f92 a92
  have szw11 := kc11.size
  replace HK := HK.trans kc11 (fun x hx hlt => absurd (loA' x hx) (by omega))
  clear kc11
  have f94 := f93.as (i := 75) (v' := .bool false) rfl (by kernel_rfl)
  clear f93
  refine L.val f94 (f94.yes rfl rfl) rfl (by decide) (E.not f94 rfl) fun a95 f95 => ?_
  clear f94 a93
  refine L.val f95 wantedN rfl (by decide) (E.pickT f95 rfl rfl) fun a96 f96 => ?_
  clear f95 a95
  refine L.val f96 wantedN rfl (by decide) (E.assign f96 rfl) fun a97 f97 => ?_
  clear f96 a96
  refine wpList_nil (hK9 _ _ ?_)
  try clear hK9 K9
  have f98 := f97.sub (sub_cons (i := 0) rfl sub_nil)
  clear f97
  refine wp_ret ?_
  try simp only [Exit.inBlock, Exit.then]
  refine C.ret (P := Try.prog) (fn := Try.f28) f98 rfl rfl ?_
  exact ⟨HK, rfl⟩

end Go.Proofs.Ytahmlcjgcdajbaa
