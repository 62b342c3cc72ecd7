/- DotsJoin, DotsWithin, DotsOrder, DotsAdd: the walks. -/
import Derived.Test.YtahmlcjgcdajbaaDh
set_option linter.all false
namespace Go.Proofs.Ytahmlcjgcdajbaa
open Go.RowKit Go.Hub
theorem wsz32_g9 : (Try.prog.info? 32).map (·.size) = some 3 := by kernel_rfl
theorem wsz3_g9 : (Try.prog.info? 3).map (·.size) = some 1 := by kernel_rfl
theorem wbl32_0_1_2_g9 (x0 : Int) (x1 : Int) (x2 : Int) : Try.prog.built 32 [(0, .int .i64 x0), (1, .int .i64 x1), (2, .int .i64 x2)] = some #[.int .i64 x0, .int .i64 x1, .int .i64 x2] := by kernel_rfl

theorem lt3_irrefl (a : Dt) : ¬ lt3 a a := by unfold lt3; omega
theorem lt3_asymm {a b : Dt} (h : lt3 a b) : ¬ lt3 b a := by unfold lt3 at *; omega
theorem lt3_trans {a b c : Dt} (h : lt3 a b) (k : lt3 b c) : lt3 a c := by unfold lt3 at *; omega
theorem lt3_eq {a b : Dt} (h : ¬ lt3 a b) (k : ¬ lt3 b a) : a = b := by
  have h1 : a.node = b.node ∧ a.epoch = b.epoch ∧ a.n = b.n := by unfold lt3 at *; omega
  cases a
  cases b
  simp only [Dt.mk.injEq]
  exact h1

set_option maxRecDepth 100000 in
set_option maxHeartbeats 1000000 in
theorem join3_any (l1 l2 l3 : List Int) (B1 B2 B3 : Option Addr) (c1 c2 c3 : Nat) (w : World) (U1 : Us w B1 l1) (U2 : Us w B2 l2) (U3 : Us w B3 l3) (b1 : ∀ x ∈ l1, 0 ≤ x ∧ x ≤ 65535) (b2 : ∀ x ∈ l2, 0 ≤ x ∧ x ≤ 65535) (b3 : ∀ x ∈ l3, 0 ≤ x ∧ x ≤ 65535) (m1 : l1.length ≤ maxLen) (m2 : l2.length ≤ maxLen) (m3 : l3.length ≤ maxLen) : Calls Try.prog 3 #[.slice B1 l1.length c1, .slice B2 l2.length c2, .slice B3 l3.length c3] w (fun e w' => e = .returned (.bool true) ∧ Below w.heap.size w w') := by
  have HK : Kept [] w w := Kept.refl [] w
  unfold maxLen at m1 m2 m3
  refine C.enter Try.func3 rfl Try.ntmps3 rfl ?_
  intro a0 f0
  have f1 : Fr 81 a0 [(0, .slice B1 l1.length c1), (1, .slice B2 l2.length c2), (2, .slice B3 l3.length c3)] := f0
  clear f0
  refine wp_seq_k fun K0 hK0 => ?_
  refine C.region ?_
  refine L.val f1 wantedN rfl (by decide) (E.assign f1 rfl) fun a2 f2 => ?_
  clear f1 a0
  refine wpList_nil (hK0 _ _ ?_)
  try clear hK0 K0
  have f3 := f2.sub (sub_cons (i := 0) rfl (sub_cons (i := 1) rfl (sub_cons (i := 2) rfl (sub_cons (i := 6) rfl sub_nil))))
  clear f2
  refine wp_seq_k fun K1 hK1 => ?_
  refine wp_seq_k fun K2 hK2 => ?_
  refine C.region ?_
  refine L.call f3 wantedN rfl (by decide) (run_call Try.call11 (args0 f3)) (known_any _) ?_
  rintro e w1 ⟨kc1, rfl⟩
  refine ⟨_, rfl, fun a4 f4 => ?_⟩
  clear f3 a2
  have szw1 := kc1.size
  replace HK := HK.trans kc1 (by simp)
  clear kc1
  refine L.val f4 wantedN rfl (by decide) (E.not f4 rfl) fun a5 f5 => ?_
  clear f4 a4
  refine wpList_nil (hK2 _ _ ?_)
  try clear hK2 K2
  have f6 := f5.sub (sub_cons (i := 0) rfl (sub_cons (i := 1) rfl (sub_cons (i := 2) rfl (sub_cons (i := 6) rfl (sub_cons (i := 12) rfl sub_nil)))))
  clear f5
  refine C.condF f6 rfl ?_
  refine wp_skip (hK1 _ _ ?_)
  try clear hK1 K1
  have f7 := f6.sub (sub_cons (i := 0) rfl (sub_cons (i := 1) rfl (sub_cons (i := 2) rfl (sub_cons (i := 6) rfl sub_nil))))
  clear f6
  refine wp_seq_k fun K3 hK3 => ?_
  refine wp_seq_k fun K4 hK4 => ?_
  refine C.region ?_
  refine L.val f7 wantedN rfl (by decide) (E.move f7 rfl) fun a8 f8 => ?_
  clear f7 a5
  refine L.val f8 wantedN rfl (by decide) (E.lenL f8 Try.underlying22 rfl) fun a9 f9 => ?_
  clear f8 a8
  refine L.val f9 wantedN rfl (by decide) (E.gtr f9 rfl rfl) fun a10 f10 => ?_
  clear f9 a9
  refine L.val f10 wantedN rfl (by decide) (E.move f10 rfl) fun a11 f11 => ?_
  clear f10 a10
  first | refine f11.splitD 16 rfl (fun h0 f12 => ?_) (fun h0 f12 => ?_) | refine f11.splitN 16 rfl (fun h0 f12 => ?_) (fun h0 f12 => ?_) | refine f11.splitNB 16 rfl (fun h0 f12 => ?_) (fun h0 f12 => ?_) | refine f11.split 16 rfl (fun h0 f12 => ?_) (fun h0 f12 => ?_)
  · clear f11
    refine L.skip f12 (f12.noF rfl rfl) rfl (by decide) fun a13 f13 => ?_
    clear f12 a11
    refine L.skip f13 (f13.noF rfl rfl) rfl (by decide) fun a14 f14 => ?_
    clear f13 a13
    refine L.skip f14 (f14.noF rfl rfl) rfl (by decide) fun a15 f15 => ?_
    clear f14 a14
    refine L.val f15 wantedN rfl (by decide) (E.pickT f15 rfl rfl) fun a16 f16 => ?_
    clear f15 a15
    refine L.val f16 wantedN rfl (by decide) (E.move f16 rfl) fun a17 f17 => ?_
    clear f16 a16
    refine L.skip f17 (f17.noF rfl rfl) rfl (by decide) fun a18 f18 => ?_
    clear f17 a17
    refine L.skip f18 (f18.noF rfl rfl) rfl (by decide) fun a19 f19 => ?_
    clear f18 a18
    refine L.skip f19 (f19.noF rfl rfl) rfl (by decide) fun a20 f20 => ?_
    clear f19 a19
    refine L.val f20 wantedN rfl (by decide) (E.pickT f20 rfl rfl) fun a21 f21 => ?_
    clear f20 a20
    refine wpList_nil (hK4 _ _ ?_)
    try clear hK4 K4
    have f22 := f21.sub (sub_cons (i := 0) rfl (sub_cons (i := 1) rfl (sub_cons (i := 2) rfl (sub_cons (i := 6) rfl (sub_cons (i := 25) rfl sub_nil)))))
    clear f21
    refine C.condT f22 rfl ?_
    refine wp_seq_k fun K5 hK5 => ?_
    refine C.region ?_
    refine L.val f22 wantedN rfl (by decide) (E.assign f22 rfl) fun a23 f23 => ?_
    clear f22 a21
    refine wpList_nil (hK5 _ _ ?_)
    try clear hK5 K5
    have f24 := f23.sub (sub_cons (i := 0) rfl (sub_cons (i := 1) rfl (sub_cons (i := 2) rfl (sub_cons (i := 6) rfl sub_nil))))
    clear f23
    refine wp_ret ?_
    try simp only [Exit.inBlock, Exit.then]
    refine C.ret (P := Try.prog) (fn := Try.f3) f24 rfl rfl ?_
    exact ⟨rfl, HK.below0⟩
  · clear f11
    refine L.val f12 (f12.yes rfl rfl) rfl (by decide) (E.move f12 rfl) fun a13 f13 => ?_
    clear f12 a11
    refine L.val f13 (f13.yes rfl rfl) rfl (by decide) (E.lenL f13 Try.underlying22 rfl) fun a14 f14 => ?_
    clear f13 a13
    refine L.val f14 (f14.yes rfl rfl) rfl (by decide) (E.gtr f14 rfl rfl) fun a15 f15 => ?_
    clear f14 a14
    refine L.val f15 wantedN rfl (by decide) (E.pickF f15 rfl rfl) fun a16 f16 => ?_
    clear f15 a15
    refine L.val f16 wantedN rfl (by decide) (E.move f16 rfl) fun a17 f17 => ?_
    clear f16 a16
    first | refine f17.splitD 21 rfl (fun h1 f18 => ?_) (fun h1 f18 => ?_) | refine f17.splitN 21 rfl (fun h1 f18 => ?_) (fun h1 f18 => ?_) | refine f17.splitNB 21 rfl (fun h1 f18 => ?_) (fun h1 f18 => ?_) | refine f17.split 21 rfl (fun h1 f18 => ?_) (fun h1 f18 => ?_)
    · clear f17
      refine L.skip f18 (f18.noF rfl rfl) rfl (by decide) fun a19 f19 => ?_
      clear f18 a17
      refine L.skip f19 (f19.noF rfl rfl) rfl (by decide) fun a20 f20 => ?_
      clear f19 a19
      refine L.skip f20 (f20.noF rfl rfl) rfl (by decide) fun a21 f21 => ?_
      clear f20 a20
      refine L.val f21 wantedN rfl (by decide) (E.pickT f21 rfl rfl) fun a22 f22 => ?_
      clear f21 a21
      refine wpList_nil (hK4 _ _ ?_)
      try clear hK4 K4
      have f23 := f22.sub (sub_cons (i := 0) rfl (sub_cons (i := 1) rfl (sub_cons (i := 2) rfl (sub_cons (i := 6) rfl (sub_cons (i := 25) rfl sub_nil)))))
      clear f22
      refine C.condT f23 rfl ?_
      refine wp_seq_k fun K6 hK6 => ?_
      refine C.region ?_
      refine L.val f23 wantedN rfl (by decide) (E.assign f23 rfl) fun a24 f24 => ?_
      clear f23 a22
      refine wpList_nil (hK6 _ _ ?_)
      try clear hK6 K6
      have f25 := f24.sub (sub_cons (i := 0) rfl (sub_cons (i := 1) rfl (sub_cons (i := 2) rfl (sub_cons (i := 6) rfl sub_nil))))
      clear f24
      refine wp_ret ?_
      try simp only [Exit.inBlock, Exit.then]
      refine C.ret (P := Try.prog) (fn := Try.f3) f25 rfl rfl ?_
      exact ⟨rfl, HK.below0⟩
    · clear f17
      refine L.val f18 (f18.yes rfl rfl) rfl (by decide) (E.move f18 rfl) fun a19 f19 => ?_
      clear f18 a17
      refine L.val f19 (f19.yes rfl rfl) rfl (by decide) (E.lenL f19 Try.underlying22 rfl) fun a20 f20 => ?_
      clear f19 a19
      refine L.val f20 (f20.yes rfl rfl) rfl (by decide) (E.gtr f20 rfl rfl) fun a21 f21 => ?_
      clear f20 a20
      refine L.val f21 wantedN rfl (by decide) (E.pickF f21 rfl rfl) fun a22 f22 => ?_
      clear f21 a21
      refine wpList_nil (hK4 _ _ ?_)
      try clear hK4 K4
      have f23 := f22.sub (sub_cons (i := 0) rfl (sub_cons (i := 1) rfl (sub_cons (i := 2) rfl (sub_cons (i := 6) rfl (sub_cons (i := 25) rfl sub_nil)))))
      clear f22
      first | refine f23.splitD 25 rfl (fun h2 f24 => ?_) (fun h2 f24 => ?_) | refine f23.splitN 25 rfl (fun h2 f24 => ?_) (fun h2 f24 => ?_) | refine f23.splitNB 25 rfl (fun h2 f24 => ?_) (fun h2 f24 => ?_) | refine f23.split 25 rfl (fun h2 f24 => ?_) (fun h2 f24 => ?_)
      · clear f23
        refine C.condT f24 rfl ?_
        refine wp_seq_k fun K7 hK7 => ?_
        refine C.region ?_
        refine L.val f24 wantedN rfl (by decide) (E.assign f24 rfl) fun a25 f25 => ?_
        clear f24 a22
        refine wpList_nil (hK7 _ _ ?_)
        try clear hK7 K7
        have f26 := f25.sub (sub_cons (i := 0) rfl (sub_cons (i := 1) rfl (sub_cons (i := 2) rfl (sub_cons (i := 6) rfl sub_nil))))
        clear f25
        refine wp_ret ?_
        try simp only [Exit.inBlock, Exit.then]
        refine C.ret (P := Try.prog) (fn := Try.f3) f26 rfl rfl ?_
        exact ⟨rfl, HK.below0⟩
      · clear f23
        refine C.condF f24 rfl ?_
        refine wp_skip (hK3 _ _ ?_)
        try clear hK3 K3
        have f25 := f24.sub (sub_cons (i := 0) rfl (sub_cons (i := 1) rfl (sub_cons (i := 2) rfl (sub_cons (i := 6) rfl sub_nil))))
        clear f24
        refine wp_seq_k fun K8 hK8 => ?_
        have g1 := ofL_len l1
        have g2 := ofL_len l2
        have g3 := ofL_len l3
        have r1 := ofL_right l1
        have r2 := ofL_right l2
        have r3 := ofL_right l3
        have j1 := join_len (ofL l1) (ofL l2)
        have j2 := join_len (ofL l2) (ofL l1)
        have j3 := join_len (joinD (ofL l1) (ofL l2)) (ofL l2)
        have j4 := join_len (joinD (ofL l1) (ofL l2)) (ofL l3)
        have j5 := join_len (ofL l2) (ofL l3)
        have j6 := join_len (ofL l1) (joinD (ofL l2) (ofL l3))
        have rx := join_right r1 r2
        refine C.region ?_
        refine L.val f25 wantedN rfl (by decide) (E.move f25 rfl) fun a26 f26 => ?_
        clear f25 a22
        refine L.call f26 wantedN rfl (by decide) (run_call Try.call12 (args1 f26 rfl)) (of_any l1 _ _ _ (U1.kept HK) (by omega) b1) ?_
        rintro e w2 ⟨kc2, AFA, cFA, rfl, FA⟩
        refine ⟨_, rfl, fun a27 f27 => ?_⟩
        clear f26 a26
        have szw2 := kc2.size
        replace HK := HK.trans kc2 (by simp)
        clear kc2
        refine L.val f27 wantedN rfl (by decide) (E.move f27 rfl) fun a28 f28 => ?_
        clear f27 a27
        refine L.call f28 wantedN rfl (by decide) (run_call Try.call12 (args1 f28 rfl)) (of_any l2 _ _ _ (U2.kept HK) (by omega) b2) ?_
        rintro e w3 ⟨kc3, AFB, cFB, rfl, FB⟩
        refine ⟨_, rfl, fun a29 f29 => ?_⟩
        clear f28 a28
        have szw3 := kc3.size
        replace HK := HK.trans kc3 (by simp)
        replace FA := FA.kept0 kc3
        clear kc3
        refine L.val f29 wantedN rfl (by decide) (E.move f29 rfl) fun a30 f30 => ?_
        clear f29 a29
        refine L.call f30 wantedN rfl (by decide) (run_call Try.call12 (args1 f30 rfl)) (of_any l3 _ _ _ (U3.kept HK) (by omega) b3) ?_
        rintro e w4 ⟨kc4, AFC, cFC, rfl, FC⟩
        refine ⟨_, rfl, fun a31 f31 => ?_⟩
        clear f30 a30
        have szw4 := kc4.size
        replace HK := HK.trans kc4 (by simp)
        replace FA := FA.kept0 kc4
        replace FB := FB.kept0 kc4
        clear kc4
        refine L.val f31 wantedN rfl (by decide) (E.assign f31 rfl) fun a32 f32 => ?_
        clear f31 a31
        refine L.val f32 wantedN rfl (by decide) (E.assign f32 rfl) fun a33 f33 => ?_
        clear f32 a32
        refine L.val f33 wantedN rfl (by decide) (E.assign f33 rfl) fun a34 f34 => ?_
        clear f33 a33
        refine wpList_nil (hK8 _ _ ?_)
        try clear hK8 K8
        have f35 := f34.sub (sub_cons (i := 6) rfl (sub_cons (i := 7) rfl (sub_cons (i := 8) rfl (sub_cons (i := 9) rfl sub_nil))))
        clear f34
        refine wp_seq_k fun K9 hK9 => ?_
        refine C.region ?_
        refine L.val f35 wantedN rfl (by decide) (E.move f35 rfl) fun a36 f36 => ?_
        clear f35 a34
        refine L.val f36 wantedN rfl (by decide) (E.move f36 rfl) fun a37 f37 => ?_
        clear f36 a36
        refine L.call f37 wantedN rfl (by decide) (run_call Try.call13 (args2 f37 rfl rfl)) (Join_any (ofL l1) (ofL l2) _ _ _ _ _ FA.sl FB.sl (by omega)) ?_
        rintro e w5 ⟨kc5, AFX, cFX, rfl, FX⟩
        refine ⟨_, rfl, fun a38 f38 => ?_⟩
        clear f37 a37
        have szw5 := kc5.size
        replace HK := HK.trans kc5 (by simp)
        replace FA := FA.kept0 kc5
        replace FB := FB.kept0 kc5
        replace FC := FC.kept0 kc5
        clear kc5
        refine L.val f38 wantedN rfl (by decide) (E.assign f38 rfl) fun a39 f39 => ?_
        clear f38 a38
        refine wpList_nil (hK9 _ _ ?_)
        try clear hK9 K9
        have f40 := f39.sub (sub_cons (i := 6) rfl (sub_cons (i := 7) rfl (sub_cons (i := 8) rfl (sub_cons (i := 9) rfl (sub_cons (i := 10) rfl sub_nil)))))
        clear f39
        refine wp_seq_k fun K10 hK10 => ?_
        refine C.region ?_
        refine L.val f40 wantedN rfl (by decide) (E.move f40 rfl) fun a41 f41 => ?_
        clear f40 a39
        refine L.val f41 wantedN rfl (by decide) (E.move f41 rfl) fun a42 f42 => ?_
        clear f41 a41
        refine L.val f42 wantedN rfl (by decide) (E.move f42 rfl) fun a43 f43 => ?_
        clear f42 a42
        refine L.call f43 wantedN rfl (by decide) (run_call Try.call13 (args2 f43 rfl rfl)) (Join_any (ofL l2) (ofL l1) _ _ _ _ _ FB.sl FA.sl (by omega)) ?_
        rintro e w6 ⟨kc6, AFY, cFY, rfl, FY⟩
        refine ⟨_, rfl, fun a44 f44 => ?_⟩
        clear f43 a43
        have szw6 := kc6.size
        replace HK := HK.trans kc6 (by simp)
        replace FA := FA.kept0 kc6
        replace FB := FB.kept0 kc6
        replace FC := FC.kept0 kc6
        replace FX := FX.kept0 kc6
        clear kc6
        refine L.call f44 wantedN rfl (by decide) (run_call Try.call14 (args2 f44 rfl rfl)) (dotsEq_any (joinD (ofL l1) (ofL l2)) (joinD (ofL l2) (ofL l1)) _ _ _ _ _ FX.sl FY.sl (by unfold maxLen; omega) (by unfold maxLen; omega)) ?_
        rintro e w7 ⟨kc7, rfl⟩
        refine ⟨_, rfl, fun a45 f45 => ?_⟩
        clear f44 a44
        have szw7 := kc7.size
        replace HK := HK.trans kc7 (by simp)
        replace FA := FA.kept0 kc7
        replace FB := FB.kept0 kc7
        replace FC := FC.kept0 kc7
        replace FX := FX.kept0 kc7
        replace FY := FY.kept0 kc7
        clear kc7
        have f46 := f45.as (i := 39) (v' := .bool true) rfl (by rw [decide_eq_true (join_comm r1 r2)])
        clear f45
        refine L.val f46 wantedN rfl (by decide) (E.move f46 rfl) fun a47 f47 => ?_
        clear f46 a45
        refine L.val f47 (f47.yes rfl rfl) rfl (by decide) (E.move f47 rfl) fun a48 f48 => ?_
        clear f47 a47
        refine L.val f48 (f48.yes rfl rfl) rfl (by decide) (E.move f48 rfl) fun a49 f49 => ?_
        clear f48 a48
        refine L.val f49 (f49.yes rfl rfl) rfl (by decide) (E.move f49 rfl) fun a50 f50 => ?_
        clear f49 a49
        refine L.call f50 (f50.yes rfl rfl) rfl (by decide) (run_call Try.call13 (args2 f50 rfl rfl)) (Join_any (joinD (ofL l1) (ofL l2)) (ofL l2) _ _ _ _ _ FX.sl FB.sl (by omega)) ?_
        rintro e w8 ⟨kc8, AFZ, cFZ, rfl, FZ⟩
        refine ⟨_, rfl, fun a51 f51 => ?_⟩
        clear f50 a50
        have szw8 := kc8.size
        replace HK := HK.trans kc8 (by simp)
        replace FA := FA.kept0 kc8
        replace FB := FB.kept0 kc8
        replace FC := FC.kept0 kc8
        replace FX := FX.kept0 kc8
        replace FY := FY.kept0 kc8
        clear kc8
        refine L.call f51 (f51.yes rfl rfl) rfl (by decide) (run_call Try.call14 (args2 f51 rfl rfl)) (dotsEq_any (joinD (ofL l1) (ofL l2)) (joinD (joinD (ofL l1) (ofL l2)) (ofL l2)) _ _ _ _ _ FX.sl FZ.sl (by unfold maxLen; omega) (by unfold maxLen; omega)) ?_
        rintro e w9 ⟨kc9, rfl⟩
        refine ⟨_, rfl, fun a52 f52 => ?_⟩
        clear f51 a51
        have szw9 := kc9.size
        replace HK := HK.trans kc9 (by simp)
        replace FA := FA.kept0 kc9
        replace FB := FB.kept0 kc9
        replace FC := FC.kept0 kc9
        replace FX := FX.kept0 kc9
        replace FY := FY.kept0 kc9
        replace FZ := FZ.kept0 kc9
        clear kc9
        have f53 := f52.as (i := 45) (v' := .bool true) rfl (by rw [decide_eq_true (join_twice r1 r2).symm])
        clear f52
        refine L.val f53 wantedN rfl (by decide) (E.pickT f53 rfl rfl) fun a54 f54 => ?_
        clear f53 a52
        refine L.val f54 wantedN rfl (by decide) (E.move f54 rfl) fun a55 f55 => ?_
        clear f54 a54
        refine L.val f55 (f55.yes rfl rfl) rfl (by decide) (E.move f55 rfl) fun a56 f56 => ?_
        clear f55 a55
        refine L.val f56 (f56.yes rfl rfl) rfl (by decide) (E.move f56 rfl) fun a57 f57 => ?_
        clear f56 a56
        refine L.call f57 (f57.yes rfl rfl) rfl (by decide) (run_call Try.call13 (args2 f57 rfl rfl)) (Join_any (joinD (ofL l1) (ofL l2)) (ofL l3) _ _ _ _ _ FX.sl FC.sl (by omega)) ?_
        rintro e w10 ⟨kc10, AFP, cFP, rfl, FP⟩
        refine ⟨_, rfl, fun a58 f58 => ?_⟩
        clear f57 a57
        have szw10 := kc10.size
        replace HK := HK.trans kc10 (by simp)
        replace FA := FA.kept0 kc10
        replace FB := FB.kept0 kc10
        replace FC := FC.kept0 kc10
        replace FX := FX.kept0 kc10
        replace FY := FY.kept0 kc10
        replace FZ := FZ.kept0 kc10
        clear kc10
        refine L.val f58 (f58.yes rfl rfl) rfl (by decide) (E.move f58 rfl) fun a59 f59 => ?_
        clear f58 a58
        refine L.val f59 (f59.yes rfl rfl) rfl (by decide) (E.move f59 rfl) fun a60 f60 => ?_
        clear f59 a59
        refine L.val f60 (f60.yes rfl rfl) rfl (by decide) (E.move f60 rfl) fun a61 f61 => ?_
        clear f60 a60
        refine L.call f61 (f61.yes rfl rfl) rfl (by decide) (run_call Try.call13 (args2 f61 rfl rfl)) (Join_any (ofL l2) (ofL l3) _ _ _ _ _ FB.sl FC.sl (by omega)) ?_
        rintro e w11 ⟨kc11, AFQ, cFQ, rfl, FQ⟩
        refine ⟨_, rfl, fun a62 f62 => ?_⟩
        clear f61 a61
        have szw11 := kc11.size
        replace HK := HK.trans kc11 (by simp)
        replace FA := FA.kept0 kc11
        replace FB := FB.kept0 kc11
        replace FC := FC.kept0 kc11
        replace FX := FX.kept0 kc11
        replace FY := FY.kept0 kc11
        replace FZ := FZ.kept0 kc11
        replace FP := FP.kept0 kc11
        clear kc11
        refine L.call f62 (f62.yes rfl rfl) rfl (by decide) (run_call Try.call13 (args2 f62 rfl rfl)) (Join_any (ofL l1) (joinD (ofL l2) (ofL l3)) _ _ _ _ _ FA.sl FQ.sl (by omega)) ?_
        rintro e w12 ⟨kc12, AFR, cFR, rfl, FR⟩
        refine ⟨_, rfl, fun a63 f63 => ?_⟩
        clear f62 a62
        have szw12 := kc12.size
        replace HK := HK.trans kc12 (by simp)
        replace FA := FA.kept0 kc12
        replace FB := FB.kept0 kc12
        replace FC := FC.kept0 kc12
        replace FX := FX.kept0 kc12
        replace FY := FY.kept0 kc12
        replace FZ := FZ.kept0 kc12
        replace FP := FP.kept0 kc12
        replace FQ := FQ.kept0 kc12
        clear kc12
        refine L.call f63 (f63.yes rfl rfl) rfl (by decide) (run_call Try.call14 (args2 f63 rfl rfl)) (dotsEq_any (joinD (joinD (ofL l1) (ofL l2)) (ofL l3)) (joinD (ofL l1) (joinD (ofL l2) (ofL l3))) _ _ _ _ _ FP.sl FR.sl (by unfold maxLen; omega) (by unfold maxLen; omega)) ?_
        rintro e w13 ⟨kc13, rfl⟩
        refine ⟨_, rfl, fun a64 f64 => ?_⟩
        clear f63 a63
        have szw13 := kc13.size
        replace HK := HK.trans kc13 (by simp)
        replace FA := FA.kept0 kc13
        replace FB := FB.kept0 kc13
        replace FC := FC.kept0 kc13
        replace FX := FX.kept0 kc13
        replace FY := FY.kept0 kc13
        replace FZ := FZ.kept0 kc13
        replace FP := FP.kept0 kc13
        replace FQ := FQ.kept0 kc13
        replace FR := FR.kept0 kc13
        clear kc13
        have f65 := f64.as (i := 56) (v' := .bool true) rfl (by rw [decide_eq_true (join_assoc r1 r2 r3)])
        clear f64
        refine L.val f65 wantedN rfl (by decide) (E.pickT f65 rfl rfl) fun a66 f66 => ?_
        clear f65 a64
        refine L.val f66 wantedN rfl (by decide) (E.move f66 rfl) fun a67 f67 => ?_
        clear f66 a66
        refine L.val f67 (f67.yes rfl rfl) rfl (by decide) (E.move f67 rfl) fun a68 f68 => ?_
        clear f67 a67
        refine L.val f68 (f68.yes rfl rfl) rfl (by decide) (E.move f68 rfl) fun a69 f69 => ?_
        clear f68 a68
        refine L.call f69 (f69.yes rfl rfl) rfl (by decide) (run_call Try.call15 (args2 f69 rfl rfl)) (Within_any (ofL l1) (joinD (ofL l1) (ofL l2)) _ _ _ _ _ FA.sl FX.sl (by omega) (by omega)) ?_
        rintro e w14 ⟨kc14, rfl⟩
        refine ⟨_, rfl, fun a70 f70 => ?_⟩
        clear f69 a69
        have szw14 := kc14.size
        replace HK := HK.trans kc14 (by simp)
        replace FA := FA.kept0 kc14
        replace FB := FB.kept0 kc14
        replace FC := FC.kept0 kc14
        replace FX := FX.kept0 kc14
        replace FY := FY.kept0 kc14
        replace FZ := FZ.kept0 kc14
        replace FP := FP.kept0 kc14
        replace FQ := FQ.kept0 kc14
        replace FR := FR.kept0 kc14
        clear kc14
        have f71 := f70.as (i := 61) (v' := .bool true) rfl (by rw [within_l r1 r2])
        clear f70
        refine L.val f71 wantedN rfl (by decide) (E.pickT f71 rfl rfl) fun a72 f72 => ?_
        clear f71 a70
        refine L.val f72 wantedN rfl (by decide) (E.move f72 rfl) fun a73 f73 => ?_
        clear f72 a72
        refine L.val f73 (f73.yes rfl rfl) rfl (by decide) (E.move f73 rfl) fun a74 f74 => ?_
        clear f73 a73
        refine L.val f74 (f74.yes rfl rfl) rfl (by decide) (E.move f74 rfl) fun a75 f75 => ?_
        clear f74 a74
        refine L.call f75 (f75.yes rfl rfl) rfl (by decide) (run_call Try.call15 (args2 f75 rfl rfl)) (Within_any (ofL l2) (joinD (ofL l1) (ofL l2)) _ _ _ _ _ FB.sl FX.sl (by omega) (by omega)) ?_
        rintro e w15 ⟨kc15, rfl⟩
        refine ⟨_, rfl, fun a76 f76 => ?_⟩
        clear f75 a75
        have szw15 := kc15.size
        replace HK := HK.trans kc15 (by simp)
        replace FA := FA.kept0 kc15
        replace FB := FB.kept0 kc15
        replace FC := FC.kept0 kc15
        replace FX := FX.kept0 kc15
        replace FY := FY.kept0 kc15
        replace FZ := FZ.kept0 kc15
        replace FP := FP.kept0 kc15
        replace FQ := FQ.kept0 kc15
        replace FR := FR.kept0 kc15
        clear kc15
        have f77 := f76.as (i := 66) (v' := .bool true) rfl (by rw [within_r r1 r2])
        clear f76
        refine L.val f77 wantedN rfl (by decide) (E.pickT f77 rfl rfl) fun a78 f78 => ?_
        clear f77 a76
        refine L.val f78 wantedN rfl (by decide) (E.move f78 rfl) fun a79 f79 => ?_
        clear f78 a78
        refine L.val f79 (f79.yes rfl rfl) rfl (by decide) (E.move f79 rfl) fun a80 f80 => ?_
        clear f79 a79
        refine L.call f80 (f80.yes rfl rfl) rfl (by decide) (run_call Try.call16 (args1 f80 rfl)) (right_any (joinD (ofL l1) (ofL l2)) _ _ _ FX.sl (by unfold maxLen; omega)) ?_
        rintro e w16 ⟨kc16, rfl⟩
        refine ⟨_, rfl, fun a81 f81 => ?_⟩
        clear f80 a80
        have szw16 := kc16.size
        replace HK := HK.trans kc16 (by simp)
        replace FA := FA.kept0 kc16
        replace FB := FB.kept0 kc16
        replace FC := FC.kept0 kc16
        replace FX := FX.kept0 kc16
        replace FY := FY.kept0 kc16
        replace FZ := FZ.kept0 kc16
        replace FP := FP.kept0 kc16
        replace FQ := FQ.kept0 kc16
        replace FR := FR.kept0 kc16
        clear kc16
        have f82 := f81.as (i := 70) (v' := .bool true) rfl (by rw [rx])
        clear f81
        refine L.val f82 wantedN rfl (by decide) (E.pickT f82 rfl rfl) fun a83 f83 => ?_
        clear f82 a81
        refine L.val f83 wantedN rfl (by decide) (E.move f83 rfl) fun a84 f84 => ?_
        clear f83 a83
        refine L.val f84 (f84.yes rfl rfl) rfl (by decide) (E.move f84 rfl) fun a85 f85 => ?_
        clear f84 a84
        refine L.val f85 (f85.yes rfl rfl) rfl (by decide) (E.move f85 rfl) fun a86 f86 => ?_
        clear f85 a85
        refine L.call f86 (f86.yes rfl rfl) rfl (by decide) (run_call Try.call15 (args2 f86 rfl rfl)) (Within_any (joinD (ofL l1) (ofL l2)) (ofL l1) _ _ _ _ _ FX.sl FA.sl (by omega) (by omega)) ?_
        rintro e w17 ⟨kc17, rfl⟩
        refine ⟨_, rfl, fun a87 f87 => ?_⟩
        clear f86 a86
        have szw17 := kc17.size
        replace HK := HK.trans kc17 (by simp)
        replace FA := FA.kept0 kc17
        replace FB := FB.kept0 kc17
        replace FC := FC.kept0 kc17
        replace FX := FX.kept0 kc17
        replace FY := FY.kept0 kc17
        replace FZ := FZ.kept0 kc17
        replace FP := FP.kept0 kc17
        replace FQ := FQ.kept0 kc17
        replace FR := FR.kept0 kc17
        clear kc17
        refine L.val f87 (f87.yes rfl rfl) rfl (by decide) (E.move f87 rfl) fun a88 f88 => ?_
        clear f87 a87
        refine L.val f88 (f88.yes rfl rfl) rfl (by decide) (E.move f88 rfl) fun a89 f89 => ?_
        clear f88 a88
        refine L.call f89 (f89.yes rfl rfl) rfl (by decide) (run_call Try.call15 (args2 f89 rfl rfl)) (Within_any (ofL l2) (ofL l1) _ _ _ _ _ FB.sl FA.sl (by omega) (by omega)) ?_
        rintro e w18 ⟨kc18, rfl⟩
        refine ⟨_, rfl, fun a90 f90 => ?_⟩
        clear f89 a89
        have szw18 := kc18.size
        replace HK := HK.trans kc18 (by simp)
        replace FA := FA.kept0 kc18
        replace FB := FB.kept0 kc18
        replace FC := FC.kept0 kc18
        replace FX := FX.kept0 kc18
        replace FY := FY.kept0 kc18
        replace FZ := FZ.kept0 kc18
        replace FP := FP.kept0 kc18
        replace FQ := FQ.kept0 kc18
        replace FR := FR.kept0 kc18
        clear kc18
        refine L.val f90 (f90.yes rfl rfl) rfl (by decide) (E.eqlB f90 Try.underlying4 rfl rfl) fun a91 f91 => ?_
        clear f90 a90
        have f92 := f91.as (i := 79) (v' := .bool true) rfl (by rw [within_back r1 r2]; simp)
        clear f91
        refine L.val f92 wantedN rfl (by decide) (E.pickT f92 rfl rfl) fun a93 f93 => ?_
        clear f92 a91
        refine L.val f93 wantedN rfl (by decide) (E.assign f93 rfl) fun a94 f94 => ?_
        clear f93 a93
        refine wpList_nil (hK10 _ _ ?_)
        try clear hK10 K10
        have f95 := f94.sub (sub_cons (i := 6) rfl sub_nil)
        clear f94
        refine wp_ret ?_
        try simp only [Exit.inBlock, Exit.then]
        refine C.ret (P := Try.prog) (fn := Try.f3) f95 rfl rfl ?_
        exact ⟨rfl, HK.below0⟩

set_option maxHeartbeats 1000000 in
theorem within3_any (l1 l2 l3 : List Int) (B1 B2 B3 : Option Addr) (c1 c2 c3 : Nat) (w : World) (U1 : Us w B1 l1) (U2 : Us w B2 l2) (U3 : Us w B3 l3) (b1 : ∀ x ∈ l1, 0 ≤ x ∧ x ≤ 65535) (b2 : ∀ x ∈ l2, 0 ≤ x ∧ x ≤ 65535) (b3 : ∀ x ∈ l3, 0 ≤ x ∧ x ≤ 65535) (m1 : l1.length ≤ maxLen) (m2 : l2.length ≤ maxLen) (m3 : l3.length ≤ maxLen) : Calls Try.prog 5 #[.slice B1 l1.length c1, .slice B2 l2.length c2, .slice B3 l3.length c3] w (fun e w' => e = .returned (.bool true) ∧ Below w.heap.size w w') := by
  have HK : Kept [] w w := Kept.refl [] w
  unfold maxLen at m1 m2 m3
  refine C.enter Try.func5 rfl Try.ntmps5 rfl ?_
  intro a0 f0
  have f1 : Fr 68 a0 [(0, .slice B1 l1.length c1), (1, .slice B2 l2.length c2), (2, .slice B3 l3.length c3)] := f0
  clear f0
  refine wp_seq_k fun K0 hK0 => ?_
  refine C.region ?_
  refine L.val f1 wantedN rfl (by decide) (E.assign f1 rfl) fun a2 f2 => ?_
  clear f1 a0
  refine wpList_nil (hK0 _ _ ?_)
  try clear hK0 K0
  have f3 := f2.sub (sub_cons (i := 0) rfl (sub_cons (i := 1) rfl (sub_cons (i := 2) rfl (sub_cons (i := 6) rfl sub_nil))))
  clear f2
  refine wp_seq_k fun K1 hK1 => ?_
  refine wp_seq_k fun K2 hK2 => ?_
  refine C.region ?_
  refine L.call f3 wantedN rfl (by decide) (run_call Try.call11 (args0 f3)) (known_any _) ?_
  rintro e w1 ⟨kc1, rfl⟩
  refine ⟨_, rfl, fun a4 f4 => ?_⟩
  clear f3 a2
  have szw1 := kc1.size
  replace HK := HK.trans kc1 (by simp)
  clear kc1
  refine L.val f4 wantedN rfl (by decide) (E.not f4 rfl) fun a5 f5 => ?_
  clear f4 a4
  refine wpList_nil (hK2 _ _ ?_)
  try clear hK2 K2
  have f6 := f5.sub (sub_cons (i := 0) rfl (sub_cons (i := 1) rfl (sub_cons (i := 2) rfl (sub_cons (i := 6) rfl (sub_cons (i := 11) rfl sub_nil)))))
  clear f5
  refine C.condF f6 rfl ?_
  refine wp_skip (hK1 _ _ ?_)
  try clear hK1 K1
  have f7 := f6.sub (sub_cons (i := 0) rfl (sub_cons (i := 1) rfl (sub_cons (i := 2) rfl (sub_cons (i := 6) rfl sub_nil))))
  clear f6
  refine wp_seq_k fun K3 hK3 => ?_
  refine wp_seq_k fun K4 hK4 => ?_
  refine C.region ?_
  refine L.val f7 wantedN rfl (by decide) (E.move f7 rfl) fun a8 f8 => ?_
  clear f7 a5
  refine L.val f8 wantedN rfl (by decide) (E.lenL f8 Try.underlying22 rfl) fun a9 f9 => ?_
  clear f8 a8
  refine L.val f9 wantedN rfl (by decide) (E.gtr f9 rfl rfl) fun a10 f10 => ?_
  clear f9 a9
  refine L.val f10 wantedN rfl (by decide) (E.move f10 rfl) fun a11 f11 => ?_
  clear f10 a10
  first | refine f11.splitD 15 rfl (fun h0 f12 => ?_) (fun h0 f12 => ?_) | refine f11.splitN 15 rfl (fun h0 f12 => ?_) (fun h0 f12 => ?_) | refine f11.splitNB 15 rfl (fun h0 f12 => ?_) (fun h0 f12 => ?_) | refine f11.split 15 rfl (fun h0 f12 => ?_) (fun h0 f12 => ?_)
  · clear f11
    refine L.skip f12 (f12.noF rfl rfl) rfl (by decide) fun a13 f13 => ?_
    clear f12 a11
    refine L.skip f13 (f13.noF rfl rfl) rfl (by decide) fun a14 f14 => ?_
    clear f13 a13
    refine L.skip f14 (f14.noF rfl rfl) rfl (by decide) fun a15 f15 => ?_
    clear f14 a14
    refine L.val f15 wantedN rfl (by decide) (E.pickT f15 rfl rfl) fun a16 f16 => ?_
    clear f15 a15
    refine L.val f16 wantedN rfl (by decide) (E.move f16 rfl) fun a17 f17 => ?_
    clear f16 a16
    refine L.skip f17 (f17.noF rfl rfl) rfl (by decide) fun a18 f18 => ?_
    clear f17 a17
    refine L.skip f18 (f18.noF rfl rfl) rfl (by decide) fun a19 f19 => ?_
    clear f18 a18
    refine L.skip f19 (f19.noF rfl rfl) rfl (by decide) fun a20 f20 => ?_
    clear f19 a19
    refine L.val f20 wantedN rfl (by decide) (E.pickT f20 rfl rfl) fun a21 f21 => ?_
    clear f20 a20
    refine wpList_nil (hK4 _ _ ?_)
    try clear hK4 K4
    have f22 := f21.sub (sub_cons (i := 0) rfl (sub_cons (i := 1) rfl (sub_cons (i := 2) rfl (sub_cons (i := 6) rfl (sub_cons (i := 24) rfl sub_nil)))))
    clear f21
    refine C.condT f22 rfl ?_
    refine wp_seq_k fun K5 hK5 => ?_
    refine C.region ?_
    refine L.val f22 wantedN rfl (by decide) (E.assign f22 rfl) fun a23 f23 => ?_
    clear f22 a21
    refine wpList_nil (hK5 _ _ ?_)
    try clear hK5 K5
    have f24 := f23.sub (sub_cons (i := 0) rfl (sub_cons (i := 1) rfl (sub_cons (i := 2) rfl (sub_cons (i := 6) rfl sub_nil))))
    clear f23
    refine wp_ret ?_
    try simp only [Exit.inBlock, Exit.then]
    refine C.ret (P := Try.prog) (fn := Try.f5) f24 rfl rfl ?_
    exact ⟨rfl, HK.below0⟩
  · clear f11
    refine L.val f12 (f12.yes rfl rfl) rfl (by decide) (E.move f12 rfl) fun a13 f13 => ?_
    clear f12 a11
    refine L.val f13 (f13.yes rfl rfl) rfl (by decide) (E.lenL f13 Try.underlying22 rfl) fun a14 f14 => ?_
    clear f13 a13
    refine L.val f14 (f14.yes rfl rfl) rfl (by decide) (E.gtr f14 rfl rfl) fun a15 f15 => ?_
    clear f14 a14
    refine L.val f15 wantedN rfl (by decide) (E.pickF f15 rfl rfl) fun a16 f16 => ?_
    clear f15 a15
    refine L.val f16 wantedN rfl (by decide) (E.move f16 rfl) fun a17 f17 => ?_
    clear f16 a16
    first | refine f17.splitD 20 rfl (fun h1 f18 => ?_) (fun h1 f18 => ?_) | refine f17.splitN 20 rfl (fun h1 f18 => ?_) (fun h1 f18 => ?_) | refine f17.splitNB 20 rfl (fun h1 f18 => ?_) (fun h1 f18 => ?_) | refine f17.split 20 rfl (fun h1 f18 => ?_) (fun h1 f18 => ?_)
    · clear f17
      refine L.skip f18 (f18.noF rfl rfl) rfl (by decide) fun a19 f19 => ?_
      clear f18 a17
      refine L.skip f19 (f19.noF rfl rfl) rfl (by decide) fun a20 f20 => ?_
      clear f19 a19
      refine L.skip f20 (f20.noF rfl rfl) rfl (by decide) fun a21 f21 => ?_
      clear f20 a20
      refine L.val f21 wantedN rfl (by decide) (E.pickT f21 rfl rfl) fun a22 f22 => ?_
      clear f21 a21
      refine wpList_nil (hK4 _ _ ?_)
      try clear hK4 K4
      have f23 := f22.sub (sub_cons (i := 0) rfl (sub_cons (i := 1) rfl (sub_cons (i := 2) rfl (sub_cons (i := 6) rfl (sub_cons (i := 24) rfl sub_nil)))))
      clear f22
      refine C.condT f23 rfl ?_
      refine wp_seq_k fun K6 hK6 => ?_
      refine C.region ?_
      refine L.val f23 wantedN rfl (by decide) (E.assign f23 rfl) fun a24 f24 => ?_
      clear f23 a22
      refine wpList_nil (hK6 _ _ ?_)
      try clear hK6 K6
      have f25 := f24.sub (sub_cons (i := 0) rfl (sub_cons (i := 1) rfl (sub_cons (i := 2) rfl (sub_cons (i := 6) rfl sub_nil))))
      clear f24
      refine wp_ret ?_
      try simp only [Exit.inBlock, Exit.then]
      refine C.ret (P := Try.prog) (fn := Try.f5) f25 rfl rfl ?_
      exact ⟨rfl, HK.below0⟩
    · clear f17
      refine L.val f18 (f18.yes rfl rfl) rfl (by decide) (E.move f18 rfl) fun a19 f19 => ?_
      clear f18 a17
      refine L.val f19 (f19.yes rfl rfl) rfl (by decide) (E.lenL f19 Try.underlying22 rfl) fun a20 f20 => ?_
      clear f19 a19
      refine L.val f20 (f20.yes rfl rfl) rfl (by decide) (E.gtr f20 rfl rfl) fun a21 f21 => ?_
      clear f20 a20
      refine L.val f21 wantedN rfl (by decide) (E.pickF f21 rfl rfl) fun a22 f22 => ?_
      clear f21 a21
      refine wpList_nil (hK4 _ _ ?_)
      try clear hK4 K4
      have f23 := f22.sub (sub_cons (i := 0) rfl (sub_cons (i := 1) rfl (sub_cons (i := 2) rfl (sub_cons (i := 6) rfl (sub_cons (i := 24) rfl sub_nil)))))
      clear f22
      first | refine f23.splitD 24 rfl (fun h2 f24 => ?_) (fun h2 f24 => ?_) | refine f23.splitN 24 rfl (fun h2 f24 => ?_) (fun h2 f24 => ?_) | refine f23.splitNB 24 rfl (fun h2 f24 => ?_) (fun h2 f24 => ?_) | refine f23.split 24 rfl (fun h2 f24 => ?_) (fun h2 f24 => ?_)
      · clear f23
        refine C.condT f24 rfl ?_
        refine wp_seq_k fun K7 hK7 => ?_
        refine C.region ?_
        refine L.val f24 wantedN rfl (by decide) (E.assign f24 rfl) fun a25 f25 => ?_
        clear f24 a22
        refine wpList_nil (hK7 _ _ ?_)
        try clear hK7 K7
        have f26 := f25.sub (sub_cons (i := 0) rfl (sub_cons (i := 1) rfl (sub_cons (i := 2) rfl (sub_cons (i := 6) rfl sub_nil))))
        clear f25
        refine wp_ret ?_
        try simp only [Exit.inBlock, Exit.then]
        refine C.ret (P := Try.prog) (fn := Try.f5) f26 rfl rfl ?_
        exact ⟨rfl, HK.below0⟩
      · clear f23
        refine C.condF f24 rfl ?_
        refine wp_skip (hK3 _ _ ?_)
        try clear hK3 K3
        have f25 := f24.sub (sub_cons (i := 0) rfl (sub_cons (i := 1) rfl (sub_cons (i := 2) rfl (sub_cons (i := 6) rfl sub_nil))))
        clear f24
        refine wp_seq_k fun K8 hK8 => ?_
        have g1 := ofL_len l1
        have g2 := ofL_len l2
        have g3 := ofL_len l3
        have r1 := ofL_right l1
        have r2 := ofL_right l2
        have r3 := ofL_right l3
        have rx := join_right r1 r2
        have rz := join_right rx r3
        have j1 := join_len (ofL l1) (ofL l2)
        have j2 := join_len (joinD (ofL l1) (ofL l2)) (ofL l3)
        have hn0 : ([] : List Dt).length = 0 := rfl
        refine C.region ?_
        refine L.val f25 wantedN rfl (by decide) (E.move f25 rfl) fun a26 f26 => ?_
        clear f25 a22
        refine L.call f26 wantedN rfl (by decide) (run_call Try.call12 (args1 f26 rfl)) (of_any l1 _ _ _ (U1.kept HK) (by omega) b1) ?_
        rintro e w2 ⟨kc2, AFA, cFA, rfl, FA⟩
        refine ⟨_, rfl, fun a27 f27 => ?_⟩
        clear f26 a26
        have szw2 := kc2.size
        replace HK := HK.trans kc2 (by simp)
        clear kc2
        refine L.val f27 wantedN rfl (by decide) (E.assign f27 rfl) fun a28 f28 => ?_
        clear f27 a27
        refine wpList_nil (hK8 _ _ ?_)
        try clear hK8 K8
        have f29 := f28.sub (sub_cons (i := 1) rfl (sub_cons (i := 2) rfl (sub_cons (i := 6) rfl (sub_cons (i := 7) rfl sub_nil))))
        clear f28
        refine wp_seq_k fun K9 hK9 => ?_
        refine C.region ?_
        refine L.val f29 wantedN rfl (by decide) (E.move f29 rfl) fun a30 f30 => ?_
        clear f29 a28
        refine L.val f30 wantedN rfl (by decide) (E.move f30 rfl) fun a31 f31 => ?_
        clear f30 a30
        refine L.call f31 wantedN rfl (by decide) (run_call Try.call12 (args1 f31 rfl)) (of_any l2 _ _ _ (U2.kept HK) (by omega) b2) ?_
        rintro e w3 ⟨kc3, AFB, cFB, rfl, FB⟩
        refine ⟨_, rfl, fun a32 f32 => ?_⟩
        clear f31 a31
        have szw3 := kc3.size
        replace HK := HK.trans kc3 (by simp)
        replace FA := FA.kept0 kc3
        clear kc3
        refine L.call f32 wantedN rfl (by decide) (run_call Try.call13 (args2 f32 rfl rfl)) (Join_any (ofL l1) (ofL l2) _ _ _ _ _ FA.sl FB.sl (by omega)) ?_
        rintro e w4 ⟨kc4, AFX, cFX, rfl, FX⟩
        refine ⟨_, rfl, fun a33 f33 => ?_⟩
        clear f32 a32
        have szw4 := kc4.size
        replace HK := HK.trans kc4 (by simp)
        replace FA := FA.kept0 kc4
        replace FB := FB.kept0 kc4
        clear kc4
        refine L.val f33 wantedN rfl (by decide) (E.assign f33 rfl) fun a34 f34 => ?_
        clear f33 a33
        refine wpList_nil (hK9 _ _ ?_)
        try clear hK9 K9
        have f35 := f34.sub (sub_cons (i := 2) rfl (sub_cons (i := 6) rfl (sub_cons (i := 7) rfl (sub_cons (i := 8) rfl sub_nil))))
        clear f34
        refine wp_seq_k fun K10 hK10 => ?_
        refine C.region ?_
        refine L.val f35 wantedN rfl (by decide) (E.move f35 rfl) fun a36 f36 => ?_
        clear f35 a34
        refine L.val f36 wantedN rfl (by decide) (E.move f36 rfl) fun a37 f37 => ?_
        clear f36 a36
        refine L.call f37 wantedN rfl (by decide) (run_call Try.call12 (args1 f37 rfl)) (of_any l3 _ _ _ (U3.kept HK) (by omega) b3) ?_
        rintro e w5 ⟨kc5, AFC, cFC, rfl, FC⟩
        refine ⟨_, rfl, fun a38 f38 => ?_⟩
        clear f37 a37
        have szw5 := kc5.size
        replace HK := HK.trans kc5 (by simp)
        replace FA := FA.kept0 kc5
        replace FB := FB.kept0 kc5
        replace FX := FX.kept0 kc5
        clear kc5
        refine L.call f38 wantedN rfl (by decide) (run_call Try.call13 (args2 f38 rfl rfl)) (Join_any (joinD (ofL l1) (ofL l2)) (ofL l3) _ _ _ _ _ FX.sl FC.sl (by omega)) ?_
        rintro e w6 ⟨kc6, AFZ, cFZ, rfl, FZ⟩
        refine ⟨_, rfl, fun a39 f39 => ?_⟩
        clear f38 a38
        have szw6 := kc6.size
        replace HK := HK.trans kc6 (by simp)
        replace FA := FA.kept0 kc6
        replace FB := FB.kept0 kc6
        replace FX := FX.kept0 kc6
        replace FC := FC.kept0 kc6
        clear kc6
        refine L.val f39 wantedN rfl (by decide) (E.assign f39 rfl) fun a40 f40 => ?_
        clear f39 a39
        refine wpList_nil (hK10 _ _ ?_)
        try clear hK10 K10
        have f41 := f40.sub (sub_cons (i := 6) rfl (sub_cons (i := 7) rfl (sub_cons (i := 8) rfl (sub_cons (i := 9) rfl sub_nil))))
        clear f40
        refine wp_seq_k fun K11 hK11 => ?_
        refine C.region ?_
        refine L.val f41 wantedN rfl (by decide) (E.move f41 rfl) fun a42 f42 => ?_
        clear f41 a40
        refine L.val f42 wantedN rfl (by decide) (E.move f42 rfl) fun a43 f43 => ?_
        clear f42 a42
        refine L.call f43 wantedN rfl (by decide) (run_call Try.call15 (args2 f43 rfl rfl)) (Within_any (ofL l1) (joinD (ofL l1) (ofL l2)) _ _ _ _ _ FA.sl FX.sl (by omega) (by omega)) ?_
        rintro e w7 ⟨kc7, rfl⟩
        refine ⟨_, rfl, fun a44 f44 => ?_⟩
        clear f43 a43
        have szw7 := kc7.size
        replace HK := HK.trans kc7 (by simp)
        replace FA := FA.kept0 kc7
        replace FB := FB.kept0 kc7
        replace FX := FX.kept0 kc7
        replace FC := FC.kept0 kc7
        replace FZ := FZ.kept0 kc7
        clear kc7
        have f45 := f44.as (i := 37) (v' := .bool true) rfl (by rw [within_l r1 r2])
        clear f44
        refine L.val f45 wantedN rfl (by decide) (E.move f45 rfl) fun a46 f46 => ?_
        clear f45 a44
        refine L.val f46 (f46.yes rfl rfl) rfl (by decide) (E.move f46 rfl) fun a47 f47 => ?_
        clear f46 a46
        refine L.val f47 (f47.yes rfl rfl) rfl (by decide) (E.move f47 rfl) fun a48 f48 => ?_
        clear f47 a47
        refine L.call f48 (f48.yes rfl rfl) rfl (by decide) (run_call Try.call15 (args2 f48 rfl rfl)) (Within_any (joinD (ofL l1) (ofL l2)) (joinD (joinD (ofL l1) (ofL l2)) (ofL l3)) _ _ _ _ _ FX.sl FZ.sl (by omega) (by omega)) ?_
        rintro e w8 ⟨kc8, rfl⟩
        refine ⟨_, rfl, fun a49 f49 => ?_⟩
        clear f48 a48
        have szw8 := kc8.size
        replace HK := HK.trans kc8 (by simp)
        replace FA := FA.kept0 kc8
        replace FB := FB.kept0 kc8
        replace FX := FX.kept0 kc8
        replace FC := FC.kept0 kc8
        replace FZ := FZ.kept0 kc8
        clear kc8
        have f50 := f49.as (i := 41) (v' := .bool true) rfl (by rw [within_l rx r3])
        clear f49
        refine L.val f50 wantedN rfl (by decide) (E.pickT f50 rfl rfl) fun a51 f51 => ?_
        clear f50 a49
        refine L.val f51 wantedN rfl (by decide) (E.move f51 rfl) fun a52 f52 => ?_
        clear f51 a51
        refine L.val f52 (f52.yes rfl rfl) rfl (by decide) (E.move f52 rfl) fun a53 f53 => ?_
        clear f52 a52
        refine L.val f53 (f53.yes rfl rfl) rfl (by decide) (E.move f53 rfl) fun a54 f54 => ?_
        clear f53 a53
        refine L.call f54 (f54.yes rfl rfl) rfl (by decide) (run_call Try.call15 (args2 f54 rfl rfl)) (Within_any (ofL l1) (joinD (joinD (ofL l1) (ofL l2)) (ofL l3)) _ _ _ _ _ FA.sl FZ.sl (by omega) (by omega)) ?_
        rintro e w9 ⟨kc9, rfl⟩
        refine ⟨_, rfl, fun a55 f55 => ?_⟩
        clear f54 a54
        have szw9 := kc9.size
        replace HK := HK.trans kc9 (by simp)
        replace FA := FA.kept0 kc9
        replace FB := FB.kept0 kc9
        replace FX := FX.kept0 kc9
        replace FC := FC.kept0 kc9
        replace FZ := FZ.kept0 kc9
        clear kc9
        have f56 := f55.as (i := 46) (v' := .bool true) rfl (by rw [within_trans r1 rx rz (within_l r1 r2) (within_l rx r3)])
        clear f55
        refine L.val f56 wantedN rfl (by decide) (E.pickT f56 rfl rfl) fun a57 f57 => ?_
        clear f56 a55
        refine L.val f57 wantedN rfl (by decide) (E.move f57 rfl) fun a58 f58 => ?_
        clear f57 a57
        refine L.val f58 (f58.yes rfl rfl) rfl (by decide) (E.move f58 rfl) fun a59 f59 => ?_
        clear f58 a58
        refine L.call f59 (f59.yes rfl rfl) rfl (by decide) (run_call Try.call15 (args2 f59 rfl rfl)) (Within_any [] (ofL l1) _ _ _ _ _ (Ds.nil _ _) FA.sl (by omega) (by omega)) ?_
        rintro e w10 ⟨kc10, rfl⟩
        refine ⟨_, rfl, fun a60 f60 => ?_⟩
        clear f59 a59
        have szw10 := kc10.size
        replace HK := HK.trans kc10 (by simp)
        replace FA := FA.kept0 kc10
        replace FB := FB.kept0 kc10
        replace FX := FX.kept0 kc10
        replace FC := FC.kept0 kc10
        replace FZ := FZ.kept0 kc10
        clear kc10
        have f61 := f60.as (i := 50) (v' := .bool true) rfl (by rw [within_nil r1])
        clear f60
        refine L.val f61 wantedN rfl (by decide) (E.pickT f61 rfl rfl) fun a62 f62 => ?_
        clear f61 a60
        refine L.val f62 wantedN rfl (by decide) (E.move f62 rfl) fun a63 f63 => ?_
        clear f62 a62
        refine L.val f63 (f63.yes rfl rfl) rfl (by decide) (E.move f63 rfl) fun a64 f64 => ?_
        clear f63 a63
        refine L.val f64 (f64.yes rfl rfl) rfl (by decide) (E.move f64 rfl) fun a65 f65 => ?_
        clear f64 a64
        refine L.call f65 (f65.yes rfl rfl) rfl (by decide) (run_call Try.call15 (args2 f65 rfl rfl)) (Within_any (ofL l1) (ofL l1) _ _ _ _ _ FA.sl FA.sl (by omega) (by omega)) ?_
        rintro e w11 ⟨kc11, rfl⟩
        refine ⟨_, rfl, fun a66 f66 => ?_⟩
        clear f65 a65
        have szw11 := kc11.size
        replace HK := HK.trans kc11 (by simp)
        replace FA := FA.kept0 kc11
        replace FB := FB.kept0 kc11
        replace FX := FX.kept0 kc11
        replace FC := FC.kept0 kc11
        replace FZ := FZ.kept0 kc11
        clear kc11
        have f67 := f66.as (i := 55) (v' := .bool true) rfl (by rw [within_refl r1])
        clear f66
        refine L.val f67 wantedN rfl (by decide) (E.pickT f67 rfl rfl) fun a68 f68 => ?_
        clear f67 a66
        refine L.val f68 wantedN rfl (by decide) (E.move f68 rfl) fun a69 f69 => ?_
        clear f68 a68
        refine L.val f69 (f69.yes rfl rfl) rfl (by decide) (E.move f69 rfl) fun a70 f70 => ?_
        clear f69 a69
        refine L.val f70 (f70.yes rfl rfl) rfl (by decide) (E.move f70 rfl) fun a71 f71 => ?_
        clear f70 a70
        refine L.call f71 (f71.yes rfl rfl) rfl (by decide) (run_call Try.call15 (args2 f71 rfl rfl)) (Within_any (joinD (joinD (ofL l1) (ofL l2)) (ofL l3)) (ofL l1) _ _ _ _ _ FZ.sl FA.sl (by omega) (by omega)) ?_
        rintro e w12 ⟨kc12, rfl⟩
        refine ⟨_, rfl, fun a72 f72 => ?_⟩
        clear f71 a71
        have szw12 := kc12.size
        replace HK := HK.trans kc12 (by simp)
        replace FA := FA.kept0 kc12
        replace FB := FB.kept0 kc12
        replace FX := FX.kept0 kc12
        replace FC := FC.kept0 kc12
        replace FZ := FZ.kept0 kc12
        clear kc12
        refine L.val f72 (f72.yes rfl rfl) rfl (by decide) (E.not f72 rfl) fun a73 f73 => ?_
        clear f72 a72
        refine L.val f73 (f73.yes rfl rfl) rfl (by decide) (E.move f73 rfl) fun a74 f74 => ?_
        clear f73 a73
        first | refine f74.splitD 62 rfl (fun h3 f75 => ?_) (fun h3 f75 => ?_) | refine f74.splitN 62 rfl (fun h3 f75 => ?_) (fun h3 f75 => ?_) | refine f74.splitNB 62 rfl (fun h3 f75 => ?_) (fun h3 f75 => ?_) | refine f74.split 62 rfl (fun h3 f75 => ?_) (fun h3 f75 => ?_)
        · clear f74
          refine L.skip f75 (f75.noF rfl rfl) rfl (by decide) fun a76 f76 => ?_
          clear f75 a74
          refine L.skip f76 (f76.noF rfl rfl) rfl (by decide) fun a77 f77 => ?_
          clear f76 a76
          refine L.skip f77 (f77.noF rfl rfl) rfl (by decide) fun a78 f78 => ?_
          clear f77 a77
          refine L.val f78 (f78.yes rfl rfl) rfl (by decide) (E.pickT f78 rfl rfl) fun a79 f79 => ?_
          clear f78 a78
          refine L.val f79 wantedN rfl (by decide) (E.pickT f79 rfl rfl) fun a80 f80 => ?_
          clear f79 a79
          refine L.val f80 wantedN rfl (by decide) (E.assign f80 rfl) fun a81 f81 => ?_
          clear f80 a80
          refine wpList_nil (hK11 _ _ ?_)
          try clear hK11 K11
          have f82 := f81.sub (sub_cons (i := 6) rfl sub_nil)
          clear f81
          refine wp_ret ?_
          try simp only [Exit.inBlock, Exit.then]
          refine C.ret (P := Try.prog) (fn := Try.f5) f82 rfl rfl ?_
          exact ⟨rfl, HK.below0⟩
        · clear f74
          have hwz := h3
          refine L.val f75 (f75.yes rfl rfl) rfl (by decide) (E.move f75 rfl) fun a76 f76 => ?_
          clear f75 a74
          refine L.val f76 (f76.yes rfl rfl) rfl (by decide) (E.move f76 rfl) fun a77 f77 => ?_
          clear f76 a76
          refine L.call f77 (f77.yes rfl rfl) rfl (by decide) (run_call Try.call14 (args2 f77 rfl rfl)) (dotsEq_any (ofL l1) (joinD (joinD (ofL l1) (ofL l2)) (ofL l3)) _ _ _ _ _ FA.sl FZ.sl (by unfold maxLen; omega) (by unfold maxLen; omega)) ?_
          rintro e w13 ⟨kc13, rfl⟩
          refine ⟨_, rfl, fun a78 f78 => ?_⟩
          clear f77 a77
          have szw13 := kc13.size
          replace HK := HK.trans kc13 (by simp)
          replace FA := FA.kept0 kc13
          replace FB := FB.kept0 kc13
          replace FX := FX.kept0 kc13
          replace FC := FC.kept0 kc13
          replace FZ := FZ.kept0 kc13
          clear kc13
          have f79 := f78.as (i := 65) (v' := .bool true) rfl (by rw [decide_eq_true (within_eq r1 rz (within_trans r1 rx rz (within_l r1 r2) (within_l rx r3)) (by simpa using hwz))])
          clear f78
          refine L.val f79 (f79.yes rfl rfl) rfl (by decide) (E.pickF f79 rfl rfl) fun a80 f80 => ?_
          clear f79 a78
          refine L.val f80 wantedN rfl (by decide) (E.pickT f80 rfl rfl) fun a81 f81 => ?_
          clear f80 a80
          refine L.val f81 wantedN rfl (by decide) (E.assign f81 rfl) fun a82 f82 => ?_
          clear f81 a81
          refine wpList_nil (hK11 _ _ ?_)
          try clear hK11 K11
          have f83 := f82.sub (sub_cons (i := 6) rfl sub_nil)
          clear f82
          refine wp_ret ?_
          try simp only [Exit.inBlock, Exit.then]
          refine C.ret (P := Try.prog) (fn := Try.f5) f83 rfl rfl ?_
          exact ⟨rfl, HK.below0⟩

set_option maxHeartbeats 1000000 in
theorem order_any (x y z : Dt) (w : World) : Calls Try.prog 7 #[.agg (dcell x).toArray, .agg (dcell y).toArray, .agg (dcell z).toArray] w (fun e w' => e = .returned (.bool true) ∧ Below w.heap.size w w') := by
  have HK : Kept [] w w := Kept.refl [] w
  refine C.enter Try.func7 rfl Try.ntmps7 rfl ?_
  intro a0 f0
  have f1 : Fr 54 a0 [(0, .agg (dcell x).toArray), (1, .agg (dcell y).toArray), (2, .agg (dcell z).toArray)] := f0
  clear f0
  refine wp_seq_k fun K0 hK0 => ?_
  refine C.region ?_
  refine L.box f1 wantedN (by decide) rfl rfl fun a2 w1 g0 N0 f2 => ?_
  have Bg0 := N0.blk
  have kg0 := N0.kept
  have log0 := N0.lo
  have ltg0 := Bg0.lt
  have szw1 := kg0.size
  have frg0 : w.heap.size ≤ g0 := Nat.le_trans HK.size log0
  replace HK := HK.trans kg0 (by simp)
  clear N0 kg0
  clear f1 a0
  refine L.box f2 wantedN (by decide) rfl rfl fun a3 w2 g1 N1 f3 => ?_
  have Bg1 := N1.blk
  have kg1 := N1.kept
  have log1 := N1.lo
  have ltg1 := Bg1.lt
  have szw2 := kg1.size
  have frg1 : w.heap.size ≤ g1 := Nat.le_trans HK.size log1
  have neg0_g1 : g0 ≠ g1 := by have := Bg0.lt; omega
  replace HK := HK.trans kg1 (by simp)
  replace Bg0 := Bg0.kept kg1 (by simp)
  clear N1 kg1
  clear f2 a2
  refine L.box f3 wantedN (by decide) rfl rfl fun a4 w3 g2 N2 f4 => ?_
  have Bg2 := N2.blk
  have kg2 := N2.kept
  have log2 := N2.lo
  have ltg2 := Bg2.lt
  have szw3 := kg2.size
  have frg2 : w.heap.size ≤ g2 := Nat.le_trans HK.size log2
  have neg0_g2 : g0 ≠ g2 := by have := Bg0.lt; omega
  have neg1_g2 : g1 ≠ g2 := by have := Bg1.lt; omega
  replace HK := HK.trans kg2 (by simp)
  replace Bg0 := Bg0.kept kg2 (by simp)
  replace Bg1 := Bg1.kept kg2 (by simp)
  clear N2 kg2
  clear f3 a3
  refine L.val f4 wantedN rfl (by decide) (E.assign f4 rfl) fun a5 f5 => ?_
  clear f4 a4
  refine wpList_nil (hK0 _ _ ?_)
  try clear hK0 K0
  have f6 := f5.sub (sub_cons (i := 3) rfl (sub_cons (i := 4) rfl (sub_cons (i := 5) rfl (sub_cons (i := 6) rfl sub_nil))))
  clear f5
  refine wp_seq_k fun K1 hK1 => ?_
  refine wp_seq_k fun K2 hK2 => ?_
  refine C.region ?_
  refine L.call f6 wantedN rfl (by decide) (run_call Try.call11 (args0 f6)) (known_any _) ?_
  rintro e w4 ⟨kc4, rfl⟩
  refine ⟨_, rfl, fun a7 f7 => ?_⟩
  clear f6 a5
  have szw4 := kc4.size
  replace HK := HK.trans kc4 (by simp)
  replace Bg0 := Bg0.kept kc4 (by simp)
  replace Bg1 := Bg1.kept kc4 (by simp)
  replace Bg2 := Bg2.kept kc4 (by simp)
  clear kc4
  refine L.val f7 wantedN rfl (by decide) (E.not f7 rfl) fun a8 f8 => ?_
  clear f7 a7
  refine wpList_nil (hK2 _ _ ?_)
  try clear hK2 K2
  have f9 := f8.sub (sub_cons (i := 3) rfl (sub_cons (i := 4) rfl (sub_cons (i := 5) rfl (sub_cons (i := 6) rfl (sub_cons (i := 8) rfl sub_nil)))))
  clear f8
  refine C.condF f9 rfl ?_
  refine wp_skip (hK1 _ _ ?_)
  try clear hK1 K1
  have f10 := f9.sub (sub_cons (i := 3) rfl (sub_cons (i := 4) rfl (sub_cons (i := 5) rfl (sub_cons (i := 6) rfl sub_nil))))
  clear f9
  refine wp_seq_k fun K3 hK3 => ?_
  refine wp_seq_k fun K4 hK4 => ?_
  refine C.region ?_
  refine L.val f10 wantedN rfl (by decide) (by first | exact E.loadB f10 Try.underlying32 rfl wsz32_g9 rfl (Bg0) rfl | exact E.loadB f10 Try.underlying32 rfl wsz32_g9 rfl (Bg1) rfl | exact E.loadB f10 Try.underlying32 rfl wsz32_g9 rfl (Bg2) rfl) fun a11 f11 => ?_
  clear f10 a8
  refine L.val f11 wantedN rfl (by decide) (by first | exact E.loadB f11 Try.underlying32 rfl wsz32_g9 rfl (Bg0) rfl | exact E.loadB f11 Try.underlying32 rfl wsz32_g9 rfl (Bg1) rfl | exact E.loadB f11 Try.underlying32 rfl wsz32_g9 rfl (Bg2) rfl) fun a12 f12 => ?_
  clear f11 a11
  refine L.call f12 wantedN rfl (by decide) (run_call Try.call26 (args2 f12 rfl rfl)) (Before_any x x _) ?_
  rintro e w5 ⟨kc5, rfl⟩
  refine ⟨_, rfl, fun a13 f13 => ?_⟩
  clear f12 a12
  have szw5 := kc5.size
  replace HK := HK.trans kc5 (by simp)
  replace Bg0 := Bg0.kept kc5 (by simp)
  replace Bg1 := Bg1.kept kc5 (by simp)
  replace Bg2 := Bg2.kept kc5 (by simp)
  clear kc5
  have f14 := f13.as (i := 11) (v' := .bool false) rfl (by rw [decide_eq_false (lt3_irrefl x)])
  clear f13
  refine L.val f14 wantedN rfl (by decide) (E.move f14 rfl) fun a15 f15 => ?_
  clear f14 a13
  refine L.val f15 (f15.yes rfl rfl) rfl (by decide) (by first | exact E.loadB f15 Try.underlying32 rfl wsz32_g9 rfl (Bg0) rfl | exact E.loadB f15 Try.underlying32 rfl wsz32_g9 rfl (Bg1) rfl | exact E.loadB f15 Try.underlying32 rfl wsz32_g9 rfl (Bg2) rfl) fun a16 f16 => ?_
  clear f15 a15
  refine L.val f16 (f16.yes rfl rfl) rfl (by decide) (by first | exact E.loadB f16 Try.underlying32 rfl wsz32_g9 rfl (Bg0) rfl | exact E.loadB f16 Try.underlying32 rfl wsz32_g9 rfl (Bg1) rfl | exact E.loadB f16 Try.underlying32 rfl wsz32_g9 rfl (Bg2) rfl) fun a17 f17 => ?_
  clear f16 a16
  refine L.call f17 (f17.yes rfl rfl) rfl (by decide) (run_call Try.call26 (args2 f17 rfl rfl)) (Before_any x y _) ?_
  rintro e w6 ⟨kc6, rfl⟩
  refine ⟨_, rfl, fun a18 f18 => ?_⟩
  clear f17 a17
  have szw6 := kc6.size
  replace HK := HK.trans kc6 (by simp)
  replace Bg0 := Bg0.kept kc6 (by simp)
  replace Bg1 := Bg1.kept kc6 (by simp)
  replace Bg2 := Bg2.kept kc6 (by simp)
  clear kc6
  refine L.val f18 (f18.yes rfl rfl) rfl (by decide) (E.move f18 rfl) fun a19 f19 => ?_
  clear f18 a18
  first | refine f19.splitD 16 rfl (fun h0 f20 => ?_) (fun h0 f20 => ?_) | refine f19.splitN 16 rfl (fun h0 f20 => ?_) (fun h0 f20 => ?_) | refine f19.splitNB 16 rfl (fun h0 f20 => ?_) (fun h0 f20 => ?_) | refine f19.split 16 rfl (fun h0 f20 => ?_) (fun h0 f20 => ?_)
  · clear f19
    have hxy := h0
    refine L.val f20 (f20.yes rfl rfl) rfl (by decide) (by first | exact E.loadB f20 Try.underlying32 rfl wsz32_g9 rfl (Bg0) rfl | exact E.loadB f20 Try.underlying32 rfl wsz32_g9 rfl (Bg1) rfl | exact E.loadB f20 Try.underlying32 rfl wsz32_g9 rfl (Bg2) rfl) fun a21 f21 => ?_
    clear f20 a19
    refine L.val f21 (f21.yes rfl rfl) rfl (by decide) (by first | exact E.loadB f21 Try.underlying32 rfl wsz32_g9 rfl (Bg0) rfl | exact E.loadB f21 Try.underlying32 rfl wsz32_g9 rfl (Bg1) rfl | exact E.loadB f21 Try.underlying32 rfl wsz32_g9 rfl (Bg2) rfl) fun a22 f22 => ?_
    clear f21 a21
    refine L.call f22 (f22.yes rfl rfl) rfl (by decide) (run_call Try.call26 (args2 f22 rfl rfl)) (Before_any y x _) ?_
    rintro e w7 ⟨kc7, rfl⟩
    refine ⟨_, rfl, fun a23 f23 => ?_⟩
    clear f22 a22
    have szw7 := kc7.size
    replace HK := HK.trans kc7 (by simp)
    replace Bg0 := Bg0.kept kc7 (by simp)
    replace Bg1 := Bg1.kept kc7 (by simp)
    replace Bg2 := Bg2.kept kc7 (by simp)
    clear kc7
    have f24 := f23.as (i := 19) (v' := .bool false) rfl (by rw [decide_eq_false (lt3_asymm hxy)])
    clear f23
    refine L.val f24 (f24.yes rfl rfl) rfl (by decide) (E.pickT f24 rfl rfl) fun a25 f25 => ?_
    clear f24 a23
    refine L.val f25 wantedN rfl (by decide) (E.pickF f25 rfl rfl) fun a26 f26 => ?_
    clear f25 a25
    refine L.val f26 wantedN rfl (by decide) (E.move f26 rfl) fun a27 f27 => ?_
    clear f26 a26
    refine L.val f27 (f27.yes rfl rfl) rfl (by decide) (by first | exact E.loadB f27 Try.underlying32 rfl wsz32_g9 rfl (Bg0) rfl | exact E.loadB f27 Try.underlying32 rfl wsz32_g9 rfl (Bg1) rfl | exact E.loadB f27 Try.underlying32 rfl wsz32_g9 rfl (Bg2) rfl) fun a28 f28 => ?_
    clear f27 a27
    refine L.val f28 (f28.yes rfl rfl) rfl (by decide) (by first | exact E.loadB f28 Try.underlying32 rfl wsz32_g9 rfl (Bg0) rfl | exact E.loadB f28 Try.underlying32 rfl wsz32_g9 rfl (Bg1) rfl | exact E.loadB f28 Try.underlying32 rfl wsz32_g9 rfl (Bg2) rfl) fun a29 f29 => ?_
    clear f28 a28
    refine L.call f29 (f29.yes rfl rfl) rfl (by decide) (run_call Try.call26 (args2 f29 rfl rfl)) (Before_any x y _) ?_
    rintro e w8 ⟨kc8, rfl⟩
    refine ⟨_, rfl, fun a30 f30 => ?_⟩
    clear f29 a29
    have szw8 := kc8.size
    replace HK := HK.trans kc8 (by simp)
    replace Bg0 := Bg0.kept kc8 (by simp)
    replace Bg1 := Bg1.kept kc8 (by simp)
    replace Bg2 := Bg2.kept kc8 (by simp)
    clear kc8
    have f31 := f30.as (i := 25) (v' := .bool true) rfl (by rw [decide_eq_true hxy])
    clear f30
    refine L.val f31 (f31.yes rfl rfl) rfl (by decide) (E.not f31 rfl) fun a32 f32 => ?_
    clear f31 a30
    refine L.val f32 (f32.yes rfl rfl) rfl (by decide) (E.move f32 rfl) fun a33 f33 => ?_
    clear f32 a32
    refine L.skip f33 (f33.noT rfl rfl) rfl (by decide) fun a34 f34 => ?_
    clear f33 a33
    refine L.skip f34 (f34.noT rfl rfl) rfl (by decide) fun a35 f35 => ?_
    clear f34 a34
    refine L.skip f35 (f35.noT rfl rfl) rfl (by decide) fun a36 f36 => ?_
    clear f35 a35
    refine L.skip f36 (f36.noT rfl rfl) rfl (by decide) fun a37 f37 => ?_
    clear f36 a36
    refine L.val f37 (f37.yes rfl rfl) rfl (by decide) (E.pickF f37 rfl rfl) fun a38 f38 => ?_
    clear f37 a37
    refine L.val f38 (f38.yes rfl rfl) rfl (by decide) (E.move f38 rfl) fun a39 f39 => ?_
    clear f38 a38
    refine L.skip f39 (f39.noT rfl rfl) rfl (by decide) fun a40 f40 => ?_
    clear f39 a39
    refine L.skip f40 (f40.noT rfl rfl) rfl (by decide) fun a41 f41 => ?_
    clear f40 a40
    refine L.skip f41 (f41.noT rfl rfl) rfl (by decide) fun a42 f42 => ?_
    clear f41 a41
    refine L.val f42 (f42.yes rfl rfl) rfl (by decide) (E.pickF f42 rfl rfl) fun a43 f43 => ?_
    clear f42 a42
    refine L.val f43 wantedN rfl (by decide) (E.pickF f43 rfl rfl) fun a44 f44 => ?_
    clear f43 a43
    refine wpList_nil (hK4 _ _ ?_)
    try clear hK4 K4
    have f45 := f44.sub (sub_cons (i := 3) rfl (sub_cons (i := 4) rfl (sub_cons (i := 5) rfl (sub_cons (i := 6) rfl (sub_cons (i := 38) rfl sub_nil)))))
    clear f44
    refine C.condF f45 rfl ?_
    refine wp_skip (hK3 _ _ ?_)
    try clear hK3 K3
    have f46 := f45.sub (sub_cons (i := 3) rfl (sub_cons (i := 4) rfl (sub_cons (i := 5) rfl (sub_cons (i := 6) rfl sub_nil))))
    clear f45
    refine wp_seq_k fun K5 hK5 => ?_
    refine C.region ?_
    refine L.val f46 wantedN rfl (by decide) (by first | exact E.loadB f46 Try.underlying32 rfl wsz32_g9 rfl (Bg0) rfl | exact E.loadB f46 Try.underlying32 rfl wsz32_g9 rfl (Bg1) rfl | exact E.loadB f46 Try.underlying32 rfl wsz32_g9 rfl (Bg2) rfl) fun a47 f47 => ?_
    clear f46 a44
    refine L.val f47 wantedN rfl (by decide) (by first | exact E.loadB f47 Try.underlying32 rfl wsz32_g9 rfl (Bg0) rfl | exact E.loadB f47 Try.underlying32 rfl wsz32_g9 rfl (Bg1) rfl | exact E.loadB f47 Try.underlying32 rfl wsz32_g9 rfl (Bg2) rfl) fun a48 f48 => ?_
    clear f47 a47
    refine L.call f48 wantedN rfl (by decide) (run_call Try.call26 (args2 f48 rfl rfl)) (Before_any x y _) ?_
    rintro e w9 ⟨kc9, rfl⟩
    refine ⟨_, rfl, fun a49 f49 => ?_⟩
    clear f48 a48
    have szw9 := kc9.size
    replace HK := HK.trans kc9 (by simp)
    replace Bg0 := Bg0.kept kc9 (by simp)
    replace Bg1 := Bg1.kept kc9 (by simp)
    replace Bg2 := Bg2.kept kc9 (by simp)
    clear kc9
    have f50 := f49.as (i := 41) (v' := .bool true) rfl (by rw [decide_eq_true hxy])
    clear f49
    refine L.val f50 wantedN rfl (by decide) (E.not f50 rfl) fun a51 f51 => ?_
    clear f50 a49
    refine L.val f51 wantedN rfl (by decide) (E.move f51 rfl) fun a52 f52 => ?_
    clear f51 a51
    refine L.val f52 (f52.yes rfl rfl) rfl (by decide) (by first | exact E.loadB f52 Try.underlying32 rfl wsz32_g9 rfl (Bg0) rfl | exact E.loadB f52 Try.underlying32 rfl wsz32_g9 rfl (Bg1) rfl | exact E.loadB f52 Try.underlying32 rfl wsz32_g9 rfl (Bg2) rfl) fun a53 f53 => ?_
    clear f52 a52
    refine L.val f53 (f53.yes rfl rfl) rfl (by decide) (by first | exact E.loadB f53 Try.underlying32 rfl wsz32_g9 rfl (Bg0) rfl | exact E.loadB f53 Try.underlying32 rfl wsz32_g9 rfl (Bg1) rfl | exact E.loadB f53 Try.underlying32 rfl wsz32_g9 rfl (Bg2) rfl) fun a54 f54 => ?_
    clear f53 a53
    refine L.call f54 (f54.yes rfl rfl) rfl (by decide) (run_call Try.call26 (args2 f54 rfl rfl)) (Before_any y z _) ?_
    rintro e w10 ⟨kc10, rfl⟩
    refine ⟨_, rfl, fun a55 f55 => ?_⟩
    clear f54 a54
    have szw10 := kc10.size
    replace HK := HK.trans kc10 (by simp)
    replace Bg0 := Bg0.kept kc10 (by simp)
    replace Bg1 := Bg1.kept kc10 (by simp)
    replace Bg2 := Bg2.kept kc10 (by simp)
    clear kc10
    refine L.val f55 (f55.yes rfl rfl) rfl (by decide) (E.not f55 rfl) fun a56 f56 => ?_
    clear f55 a55
    refine L.val f56 wantedN rfl (by decide) (E.pickF f56 rfl rfl) fun a57 f57 => ?_
    clear f56 a56
    refine L.val f57 wantedN rfl (by decide) (E.move f57 rfl) fun a58 f58 => ?_
    clear f57 a57
    first | refine f58.splitD 49 rfl (fun h1 f59 => ?_) (fun h1 f59 => ?_) | refine f58.splitN 49 rfl (fun h1 f59 => ?_) (fun h1 f59 => ?_) | refine f58.splitNB 49 rfl (fun h1 f59 => ?_) (fun h1 f59 => ?_) | refine f58.split 49 rfl (fun h1 f59 => ?_) (fun h1 f59 => ?_)
    · clear f58
      have hyz := h1
      refine L.skip f59 (f59.noF rfl rfl) rfl (by decide) fun a60 f60 => ?_
      clear f59 a58
      refine L.skip f60 (f60.noF rfl rfl) rfl (by decide) fun a61 f61 => ?_
      clear f60 a60
      refine L.skip f61 (f61.noF rfl rfl) rfl (by decide) fun a62 f62 => ?_
      clear f61 a61
      refine L.val f62 wantedN rfl (by decide) (E.pickT f62 rfl rfl) fun a63 f63 => ?_
      clear f62 a62
      refine L.val f63 wantedN rfl (by decide) (E.assign f63 rfl) fun a64 f64 => ?_
      clear f63 a63
      refine wpList_nil (hK5 _ _ ?_)
      try clear hK5 K5
      have f65 := f64.sub (sub_cons (i := 6) rfl sub_nil)
      clear f64
      refine wp_ret ?_
      try simp only [Exit.inBlock, Exit.then]
      refine C.ret (P := Try.prog) (fn := Try.f7) f65 rfl rfl ?_
      exact ⟨rfl, HK.below0⟩
    · clear f58
      have hyz := h1
      refine L.val f59 (f59.yes rfl rfl) rfl (by decide) (by first | exact E.loadB f59 Try.underlying32 rfl wsz32_g9 rfl (Bg0) rfl | exact E.loadB f59 Try.underlying32 rfl wsz32_g9 rfl (Bg1) rfl | exact E.loadB f59 Try.underlying32 rfl wsz32_g9 rfl (Bg2) rfl) fun a60 f60 => ?_
      clear f59 a58
      refine L.val f60 (f60.yes rfl rfl) rfl (by decide) (by first | exact E.loadB f60 Try.underlying32 rfl wsz32_g9 rfl (Bg0) rfl | exact E.loadB f60 Try.underlying32 rfl wsz32_g9 rfl (Bg1) rfl | exact E.loadB f60 Try.underlying32 rfl wsz32_g9 rfl (Bg2) rfl) fun a61 f61 => ?_
      clear f60 a60
      refine L.call f61 (f61.yes rfl rfl) rfl (by decide) (run_call Try.call26 (args2 f61 rfl rfl)) (Before_any x z _) ?_
      rintro e w11 ⟨kc11, rfl⟩
      refine ⟨_, rfl, fun a62 f62 => ?_⟩
      clear f61 a61
      have szw11 := kc11.size
      replace HK := HK.trans kc11 (by simp)
      replace Bg0 := Bg0.kept kc11 (by simp)
      replace Bg1 := Bg1.kept kc11 (by simp)
      replace Bg2 := Bg2.kept kc11 (by simp)
      clear kc11
      have f63 := f62.as (i := 52) (v' := .bool true) rfl (by rw [decide_eq_true (lt3_trans hxy hyz)])
      clear f62
      refine L.val f63 wantedN rfl (by decide) (E.pickF f63 rfl rfl) fun a64 f64 => ?_
      clear f63 a62
      refine L.val f64 wantedN rfl (by decide) (E.assign f64 rfl) fun a65 f65 => ?_
      clear f64 a64
      refine wpList_nil (hK5 _ _ ?_)
      try clear hK5 K5
      have f66 := f65.sub (sub_cons (i := 6) rfl sub_nil)
      clear f65
      refine wp_ret ?_
      try simp only [Exit.inBlock, Exit.then]
      refine C.ret (P := Try.prog) (fn := Try.f7) f66 rfl rfl ?_
      exact ⟨rfl, HK.below0⟩
  · clear f19
    have hxy := h0
    refine L.skip f20 (f20.noT rfl rfl) rfl (by decide) fun a21 f21 => ?_
    clear f20 a19
    refine L.skip f21 (f21.noT rfl rfl) rfl (by decide) fun a22 f22 => ?_
    clear f21 a21
    refine L.skip f22 (f22.noT rfl rfl) rfl (by decide) fun a23 f23 => ?_
    clear f22 a22
    refine L.val f23 (f23.yes rfl rfl) rfl (by decide) (E.pickF f23 rfl rfl) fun a24 f24 => ?_
    clear f23 a23
    refine L.val f24 wantedN rfl (by decide) (E.pickF f24 rfl rfl) fun a25 f25 => ?_
    clear f24 a24
    refine L.val f25 wantedN rfl (by decide) (E.move f25 rfl) fun a26 f26 => ?_
    clear f25 a25
    refine L.val f26 (f26.yes rfl rfl) rfl (by decide) (by first | exact E.loadB f26 Try.underlying32 rfl wsz32_g9 rfl (Bg0) rfl | exact E.loadB f26 Try.underlying32 rfl wsz32_g9 rfl (Bg1) rfl | exact E.loadB f26 Try.underlying32 rfl wsz32_g9 rfl (Bg2) rfl) fun a27 f27 => ?_
    clear f26 a26
    refine L.val f27 (f27.yes rfl rfl) rfl (by decide) (by first | exact E.loadB f27 Try.underlying32 rfl wsz32_g9 rfl (Bg0) rfl | exact E.loadB f27 Try.underlying32 rfl wsz32_g9 rfl (Bg1) rfl | exact E.loadB f27 Try.underlying32 rfl wsz32_g9 rfl (Bg2) rfl) fun a28 f28 => ?_
    clear f27 a27
    refine L.call f28 (f28.yes rfl rfl) rfl (by decide) (run_call Try.call26 (args2 f28 rfl rfl)) (Before_any x y _) ?_
    rintro e w7 ⟨kc7, rfl⟩
    refine ⟨_, rfl, fun a29 f29 => ?_⟩
    clear f28 a28
    have szw7 := kc7.size
    replace HK := HK.trans kc7 (by simp)
    replace Bg0 := Bg0.kept kc7 (by simp)
    replace Bg1 := Bg1.kept kc7 (by simp)
    replace Bg2 := Bg2.kept kc7 (by simp)
    clear kc7
    have f30 := f29.as (i := 25) (v' := .bool false) rfl (by rw [decide_eq_false hxy])
    clear f29
    refine L.val f30 (f30.yes rfl rfl) rfl (by decide) (E.not f30 rfl) fun a31 f31 => ?_
    clear f30 a29
    refine L.val f31 (f31.yes rfl rfl) rfl (by decide) (E.move f31 rfl) fun a32 f32 => ?_
    clear f31 a31
    refine L.val f32 (f32.yes rfl rfl) rfl (by decide) (by first | exact E.loadB f32 Try.underlying32 rfl wsz32_g9 rfl (Bg0) rfl | exact E.loadB f32 Try.underlying32 rfl wsz32_g9 rfl (Bg1) rfl | exact E.loadB f32 Try.underlying32 rfl wsz32_g9 rfl (Bg2) rfl) fun a33 f33 => ?_
    clear f32 a32
    refine L.val f33 (f33.yes rfl rfl) rfl (by decide) (by first | exact E.loadB f33 Try.underlying32 rfl wsz32_g9 rfl (Bg0) rfl | exact E.loadB f33 Try.underlying32 rfl wsz32_g9 rfl (Bg1) rfl | exact E.loadB f33 Try.underlying32 rfl wsz32_g9 rfl (Bg2) rfl) fun a34 f34 => ?_
    clear f33 a33
    refine L.call f34 (f34.yes rfl rfl) rfl (by decide) (run_call Try.call26 (args2 f34 rfl rfl)) (Before_any y x _) ?_
    rintro e w8 ⟨kc8, rfl⟩
    refine ⟨_, rfl, fun a35 f35 => ?_⟩
    clear f34 a34
    have szw8 := kc8.size
    replace HK := HK.trans kc8 (by simp)
    replace Bg0 := Bg0.kept kc8 (by simp)
    replace Bg1 := Bg1.kept kc8 (by simp)
    replace Bg2 := Bg2.kept kc8 (by simp)
    clear kc8
    refine L.val f35 (f35.yes rfl rfl) rfl (by decide) (E.not f35 rfl) fun a36 f36 => ?_
    clear f35 a35
    refine L.val f36 (f36.yes rfl rfl) rfl (by decide) (E.pickT f36 rfl rfl) fun a37 f37 => ?_
    clear f36 a36
    refine L.val f37 (f37.yes rfl rfl) rfl (by decide) (E.move f37 rfl) fun a38 f38 => ?_
    clear f37 a37
    first | refine f38.splitD 33 rfl (fun h2 f39 => ?_) (fun h2 f39 => ?_) | refine f38.splitN 33 rfl (fun h2 f39 => ?_) (fun h2 f39 => ?_) | refine f38.splitNB 33 rfl (fun h2 f39 => ?_) (fun h2 f39 => ?_) | refine f38.split 33 rfl (fun h2 f39 => ?_) (fun h2 f39 => ?_)
    · clear f38
      have hyx := h2
      refine L.val f39 (f39.yes rfl rfl) rfl (by decide) (by first | exact E.loadB f39 Try.underlying32 rfl wsz32_g9 rfl (Bg0) rfl | exact E.loadB f39 Try.underlying32 rfl wsz32_g9 rfl (Bg1) rfl | exact E.loadB f39 Try.underlying32 rfl wsz32_g9 rfl (Bg2) rfl) fun a40 f40 => ?_
      clear f39 a38
      refine L.val f40 (f40.yes rfl rfl) rfl (by decide) (by first | exact E.loadB f40 Try.underlying32 rfl wsz32_g9 rfl (Bg0) rfl | exact E.loadB f40 Try.underlying32 rfl wsz32_g9 rfl (Bg1) rfl | exact E.loadB f40 Try.underlying32 rfl wsz32_g9 rfl (Bg2) rfl) fun a41 f41 => ?_
      clear f40 a40
      refine L.val f41 (f41.yes rfl rfl) rfl (by decide) (E.neqV f41 rfl rfl (neqDot _ _ _ _)) fun a42 f42 => ?_
      clear f41 a41
      have f43 := f42.as (i := 36) (v' := .bool false) rfl (by rw [decide_eq_true (lt3_eq hxy hyx)]; rfl)
      clear f42
      refine L.val f43 (f43.yes rfl rfl) rfl (by decide) (E.pickT f43 rfl rfl) fun a44 f44 => ?_
      clear f43 a42
      refine L.val f44 wantedN rfl (by decide) (E.pickF f44 rfl rfl) fun a45 f45 => ?_
      clear f44 a44
      refine wpList_nil (hK4 _ _ ?_)
      try clear hK4 K4
      have f46 := f45.sub (sub_cons (i := 3) rfl (sub_cons (i := 4) rfl (sub_cons (i := 5) rfl (sub_cons (i := 6) rfl (sub_cons (i := 38) rfl sub_nil)))))
      clear f45
      refine C.condF f46 rfl ?_
      refine wp_skip (hK3 _ _ ?_)
      try clear hK3 K3
      have f47 := f46.sub (sub_cons (i := 3) rfl (sub_cons (i := 4) rfl (sub_cons (i := 5) rfl (sub_cons (i := 6) rfl sub_nil))))
      clear f46
      refine wp_seq_k fun K6 hK6 => ?_
      refine C.region ?_
      refine L.val f47 wantedN rfl (by decide) (by first | exact E.loadB f47 Try.underlying32 rfl wsz32_g9 rfl (Bg0) rfl | exact E.loadB f47 Try.underlying32 rfl wsz32_g9 rfl (Bg1) rfl | exact E.loadB f47 Try.underlying32 rfl wsz32_g9 rfl (Bg2) rfl) fun a48 f48 => ?_
      clear f47 a45
      refine L.val f48 wantedN rfl (by decide) (by first | exact E.loadB f48 Try.underlying32 rfl wsz32_g9 rfl (Bg0) rfl | exact E.loadB f48 Try.underlying32 rfl wsz32_g9 rfl (Bg1) rfl | exact E.loadB f48 Try.underlying32 rfl wsz32_g9 rfl (Bg2) rfl) fun a49 f49 => ?_
      clear f48 a48
      refine L.call f49 wantedN rfl (by decide) (run_call Try.call26 (args2 f49 rfl rfl)) (Before_any x y _) ?_
      rintro e w9 ⟨kc9, rfl⟩
      refine ⟨_, rfl, fun a50 f50 => ?_⟩
      clear f49 a49
      have szw9 := kc9.size
      replace HK := HK.trans kc9 (by simp)
      replace Bg0 := Bg0.kept kc9 (by simp)
      replace Bg1 := Bg1.kept kc9 (by simp)
      replace Bg2 := Bg2.kept kc9 (by simp)
      clear kc9
      have f51 := f50.as (i := 41) (v' := .bool false) rfl (by rw [decide_eq_false hxy])
      clear f50
      refine L.val f51 wantedN rfl (by decide) (E.not f51 rfl) fun a52 f52 => ?_
      clear f51 a50
      refine L.val f52 wantedN rfl (by decide) (E.move f52 rfl) fun a53 f53 => ?_
      clear f52 a52
      refine L.skip f53 (f53.noF rfl rfl) rfl (by decide) fun a54 f54 => ?_
      clear f53 a53
      refine L.skip f54 (f54.noF rfl rfl) rfl (by decide) fun a55 f55 => ?_
      clear f54 a54
      refine L.skip f55 (f55.noF rfl rfl) rfl (by decide) fun a56 f56 => ?_
      clear f55 a55
      refine L.skip f56 (f56.noF rfl rfl) rfl (by decide) fun a57 f57 => ?_
      clear f56 a56
      refine L.val f57 wantedN rfl (by decide) (E.pickT f57 rfl rfl) fun a58 f58 => ?_
      clear f57 a57
      refine L.val f58 wantedN rfl (by decide) (E.move f58 rfl) fun a59 f59 => ?_
      clear f58 a58
      refine L.skip f59 (f59.noF rfl rfl) rfl (by decide) fun a60 f60 => ?_
      clear f59 a59
      refine L.skip f60 (f60.noF rfl rfl) rfl (by decide) fun a61 f61 => ?_
      clear f60 a60
      refine L.skip f61 (f61.noF rfl rfl) rfl (by decide) fun a62 f62 => ?_
      clear f61 a61
      refine L.val f62 wantedN rfl (by decide) (E.pickT f62 rfl rfl) fun a63 f63 => ?_
      clear f62 a62
      refine L.val f63 wantedN rfl (by decide) (E.assign f63 rfl) fun a64 f64 => ?_
      clear f63 a63
      refine wpList_nil (hK6 _ _ ?_)
      try clear hK6 K6
      have f65 := f64.sub (sub_cons (i := 6) rfl sub_nil)
      clear f64
      refine wp_ret ?_
      try simp only [Exit.inBlock, Exit.then]
      refine C.ret (P := Try.prog) (fn := Try.f7) f65 rfl rfl ?_
      exact ⟨rfl, HK.below0⟩
    · clear f38
      have hyx := h2
      refine L.skip f39 (f39.noT rfl rfl) rfl (by decide) fun a40 f40 => ?_
      clear f39 a38
      refine L.skip f40 (f40.noT rfl rfl) rfl (by decide) fun a41 f41 => ?_
      clear f40 a40
      refine L.skip f41 (f41.noT rfl rfl) rfl (by decide) fun a42 f42 => ?_
      clear f41 a41
      refine L.val f42 (f42.yes rfl rfl) rfl (by decide) (E.pickF f42 rfl rfl) fun a43 f43 => ?_
      clear f42 a42
      refine L.val f43 wantedN rfl (by decide) (E.pickF f43 rfl rfl) fun a44 f44 => ?_
      clear f43 a43
      refine wpList_nil (hK4 _ _ ?_)
      try clear hK4 K4
      have f45 := f44.sub (sub_cons (i := 3) rfl (sub_cons (i := 4) rfl (sub_cons (i := 5) rfl (sub_cons (i := 6) rfl (sub_cons (i := 38) rfl sub_nil)))))
      clear f44
      refine C.condF f45 rfl ?_
      refine wp_skip (hK3 _ _ ?_)
      try clear hK3 K3
      have f46 := f45.sub (sub_cons (i := 3) rfl (sub_cons (i := 4) rfl (sub_cons (i := 5) rfl (sub_cons (i := 6) rfl sub_nil))))
      clear f45
      refine wp_seq_k fun K7 hK7 => ?_
      refine C.region ?_
      refine L.val f46 wantedN rfl (by decide) (by first | exact E.loadB f46 Try.underlying32 rfl wsz32_g9 rfl (Bg0) rfl | exact E.loadB f46 Try.underlying32 rfl wsz32_g9 rfl (Bg1) rfl | exact E.loadB f46 Try.underlying32 rfl wsz32_g9 rfl (Bg2) rfl) fun a47 f47 => ?_
      clear f46 a44
      refine L.val f47 wantedN rfl (by decide) (by first | exact E.loadB f47 Try.underlying32 rfl wsz32_g9 rfl (Bg0) rfl | exact E.loadB f47 Try.underlying32 rfl wsz32_g9 rfl (Bg1) rfl | exact E.loadB f47 Try.underlying32 rfl wsz32_g9 rfl (Bg2) rfl) fun a48 f48 => ?_
      clear f47 a47
      refine L.call f48 wantedN rfl (by decide) (run_call Try.call26 (args2 f48 rfl rfl)) (Before_any x y _) ?_
      rintro e w9 ⟨kc9, rfl⟩
      refine ⟨_, rfl, fun a49 f49 => ?_⟩
      clear f48 a48
      have szw9 := kc9.size
      replace HK := HK.trans kc9 (by simp)
      replace Bg0 := Bg0.kept kc9 (by simp)
      replace Bg1 := Bg1.kept kc9 (by simp)
      replace Bg2 := Bg2.kept kc9 (by simp)
      clear kc9
      have f50 := f49.as (i := 41) (v' := .bool false) rfl (by rw [decide_eq_false hxy])
      clear f49
      refine L.val f50 wantedN rfl (by decide) (E.not f50 rfl) fun a51 f51 => ?_
      clear f50 a49
      refine L.val f51 wantedN rfl (by decide) (E.move f51 rfl) fun a52 f52 => ?_
      clear f51 a51
      refine L.skip f52 (f52.noF rfl rfl) rfl (by decide) fun a53 f53 => ?_
      clear f52 a52
      refine L.skip f53 (f53.noF rfl rfl) rfl (by decide) fun a54 f54 => ?_
      clear f53 a53
      refine L.skip f54 (f54.noF rfl rfl) rfl (by decide) fun a55 f55 => ?_
      clear f54 a54
      refine L.skip f55 (f55.noF rfl rfl) rfl (by decide) fun a56 f56 => ?_
      clear f55 a55
      refine L.val f56 wantedN rfl (by decide) (E.pickT f56 rfl rfl) fun a57 f57 => ?_
      clear f56 a56
      refine L.val f57 wantedN rfl (by decide) (E.move f57 rfl) fun a58 f58 => ?_
      clear f57 a57
      refine L.skip f58 (f58.noF rfl rfl) rfl (by decide) fun a59 f59 => ?_
      clear f58 a58
      refine L.skip f59 (f59.noF rfl rfl) rfl (by decide) fun a60 f60 => ?_
      clear f59 a59
      refine L.skip f60 (f60.noF rfl rfl) rfl (by decide) fun a61 f61 => ?_
      clear f60 a60
      refine L.val f61 wantedN rfl (by decide) (E.pickT f61 rfl rfl) fun a62 f62 => ?_
      clear f61 a61
      refine L.val f62 wantedN rfl (by decide) (E.assign f62 rfl) fun a63 f63 => ?_
      clear f62 a62
      refine wpList_nil (hK7 _ _ ?_)
      try clear hK7 K7
      have f64 := f63.sub (sub_cons (i := 6) rfl sub_nil)
      clear f63
      refine wp_ret ?_
      try simp only [Exit.inBlock, Exit.then]
      refine C.ret (P := Try.prog) (fn := Try.f7) f64 rfl rfl ?_
      exact ⟨rfl, HK.below0⟩

set_option maxRecDepth 100000 in
set_option maxHeartbeats 1000000 in
theorem addl_any (l1 : List Int) (n k : Int) (B1 : Option Addr) (c1 : Nat) (w : World) (U1 : Us w B1 l1) (b1 : ∀ x ∈ l1, 0 ≤ x ∧ x ≤ 65535) (m1 : l1.length ≤ maxLen) (hn : 0 ≤ n ∧ n ≤ 65535) (hk : 0 ≤ k ∧ k ≤ 255) : Calls Try.prog 4 #[.slice B1 l1.length c1, .int .u16 n, .int .u8 k] w (fun e w' => e = .returned (.bool true) ∧ Below w.heap.size w w') := by
  have HK : Kept [] w w := Kept.refl [] w
  unfold maxLen at m1
  refine C.enter Try.func4 rfl Try.ntmps4 rfl ?_
  intro a0 f0
  have f1 : Fr 82 a0 [(0, .slice B1 l1.length c1), (1, .int .u16 n), (2, .int .u8 k)] := f0
  clear f0
  refine wp_seq_k fun K0 hK0 => ?_
  refine C.region ?_
  refine L.val f1 wantedN rfl (by decide) (E.assign f1 rfl) fun a2 f2 => ?_
  clear f1 a0
  refine wpList_nil (hK0 _ _ ?_)
  try clear hK0 K0
  have f3 := f2.sub (sub_cons (i := 0) rfl (sub_cons (i := 1) rfl (sub_cons (i := 2) rfl (sub_cons (i := 6) rfl sub_nil))))
  clear f2
  refine wp_seq_k fun K1 hK1 => ?_
  refine wp_seq_k fun K2 hK2 => ?_
  refine C.region ?_
  refine L.call f3 wantedN rfl (by decide) (run_call Try.call11 (args0 f3)) (known_any _) ?_
  rintro e w1 ⟨kc1, rfl⟩
  refine ⟨_, rfl, fun a4 f4 => ?_⟩
  clear f3 a2
  have szw1 := kc1.size
  replace HK := HK.trans kc1 (by simp)
  clear kc1
  refine L.val f4 wantedN rfl (by decide) (E.not f4 rfl) fun a5 f5 => ?_
  clear f4 a4
  refine wpList_nil (hK2 _ _ ?_)
  try clear hK2 K2
  have f6 := f5.sub (sub_cons (i := 0) rfl (sub_cons (i := 1) rfl (sub_cons (i := 2) rfl (sub_cons (i := 6) rfl (sub_cons (i := 12) rfl sub_nil)))))
  clear f5
  refine C.condF f6 rfl ?_
  refine wp_skip (hK1 _ _ ?_)
  try clear hK1 K1
  have f7 := f6.sub (sub_cons (i := 0) rfl (sub_cons (i := 1) rfl (sub_cons (i := 2) rfl (sub_cons (i := 6) rfl sub_nil))))
  clear f6
  refine wp_seq_k fun K3 hK3 => ?_
  refine wp_seq_k fun K4 hK4 => ?_
  refine C.region ?_
  refine L.val f7 wantedN rfl (by decide) (E.move f7 rfl) fun a8 f8 => ?_
  clear f7 a5
  refine L.val f8 wantedN rfl (by decide) (E.lenL f8 Try.underlying22 rfl) fun a9 f9 => ?_
  clear f8 a8
  refine L.val f9 wantedN rfl (by decide) (E.gtr f9 rfl rfl) fun a10 f10 => ?_
  clear f9 a9
  refine wpList_nil (hK4 _ _ ?_)
  try clear hK4 K4
  have f11 := f10.sub (sub_cons (i := 0) rfl (sub_cons (i := 1) rfl (sub_cons (i := 2) rfl (sub_cons (i := 6) rfl (sub_cons (i := 15) rfl sub_nil)))))
  clear f10
  first | refine f11.splitD 15 rfl (fun h0 f12 => ?_) (fun h0 f12 => ?_) | refine f11.splitN 15 rfl (fun h0 f12 => ?_) (fun h0 f12 => ?_) | refine f11.splitNB 15 rfl (fun h0 f12 => ?_) (fun h0 f12 => ?_) | refine f11.split 15 rfl (fun h0 f12 => ?_) (fun h0 f12 => ?_)
  · clear f11
    refine C.condT f12 rfl ?_
    refine wp_seq_k fun K5 hK5 => ?_
    refine C.region ?_
    refine L.val f12 wantedN rfl (by decide) (E.assign f12 rfl) fun a13 f13 => ?_
    clear f12 a10
    refine wpList_nil (hK5 _ _ ?_)
    try clear hK5 K5
    have f14 := f13.sub (sub_cons (i := 0) rfl (sub_cons (i := 1) rfl (sub_cons (i := 2) rfl (sub_cons (i := 6) rfl sub_nil))))
    clear f13
    refine wp_ret ?_
    try simp only [Exit.inBlock, Exit.then]
    refine C.ret (P := Try.prog) (fn := Try.f4) f14 rfl rfl ?_
    exact ⟨rfl, HK.below0⟩
  · clear f11
    refine C.condF f12 rfl ?_
    refine wp_skip (hK3 _ _ ?_)
    try clear hK3 K3
    have f13 := f12.sub (sub_cons (i := 0) rfl (sub_cons (i := 1) rfl (sub_cons (i := 2) rfl (sub_cons (i := 6) rfl sub_nil))))
    clear f12
    refine wp_seq_k fun K6 hK6 => ?_
    refine C.region ?_
    refine L.val f13 wantedN rfl (by decide) (E.move f13 rfl) fun a14 f14 => ?_
    clear f13 a10
    refine L.call f14 wantedN rfl (by decide) (run_call Try.call12 (args1 f14 rfl)) (of_any l1 _ _ _ (U1.kept HK) (by omega) b1) ?_
    rintro e w2 ⟨kc2, AFA, cFA, rfl, FA⟩
    refine ⟨_, rfl, fun a15 f15 => ?_⟩
    clear f14 a14
    have szw2 := kc2.size
    replace HK := HK.trans kc2 (by simp)
    clear kc2
    refine L.val f15 wantedN rfl (by decide) (E.assign f15 rfl) fun a16 f16 => ?_
    clear f15 a15
    refine wpList_nil (hK6 _ _ ?_)
    try clear hK6 K6
    have f17 := f16.sub (sub_cons (i := 1) rfl (sub_cons (i := 2) rfl (sub_cons (i := 6) rfl (sub_cons (i := 7) rfl sub_nil))))
    clear f16
    refine wp_seq_k fun K7 hK7 => ?_
    have g1 := ofL_len l1
    have r1 := ofL_right l1
    have hmy : mayB (⟨n % 16, n / 16 % 5 + 1, k % 12 + 1⟩ : Dt) = true := by simp [mayB]; omega
    have gx := add_len (ofL l1) (⟨n % 16, n / 16 % 5 + 1, k % 12 + 1⟩ : Dt)
    have rx := dAddRight r1 (⟨n % 16, n / 16 % 5 + 1, k % 12 + 1⟩ : Dt)
    have hFb : ∀ b, AFA.map (·.block) = some b → b < w2.heap.size := fun b hb => (FA.own.blk b ((own_block _ _ _ b).2 hb)).1
    refine C.region ?_
    refine L.val f17 wantedN rfl (by decide) (E.move f17 rfl) fun a18 f18 => ?_
    clear f17 a16
    refine L.val f18 wantedN rfl (by decide) (E.rem f18 rfl rfl (by omega) (Int.tmod_eq_emod_of_nonneg (by omega))) fun a19 f19 => ?_
    clear f18 a18
    refine L.val f19 wantedN rfl (by decide) (E.conv f19 Try.underlying30 Try.underlying3 rfl (IntWalk.i64_in _ (by omega))) fun a20 f20 => ?_
    clear f19 a19
    refine L.val f20 wantedN rfl (by decide) (E.move f20 rfl) fun a21 f21 => ?_
    clear f20 a20
    refine L.val f21 wantedN rfl (by decide) (E.quo f21 rfl rfl (by omega) (u16_quo _ _ ⟨by omega, by omega, by omega⟩)) fun a22 f22 => ?_
    clear f21 a21
    refine L.val f22 wantedN rfl (by decide) (E.rem f22 rfl rfl (by omega) (Int.tmod_eq_emod_of_nonneg (by omega))) fun a23 f23 => ?_
    clear f22 a22
    refine L.val f23 wantedN rfl (by decide) (E.conv f23 Try.underlying30 Try.underlying3 rfl (IntWalk.i64_in _ (by omega))) fun a24 f24 => ?_
    clear f23 a23
    refine L.val f24 wantedN rfl (by decide) (E.add f24 rfl rfl (IntWalk.i64_in _ (by omega))) fun a25 f25 => ?_
    clear f24 a24
    refine L.val f25 wantedN rfl (by decide) (E.move f25 rfl) fun a26 f26 => ?_
    clear f25 a25
    refine L.val f26 wantedN rfl (by decide) (E.rem f26 rfl rfl (by omega) (Int.tmod_eq_emod_of_nonneg (by omega))) fun a27 f27 => ?_
    clear f26 a26
    refine L.val f27 wantedN rfl (by decide) (E.conv f27 Try.underlying5 Try.underlying3 rfl (IntWalk.i64_in _ (by omega))) fun a28 f28 => ?_
    clear f27 a27
    refine L.val f28 wantedN rfl (by decide) (E.add f28 rfl rfl (IntWalk.i64_in _ (by omega))) fun a29 f29 => ?_
    clear f28 a28
    refine L.val f29 wantedN rfl (by decide) (E.build f29 (parts3 f29 rfl rfl rfl) (wbl32_0_1_2_g9 _ _ _)) fun a30 f30 => ?_
    clear f29 a29
    refine L.alloc f30 wantedN (by decide) (z := (.agg #[(.int .i64 0), (.int .i64 0), (.int .i64 0)])) (fun _ => by kernel_rfl) rfl fun a31 w3 g2 N2 f31 => ?_
    have Bg2 := N2.blk
    have kg2 := N2.kept
    have log2 := N2.lo
    have ltg2 := Bg2.lt
    have szw3 := kg2.size
    have frg2 : w.heap.size ≤ g2 := Nat.le_trans HK.size log2
    replace HK := HK.trans kg2 (by simp)
    replace FA := FA.kept0 kg2
    clear N2 kg2
    clear f30 a30
    refine L.storeR f31 wantedN wsz32_g9 rfl rfl rfl Bg2 rfl rfl fun a32 w4 f32 NB4 ks4 => ?_
    have szw4 := ks4.size
    replace HK := HK.trans ks4 (by intro x hx hlt; simp at hx; subst hx; first | (exfalso; omega) | simp)
    replace FA := FA.kept ks4 (fun b hb hx => by have := hFb b hb; simp at hx; omega)
    replace Bg2 := NB4
    clear ks4 f31 a31
    refine wpList_nil (hK7 _ _ ?_)
    try clear hK7 K7
    have f33 := f32.sub (sub_cons (i := 6) rfl (sub_cons (i := 7) rfl (sub_cons (i := 8) rfl sub_nil)))
    clear f32
    refine wp_seq_k fun K8 hK8 => ?_
    refine C.region ?_
    refine L.val f33 wantedN rfl (by decide) (E.move f33 rfl) fun a34 f34 => ?_
    clear f33 a32
    refine L.val f34 wantedN rfl (by decide) (by exact E.loadB f34 Try.underlying32 rfl wsz32_g9 rfl (Bg2) rfl) fun a35 f35 => ?_
    clear f34 a34
    refine L.call f35 wantedN rfl (by decide) (run_call Try.call17 (args2 f35 rfl rfl)) (Add_any (ofL l1) _ _ (⟨n % 16, n / 16 % 5 + 1, k % 12 + 1⟩ : Dt) _ FA.sl (by omega)) ?_
    rintro e w5 ⟨kc5, AX, cX, rfl, FX⟩
    refine ⟨_, rfl, fun a36 f36 => ?_⟩
    clear f35 a35
    have szw5 := kc5.size
    replace HK := HK.trans kc5 (by simp)
    replace FA := FA.kept0 kc5
    replace Bg2 := Bg2.kept kc5 (by simp)
    clear kc5
    refine L.val f36 wantedN rfl (by decide) (E.assign f36 rfl) fun a37 f37 => ?_
    clear f36 a36
    refine wpList_nil (hK8 _ _ ?_)
    try clear hK8 K8
    have f38 := f37.sub (sub_cons (i := 6) rfl (sub_cons (i := 7) rfl (sub_cons (i := 8) rfl (sub_cons (i := 9) rfl sub_nil))))
    clear f37
    refine wp_seq_k fun K9 hK9 => ?_
    refine wp_seq_k fun K10 hK10 => ?_
    refine C.region ?_
    refine L.val f38 wantedN rfl (by decide) (E.assign f38 rfl) fun a39 f39 => ?_
    clear f38 a37
    refine wpList_nil (hK10 _ _ ?_)
    try clear hK10 K10
    have f40 := f39.sub (sub_cons (i := 6) rfl (sub_cons (i := 7) rfl (sub_cons (i := 8) rfl (sub_cons (i := 9) rfl (sub_cons (i := 10) rfl sub_nil)))))
    clear f39
    refine wp_block ?_
    refine C.loop (fun gk a W => ∃ i : Nat, i + gk = (k % 12 + 1).toNat ∧ Fresh w W 32 3 AFA (ofL l1).length cFA (dcells (ofL l1)) ∧ Fresh w W 32 3 AX (addD (ofL l1) (⟨n % 16, n / 16 % 5 + 1, k % 12 + 1⟩ : Dt)).length cX (dcells (addD (ofL l1) (⟨n % 16, n / 16 % 5 + 1, k % 12 + 1⟩ : Dt))) ∧ Blk W g2 32 (dcell (⟨n % 16, n / 16 % 5 + 1, k % 12 + 1⟩ : Dt)).toArray ∧ Kept [] w W ∧ Fr 82 a [(7, .slice AFA (ofL l1).length cFA), (8, .pointer (some ⟨g2, 0, none⟩)), (9, .slice AX (addD (ofL l1) (⟨n % 16, n / 16 % 5 + 1, k % 12 + 1⟩ : Dt)).length cX), (10, .int .i64 ((i : Int) + 1))]) ((k % 12 + 1).toNat) ?_ ?_
    · exact ⟨0, by omega, FA.lower (by omega), FX.lower (by omega), Bg2, HK, f40.sub (sub_cons rfl (sub_cons rfl (sub_cons rfl (sub_cons rfl sub_nil))))⟩
    · intro gk12 a41 w6 hI KL11 hKL11
      obtain ⟨i, hi, FA, FX, BD, HK, f41⟩ := hI
      try clear f40
      have szw1x := HK.size
      refine wp_seq_k fun K12 hK12 => ?_
      refine wp_seq_k fun K13 hK13 => ?_
      refine C.region ?_
      refine L.val f41 wantedN rfl (by decide) (E.move f41 rfl) fun a42 f42 => ?_
      clear f41 a41
      refine L.val f42 wantedN rfl (by decide) (E.fieldAddr f42 Try.underlying32 rfl rfl wsz3_g9) fun a43 f43 => ?_
      clear f42 a42
      refine L.val f43 wantedN rfl (by decide) (by exact E.load f43 Try.underlying3 rfl rfl ((BD).cl rfl)) fun a44 f44 => ?_
      clear f43 a43
      refine L.val f44 wantedN rfl (by decide) (E.leq f44 rfl rfl) fun a45 f45 => ?_
      clear f44 a44
      refine wpList_nil (hK13 _ _ ?_)
      try clear hK13 K13
      have f46 := f45.sub (sub_cons (i := 7) rfl (sub_cons (i := 8) rfl (sub_cons (i := 9) rfl (sub_cons (i := 10) rfl (sub_cons (i := 34) rfl (sub_cons (i := 35) rfl (sub_cons (i := 36) rfl (sub_cons (i := 37) rfl sub_nil))))))))
      clear f45
      first | refine f46.splitD 37 rfl (fun h1 f47 => ?_) (fun h1 f47 => ?_) | refine f46.splitN 37 rfl (fun h1 f47 => ?_) (fun h1 f47 => ?_) | refine f46.splitNB 37 rfl (fun h1 f47 => ?_) (fun h1 f47 => ?_) | refine f46.split 37 rfl (fun h1 f47 => ?_) (fun h1 f47 => ?_)
      · clear f46
        have hik : (i : Int) + 1 ≤ k % 12 + 1 := h1
        refine C.condT f47 rfl ?_
        refine wp_skip (hK12 _ _ ?_)
        try clear hK12 K12
        have f48 := f47.sub (sub_cons (i := 7) rfl (sub_cons (i := 8) rfl (sub_cons (i := 9) rfl (sub_cons (i := 10) rfl (sub_cons (i := 34) rfl (sub_cons (i := 35) rfl (sub_cons (i := 36) rfl (sub_cons (i := 37) rfl sub_nil))))))))
        clear f47
        refine wp_seq_k fun K14 hK14 => ?_
        refine wp_block ?_
        refine wp_seq_k fun K15 hK15 => ?_
        refine C.region ?_
        refine L.val f48 wantedN rfl (by decide) (E.move f48 rfl) fun a49 f49 => ?_
        clear f48 a45
        refine L.val f49 wantedN rfl (by decide) (E.fieldAddr f49 Try.underlying32 rfl rfl wsz3_g9) fun a50 f50 => ?_
        clear f49 a49
        refine L.val f50 wantedN rfl (by decide) (by exact E.load f50 Try.underlying3 rfl rfl ((BD).cl rfl)) fun a51 f51 => ?_
        clear f50 a50
        refine L.val f51 wantedN rfl (by decide) (E.fieldAddr f51 Try.underlying32 rfl rfl wsz3_g9) fun a52 f52 => ?_
        clear f51 a51
        refine L.val f52 wantedN rfl (by decide) (by exact E.load f52 Try.underlying3 rfl rfl ((BD).cl rfl)) fun a53 f53 => ?_
        clear f52 a52
        refine L.val f53 wantedN rfl (by decide) (E.move f53 rfl) fun a54 f54 => ?_
        clear f53 a53
        refine L.val f54 wantedN rfl (by decide) (E.build f54 (parts3 f54 rfl rfl rfl) (wbl32_0_1_2_g9 _ _ _)) fun a55 f55 => ?_
        clear f54 a54
        refine L.call f55 wantedN rfl (by decide) (run_call Try.call18 (args2 f55 rfl rfl)) (Has_any (addD (ofL l1) (⟨n % 16, n / 16 % 5 + 1, k % 12 + 1⟩ : Dt)) _ _ ⟨n % 16, n / 16 % 5 + 1, (i : Int) + 1⟩ _ FX.sl (by omega)) ?_
        rintro e w7 ⟨kc7, rfl⟩
        refine ⟨_, rfl, fun a56 f56 => ?_⟩
        clear f55 a55
        have szw7 := kc7.size
        replace HK := HK.trans kc7 (by simp)
        replace FA := FA.kept0 kc7
        replace FX := FX.kept0 kc7
        replace BD := BD.kept kc7 (by simp)
        clear kc7
        have f57 := f56.as (i := 47) (v' := .bool true) rfl (by rw [has_add r1 hmy (by omega) (by show (i : Int) + 1 ≤ k % 12 + 1; omega)])
        clear f56
        refine L.val f57 wantedN rfl (by decide) (E.not f57 rfl) fun a58 f58 => ?_
        clear f57 a56
        refine wpList_nil (hK15 _ _ ?_)
        try clear hK15 K15
        have f59 := f58.sub (sub_cons (i := 7) rfl (sub_cons (i := 8) rfl (sub_cons (i := 9) rfl (sub_cons (i := 10) rfl (sub_cons (i := 34) rfl (sub_cons (i := 35) rfl (sub_cons (i := 36) rfl (sub_cons (i := 37) rfl (sub_cons (i := 40) rfl (sub_cons (i := 41) rfl (sub_cons (i := 42) rfl (sub_cons (i := 43) rfl (sub_cons (i := 44) rfl (sub_cons (i := 45) rfl (sub_cons (i := 46) rfl (sub_cons (i := 47) rfl (sub_cons (i := 48) rfl sub_nil)))))))))))))))))
        clear f58
        refine C.condF f59 rfl ?_
        refine wp_skip (hK14 _ _ ?_)
        try clear hK14 K14
        have f60 := f59.sub (sub_cons (i := 7) rfl (sub_cons (i := 8) rfl (sub_cons (i := 9) rfl (sub_cons (i := 10) rfl (sub_cons (i := 34) rfl (sub_cons (i := 35) rfl (sub_cons (i := 36) rfl (sub_cons (i := 37) rfl (sub_cons (i := 40) rfl (sub_cons (i := 41) rfl (sub_cons (i := 42) rfl (sub_cons (i := 43) rfl (sub_cons (i := 44) rfl (sub_cons (i := 45) rfl (sub_cons (i := 46) rfl (sub_cons (i := 47) rfl (sub_cons (i := 48) rfl sub_nil)))))))))))))))))
        clear f59
        refine C.region ?_
        refine L.val f60 wantedN rfl (by decide) (E.move f60 rfl) fun a61 f61 => ?_
        clear f60 a58
        refine L.val f61 wantedN rfl (by decide) (E.add f61 rfl rfl (IntWalk.i64_in _ (by omega))) fun a62 f62 => ?_
        clear f61 a61
        refine L.val f62 wantedN rfl (by decide) (E.assign f62 rfl) fun a63 f63 => ?_
        clear f62 a62
        refine wpList_nil (hKL11 _ _ (gk12 - 1) ?_ ?_)
        · omega
        · exact ⟨i + 1, by omega, FA, FX, BD, HK, f63.sub (sub_cons rfl (sub_cons rfl (sub_cons rfl (sub_cons rfl sub_nil))))⟩
      · clear f46
        refine C.condF f47 rfl ?_
        refine wp_exit (hK9 _ _ ?_)
        try clear hK9 K9
        have f48 := f47.sub (sub_cons (i := 7) rfl (sub_cons (i := 8) rfl (sub_cons (i := 9) rfl sub_nil)))
        clear f47
        refine wp_seq_k fun K16 hK16 => ?_
        refine R.begin (S := fun W => Kept [] w6 W) (by kernel_rfl) (by exact (Kept.refl _ _).drewN 1) ?_
        have hS13 : Kept [] w6 (w6.drewN 1) := (Kept.refl _ _).drewN 1
        have hd13 : Kept [] w6 (w6.drewN 1) := (Kept.refl _ _).drewN 1
        obtain ⟨w7, hww7⟩ : ∃ W, W = w6.drewN 1 := ⟨_, rfl⟩
        rw [← hww7] at hS13 hd13 ⊢
        clear hww7
        have szw7 := hS13.size
        refine R.take 0 f48 rfl rfl (by decide) (by kernel_rfl) (by kernel_rfl) (by kernel_rfl) (fun _ _ _ _ h => h) wantedN hS13 (fun W hW => (E.move f48 rfl)) fun a49 f49 => ?_
        clear f48 a45
        refine R.call 1 f49 rfl rfl (by decide) (by kernel_rfl) wantedN (run_call Try.call16 (args1 f49 rfl)) (right_any (addD (ofL l1) (⟨n % 16, n / 16 % 5 + 1, k % 12 + 1⟩ : Dt)) _ _ _ (FX.kept0 hS13).sl (by unfold maxLen; omega)) ?_
        rintro e w8 ⟨kc8, rfl⟩
        replace hS13 := hS13.trans kc8 (by simp)
        refine ⟨_, rfl, hS13, fun a50 f50 => ?_⟩
        clear f49 a49
        have szw8 := kc8.size
        clear kc8
        have f51 := f50.as (i := 50) (v' := .bool true) rfl (by rw [rx])
        clear f50
        refine R.take 2 f51 rfl rfl (by decide) (by kernel_rfl) (by kernel_rfl) (by kernel_rfl) (fun _ _ _ _ h => h) wantedN hS13 (fun W hW => (E.move f51 rfl)) fun a52 f52 => ?_
        clear f51 a50
        refine R.take 3 f52 rfl rfl (by decide) (by kernel_rfl) (by kernel_rfl) (by kernel_rfl) (fun _ _ _ _ h => h) (f52.yes rfl rfl) hS13 (fun W hW => (E.move f52 rfl)) fun a53 f53 => ?_
        clear f52 a52
        refine R.take 4 f53 rfl rfl (by decide) (by kernel_rfl) (by kernel_rfl) (by kernel_rfl) (fun _ _ _ _ h => h) (f53.yes rfl rfl) hS13 (fun W hW => (E.move f53 rfl)) fun a54 f54 => ?_
        clear f53 a53
        refine R.call 5 f54 rfl rfl (by decide) (by kernel_rfl) (f54.yes rfl rfl) (run_call Try.call15 (args2 f54 rfl rfl)) (Within_any (ofL l1) (addD (ofL l1) (⟨n % 16, n / 16 % 5 + 1, k % 12 + 1⟩ : Dt)) _ _ _ _ _ (FA.kept0 hS13).sl (FX.kept0 hS13).sl (by omega) (by omega)) ?_
        rintro e w9 ⟨kc9, rfl⟩
        replace hS13 := hS13.trans kc9 (by simp)
        refine ⟨_, rfl, hS13, fun a55 f55 => ?_⟩
        clear f54 a54
        have szw9 := kc9.size
        clear kc9
        have f56 := f55.as (i := 54) (v' := .bool true) rfl (by rw [within_add r1 hmy])
        clear f55
        refine R.take 6 f56 rfl rfl (by decide) (by kernel_rfl) (by kernel_rfl) (by kernel_rfl) (fun _ _ _ _ h => h) wantedN hS13 (fun W hW => (E.pickT f56 rfl rfl)) fun a57 f57 => ?_
        clear f56 a55
        refine R.take 7 f57 rfl rfl (by decide) (by kernel_rfl) (by kernel_rfl) (by kernel_rfl) (fun _ _ _ _ h => h) wantedN hS13 (fun W hW => (E.move f57 rfl)) fun a58 f58 => ?_
        clear f57 a57
        refine R.take 8 f58 rfl rfl (by decide) (by kernel_rfl) (by kernel_rfl) (by kernel_rfl) (fun _ _ _ _ h => h) (f58.yes rfl rfl) hS13 (fun W hW => (E.move f58 rfl)) fun a59 f59 => ?_
        clear f58 a58
        refine R.take 9 f59 rfl rfl (by decide) (by kernel_rfl) (by kernel_rfl) (by kernel_rfl) (fun _ _ _ _ h => h) (f59.yes rfl rfl) hS13 (fun W hW => (E.fieldAddr f59 Try.underlying32 rfl rfl wsz3_g9)) fun a60 f60 => ?_
        clear f59 a59
        refine R.take 10 f60 rfl rfl (by decide) (by kernel_rfl) (by kernel_rfl) (by kernel_rfl) (fun _ _ _ _ h => h) (f60.yes rfl rfl) hS13 (fun W hW => (by exact E.load f60 Try.underlying3 rfl rfl ((BD.kept hW (by simp)).cl rfl))) fun a61 f61 => ?_
        clear f60 a60
        refine R.take 11 f61 rfl rfl (by decide) (by kernel_rfl) (by kernel_rfl) (by kernel_rfl) (fun _ _ _ _ h => h) (f61.yes rfl rfl) hS13 (fun W hW => (E.fieldAddr f61 Try.underlying32 rfl rfl wsz3_g9)) fun a62 f62 => ?_
        clear f61 a61
        refine R.take 12 f62 rfl rfl (by decide) (by kernel_rfl) (by kernel_rfl) (by kernel_rfl) (fun _ _ _ _ h => h) (f62.yes rfl rfl) hS13 (fun W hW => (by exact E.load f62 Try.underlying3 rfl rfl ((BD.kept hW (by simp)).cl rfl))) fun a63 f63 => ?_
        clear f62 a62
        refine R.take 14 f63 rfl rfl (by decide) (by kernel_rfl) (by kernel_rfl) (by kernel_rfl) (fun _ _ _ _ h => h) (f63.yes rfl rfl) hS13 (fun W hW => (E.fieldAddr f63 Try.underlying32 rfl rfl wsz3_g9)) fun a64 f64 => ?_
        clear f63 a63
        refine R.take 15 f64 rfl rfl (by decide) (by kernel_rfl) (by kernel_rfl) (by kernel_rfl) (fun _ _ _ _ h => h) (f64.yes rfl rfl) hS13 (fun W hW => (by exact E.load f64 Try.underlying3 rfl rfl ((BD.kept hW (by simp)).cl rfl))) fun a65 f65 => ?_
        clear f64 a64
        refine R.take 16 f65 rfl rfl (by decide) (by kernel_rfl) (by kernel_rfl) (by kernel_rfl) (fun _ _ _ _ h => h) (f65.yes rfl rfl) hS13 (fun W hW => (E.move f65 rfl)) fun a66 f66 => ?_
        clear f65 a65
        refine R.take 17 f66 rfl rfl (by decide) (by kernel_rfl) (by kernel_rfl) (by kernel_rfl) (fun _ _ _ _ h => h) (f66.yes rfl rfl) hS13 (fun W hW => (E.fieldAddr f66 Try.underlying32 rfl rfl wsz3_g9)) fun a67 f67 => ?_
        clear f66 a66
        refine R.take 18 f67 rfl rfl (by decide) (by kernel_rfl) (by kernel_rfl) (by kernel_rfl) (fun _ _ _ _ h => h) (f67.yes rfl rfl) hS13 (fun W hW => (by exact E.load f67 Try.underlying3 rfl rfl ((BD.kept hW (by simp)).cl rfl))) fun a68 f68 => ?_
        clear f67 a67
        refine R.take 19 f68 rfl rfl (by decide) (by kernel_rfl) (by kernel_rfl) (by kernel_rfl) (fun _ _ _ _ h => h) (f68.yes rfl rfl) hS13 (fun W hW => (E.fieldAddr f68 Try.underlying32 rfl rfl wsz3_g9)) fun a69 f69 => ?_
        clear f68 a68
        refine R.take 20 f69 rfl rfl (by decide) (by kernel_rfl) (by kernel_rfl) (by kernel_rfl) (fun _ _ _ _ h => h) (f69.yes rfl rfl) hS13 (fun W hW => (by exact E.load f69 Try.underlying3 rfl rfl ((BD.kept hW (by simp)).cl rfl))) fun a70 f70 => ?_
        clear f69 a69
        refine R.call 13 f70 rfl rfl (by decide) (by kernel_rfl) (f70.yes rfl rfl) (run_call Try.call19 (args3 f70 rfl rfl rfl)) (Top_any (addD (ofL l1) (⟨n % 16, n / 16 % 5 + 1, k % 12 + 1⟩ : Dt)) _ _ (n % 16) (n / 16 % 5 + 1) _ (FX.kept0 hS13).sl (by omega)) ?_
        rintro e w10 ⟨kc10, rfl⟩
        replace hS13 := hS13.trans kc10 (by simp)
        refine ⟨_, rfl, hS13, fun a71 f71 => ?_⟩
        clear f70 a70
        have szw10 := kc10.size
        clear kc10
        refine R.call 21 f71 rfl rfl (by decide) (by kernel_rfl) (f71.yes rfl rfl) (run_call Try.call20 (args3 f71 rfl rfl rfl)) (TopR_any (ofL l1) _ _ (n % 16) (n / 16 % 5 + 1) _ (FA.kept0 hS13).sl (by omega)) ?_
        rintro e w11 ⟨kc11, rfl⟩
        replace hS13 := hS13.trans kc11 (by simp)
        refine ⟨_, rfl, hS13, fun a72 f72 => ?_⟩
        clear f71 a71
        have szw11 := kc11.size
        clear kc11
        refine R.take 22 f72 rfl rfl (by decide) (by kernel_rfl) (by kernel_rfl) (by kernel_rfl) (fun _ _ _ _ h => h) (f72.yes rfl rfl) hS13 (fun W hW => (E.max f72 rfl rfl)) fun a73 f73 => ?_
        clear f72 a72
        refine R.take 23 f73 rfl rfl (by decide) (by kernel_rfl) (by kernel_rfl) (by kernel_rfl) (fun _ _ _ _ h => h) (f73.yes rfl rfl) hS13 (fun W hW => (E.eql f73 rfl rfl)) fun a74 f74 => ?_
        clear f73 a73
        have f75 := f74.as (i := 72) (v' := .bool true) rfl (by rw [decide_eq_true (top_add r1 hmy)])
        clear f74
        refine R.take 24 f75 rfl rfl (by decide) (by kernel_rfl) (by kernel_rfl) (by kernel_rfl) (fun _ _ _ _ h => h) wantedN hS13 (fun W hW => (E.pickT f75 rfl rfl)) fun a76 f76 => ?_
        clear f75 a74
        refine R.take 25 f76 rfl rfl (by decide) (by kernel_rfl) (by kernel_rfl) (by kernel_rfl) (fun _ _ _ _ h => h) wantedN hS13 (fun W hW => (E.move f76 rfl)) fun a77 f77 => ?_
        clear f76 a76
        refine R.take 26 f77 rfl rfl (by decide) (by kernel_rfl) (by kernel_rfl) (by kernel_rfl) (fun _ _ _ _ h => h) (f77.yes rfl rfl) hS13 (fun W hW => (E.move f77 rfl)) fun a78 f78 => ?_
        clear f77 a77
        refine R.take 27 f78 rfl rfl (by decide) (by kernel_rfl) (by kernel_rfl) (by kernel_rfl) (fun _ _ _ _ h => h) (f78.yes rfl rfl) hS13 (fun W hW => (E.lenL f78 Try.underlying24 rfl)) fun a79 f79 => ?_
        clear f78 a78
        refine R.take 28 f79 rfl rfl (by decide) (by kernel_rfl) (by kernel_rfl) (by kernel_rfl) (fun _ _ _ _ h => h) (f79.yes rfl rfl) hS13 (fun W hW => (E.move f79 rfl)) fun a80 f80 => ?_
        clear f79 a79
        refine R.take 29 f80 rfl rfl (by decide) (by kernel_rfl) (by kernel_rfl) (by kernel_rfl) (fun _ _ _ _ h => h) (f80.yes rfl rfl) hS13 (fun W hW => (E.lenL f80 Try.underlying24 rfl)) fun a81 f81 => ?_
        clear f80 a80
        refine R.take 30 f81 rfl rfl (by decide) (by kernel_rfl) (by kernel_rfl) (by kernel_rfl) (fun _ _ _ _ h => h) (f81.yes rfl rfl) hS13 (fun W hW => (E.sub f81 rfl rfl (IntWalk.i64_in _ (by omega)))) fun a82 f82 => ?_
        clear f81 a81
        refine R.take 31 f82 rfl rfl (by decide) (by kernel_rfl) (by kernel_rfl) (by kernel_rfl) (fun _ _ _ _ h => h) (f82.yes rfl rfl) hS13 (fun W hW => (E.leq f82 rfl rfl)) fun a83 f83 => ?_
        clear f82 a82
        have f84 := f83.as (i := 80) (v' := .bool true) rfl (by rw [decide_eq_true (by omega)])
        clear f83
        refine R.take 32 f84 rfl rfl (by decide) (by kernel_rfl) (by kernel_rfl) (by kernel_rfl) (fun _ _ _ _ h => h) wantedN hS13 (fun W hW => (E.pickT f84 rfl rfl)) fun a85 f85 => ?_
        clear f84 a83
        refine R.take 33 f85 rfl rfl (by decide) (by kernel_rfl) (by kernel_rfl) (by kernel_rfl) (fun _ _ _ _ h => h) wantedN hS13 (fun W hW => (E.assign f85 rfl)) fun a86 f86 => ?_
        clear f85 a85
        have szw11r := hS13.size
        replace HK := HK.trans hS13 (by simp)
        replace FA := FA.kept0 hS13
        replace FX := FX.kept0 hS13
        replace BD := BD.kept hS13 (by simp)
        clear hS13
        refine R.done (by kernel_rfl) (hK16 _ _ ?_)
        try clear hK16 K16
        have f87 := f86.sub (sub_cons (i := 6) rfl sub_nil)
        clear f86
        refine wp_ret ?_
        try simp only [Exit.inBlock, Exit.then]
        refine C.ret (P := Try.prog) (fn := Try.f4) f87 rfl rfl ?_
        exact ⟨rfl, HK.below0⟩

end Go.Proofs.Ytahmlcjgcdajbaa
