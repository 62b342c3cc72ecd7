/- The walk of TopicWithin. -/
import Derived.Test.YtpdacegpjofdeaaDoorTv
set_option linter.all false
namespace Go.Proofs.YtpdacegpjofdeaaDoor
open Go.RowKit Go.Hub Go.Lib
theorem wzi9_tw : (Tryd.prog.info? 9).map (fun i => (i.zero, i.size)) = some (some (.string ⟨#[]⟩), 1) := by kernel_rfl
theorem wbs26_4_tw (x0 : ByteArray) (x1 : ByteArray) (x2 : ByteArray) (x3 : ByteArray) : Instr.fill (fun i => some (i * 1, 1)) ((Array.range (4 * 1)).map fun j => (Value.cells (.string ⟨#[]⟩))[j % (Value.cells (.string ⟨#[]⟩)).size]!) [(0, .string x0), (1, .string x1), (2, .string x2), (3, .string x3)] = some #[.string x0, .string x1, .string x2, .string x3] := by kernel_rfl
theorem wsz9_tw : (Tryd.prog.info? 9).map (·.size) = some 1 := by kernel_rfl

set_option maxRecDepth 100000 in
set_option maxHeartbeats 1000000 in
theorem within_walk (w : World) (G : Glob w) (us0 : List UInt8) (A0 : Option Addr) (c0 : Nat) (Z0 : Us w A0 us0) (us1 : List UInt8) (A1 : Option Addr) (c1 : Nat) (Z1 : Us w A1 us1) (us2 : List UInt8) (A2 : Option Addr) (c2 : Nat) (Z2 : Us w A2 us2) (k3 : Int) (l3 : 0 ≤ k3) (m3 : k3 < 256) (k4 : Int) (l4 : 0 ≤ k4) (m4 : k4 < 256) (k5 : Int) (l5 : 0 ≤ k5) (m5 : k5 < 256) : Calls Tryd.prog 4 #[.slice A0 us0.length c0, .slice A1 us1.length c1, .slice A2 us2.length c2, .int .u8 k3, .int .u8 k4, .int .u8 k5] w (fun e w' => Kept [] w w' ∧ e = .returned (.bool true)) := by
  have HK : Kept [] w w := Kept.refl [] w
  refine C.enter Tryd.func4 rfl Tryd.ntmps4 rfl ?_
  intro a0 f0
  have f1 : Fr 116 a0 [(0, .slice A0 us0.length c0), (1, .slice A1 us1.length c1), (2, .slice A2 us2.length c2), (3, .int .u8 k3), (4, .int .u8 k4), (5, .int .u8 k5)] := f0
  clear f0
  refine wp_seq_k fun K0 hK0 => ?_
  refine C.region ?_
  refine L.val f1 wantedN rfl (by decide) (E.assign f1 rfl) fun a2 f2 => ?_
  clear f1 a0
  refine wpList_nil (hK0 _ _ ?_)
  try clear hK0 K0
  have f3 := f2.sub (sub_cons (i := 0) rfl (sub_cons (i := 1) rfl (sub_cons (i := 2) rfl (sub_cons (i := 3) rfl (sub_cons (i := 4) rfl (sub_cons (i := 5) rfl (sub_cons (i := 12) rfl sub_nil)))))))
  clear f2
  refine wp_seq_k fun K1 hK1 => ?_
  refine wp_seq_k fun K2 hK2 => ?_
  refine C.region ?_
  refine L.call f3 wantedN rfl (by decide) (run_call Tryd.call8 (args0 f3)) (known_any w (G.kept HK)) ?_
  rintro e w1 ⟨kc1, rfl⟩
  refine ⟨_, rfl, fun a4 f4 => ?_⟩
  clear f3 a2
  have szw1 := kc1.size
  replace HK := HK.trans kc1 (by simp)
  clear kc1
  refine L.val f4 wantedN rfl (by decide) (E.not f4 rfl) fun a5 f5 => ?_
  clear f4 a4
  refine wpList_nil (hK2 _ _ ?_)
  try clear hK2 K2
  have f6 := f5.sub (sub_cons (i := 0) rfl (sub_cons (i := 1) rfl (sub_cons (i := 2) rfl (sub_cons (i := 3) rfl (sub_cons (i := 4) rfl (sub_cons (i := 5) rfl (sub_cons (i := 12) rfl (sub_cons (i := 19) rfl sub_nil))))))))
  clear f5
  refine C.condF f6 rfl ?_
  refine wp_skip (hK1 _ _ ?_)
  try clear hK1 K1
  have f7 := f6.sub (sub_cons (i := 0) rfl (sub_cons (i := 1) rfl (sub_cons (i := 2) rfl (sub_cons (i := 3) rfl (sub_cons (i := 4) rfl (sub_cons (i := 5) rfl (sub_cons (i := 12) rfl sub_nil)))))))
  clear f6
  refine wp_seq_k fun K3 hK3 => ?_
  refine wp_seq_k fun K4 hK4 => ?_
  refine C.region ?_
  refine L.val f7 wantedN rfl (by decide) (E.move f7 rfl) fun a8 f8 => ?_
  clear f7 a5
  refine L.val f8 wantedN rfl (by decide) (E.lenL f8 Tryd.underlying22 rfl) fun a9 f9 => ?_
  clear f8 a8
  refine L.val f9 wantedN rfl (by decide) (E.gtr f9 rfl rfl) fun a10 f10 => ?_
  clear f9 a9
  refine L.val f10 wantedN rfl (by decide) (E.move f10 rfl) fun a11 f11 => ?_
  clear f10 a10
  first | refine f11.splitD 23 rfl (fun h0 f12 => ?_) (fun h0 f12 => ?_) | refine f11.splitN 23 rfl (fun h0 f12 => ?_) (fun h0 f12 => ?_) | refine f11.splitNB 23 rfl (fun h0 f12 => ?_) (fun h0 f12 => ?_) | refine f11.split 23 rfl (fun h0 f12 => ?_) (fun h0 f12 => ?_)
  · clear f11
    refine L.skip f12 (f12.noF rfl rfl) rfl (by decide) fun a13 f13 => ?_
    clear f12 a11
    refine L.skip f13 (f13.noF rfl rfl) rfl (by decide) fun a14 f14 => ?_
    clear f13 a13
    refine L.skip f14 (f14.noF rfl rfl) rfl (by decide) fun a15 f15 => ?_
    clear f14 a14
    refine L.val f15 wantedN rfl (by decide) (E.pickT f15 rfl rfl) fun a16 f16 => ?_
    clear f15 a15
    refine L.val f16 wantedN rfl (by decide) (E.move f16 rfl) fun a17 f17 => ?_
    clear f16 a16
    refine L.skip f17 (f17.noF rfl rfl) rfl (by decide) fun a18 f18 => ?_
    clear f17 a17
    refine L.skip f18 (f18.noF rfl rfl) rfl (by decide) fun a19 f19 => ?_
    clear f18 a18
    refine L.skip f19 (f19.noF rfl rfl) rfl (by decide) fun a20 f20 => ?_
    clear f19 a19
    refine L.val f20 wantedN rfl (by decide) (E.pickT f20 rfl rfl) fun a21 f21 => ?_
    clear f20 a20
    refine wpList_nil (hK4 _ _ ?_)
    try clear hK4 K4
    have f22 := f21.sub (sub_cons (i := 0) rfl (sub_cons (i := 1) rfl (sub_cons (i := 2) rfl (sub_cons (i := 3) rfl (sub_cons (i := 4) rfl (sub_cons (i := 5) rfl (sub_cons (i := 12) rfl (sub_cons (i := 32) rfl sub_nil))))))))
    clear f21
    refine C.condT f22 rfl ?_
    refine wp_seq_k fun K5 hK5 => ?_
    refine C.region ?_
    refine L.val f22 wantedN rfl (by decide) (E.assign f22 rfl) fun a23 f23 => ?_
    clear f22 a21
    refine wpList_nil (hK5 _ _ ?_)
    try clear hK5 K5
    have f24 := f23.sub (sub_cons (i := 0) rfl (sub_cons (i := 1) rfl (sub_cons (i := 2) rfl (sub_cons (i := 3) rfl (sub_cons (i := 4) rfl (sub_cons (i := 5) rfl (sub_cons (i := 12) rfl sub_nil)))))))
    clear f23
    refine wp_ret ?_
    try simp only [Exit.inBlock, Exit.then]
    refine C.ret (P := Tryd.prog) (fn := Tryd.f4) f24 rfl rfl ?_
    exact ⟨HK, rfl⟩
  · clear f11
    refine L.val f12 (f12.yes rfl rfl) rfl (by decide) (E.move f12 rfl) fun a13 f13 => ?_
    clear f12 a11
    refine L.val f13 (f13.yes rfl rfl) rfl (by decide) (E.lenL f13 Tryd.underlying22 rfl) fun a14 f14 => ?_
    clear f13 a13
    refine L.val f14 (f14.yes rfl rfl) rfl (by decide) (E.gtr f14 rfl rfl) fun a15 f15 => ?_
    clear f14 a14
    refine L.val f15 wantedN rfl (by decide) (E.pickF f15 rfl rfl) fun a16 f16 => ?_
    clear f15 a15
    refine L.val f16 wantedN rfl (by decide) (E.move f16 rfl) fun a17 f17 => ?_
    clear f16 a16
    first | refine f17.splitD 28 rfl (fun h1 f18 => ?_) (fun h1 f18 => ?_) | refine f17.splitN 28 rfl (fun h1 f18 => ?_) (fun h1 f18 => ?_) | refine f17.splitNB 28 rfl (fun h1 f18 => ?_) (fun h1 f18 => ?_) | refine f17.split 28 rfl (fun h1 f18 => ?_) (fun h1 f18 => ?_)
    · clear f17
      refine L.skip f18 (f18.noF rfl rfl) rfl (by decide) fun a19 f19 => ?_
      clear f18 a17
      refine L.skip f19 (f19.noF rfl rfl) rfl (by decide) fun a20 f20 => ?_
      clear f19 a19
      refine L.skip f20 (f20.noF rfl rfl) rfl (by decide) fun a21 f21 => ?_
      clear f20 a20
      refine L.val f21 wantedN rfl (by decide) (E.pickT f21 rfl rfl) fun a22 f22 => ?_
      clear f21 a21
      refine wpList_nil (hK4 _ _ ?_)
      try clear hK4 K4
      have f23 := f22.sub (sub_cons (i := 0) rfl (sub_cons (i := 1) rfl (sub_cons (i := 2) rfl (sub_cons (i := 3) rfl (sub_cons (i := 4) rfl (sub_cons (i := 5) rfl (sub_cons (i := 12) rfl (sub_cons (i := 32) rfl sub_nil))))))))
      clear f22
      refine C.condT f23 rfl ?_
      refine wp_seq_k fun K6 hK6 => ?_
      refine C.region ?_
      refine L.val f23 wantedN rfl (by decide) (E.assign f23 rfl) fun a24 f24 => ?_
      clear f23 a22
      refine wpList_nil (hK6 _ _ ?_)
      try clear hK6 K6
      have f25 := f24.sub (sub_cons (i := 0) rfl (sub_cons (i := 1) rfl (sub_cons (i := 2) rfl (sub_cons (i := 3) rfl (sub_cons (i := 4) rfl (sub_cons (i := 5) rfl (sub_cons (i := 12) rfl sub_nil)))))))
      clear f24
      refine wp_ret ?_
      try simp only [Exit.inBlock, Exit.then]
      refine C.ret (P := Tryd.prog) (fn := Tryd.f4) f25 rfl rfl ?_
      exact ⟨HK, rfl⟩
    · clear f17
      refine L.val f18 (f18.yes rfl rfl) rfl (by decide) (E.move f18 rfl) fun a19 f19 => ?_
      clear f18 a17
      refine L.val f19 (f19.yes rfl rfl) rfl (by decide) (E.lenL f19 Tryd.underlying22 rfl) fun a20 f20 => ?_
      clear f19 a19
      refine L.val f20 (f20.yes rfl rfl) rfl (by decide) (E.gtr f20 rfl rfl) fun a21 f21 => ?_
      clear f20 a20
      refine L.val f21 wantedN rfl (by decide) (E.pickF f21 rfl rfl) fun a22 f22 => ?_
      clear f21 a21
      refine wpList_nil (hK4 _ _ ?_)
      try clear hK4 K4
      have f23 := f22.sub (sub_cons (i := 0) rfl (sub_cons (i := 1) rfl (sub_cons (i := 2) rfl (sub_cons (i := 3) rfl (sub_cons (i := 4) rfl (sub_cons (i := 5) rfl (sub_cons (i := 12) rfl (sub_cons (i := 32) rfl sub_nil))))))))
      clear f22
      first | refine f23.splitD 32 rfl (fun h2 f24 => ?_) (fun h2 f24 => ?_) | refine f23.splitN 32 rfl (fun h2 f24 => ?_) (fun h2 f24 => ?_) | refine f23.splitNB 32 rfl (fun h2 f24 => ?_) (fun h2 f24 => ?_) | refine f23.split 32 rfl (fun h2 f24 => ?_) (fun h2 f24 => ?_)
      · clear f23
        refine C.condT f24 rfl ?_
        refine wp_seq_k fun K7 hK7 => ?_
        refine C.region ?_
        refine L.val f24 wantedN rfl (by decide) (E.assign f24 rfl) fun a25 f25 => ?_
        clear f24 a22
        refine wpList_nil (hK7 _ _ ?_)
        try clear hK7 K7
        have f26 := f25.sub (sub_cons (i := 0) rfl (sub_cons (i := 1) rfl (sub_cons (i := 2) rfl (sub_cons (i := 3) rfl (sub_cons (i := 4) rfl (sub_cons (i := 5) rfl (sub_cons (i := 12) rfl sub_nil)))))))
        clear f25
        refine wp_ret ?_
        try simp only [Exit.inBlock, Exit.then]
        refine C.ret (P := Tryd.prog) (fn := Tryd.f4) f26 rfl rfl ?_
        exact ⟨HK, rfl⟩
      · clear f23
        refine C.condF f24 rfl ?_
        refine wp_skip (hK3 _ _ ?_)
        try clear hK3 K3
        have f25 := f24.sub (sub_cons (i := 0) rfl (sub_cons (i := 1) rfl (sub_cons (i := 2) rfl (sub_cons (i := 3) rfl (sub_cons (i := 4) rfl (sub_cons (i := 5) rfl (sub_cons (i := 12) rfl sub_nil)))))))
        clear f24
        refine wp_seq_k fun K8 hK8 => ?_
        refine C.region ?_
        refine L.val f25 wantedN rfl (by decide) (E.move f25 rfl) fun a26 f26 => ?_
        clear f25 a22
        refine L.call f26 wantedN rfl (by decide) (run_call Tryd.call9 (args1 f26 rfl)) (pieces_any us0 _ _ w1 (Z0.kept HK) (by omega)) ?_
        rintro e w2 ⟨kc2, s1, rfl, q1⟩
        refine ⟨_, rfl, fun a27 f27 => ?_⟩
        clear f26 a26
        have szw2 := kc2.size
        replace HK := HK.trans kc2 (by simp)
        clear kc2
        refine L.val f27 wantedN rfl (by decide) (E.move f27 rfl) fun a28 f28 => ?_
        clear f27 a27
        refine L.call f28 wantedN rfl (by decide) (run_call Tryd.call9 (args1 f28 rfl)) (pieces_any us1 _ _ w2 (Z1.kept HK) (by omega)) ?_
        rintro e w3 ⟨kc3, s2, rfl, q2⟩
        refine ⟨_, rfl, fun a29 f29 => ?_⟩
        clear f28 a28
        have szw3 := kc3.size
        replace HK := HK.trans kc3 (by simp)
        clear kc3
        refine L.val f29 wantedN rfl (by decide) (E.move f29 rfl) fun a30 f30 => ?_
        clear f29 a29
        refine L.call f30 wantedN rfl (by decide) (run_call Tryd.call10 (args1 f30 rfl)) (sfilter_any k3 w3 l3 m3) ?_
        rintro e w4 ⟨kc4, s3, rfl, q3⟩
        refine ⟨_, rfl, fun a31 f31 => ?_⟩
        clear f30 a30
        have szw4 := kc4.size
        replace HK := HK.trans kc4 (by simp)
        clear kc4
        refine L.val f31 wantedN rfl (by decide) (E.move f31 rfl) fun a32 f32 => ?_
        clear f31 a31
        refine L.call f32 wantedN rfl (by decide) (run_call Tryd.call10 (args1 f32 rfl)) (sfilter_any k4 w4 l4 m4) ?_
        rintro e w5 ⟨kc5, s4, rfl, q4⟩
        refine ⟨_, rfl, fun a33 f33 => ?_⟩
        clear f32 a32
        have szw5 := kc5.size
        replace HK := HK.trans kc5 (by simp)
        clear kc5
        refine L.buildSlice f33 wantedN (by decide) (parts4 f33 rfl rfl rfl rfl) Tryd.underlying26 wzi9_tw rfl rfl (wbs26_4_tw _ _ _ _) fun a34 w6 g5 N5 f34 => ?_
        have SF := ss_blk (l := [s1, s2, s3, s4]) N5.blk
        obtain ⟨F, Fl, Fs, SF⟩ : ∃ L : List ByteArray, L.length = 4 ∧ (∀ x ∈ L, x.size ≤ 60) ∧ Ss w6 (some ⟨g5, 0, none⟩) L := ⟨_, rfl, by intro x hx; simp at hx; rcases hx with rfl | rfl | rfl | rfl <;> omega, SF⟩
        have Bg5 := N5.blk
        have kg5 := N5.kept
        have log5 := N5.lo
        have ltg5 := Bg5.lt
        have szw6 := kg5.size
        have frg5 : w.heap.size ≤ g5 := Nat.le_trans HK.size log5
        replace HK := HK.trans kg5 (by simp)
        clear N5 kg5
        clear f33 a33
        refine L.val f34 wantedN rfl (by decide) (E.assign f34 rfl) fun a35 f35 => ?_
        clear f34 a34
        refine wpList_nil (hK8 _ _ ?_)
        try clear hK8 K8
        have f36 := f35.sub (sub_cons (i := 0) rfl (sub_cons (i := 2) rfl (sub_cons (i := 3) rfl (sub_cons (i := 5) rfl (sub_cons (i := 12) rfl (sub_cons (i := 13) rfl sub_nil))))))
        clear f35
        refine wp_seq_k fun K9 hK9 => ?_
        refine C.region ?_
        refine L.val f36 wantedN rfl (by decide) (E.move f36 rfl) fun a37 f37 => ?_
        clear f36 a35
        refine L.call f37 wantedN rfl (by decide) (run_call Tryd.call9 (args1 f37 rfl)) (pieces_any us2 _ _ w6 (Z2.kept HK) (by omega)) ?_
        rintro e w7 ⟨kc7, n1, rfl, r1⟩
        refine ⟨_, rfl, fun a38 f38 => ?_⟩
        clear f37 a37
        have szw7 := kc7.size
        replace HK := HK.trans kc7 (by simp)
        replace Bg5 := Bg5.kept kc7 (by simp)
        replace SF := SF.kept kc7
        clear kc7
        refine L.val f38 wantedN rfl (by decide) (E.move f38 rfl) fun a39 f39 => ?_
        clear f38 a38
        refine L.call f39 wantedN rfl (by decide) (run_call Tryd.call11 (args1 f39 rfl)) (stopic_any k5 w7 l5 m5) ?_
        rintro e w8 ⟨kc8, n2, rfl, r2⟩
        refine ⟨_, rfl, fun a40 f40 => ?_⟩
        clear f39 a39
        have szw8 := kc8.size
        replace HK := HK.trans kc8 (by simp)
        replace Bg5 := Bg5.kept kc8 (by simp)
        replace SF := SF.kept kc8
        clear kc8
        refine L.val f40 wantedN rfl (by decide) (E.move f40 rfl) fun a41 f41 => ?_
        clear f40 a40
        refine L.call f41 wantedN rfl (by decide) (run_call Tryd.call11 (args1 f41 rfl)) (stopic_any k3 w8 l3 m3) ?_
        rintro e w9 ⟨kc9, n3, rfl, r3⟩
        refine ⟨_, rfl, fun a42 f42 => ?_⟩
        clear f41 a41
        have szw9 := kc9.size
        replace HK := HK.trans kc9 (by simp)
        replace Bg5 := Bg5.kept kc9 (by simp)
        replace SF := SF.kept kc9
        clear kc9
        refine L.val f42 wantedN rfl (by decide) (E.move f42 rfl) fun a43 f43 => ?_
        clear f42 a42
        refine L.call f43 wantedN rfl (by decide) (run_call Tryd.call9 (args1 f43 rfl)) (pieces_any us0 _ _ w9 (Z0.kept HK) (by omega)) ?_
        rintro e w10 ⟨kc10, n4, rfl, r4⟩
        refine ⟨_, rfl, fun a44 f44 => ?_⟩
        clear f43 a43
        have szw10 := kc10.size
        replace HK := HK.trans kc10 (by simp)
        replace Bg5 := Bg5.kept kc10 (by simp)
        replace SF := SF.kept kc10
        clear kc10
        refine L.buildSlice f44 wantedN (by decide) (parts4 f44 rfl rfl rfl rfl) Tryd.underlying26 wzi9_tw rfl rfl (wbs26_4_tw _ _ _ _) fun a45 w11 g10 N10 f45 => ?_
        have SM := ss_blk (l := [n1, n2, n3, n4]) N10.blk
        obtain ⟨M, Ml, Ms, SM⟩ : ∃ L : List ByteArray, L.length = 4 ∧ (∀ x ∈ L, x.size ≤ 60) ∧ Ss w11 (some ⟨g10, 0, none⟩) L := ⟨_, rfl, by intro x hx; simp at hx; rcases hx with rfl | rfl | rfl | rfl <;> omega, SM⟩
        have Bg10 := N10.blk
        have kg10 := N10.kept
        have log10 := N10.lo
        have ltg10 := Bg10.lt
        have szw11 := kg10.size
        have frg10 : w.heap.size ≤ g10 := Nat.le_trans HK.size log10
        have neg5_g10 : g5 ≠ g10 := by have := Bg5.lt; omega
        replace HK := HK.trans kg10 (by simp)
        replace Bg5 := Bg5.kept kg10 (by simp)
        replace SF := SF.kept kg10
        clear N10 kg10
        clear f44 a44
        refine L.val f45 wantedN rfl (by decide) (E.assign f45 rfl) fun a46 f46 => ?_
        clear f45 a45
        refine wpList_nil (hK9 _ _ ?_)
        try clear hK9 K9
        have f47 := f46.sub (sub_cons (i := 12) rfl (sub_cons (i := 13) rfl (sub_cons (i := 14) rfl sub_nil)))
        clear f46
        refine wp_seq_k fun K10 hK10 => ?_
        refine wp_seq_k fun K11 hK11 => ?_
        refine C.region ?_
        refine L.val f47 wantedN rfl (by decide) (E.assign f47 rfl) fun a48 f48 => ?_
        clear f47 a46
        refine wpList_nil (hK11 _ _ ?_)
        try clear hK11 K11
        have f49 := f48.sub (sub_cons (i := 12) rfl (sub_cons (i := 13) rfl (sub_cons (i := 14) rfl (sub_cons (i := 15) rfl sub_nil))))
        clear f48
        refine wp_block ?_
        refine C.loop (fun gk a W => ∃ i : Nat, i + gk = 4 ∧ Kept [] w W ∧ Ss W (some ⟨g5, 0, none⟩) F ∧ Ss W (some ⟨g10, 0, none⟩) M ∧ Fr 116 a [(13, .slice (some ⟨g5, 0, none⟩) 4 4), (14, .slice (some ⟨g10, 0, none⟩) 4 4), (15, .int .i64 i)]) (4) ?_ ?_
        · exact ⟨0, by omega, HK, SF, SM, f49.sub (sub_cons rfl (sub_cons rfl (sub_cons rfl sub_nil)))⟩
        · intro gk13 a50 w12 hI KL12 hKL12
          obtain ⟨i, hki, HK, SF, SM, f50⟩ := hI
          try clear f49
          refine wp_seq_k fun K13 hK13 => ?_
          refine wp_seq_k fun K14 hK14 => ?_
          refine C.region ?_
          refine L.val f50 wantedN rfl (by decide) (E.move f50 rfl) fun a51 f51 => ?_
          clear f50 a50
          refine L.val f51 wantedN rfl (by decide) (E.move f51 rfl) fun a52 f52 => ?_
          clear f51 a51
          refine L.val f52 wantedN rfl (by decide) (E.lenL f52 Tryd.underlying26 rfl) fun a53 f53 => ?_
          clear f52 a52
          refine L.val f53 wantedN rfl (by decide) (E.lss f53 rfl rfl) fun a54 f54 => ?_
          clear f53 a53
          refine wpList_nil (hK14 _ _ ?_)
          try clear hK14 K14
          have f55 := f54.sub (sub_cons (i := 13) rfl (sub_cons (i := 14) rfl (sub_cons (i := 15) rfl (sub_cons (i := 51) rfl (sub_cons (i := 52) rfl (sub_cons (i := 53) rfl (sub_cons (i := 54) rfl sub_nil)))))))
          clear f54
          first | refine f55.splitD 54 rfl (fun h3 f56 => ?_) (fun h3 f56 => ?_) | refine f55.splitN 54 rfl (fun h3 f56 => ?_) (fun h3 f56 => ?_) | refine f55.splitNB 54 rfl (fun h3 f56 => ?_) (fun h3 f56 => ?_) | refine f55.split 54 rfl (fun h3 f56 => ?_) (fun h3 f56 => ?_)
          · clear f55
            refine C.condT f56 rfl ?_
            refine wp_skip (hK13 _ _ ?_)
            try clear hK13 K13
            have f57 := f56.sub (sub_cons (i := 13) rfl (sub_cons (i := 14) rfl (sub_cons (i := 15) rfl (sub_cons (i := 51) rfl (sub_cons (i := 52) rfl (sub_cons (i := 53) rfl (sub_cons (i := 54) rfl sub_nil)))))))
            clear f56
            refine wp_seq_k fun K15 hK15 => ?_
            refine wp_block ?_
            refine wp_seq_k fun K16 hK16 => ?_
            refine wp_seq_k fun K17 hK17 => ?_
            obtain ⟨x, hx⟩ : ∃ y, F[i]? = some y := ⟨F[i]'(by omega), List.getElem?_eq_getElem _⟩
            have hxs := Fs x (List.mem_of_getElem? hx)
            refine R.begin (S := fun W => Kept [] w12 W) (by kernel_rfl) (by exact (Kept.refl _ _).drewN 1) ?_
            have hS10 : Kept [] w12 (w12.drewN 1) := (Kept.refl _ _).drewN 1
            have hd10 : Kept [] w12 (w12.drewN 1) := (Kept.refl _ _).drewN 1
            obtain ⟨w13, hww13⟩ : ∃ W, W = w12.drewN 1 := ⟨_, rfl⟩
            rw [← hww13] at hS10 hd10 ⊢
            clear hww13
            have szw13 := hS10.size
            refine R.take 0 f57 rfl rfl (by decide) (by kernel_rfl) (by kernel_rfl) (by kernel_rfl) (fun _ _ _ _ h => h) wantedN hS10 (fun W hW => (E.move f57 rfl)) fun a58 f58 => ?_
            clear f57 a54
            refine R.take 1 f58 rfl rfl (by decide) (by kernel_rfl) (by kernel_rfl) (by kernel_rfl) (fun _ _ _ _ h => h) wantedN hS10 (fun W hW => (E.move f58 rfl)) fun a59 f59 => ?_
            clear f58 a58
            refine R.take 2 f59 rfl rfl (by decide) (by kernel_rfl) (by kernel_rfl) (by kernel_rfl) (fun _ _ _ _ h => h) wantedN hS10 (fun W hW => (E.indexA f59 (by first | rfl | assumption) Tryd.underlying26 wsz9_tw rfl rfl (by omega) (by omega))) fun a60 f60 => ?_
            clear f59 a59
            refine R.take 3 f60 rfl rfl (by decide) (by kernel_rfl) (by kernel_rfl) (by kernel_rfl) (fun _ _ _ _ h => h) wantedN hS10 (fun W hW => (by exact E.load f60 Tryd.underlying9 rfl rfl (ss_cell (SF.kept hW) rfl hx))) fun a61 f61 => ?_
            clear f60 a60
            refine R.take 4 f61 rfl rfl (by decide) (by kernel_rfl) (by kernel_rfl) (by kernel_rfl) (fun _ _ _ _ h => h) wantedN hS10 (fun W hW => (E.move f61 rfl)) fun a62 f62 => ?_
            clear f61 a61
            refine R.take 5 f62 rfl rfl (by decide) (by kernel_rfl) (by kernel_rfl) (by kernel_rfl) (fun _ _ _ _ h => h) wantedN hS10 (fun W hW => (E.move f62 rfl)) fun a63 f63 => ?_
            clear f62 a62
            refine R.take 6 f63 rfl rfl (by decide) (by kernel_rfl) (by kernel_rfl) (by kernel_rfl) (fun _ _ _ _ h => h) wantedN hS10 (fun W hW => (E.indexA f63 (by first | rfl | assumption) Tryd.underlying26 wsz9_tw rfl rfl (by omega) (by omega))) fun a64 f64 => ?_
            clear f63 a63
            refine R.take 7 f64 rfl rfl (by decide) (by kernel_rfl) (by kernel_rfl) (by kernel_rfl) (fun _ _ _ _ h => h) wantedN hS10 (fun W hW => (by exact E.load f64 Tryd.underlying9 rfl rfl (ss_cell (SF.kept hW) rfl hx))) fun a65 f65 => ?_
            clear f64 a64
            refine R.take 9 f65 rfl rfl (by decide) (by kernel_rfl) (by kernel_rfl) (by kernel_rfl) (fun _ _ _ _ h => h) wantedN hS10 (fun W hW => (E.move f65 rfl)) fun a66 f66 => ?_
            clear f65 a65
            refine R.take 10 f66 rfl rfl (by decide) (by kernel_rfl) (by kernel_rfl) (by kernel_rfl) (fun _ _ _ _ h => h) wantedN hS10 (fun W hW => (E.move f66 rfl)) fun a67 f67 => ?_
            clear f66 a66
            refine R.take 11 f67 rfl rfl (by decide) (by kernel_rfl) (by kernel_rfl) (by kernel_rfl) (fun _ _ _ _ h => h) wantedN hS10 (fun W hW => (E.indexA f67 (by first | rfl | assumption) Tryd.underlying26 wsz9_tw rfl rfl (by omega) (by omega))) fun a68 f68 => ?_
            clear f67 a67
            refine R.take 12 f68 rfl rfl (by decide) (by kernel_rfl) (by kernel_rfl) (by kernel_rfl) (fun _ _ _ _ h => h) wantedN hS10 (fun W hW => (by exact E.load f68 Tryd.underlying9 rfl rfl (ss_cell (SF.kept hW) rfl hx))) fun a69 f69 => ?_
            clear f68 a68
            refine R.call 8 f69 rfl rfl (by decide) (by kernel_rfl) wantedN (run_call Tryd.call21 (args2 f69 rfl rfl)) (within_any x x w13 (G.kept (HK.trans hS10 (by simp))) (by omega) (by omega)) ?_
            rintro e w14 ⟨kc14, rfl⟩
            replace hS10 := hS10.trans kc14 (by simp)
            refine ⟨_, rfl, hS10, fun a70 f70 => ?_⟩
            clear f69 a69
            have szw14 := kc14.size
            clear kc14
            refine R.call 13 f70 rfl rfl (by decide) (by kernel_rfl) wantedN (run_call Tryd.call14 (args1 f70 rfl)) (filter_any x w14 (G.kept (HK.trans hS10 (by simp))) (by omega)) ?_
            rintro e w15 ⟨kc15, rfl⟩
            replace hS10 := hS10.trans kc15 (by simp)
            refine ⟨_, rfl, hS10, fun a71 f71 => ?_⟩
            clear f70 a70
            have szw15 := kc15.size
            clear kc15
            refine R.take 14 f71 rfl rfl (by decide) (by kernel_rfl) (by kernel_rfl) (by kernel_rfl) (fun _ _ _ _ h => h) wantedN hS10 (fun W hW => (E.neqB f71 Tryd.underlying4 rfl rfl)) fun a72 f72 => ?_
            clear f71 a71
            have f73 := f72.as (i := 71) (v' := .bool false) rfl (by rw [within_self]; simp)
            clear f72
            have szw15r := hS10.size
            replace HK := HK.trans hS10 (by simp)
            replace SF := SF.kept hS10
            replace SM := SM.kept hS10
            clear hS10
            refine R.done (by kernel_rfl) (hK17 _ _ ?_)
            try clear hK17 K17
            have f74 := f73.sub (sub_cons (i := 13) rfl (sub_cons (i := 14) rfl (sub_cons (i := 15) rfl (sub_cons (i := 51) rfl (sub_cons (i := 52) rfl (sub_cons (i := 53) rfl (sub_cons (i := 54) rfl (sub_cons (i := 57) rfl (sub_cons (i := 58) rfl (sub_cons (i := 59) rfl (sub_cons (i := 60) rfl (sub_cons (i := 61) rfl (sub_cons (i := 62) rfl (sub_cons (i := 63) rfl (sub_cons (i := 64) rfl (sub_cons (i := 65) rfl (sub_cons (i := 66) rfl (sub_cons (i := 67) rfl (sub_cons (i := 68) rfl (sub_cons (i := 69) rfl (sub_cons (i := 70) rfl (sub_cons (i := 71) rfl sub_nil))))))))))))))))))))))
            clear f73
            refine C.condF f74 rfl ?_
            refine wp_skip (hK16 _ _ ?_)
            try clear hK16 K16
            have f75 := f74.sub (sub_cons (i := 13) rfl (sub_cons (i := 14) rfl (sub_cons (i := 15) rfl (sub_cons (i := 51) rfl (sub_cons (i := 52) rfl (sub_cons (i := 53) rfl (sub_cons (i := 54) rfl (sub_cons (i := 57) rfl (sub_cons (i := 58) rfl (sub_cons (i := 59) rfl (sub_cons (i := 60) rfl (sub_cons (i := 61) rfl (sub_cons (i := 62) rfl (sub_cons (i := 63) rfl (sub_cons (i := 64) rfl (sub_cons (i := 65) rfl (sub_cons (i := 66) rfl (sub_cons (i := 67) rfl (sub_cons (i := 68) rfl (sub_cons (i := 69) rfl (sub_cons (i := 70) rfl (sub_cons (i := 71) rfl sub_nil))))))))))))))))))))))
            clear f74
            refine wp_seq_k fun K18 hK18 => ?_
            refine C.region ?_
            refine L.val f75 wantedN rfl (by decide) (E.assign f75 rfl) fun a76 f76 => ?_
            clear f75 a72
            refine wpList_nil (hK18 _ _ ?_)
            try clear hK18 K18
            have f77 := f76.sub (sub_cons (i := 13) rfl (sub_cons (i := 14) rfl (sub_cons (i := 15) rfl (sub_cons (i := 16) rfl (sub_cons (i := 51) rfl (sub_cons (i := 52) rfl (sub_cons (i := 53) rfl (sub_cons (i := 54) rfl (sub_cons (i := 57) rfl (sub_cons (i := 58) rfl (sub_cons (i := 59) rfl (sub_cons (i := 60) rfl (sub_cons (i := 61) rfl (sub_cons (i := 62) rfl (sub_cons (i := 63) rfl (sub_cons (i := 64) rfl (sub_cons (i := 65) rfl (sub_cons (i := 66) rfl (sub_cons (i := 67) rfl (sub_cons (i := 68) rfl (sub_cons (i := 69) rfl (sub_cons (i := 70) rfl (sub_cons (i := 71) rfl sub_nil)))))))))))))))))))))))
            clear f76
            refine wp_block ?_
            refine C.loop (fun gk a W => ∃ o : Nat, o + gk = 4 ∧ Kept [] w W ∧ Ss W (some ⟨g5, 0, none⟩) F ∧ Ss W (some ⟨g10, 0, none⟩) M ∧ Fr 116 a [(13, .slice (some ⟨g5, 0, none⟩) 4 4), (14, .slice (some ⟨g10, 0, none⟩) 4 4), (15, .int .i64 i), (16, .int .i64 o)]) (4) ?_ ?_
            · exact ⟨0, by omega, HK, SF, SM, f77.sub (sub_cons rfl (sub_cons rfl (sub_cons rfl (sub_cons rfl sub_nil))))⟩
            · intro gk20 a78 w16 hI KL19 hKL19
              obtain ⟨o, hko, HK, SF, SM, f78⟩ := hI
              try clear f77
              refine wp_seq_k fun K20 hK20 => ?_
              refine wp_seq_k fun K21 hK21 => ?_
              refine C.region ?_
              refine L.val f78 wantedN rfl (by decide) (E.move f78 rfl) fun a79 f79 => ?_
              clear f78 a78
              refine L.val f79 wantedN rfl (by decide) (E.move f79 rfl) fun a80 f80 => ?_
              clear f79 a79
              refine L.val f80 wantedN rfl (by decide) (E.lenL f80 Tryd.underlying26 rfl) fun a81 f81 => ?_
              clear f80 a80
              refine L.val f81 wantedN rfl (by decide) (E.lss f81 rfl rfl) fun a82 f82 => ?_
              clear f81 a81
              refine wpList_nil (hK21 _ _ ?_)
              try clear hK21 K21
              have f83 := f82.sub (sub_cons (i := 13) rfl (sub_cons (i := 14) rfl (sub_cons (i := 15) rfl (sub_cons (i := 16) rfl (sub_cons (i := 72) rfl (sub_cons (i := 73) rfl (sub_cons (i := 74) rfl (sub_cons (i := 75) rfl sub_nil))))))))
              clear f82
              first | refine f83.splitD 75 rfl (fun h4 f84 => ?_) (fun h4 f84 => ?_) | refine f83.splitN 75 rfl (fun h4 f84 => ?_) (fun h4 f84 => ?_) | refine f83.splitNB 75 rfl (fun h4 f84 => ?_) (fun h4 f84 => ?_) | refine f83.split 75 rfl (fun h4 f84 => ?_) (fun h4 f84 => ?_)
              · clear f83
                refine C.condT f84 rfl ?_
                refine wp_skip (hK20 _ _ ?_)
                try clear hK20 K20
                have f85 := f84.sub (sub_cons (i := 13) rfl (sub_cons (i := 14) rfl (sub_cons (i := 15) rfl (sub_cons (i := 16) rfl (sub_cons (i := 72) rfl (sub_cons (i := 73) rfl (sub_cons (i := 74) rfl (sub_cons (i := 75) rfl sub_nil))))))))
                clear f84
                refine wp_seq_k fun K22 hK22 => ?_
                refine wp_block ?_
                refine wp_seq_k fun K23 hK23 => ?_
                refine C.region ?_
                refine L.val f85 wantedN rfl (by decide) (E.assign f85 rfl) fun a86 f86 => ?_
                clear f85 a82
                refine wpList_nil (hK23 _ _ ?_)
                try clear hK23 K23
                have f87 := f86.sub (sub_cons (i := 13) rfl (sub_cons (i := 14) rfl (sub_cons (i := 15) rfl (sub_cons (i := 16) rfl (sub_cons (i := 17) rfl (sub_cons (i := 72) rfl (sub_cons (i := 73) rfl (sub_cons (i := 74) rfl (sub_cons (i := 75) rfl sub_nil)))))))))
                clear f86
                refine wp_block ?_
                refine C.loop (fun gk a W => ∃ q : Nat, q + gk = 4 ∧ Kept [] w W ∧ Ss W (some ⟨g5, 0, none⟩) F ∧ Ss W (some ⟨g10, 0, none⟩) M ∧ Fr 116 a [(13, .slice (some ⟨g5, 0, none⟩) 4 4), (14, .slice (some ⟨g10, 0, none⟩) 4 4), (15, .int .i64 i), (16, .int .i64 o), (17, .int .i64 q)]) (4) ?_ ?_
                · exact ⟨0, by omega, HK, SF, SM, f87.sub (sub_cons rfl (sub_cons rfl (sub_cons rfl (sub_cons rfl (sub_cons rfl sub_nil)))))⟩
                · intro gk25 a88 w17 hI KL24 hKL24
                  obtain ⟨q, hkq, HK, SF, SM, f88⟩ := hI
                  try clear f87
                  refine wp_seq_k fun K25 hK25 => ?_
                  refine wp_seq_k fun K26 hK26 => ?_
                  refine C.region ?_
                  refine L.val f88 wantedN rfl (by decide) (E.move f88 rfl) fun a89 f89 => ?_
                  clear f88 a88
                  refine L.val f89 wantedN rfl (by decide) (E.move f89 rfl) fun a90 f90 => ?_
                  clear f89 a89
                  refine L.val f90 wantedN rfl (by decide) (E.lenL f90 Tryd.underlying26 rfl) fun a91 f91 => ?_
                  clear f90 a90
                  refine L.val f91 wantedN rfl (by decide) (E.lss f91 rfl rfl) fun a92 f92 => ?_
                  clear f91 a91
                  refine wpList_nil (hK26 _ _ ?_)
                  try clear hK26 K26
                  have f93 := f92.sub (sub_cons (i := 13) rfl (sub_cons (i := 14) rfl (sub_cons (i := 15) rfl (sub_cons (i := 16) rfl (sub_cons (i := 17) rfl (sub_cons (i := 78) rfl (sub_cons (i := 79) rfl (sub_cons (i := 80) rfl (sub_cons (i := 81) rfl sub_nil)))))))))
                  clear f92
                  first | refine f93.splitD 81 rfl (fun h5 f94 => ?_) (fun h5 f94 => ?_) | refine f93.splitN 81 rfl (fun h5 f94 => ?_) (fun h5 f94 => ?_) | refine f93.splitNB 81 rfl (fun h5 f94 => ?_) (fun h5 f94 => ?_) | refine f93.split 81 rfl (fun h5 f94 => ?_) (fun h5 f94 => ?_)
                  · clear f93
                    refine C.condT f94 rfl ?_
                    refine wp_skip (hK25 _ _ ?_)
                    try clear hK25 K25
                    have f95 := f94.sub (sub_cons (i := 13) rfl (sub_cons (i := 14) rfl (sub_cons (i := 15) rfl (sub_cons (i := 16) rfl (sub_cons (i := 17) rfl (sub_cons (i := 78) rfl (sub_cons (i := 79) rfl (sub_cons (i := 80) rfl (sub_cons (i := 81) rfl sub_nil)))))))))
                    clear f94
                    refine wp_seq_k fun K27 hK27 => ?_
                    refine wp_block ?_
                    refine wp_seq_k fun K28 hK28 => ?_
                    obtain ⟨y, hy⟩ : ∃ y, F[o]? = some y := ⟨F[o]'(by omega), List.getElem?_eq_getElem _⟩
                    have hys := Fs y (List.mem_of_getElem? hy)
                    obtain ⟨z, hz⟩ : ∃ y, M[q]? = some y := ⟨M[q]'(by omega), List.getElem?_eq_getElem _⟩
                    have hzs := Ms z (List.mem_of_getElem? hz)
                    refine R.begin (S := fun W => Kept [] w17 W) (by kernel_rfl) (by exact (Kept.refl _ _).drewN 1) ?_
                    have hS18 : Kept [] w17 (w17.drewN 1) := (Kept.refl _ _).drewN 1
                    have hd18 : Kept [] w17 (w17.drewN 1) := (Kept.refl _ _).drewN 1
                    obtain ⟨w18, hww18⟩ : ∃ W, W = w17.drewN 1 := ⟨_, rfl⟩
                    rw [← hww18] at hS18 hd18 ⊢
                    clear hww18
                    have szw18 := hS18.size
                    refine R.take 0 f95 rfl rfl (by decide) (by kernel_rfl) (by kernel_rfl) (by kernel_rfl) (fun _ _ _ _ h => h) wantedN hS18 (fun W hW => (E.move f95 rfl)) fun a96 f96 => ?_
                    clear f95 a92
                    refine R.take 1 f96 rfl rfl (by decide) (by kernel_rfl) (by kernel_rfl) (by kernel_rfl) (fun _ _ _ _ h => h) wantedN hS18 (fun W hW => (E.move f96 rfl)) fun a97 f97 => ?_
                    clear f96 a96
                    refine R.take 2 f97 rfl rfl (by decide) (by kernel_rfl) (by kernel_rfl) (by kernel_rfl) (fun _ _ _ _ h => h) wantedN hS18 (fun W hW => (E.indexA f97 (by first | rfl | assumption) Tryd.underlying26 wsz9_tw rfl rfl (by omega) (by omega))) fun a98 f98 => ?_
                    clear f97 a97
                    refine R.take 3 f98 rfl rfl (by decide) (by kernel_rfl) (by kernel_rfl) (by kernel_rfl) (fun _ _ _ _ h => h) wantedN hS18 (fun W hW => (by first | exact E.load f98 Tryd.underlying9 rfl rfl (ss_cell (SF.kept hW) rfl hx) | exact E.load f98 Tryd.underlying9 rfl rfl (ss_cell (SF.kept hW) rfl hy) | exact E.load f98 Tryd.underlying9 rfl rfl (ss_cell (SM.kept hW) rfl hz))) fun a99 f99 => ?_
                    clear f98 a98
                    refine R.take 4 f99 rfl rfl (by decide) (by kernel_rfl) (by kernel_rfl) (by kernel_rfl) (fun _ _ _ _ h => h) wantedN hS18 (fun W hW => (E.move f99 rfl)) fun a100 f100 => ?_
                    clear f99 a99
                    refine R.take 5 f100 rfl rfl (by decide) (by kernel_rfl) (by kernel_rfl) (by kernel_rfl) (fun _ _ _ _ h => h) wantedN hS18 (fun W hW => (E.move f100 rfl)) fun a101 f101 => ?_
                    clear f100 a100
                    refine R.take 6 f101 rfl rfl (by decide) (by kernel_rfl) (by kernel_rfl) (by kernel_rfl) (fun _ _ _ _ h => h) wantedN hS18 (fun W hW => (E.indexA f101 (by first | rfl | assumption) Tryd.underlying26 wsz9_tw rfl rfl (by omega) (by omega))) fun a102 f102 => ?_
                    clear f101 a101
                    refine R.take 7 f102 rfl rfl (by decide) (by kernel_rfl) (by kernel_rfl) (by kernel_rfl) (fun _ _ _ _ h => h) wantedN hS18 (fun W hW => (by first | exact E.load f102 Tryd.underlying9 rfl rfl (ss_cell (SF.kept hW) rfl hx) | exact E.load f102 Tryd.underlying9 rfl rfl (ss_cell (SF.kept hW) rfl hy) | exact E.load f102 Tryd.underlying9 rfl rfl (ss_cell (SM.kept hW) rfl hz))) fun a103 f103 => ?_
                    clear f102 a102
                    refine R.call 8 f103 rfl rfl (by decide) (by kernel_rfl) wantedN (run_call Tryd.call21 (args2 f103 rfl rfl)) (within_any x y w18 (G.kept (HK.trans hS18 (by simp))) (by omega) (by omega)) ?_
                    rintro e w19 ⟨kc19, rfl⟩
                    replace hS18 := hS18.trans kc19 (by simp)
                    refine ⟨_, rfl, hS18, fun a104 f104 => ?_⟩
                    clear f103 a103
                    have szw19 := kc19.size
                    clear kc19
                    refine R.take 9 f104 rfl rfl (by decide) (by kernel_rfl) (by kernel_rfl) (by kernel_rfl) (fun _ _ _ _ h => h) wantedN hS18 (fun W hW => (E.move f104 rfl)) fun a105 f105 => ?_
                    clear f104 a104
                    first | refine f105.splitD 93 rfl (fun h6 f106 => ?_) (fun h6 f106 => ?_) | refine f105.splitN 93 rfl (fun h6 f106 => ?_) (fun h6 f106 => ?_) | refine f105.splitNB 93 rfl (fun h6 f106 => ?_) (fun h6 f106 => ?_) | refine f105.split 93 rfl (fun h6 f106 => ?_) (fun h6 f106 => ?_)
                    · clear f105
                      have h93 := h6
                      refine R.take 10 f106 rfl rfl (by decide) (by kernel_rfl) (by kernel_rfl) (by kernel_rfl) (fun _ _ _ _ h => h) (f106.yes rfl rfl) hS18 (fun W hW => (E.move f106 rfl)) fun a107 f107 => ?_
                      clear f106 a105
                      refine R.take 11 f107 rfl rfl (by decide) (by kernel_rfl) (by kernel_rfl) (by kernel_rfl) (fun _ _ _ _ h => h) (f107.yes rfl rfl) hS18 (fun W hW => (E.move f107 rfl)) fun a108 f108 => ?_
                      clear f107 a107
                      refine R.take 12 f108 rfl rfl (by decide) (by kernel_rfl) (by kernel_rfl) (by kernel_rfl) (fun _ _ _ _ h => h) (f108.yes rfl rfl) hS18 (fun W hW => (E.indexA f108 (by first | rfl | assumption) Tryd.underlying26 wsz9_tw rfl rfl (by omega) (by omega))) fun a109 f109 => ?_
                      clear f108 a108
                      refine R.take 13 f109 rfl rfl (by decide) (by kernel_rfl) (by kernel_rfl) (by kernel_rfl) (fun _ _ _ _ h => h) (f109.yes rfl rfl) hS18 (fun W hW => (by first | exact E.load f109 Tryd.underlying9 rfl rfl (ss_cell (SF.kept hW) rfl hx) | exact E.load f109 Tryd.underlying9 rfl rfl (ss_cell (SF.kept hW) rfl hy) | exact E.load f109 Tryd.underlying9 rfl rfl (ss_cell (SM.kept hW) rfl hz))) fun a110 f110 => ?_
                      clear f109 a109
                      refine R.take 14 f110 rfl rfl (by decide) (by kernel_rfl) (by kernel_rfl) (by kernel_rfl) (fun _ _ _ _ h => h) (f110.yes rfl rfl) hS18 (fun W hW => (E.move f110 rfl)) fun a111 f111 => ?_
                      clear f110 a110
                      refine R.take 15 f111 rfl rfl (by decide) (by kernel_rfl) (by kernel_rfl) (by kernel_rfl) (fun _ _ _ _ h => h) (f111.yes rfl rfl) hS18 (fun W hW => (E.move f111 rfl)) fun a112 f112 => ?_
                      clear f111 a111
                      refine R.take 16 f112 rfl rfl (by decide) (by kernel_rfl) (by kernel_rfl) (by kernel_rfl) (fun _ _ _ _ h => h) (f112.yes rfl rfl) hS18 (fun W hW => (E.indexA f112 (by first | rfl | assumption) Tryd.underlying26 wsz9_tw rfl rfl (by omega) (by omega))) fun a113 f113 => ?_
                      clear f112 a112
                      refine R.take 17 f113 rfl rfl (by decide) (by kernel_rfl) (by kernel_rfl) (by kernel_rfl) (fun _ _ _ _ h => h) (f113.yes rfl rfl) hS18 (fun W hW => (by first | exact E.load f113 Tryd.underlying9 rfl rfl (ss_cell (SF.kept hW) rfl hx) | exact E.load f113 Tryd.underlying9 rfl rfl (ss_cell (SF.kept hW) rfl hy) | exact E.load f113 Tryd.underlying9 rfl rfl (ss_cell (SM.kept hW) rfl hz))) fun a114 f114 => ?_
                      clear f113 a113
                      refine R.call 18 f114 rfl rfl (by decide) (by kernel_rfl) (f114.yes rfl rfl) (run_call Tryd.call19 (args2 f114 rfl rfl)) (match_any x z w19 (G.kept (HK.trans hS18 (by simp))) (by omega) (by omega)) ?_
                      rintro e w20 ⟨kc20, rfl⟩
                      replace hS18 := hS18.trans kc20 (by simp)
                      refine ⟨_, rfl, hS18, fun a115 f115 => ?_⟩
                      clear f114 a114
                      have szw20 := kc20.size
                      clear kc20
                      refine R.take 19 f115 rfl rfl (by decide) (by kernel_rfl) (by kernel_rfl) (by kernel_rfl) (fun _ _ _ _ h => h) wantedN hS18 (fun W hW => (E.pickT f115 rfl rfl)) fun a116 f116 => ?_
                      clear f115 a115
                      refine R.take 20 f116 rfl rfl (by decide) (by kernel_rfl) (by kernel_rfl) (by kernel_rfl) (fun _ _ _ _ h => h) wantedN hS18 (fun W hW => (E.move f116 rfl)) fun a117 f117 => ?_
                      clear f116 a116
                      first | refine f117.splitD 104 rfl (fun h7 f118 => ?_) (fun h7 f118 => ?_) | refine f117.splitN 104 rfl (fun h7 f118 => ?_) (fun h7 f118 => ?_) | refine f117.splitNB 104 rfl (fun h7 f118 => ?_) (fun h7 f118 => ?_) | refine f117.split 104 rfl (fun h7 f118 => ?_) (fun h7 f118 => ?_)
                      · clear f117
                        have h104 := h7
                        refine R.take 21 f118 rfl rfl (by decide) (by kernel_rfl) (by kernel_rfl) (by kernel_rfl) (fun _ _ _ _ h => h) (f118.yes rfl rfl) hS18 (fun W hW => (E.move f118 rfl)) fun a119 f119 => ?_
                        clear f118 a117
                        refine R.take 22 f119 rfl rfl (by decide) (by kernel_rfl) (by kernel_rfl) (by kernel_rfl) (fun _ _ _ _ h => h) (f119.yes rfl rfl) hS18 (fun W hW => (E.move f119 rfl)) fun a120 f120 => ?_
                        clear f119 a119
                        refine R.take 23 f120 rfl rfl (by decide) (by kernel_rfl) (by kernel_rfl) (by kernel_rfl) (fun _ _ _ _ h => h) (f120.yes rfl rfl) hS18 (fun W hW => (E.indexA f120 (by first | rfl | assumption) Tryd.underlying26 wsz9_tw rfl rfl (by omega) (by omega))) fun a121 f121 => ?_
                        clear f120 a120
                        refine R.take 24 f121 rfl rfl (by decide) (by kernel_rfl) (by kernel_rfl) (by kernel_rfl) (fun _ _ _ _ h => h) (f121.yes rfl rfl) hS18 (fun W hW => (by first | exact E.load f121 Tryd.underlying9 rfl rfl (ss_cell (SF.kept hW) rfl hx) | exact E.load f121 Tryd.underlying9 rfl rfl (ss_cell (SF.kept hW) rfl hy) | exact E.load f121 Tryd.underlying9 rfl rfl (ss_cell (SM.kept hW) rfl hz))) fun a122 f122 => ?_
                        clear f121 a121
                        refine R.take 25 f122 rfl rfl (by decide) (by kernel_rfl) (by kernel_rfl) (by kernel_rfl) (fun _ _ _ _ h => h) (f122.yes rfl rfl) hS18 (fun W hW => (E.move f122 rfl)) fun a123 f123 => ?_
                        clear f122 a122
                        refine R.take 26 f123 rfl rfl (by decide) (by kernel_rfl) (by kernel_rfl) (by kernel_rfl) (fun _ _ _ _ h => h) (f123.yes rfl rfl) hS18 (fun W hW => (E.move f123 rfl)) fun a124 f124 => ?_
                        clear f123 a123
                        refine R.take 27 f124 rfl rfl (by decide) (by kernel_rfl) (by kernel_rfl) (by kernel_rfl) (fun _ _ _ _ h => h) (f124.yes rfl rfl) hS18 (fun W hW => (E.indexA f124 (by first | rfl | assumption) Tryd.underlying26 wsz9_tw rfl rfl (by omega) (by omega))) fun a125 f125 => ?_
                        clear f124 a124
                        refine R.take 28 f125 rfl rfl (by decide) (by kernel_rfl) (by kernel_rfl) (by kernel_rfl) (fun _ _ _ _ h => h) (f125.yes rfl rfl) hS18 (fun W hW => (by first | exact E.load f125 Tryd.underlying9 rfl rfl (ss_cell (SF.kept hW) rfl hx) | exact E.load f125 Tryd.underlying9 rfl rfl (ss_cell (SF.kept hW) rfl hy) | exact E.load f125 Tryd.underlying9 rfl rfl (ss_cell (SM.kept hW) rfl hz))) fun a126 f126 => ?_
                        clear f125 a125
                        refine R.call 29 f126 rfl rfl (by decide) (by kernel_rfl) (f126.yes rfl rfl) (run_call Tryd.call19 (args2 f126 rfl rfl)) (match_any y z w20 (G.kept (HK.trans hS18 (by simp))) (by omega) (by omega)) ?_
                        rintro e w21 ⟨kc21, rfl⟩
                        replace hS18 := hS18.trans kc21 (by simp)
                        refine ⟨_, rfl, hS18, fun a127 f127 => ?_⟩
                        clear f126 a126
                        have szw21 := kc21.size
                        clear kc21
                        have f128 := f127.as (i := 113) (v' := .bool true) rfl (by rw [within_match h93 h104])
                        clear f127
                        refine R.take 30 f128 rfl rfl (by decide) (by kernel_rfl) (by kernel_rfl) (by kernel_rfl) (fun _ _ _ _ h => h) (f128.yes rfl rfl) hS18 (fun W hW => (E.not f128 rfl)) fun a129 f129 => ?_
                        clear f128 a127
                        refine R.take 31 f129 rfl rfl (by decide) (by kernel_rfl) (by kernel_rfl) (by kernel_rfl) (fun _ _ _ _ h => h) wantedN hS18 (fun W hW => (E.pickT f129 rfl rfl)) fun a130 f130 => ?_
                        clear f129 a129
                        have szw21r := hS18.size
                        replace HK := HK.trans hS18 (by simp)
                        replace SF := SF.kept hS18
                        replace SM := SM.kept hS18
                        clear hS18
                        refine R.done (by kernel_rfl) (hK28 _ _ ?_)
                        try clear hK28 K28
                        have f131 := f130.sub (sub_cons (i := 13) rfl (sub_cons (i := 14) rfl (sub_cons (i := 15) rfl (sub_cons (i := 16) rfl (sub_cons (i := 17) rfl (sub_cons (i := 78) rfl (sub_cons (i := 79) rfl (sub_cons (i := 80) rfl (sub_cons (i := 81) rfl (sub_cons (i := 84) rfl (sub_cons (i := 85) rfl (sub_cons (i := 86) rfl (sub_cons (i := 87) rfl (sub_cons (i := 88) rfl (sub_cons (i := 89) rfl (sub_cons (i := 90) rfl (sub_cons (i := 91) rfl (sub_cons (i := 92) rfl (sub_cons (i := 93) rfl (sub_cons (i := 94) rfl (sub_cons (i := 95) rfl (sub_cons (i := 96) rfl (sub_cons (i := 97) rfl (sub_cons (i := 98) rfl (sub_cons (i := 99) rfl (sub_cons (i := 100) rfl (sub_cons (i := 101) rfl (sub_cons (i := 102) rfl (sub_cons (i := 103) rfl (sub_cons (i := 104) rfl (sub_cons (i := 105) rfl (sub_cons (i := 106) rfl (sub_cons (i := 107) rfl (sub_cons (i := 108) rfl (sub_cons (i := 109) rfl (sub_cons (i := 110) rfl (sub_cons (i := 111) rfl (sub_cons (i := 112) rfl (sub_cons (i := 113) rfl (sub_cons (i := 114) rfl (sub_cons (i := 115) rfl sub_nil)))))))))))))))))))))))))))))))))))))))))
                        clear f130
                        refine C.condF f131 rfl ?_
                        refine wp_skip (hK27 _ _ ?_)
                        try clear hK27 K27
                        have f132 := f131.sub (sub_cons (i := 13) rfl (sub_cons (i := 14) rfl (sub_cons (i := 15) rfl (sub_cons (i := 16) rfl (sub_cons (i := 17) rfl (sub_cons (i := 78) rfl (sub_cons (i := 79) rfl (sub_cons (i := 80) rfl (sub_cons (i := 81) rfl (sub_cons (i := 84) rfl (sub_cons (i := 85) rfl (sub_cons (i := 86) rfl (sub_cons (i := 87) rfl (sub_cons (i := 88) rfl (sub_cons (i := 89) rfl (sub_cons (i := 90) rfl (sub_cons (i := 91) rfl (sub_cons (i := 92) rfl (sub_cons (i := 93) rfl (sub_cons (i := 94) rfl (sub_cons (i := 95) rfl (sub_cons (i := 96) rfl (sub_cons (i := 97) rfl (sub_cons (i := 98) rfl (sub_cons (i := 99) rfl (sub_cons (i := 100) rfl (sub_cons (i := 101) rfl (sub_cons (i := 102) rfl (sub_cons (i := 103) rfl (sub_cons (i := 104) rfl (sub_cons (i := 105) rfl (sub_cons (i := 106) rfl (sub_cons (i := 107) rfl (sub_cons (i := 108) rfl (sub_cons (i := 109) rfl (sub_cons (i := 110) rfl (sub_cons (i := 111) rfl (sub_cons (i := 112) rfl (sub_cons (i := 113) rfl (sub_cons (i := 114) rfl (sub_cons (i := 115) rfl sub_nil)))))))))))))))))))))))))))))))))))))))))
                        clear f131
                        refine C.region ?_
                        refine L.val f132 wantedN rfl (by decide) (E.move f132 rfl) fun a133 f133 => ?_
                        clear f132 a130
                        refine L.val f133 wantedN rfl (by decide) (E.add f133 rfl rfl (IntWalk.i64_in _ (by omega))) fun a134 f134 => ?_
                        clear f133 a133
                        refine L.val f134 wantedN rfl (by decide) (E.assign f134 rfl) fun a135 f135 => ?_
                        clear f134 a134
                        refine wpList_nil (hKL24 _ _ (gk25 - 1) ?_ ?_)
                        · omega
                        · exact ⟨q + 1, by omega, HK, SF, SM, f135.sub (sub_cons rfl (sub_cons rfl (sub_cons rfl (sub_cons rfl (sub_cons rfl sub_nil)))))⟩
                      · clear f117
                        have h104 := h7
                        refine R.takeSkip 21 f118 rfl rfl (by decide) (by kernel_rfl) (by kernel_rfl) (by kernel_rfl) (fun _ _ _ _ h => h) (f118.noT rfl rfl) hS18 fun a119 f119 => ?_
                        clear f118 a117
                        refine R.takeSkip 22 f119 rfl rfl (by decide) (by kernel_rfl) (by kernel_rfl) (by kernel_rfl) (fun _ _ _ _ h => h) (f119.noT rfl rfl) hS18 fun a120 f120 => ?_
                        clear f119 a119
                        refine R.takeSkip 23 f120 rfl rfl (by decide) (by kernel_rfl) (by kernel_rfl) (by kernel_rfl) (fun _ _ _ _ h => h) (f120.noT rfl rfl) hS18 fun a121 f121 => ?_
                        clear f120 a120
                        refine R.takeSkip 24 f121 rfl rfl (by decide) (by kernel_rfl) (by kernel_rfl) (by kernel_rfl) (fun _ _ _ _ h => h) (f121.noT rfl rfl) hS18 fun a122 f122 => ?_
                        clear f121 a121
                        refine R.takeSkip 25 f122 rfl rfl (by decide) (by kernel_rfl) (by kernel_rfl) (by kernel_rfl) (fun _ _ _ _ h => h) (f122.noT rfl rfl) hS18 fun a123 f123 => ?_
                        clear f122 a122
                        refine R.takeSkip 26 f123 rfl rfl (by decide) (by kernel_rfl) (by kernel_rfl) (by kernel_rfl) (fun _ _ _ _ h => h) (f123.noT rfl rfl) hS18 fun a124 f124 => ?_
                        clear f123 a123
                        refine R.takeSkip 27 f124 rfl rfl (by decide) (by kernel_rfl) (by kernel_rfl) (by kernel_rfl) (fun _ _ _ _ h => h) (f124.noT rfl rfl) hS18 fun a125 f125 => ?_
                        clear f124 a124
                        refine R.takeSkip 28 f125 rfl rfl (by decide) (by kernel_rfl) (by kernel_rfl) (by kernel_rfl) (fun _ _ _ _ h => h) (f125.noT rfl rfl) hS18 fun a126 f126 => ?_
                        clear f125 a125
                        refine R.takeSkip 29 f126 rfl rfl (by decide) (by kernel_rfl) (by kernel_rfl) (by kernel_rfl) (fun _ _ _ _ h => h) (f126.noT rfl rfl) hS18 fun a127 f127 => ?_
                        clear f126 a126
                        refine R.takeSkip 30 f127 rfl rfl (by decide) (by kernel_rfl) (by kernel_rfl) (by kernel_rfl) (fun _ _ _ _ h => h) (f127.noT rfl rfl) hS18 fun a128 f128 => ?_
                        clear f127 a127
                        refine R.take 31 f128 rfl rfl (by decide) (by kernel_rfl) (by kernel_rfl) (by kernel_rfl) (fun _ _ _ _ h => h) wantedN hS18 (fun W hW => (E.pickF f128 rfl rfl)) fun a129 f129 => ?_
                        clear f128 a128
                        have szw20r := hS18.size
                        replace HK := HK.trans hS18 (by simp)
                        replace SF := SF.kept hS18
                        replace SM := SM.kept hS18
                        clear hS18
                        refine R.done (by kernel_rfl) (hK28 _ _ ?_)
                        try clear hK28 K28
                        have f130 := f129.sub (sub_cons (i := 13) rfl (sub_cons (i := 14) rfl (sub_cons (i := 15) rfl (sub_cons (i := 16) rfl (sub_cons (i := 17) rfl (sub_cons (i := 78) rfl (sub_cons (i := 79) rfl (sub_cons (i := 80) rfl (sub_cons (i := 81) rfl (sub_cons (i := 84) rfl (sub_cons (i := 85) rfl (sub_cons (i := 86) rfl (sub_cons (i := 87) rfl (sub_cons (i := 88) rfl (sub_cons (i := 89) rfl (sub_cons (i := 90) rfl (sub_cons (i := 91) rfl (sub_cons (i := 92) rfl (sub_cons (i := 93) rfl (sub_cons (i := 94) rfl (sub_cons (i := 95) rfl (sub_cons (i := 96) rfl (sub_cons (i := 97) rfl (sub_cons (i := 98) rfl (sub_cons (i := 99) rfl (sub_cons (i := 100) rfl (sub_cons (i := 101) rfl (sub_cons (i := 102) rfl (sub_cons (i := 103) rfl (sub_cons (i := 104) rfl (sub_cons (i := 105) rfl (sub_cons (i := 106) rfl (sub_cons (i := 107) rfl (sub_cons (i := 108) rfl (sub_cons (i := 109) rfl (sub_cons (i := 110) rfl (sub_cons (i := 111) rfl (sub_cons (i := 112) rfl (sub_cons (i := 113) rfl (sub_cons (i := 114) rfl (sub_cons (i := 115) rfl sub_nil)))))))))))))))))))))))))))))))))))))))))
                        clear f129
                        refine C.condF f130 rfl ?_
                        refine wp_skip (hK27 _ _ ?_)
                        try clear hK27 K27
                        have f131 := f130.sub (sub_cons (i := 13) rfl (sub_cons (i := 14) rfl (sub_cons (i := 15) rfl (sub_cons (i := 16) rfl (sub_cons (i := 17) rfl (sub_cons (i := 78) rfl (sub_cons (i := 79) rfl (sub_cons (i := 80) rfl (sub_cons (i := 81) rfl (sub_cons (i := 84) rfl (sub_cons (i := 85) rfl (sub_cons (i := 86) rfl (sub_cons (i := 87) rfl (sub_cons (i := 88) rfl (sub_cons (i := 89) rfl (sub_cons (i := 90) rfl (sub_cons (i := 91) rfl (sub_cons (i := 92) rfl (sub_cons (i := 93) rfl (sub_cons (i := 94) rfl (sub_cons (i := 95) rfl (sub_cons (i := 96) rfl (sub_cons (i := 97) rfl (sub_cons (i := 98) rfl (sub_cons (i := 99) rfl (sub_cons (i := 100) rfl (sub_cons (i := 101) rfl (sub_cons (i := 102) rfl (sub_cons (i := 103) rfl (sub_cons (i := 104) rfl (sub_cons (i := 105) rfl (sub_cons (i := 106) rfl (sub_cons (i := 107) rfl (sub_cons (i := 108) rfl (sub_cons (i := 109) rfl (sub_cons (i := 110) rfl (sub_cons (i := 111) rfl (sub_cons (i := 112) rfl (sub_cons (i := 113) rfl (sub_cons (i := 114) rfl (sub_cons (i := 115) rfl sub_nil)))))))))))))))))))))))))))))))))))))))))
                        clear f130
                        refine C.region ?_
                        refine L.val f131 wantedN rfl (by decide) (E.move f131 rfl) fun a132 f132 => ?_
                        clear f131 a129
                        refine L.val f132 wantedN rfl (by decide) (E.add f132 rfl rfl (IntWalk.i64_in _ (by omega))) fun a133 f133 => ?_
                        clear f132 a132
                        refine L.val f133 wantedN rfl (by decide) (E.assign f133 rfl) fun a134 f134 => ?_
                        clear f133 a133
                        refine wpList_nil (hKL24 _ _ (gk25 - 1) ?_ ?_)
                        · omega
                        · exact ⟨q + 1, by omega, HK, SF, SM, f134.sub (sub_cons rfl (sub_cons rfl (sub_cons rfl (sub_cons rfl (sub_cons rfl sub_nil)))))⟩
                    · clear f105
                      have h93 := h6
                      refine R.takeSkip 10 f106 rfl rfl (by decide) (by kernel_rfl) (by kernel_rfl) (by kernel_rfl) (fun _ _ _ _ h => h) (f106.noT rfl rfl) hS18 fun a107 f107 => ?_
                      clear f106 a105
                      refine R.takeSkip 11 f107 rfl rfl (by decide) (by kernel_rfl) (by kernel_rfl) (by kernel_rfl) (fun _ _ _ _ h => h) (f107.noT rfl rfl) hS18 fun a108 f108 => ?_
                      clear f107 a107
                      refine R.takeSkip 12 f108 rfl rfl (by decide) (by kernel_rfl) (by kernel_rfl) (by kernel_rfl) (fun _ _ _ _ h => h) (f108.noT rfl rfl) hS18 fun a109 f109 => ?_
                      clear f108 a108
                      refine R.takeSkip 13 f109 rfl rfl (by decide) (by kernel_rfl) (by kernel_rfl) (by kernel_rfl) (fun _ _ _ _ h => h) (f109.noT rfl rfl) hS18 fun a110 f110 => ?_
                      clear f109 a109
                      refine R.takeSkip 14 f110 rfl rfl (by decide) (by kernel_rfl) (by kernel_rfl) (by kernel_rfl) (fun _ _ _ _ h => h) (f110.noT rfl rfl) hS18 fun a111 f111 => ?_
                      clear f110 a110
                      refine R.takeSkip 15 f111 rfl rfl (by decide) (by kernel_rfl) (by kernel_rfl) (by kernel_rfl) (fun _ _ _ _ h => h) (f111.noT rfl rfl) hS18 fun a112 f112 => ?_
                      clear f111 a111
                      refine R.takeSkip 16 f112 rfl rfl (by decide) (by kernel_rfl) (by kernel_rfl) (by kernel_rfl) (fun _ _ _ _ h => h) (f112.noT rfl rfl) hS18 fun a113 f113 => ?_
                      clear f112 a112
                      refine R.takeSkip 17 f113 rfl rfl (by decide) (by kernel_rfl) (by kernel_rfl) (by kernel_rfl) (fun _ _ _ _ h => h) (f113.noT rfl rfl) hS18 fun a114 f114 => ?_
                      clear f113 a113
                      refine R.takeSkip 18 f114 rfl rfl (by decide) (by kernel_rfl) (by kernel_rfl) (by kernel_rfl) (fun _ _ _ _ h => h) (f114.noT rfl rfl) hS18 fun a115 f115 => ?_
                      clear f114 a114
                      refine R.take 19 f115 rfl rfl (by decide) (by kernel_rfl) (by kernel_rfl) (by kernel_rfl) (fun _ _ _ _ h => h) wantedN hS18 (fun W hW => (E.pickF f115 rfl rfl)) fun a116 f116 => ?_
                      clear f115 a115
                      refine R.take 20 f116 rfl rfl (by decide) (by kernel_rfl) (by kernel_rfl) (by kernel_rfl) (fun _ _ _ _ h => h) wantedN hS18 (fun W hW => (E.move f116 rfl)) fun a117 f117 => ?_
                      clear f116 a116
                      refine R.takeSkip 21 f117 rfl rfl (by decide) (by kernel_rfl) (by kernel_rfl) (by kernel_rfl) (fun _ _ _ _ h => h) (f117.noT rfl rfl) hS18 fun a118 f118 => ?_
                      clear f117 a117
                      refine R.takeSkip 22 f118 rfl rfl (by decide) (by kernel_rfl) (by kernel_rfl) (by kernel_rfl) (fun _ _ _ _ h => h) (f118.noT rfl rfl) hS18 fun a119 f119 => ?_
                      clear f118 a118
                      refine R.takeSkip 23 f119 rfl rfl (by decide) (by kernel_rfl) (by kernel_rfl) (by kernel_rfl) (fun _ _ _ _ h => h) (f119.noT rfl rfl) hS18 fun a120 f120 => ?_
                      clear f119 a119
                      refine R.takeSkip 24 f120 rfl rfl (by decide) (by kernel_rfl) (by kernel_rfl) (by kernel_rfl) (fun _ _ _ _ h => h) (f120.noT rfl rfl) hS18 fun a121 f121 => ?_
                      clear f120 a120
                      refine R.takeSkip 25 f121 rfl rfl (by decide) (by kernel_rfl) (by kernel_rfl) (by kernel_rfl) (fun _ _ _ _ h => h) (f121.noT rfl rfl) hS18 fun a122 f122 => ?_
                      clear f121 a121
                      refine R.takeSkip 26 f122 rfl rfl (by decide) (by kernel_rfl) (by kernel_rfl) (by kernel_rfl) (fun _ _ _ _ h => h) (f122.noT rfl rfl) hS18 fun a123 f123 => ?_
                      clear f122 a122
                      refine R.takeSkip 27 f123 rfl rfl (by decide) (by kernel_rfl) (by kernel_rfl) (by kernel_rfl) (fun _ _ _ _ h => h) (f123.noT rfl rfl) hS18 fun a124 f124 => ?_
                      clear f123 a123
                      refine R.takeSkip 28 f124 rfl rfl (by decide) (by kernel_rfl) (by kernel_rfl) (by kernel_rfl) (fun _ _ _ _ h => h) (f124.noT rfl rfl) hS18 fun a125 f125 => ?_
                      clear f124 a124
                      refine R.takeSkip 29 f125 rfl rfl (by decide) (by kernel_rfl) (by kernel_rfl) (by kernel_rfl) (fun _ _ _ _ h => h) (f125.noT rfl rfl) hS18 fun a126 f126 => ?_
                      clear f125 a125
                      refine R.takeSkip 30 f126 rfl rfl (by decide) (by kernel_rfl) (by kernel_rfl) (by kernel_rfl) (fun _ _ _ _ h => h) (f126.noT rfl rfl) hS18 fun a127 f127 => ?_
                      clear f126 a126
                      refine R.take 31 f127 rfl rfl (by decide) (by kernel_rfl) (by kernel_rfl) (by kernel_rfl) (fun _ _ _ _ h => h) wantedN hS18 (fun W hW => (E.pickF f127 rfl rfl)) fun a128 f128 => ?_
                      clear f127 a127
                      have szw19r := hS18.size
                      replace HK := HK.trans hS18 (by simp)
                      replace SF := SF.kept hS18
                      replace SM := SM.kept hS18
                      clear hS18
                      refine R.done (by kernel_rfl) (hK28 _ _ ?_)
                      try clear hK28 K28
                      have f129 := f128.sub (sub_cons (i := 13) rfl (sub_cons (i := 14) rfl (sub_cons (i := 15) rfl (sub_cons (i := 16) rfl (sub_cons (i := 17) rfl (sub_cons (i := 78) rfl (sub_cons (i := 79) rfl (sub_cons (i := 80) rfl (sub_cons (i := 81) rfl (sub_cons (i := 84) rfl (sub_cons (i := 85) rfl (sub_cons (i := 86) rfl (sub_cons (i := 87) rfl (sub_cons (i := 88) rfl (sub_cons (i := 89) rfl (sub_cons (i := 90) rfl (sub_cons (i := 91) rfl (sub_cons (i := 92) rfl (sub_cons (i := 93) rfl (sub_cons (i := 94) rfl (sub_cons (i := 95) rfl (sub_cons (i := 96) rfl (sub_cons (i := 97) rfl (sub_cons (i := 98) rfl (sub_cons (i := 99) rfl (sub_cons (i := 100) rfl (sub_cons (i := 101) rfl (sub_cons (i := 102) rfl (sub_cons (i := 103) rfl (sub_cons (i := 104) rfl (sub_cons (i := 105) rfl (sub_cons (i := 106) rfl (sub_cons (i := 107) rfl (sub_cons (i := 108) rfl (sub_cons (i := 109) rfl (sub_cons (i := 110) rfl (sub_cons (i := 111) rfl (sub_cons (i := 112) rfl (sub_cons (i := 113) rfl (sub_cons (i := 114) rfl (sub_cons (i := 115) rfl sub_nil)))))))))))))))))))))))))))))))))))))))))
                      clear f128
                      refine C.condF f129 rfl ?_
                      refine wp_skip (hK27 _ _ ?_)
                      try clear hK27 K27
                      have f130 := f129.sub (sub_cons (i := 13) rfl (sub_cons (i := 14) rfl (sub_cons (i := 15) rfl (sub_cons (i := 16) rfl (sub_cons (i := 17) rfl (sub_cons (i := 78) rfl (sub_cons (i := 79) rfl (sub_cons (i := 80) rfl (sub_cons (i := 81) rfl (sub_cons (i := 84) rfl (sub_cons (i := 85) rfl (sub_cons (i := 86) rfl (sub_cons (i := 87) rfl (sub_cons (i := 88) rfl (sub_cons (i := 89) rfl (sub_cons (i := 90) rfl (sub_cons (i := 91) rfl (sub_cons (i := 92) rfl (sub_cons (i := 93) rfl (sub_cons (i := 94) rfl (sub_cons (i := 95) rfl (sub_cons (i := 96) rfl (sub_cons (i := 97) rfl (sub_cons (i := 98) rfl (sub_cons (i := 99) rfl (sub_cons (i := 100) rfl (sub_cons (i := 101) rfl (sub_cons (i := 102) rfl (sub_cons (i := 103) rfl (sub_cons (i := 104) rfl (sub_cons (i := 105) rfl (sub_cons (i := 106) rfl (sub_cons (i := 107) rfl (sub_cons (i := 108) rfl (sub_cons (i := 109) rfl (sub_cons (i := 110) rfl (sub_cons (i := 111) rfl (sub_cons (i := 112) rfl (sub_cons (i := 113) rfl (sub_cons (i := 114) rfl (sub_cons (i := 115) rfl sub_nil)))))))))))))))))))))))))))))))))))))))))
                      clear f129
                      refine C.region ?_
                      refine L.val f130 wantedN rfl (by decide) (E.move f130 rfl) fun a131 f131 => ?_
                      clear f130 a128
                      refine L.val f131 wantedN rfl (by decide) (E.add f131 rfl rfl (IntWalk.i64_in _ (by omega))) fun a132 f132 => ?_
                      clear f131 a131
                      refine L.val f132 wantedN rfl (by decide) (E.assign f132 rfl) fun a133 f133 => ?_
                      clear f132 a132
                      refine wpList_nil (hKL24 _ _ (gk25 - 1) ?_ ?_)
                      · omega
                      · exact ⟨q + 1, by omega, HK, SF, SM, f133.sub (sub_cons rfl (sub_cons rfl (sub_cons rfl (sub_cons rfl (sub_cons rfl sub_nil)))))⟩
                  · clear f93
                    refine C.condF f94 rfl ?_
                    refine wp_exit (hK22 _ _ ?_)
                    try clear hK22 K22
                    have f95 := f94.sub (sub_cons (i := 13) rfl (sub_cons (i := 14) rfl (sub_cons (i := 15) rfl (sub_cons (i := 16) rfl (sub_cons (i := 17) rfl (sub_cons (i := 78) rfl (sub_cons (i := 79) rfl (sub_cons (i := 80) rfl (sub_cons (i := 81) rfl sub_nil)))))))))
                    clear f94
                    refine C.region ?_
                    refine L.val f95 wantedN rfl (by decide) (E.move f95 rfl) fun a96 f96 => ?_
                    clear f95 a92
                    refine L.val f96 wantedN rfl (by decide) (E.add f96 rfl rfl (IntWalk.i64_in _ (by omega))) fun a97 f97 => ?_
                    clear f96 a96
                    refine L.val f97 wantedN rfl (by decide) (E.assign f97 rfl) fun a98 f98 => ?_
                    clear f97 a97
                    refine wpList_nil (hKL19 _ _ (gk20 - 1) ?_ ?_)
                    · omega
                    · exact ⟨o + 1, by omega, HK, SF, SM, f98.sub (sub_cons rfl (sub_cons rfl (sub_cons rfl (sub_cons rfl sub_nil))))⟩
              · clear f83
                refine C.condF f84 rfl ?_
                refine wp_exit (hK15 _ _ ?_)
                try clear hK15 K15
                have f85 := f84.sub (sub_cons (i := 13) rfl (sub_cons (i := 14) rfl (sub_cons (i := 15) rfl (sub_cons (i := 16) rfl (sub_cons (i := 72) rfl (sub_cons (i := 73) rfl (sub_cons (i := 74) rfl (sub_cons (i := 75) rfl sub_nil))))))))
                clear f84
                refine C.region ?_
                refine L.val f85 wantedN rfl (by decide) (E.move f85 rfl) fun a86 f86 => ?_
                clear f85 a82
                refine L.val f86 wantedN rfl (by decide) (E.add f86 rfl rfl (IntWalk.i64_in _ (by omega))) fun a87 f87 => ?_
                clear f86 a86
                refine L.val f87 wantedN rfl (by decide) (E.assign f87 rfl) fun a88 f88 => ?_
                clear f87 a87
                refine wpList_nil (hKL12 _ _ (gk13 - 1) ?_ ?_)
                · omega
                · exact ⟨i + 1, by omega, HK, SF, SM, f88.sub (sub_cons rfl (sub_cons rfl (sub_cons rfl sub_nil)))⟩
          · clear f55
            refine C.condF f56 rfl ?_
            refine wp_exit (hK10 _ _ ?_)
            try clear hK10 K10
            have f57 := f56.sub sub_nil
            clear f56
            refine wp_seq_k fun K29 hK29 => ?_
            refine C.region ?_
            refine L.val f57 wantedN rfl (by decide) (E.assign f57 rfl) fun a58 f58 => ?_
            clear f57 a54
            refine wpList_nil (hK29 _ _ ?_)
            try clear hK29 K29
            have f59 := f58.sub (sub_cons (i := 12) rfl sub_nil)
            clear f58
            refine wp_ret ?_
            try simp only [Exit.inBlock, Exit.then]
            refine C.ret (P := Tryd.prog) (fn := Tryd.f4) f59 rfl rfl ?_
            exact ⟨HK, rfl⟩

end Go.Proofs.YtpdacegpjofdeaaDoor
