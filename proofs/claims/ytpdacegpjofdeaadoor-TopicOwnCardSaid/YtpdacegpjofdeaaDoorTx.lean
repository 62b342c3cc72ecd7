/- The walk of TopicTells. -/
import Derived.Test.YtpdacegpjofdeaaDoorTw
set_option linter.all false
namespace Go.Proofs.YtpdacegpjofdeaaDoor
open Go.RowKit Go.Hub Go.Lib
theorem wzi9_tx : (Tryd.prog.info? 9).map (fun i => (i.zero, i.size)) = some (some (.string ⟨#[]⟩), 1) := by kernel_rfl
theorem wbs26_7_tx (x0 : ByteArray) (x1 : ByteArray) (x2 : ByteArray) (x3 : ByteArray) (x4 : ByteArray) (x5 : ByteArray) (x6 : ByteArray) : Instr.fill (fun i => some (i * 1, 1)) ((Array.range (7 * 1)).map fun j => (Value.cells (.string ⟨#[]⟩))[j % (Value.cells (.string ⟨#[]⟩)).size]!) [(0, .string x0), (1, .string x1), (2, .string x2), (3, .string x3), (4, .string x4), (5, .string x5), (6, .string x6)] = some #[.string x0, .string x1, .string x2, .string x3, .string x4, .string x5, .string x6] := by kernel_rfl
theorem wsz9_tx : (Tryd.prog.info? 9).map (·.size) = some 1 := by kernel_rfl

set_option maxRecDepth 100000 in
set_option maxHeartbeats 1000000 in
theorem tells_walk (a b : ByteArray) (w : World) (G : Glob w) (us2 : List UInt8) (A2 : Option Addr) (c2 : Nat) (Z2 : Us w A2 us2) (us3 : List UInt8) (A3 : Option Addr) (c3 : Nat) (Z3 : Us w A3 us3) (k4 : Int) (l4 : 0 ≤ k4) (m4 : k4 < 256) (k5 : Int) (l5 : 0 ≤ k5) (m5 : k5 < 256) : Calls Tryd.prog 3 #[.string a, .string b, .slice A2 us2.length c2, .slice A3 us3.length c3, .int .u8 k4, .int .u8 k5] w (fun e w' => Kept [] w w' ∧ e = .returned (.bool true)) := by
  have HK : Kept [] w w := Kept.refl [] w
  refine C.enter Tryd.func3 rfl Tryd.ntmps3 rfl ?_
  intro a0 f0
  have f1 : Fr 139 a0 [(0, .string a), (1, .string b), (2, .slice A2 us2.length c2), (3, .slice A3 us3.length c3), (4, .int .u8 k4), (5, .int .u8 k5)] := f0
  clear f0
  refine wp_seq_k fun K0 hK0 => ?_
  refine C.region ?_
  refine L.val f1 wantedN rfl (by decide) (E.assign f1 rfl) fun a2 f2 => ?_
  clear f1 a0
  refine wpList_nil (hK0 _ _ ?_)
  try clear hK0 K0
  have f3 := f2.sub (sub_cons (i := 0) rfl (sub_cons (i := 1) rfl (sub_cons (i := 2) rfl (sub_cons (i := 3) rfl (sub_cons (i := 4) rfl (sub_cons (i := 5) rfl (sub_cons (i := 12) rfl sub_nil)))))))
  clear f2
  refine wp_seq_k fun K1 hK1 => ?_
  refine wp_seq_k fun K2 hK2 => ?_
  refine C.region ?_
  refine L.call f3 wantedN rfl (by decide) (run_call Tryd.call8 (args0 f3)) (known_any w (G.kept HK)) ?_
  rintro e w1 ⟨kc1, rfl⟩
  refine ⟨_, rfl, fun a4 f4 => ?_⟩
  clear f3 a2
  have szw1 := kc1.size
  replace HK := HK.trans kc1 (by simp)
  clear kc1
  refine L.val f4 wantedN rfl (by decide) (E.not f4 rfl) fun a5 f5 => ?_
  clear f4 a4
  refine wpList_nil (hK2 _ _ ?_)
  try clear hK2 K2
  have f6 := f5.sub (sub_cons (i := 0) rfl (sub_cons (i := 1) rfl (sub_cons (i := 2) rfl (sub_cons (i := 3) rfl (sub_cons (i := 4) rfl (sub_cons (i := 5) rfl (sub_cons (i := 12) rfl (sub_cons (i := 17) rfl sub_nil))))))))
  clear f5
  refine C.condF f6 rfl ?_
  refine wp_skip (hK1 _ _ ?_)
  try clear hK1 K1
  have f7 := f6.sub (sub_cons (i := 0) rfl (sub_cons (i := 1) rfl (sub_cons (i := 2) rfl (sub_cons (i := 3) rfl (sub_cons (i := 4) rfl (sub_cons (i := 5) rfl (sub_cons (i := 12) rfl sub_nil)))))))
  clear f6
  refine wp_seq_k fun K3 hK3 => ?_
  refine wp_seq_k fun K4 hK4 => ?_
  refine C.region ?_
  refine L.val f7 wantedN rfl (by decide) (E.move f7 rfl) fun a8 f8 => ?_
  clear f7 a5
  refine L.val f8 wantedN rfl (by decide) (E.lenS f8 Tryd.underlying9 rfl) fun a9 f9 => ?_
  clear f8 a8
  refine L.val f9 wantedN rfl (by decide) (E.gtr f9 rfl rfl) fun a10 f10 => ?_
  clear f9 a9
  refine L.val f10 wantedN rfl (by decide) (E.move f10 rfl) fun a11 f11 => ?_
  clear f10 a10
  first | refine f11.splitD 21 rfl (fun h0 f12 => ?_) (fun h0 f12 => ?_) | refine f11.splitN 21 rfl (fun h0 f12 => ?_) (fun h0 f12 => ?_) | refine f11.splitNB 21 rfl (fun h0 f12 => ?_) (fun h0 f12 => ?_) | refine f11.split 21 rfl (fun h0 f12 => ?_) (fun h0 f12 => ?_)
  · clear f11
    refine L.skip f12 (f12.noF rfl rfl) rfl (by decide) fun a13 f13 => ?_
    clear f12 a11
    refine L.skip f13 (f13.noF rfl rfl) rfl (by decide) fun a14 f14 => ?_
    clear f13 a13
    refine L.skip f14 (f14.noF rfl rfl) rfl (by decide) fun a15 f15 => ?_
    clear f14 a14
    refine L.val f15 wantedN rfl (by decide) (E.pickT f15 rfl rfl) fun a16 f16 => ?_
    clear f15 a15
    refine L.val f16 wantedN rfl (by decide) (E.move f16 rfl) fun a17 f17 => ?_
    clear f16 a16
    refine L.skip f17 (f17.noF rfl rfl) rfl (by decide) fun a18 f18 => ?_
    clear f17 a17
    refine L.skip f18 (f18.noF rfl rfl) rfl (by decide) fun a19 f19 => ?_
    clear f18 a18
    refine L.skip f19 (f19.noF rfl rfl) rfl (by decide) fun a20 f20 => ?_
    clear f19 a19
    refine L.val f20 wantedN rfl (by decide) (E.pickT f20 rfl rfl) fun a21 f21 => ?_
    clear f20 a20
    refine L.val f21 wantedN rfl (by decide) (E.move f21 rfl) fun a22 f22 => ?_
    clear f21 a21
    refine L.skip f22 (f22.noF rfl rfl) rfl (by decide) fun a23 f23 => ?_
    clear f22 a22
    refine L.skip f23 (f23.noF rfl rfl) rfl (by decide) fun a24 f24 => ?_
    clear f23 a23
    refine L.skip f24 (f24.noF rfl rfl) rfl (by decide) fun a25 f25 => ?_
    clear f24 a24
    refine L.val f25 wantedN rfl (by decide) (E.pickT f25 rfl rfl) fun a26 f26 => ?_
    clear f25 a25
    refine wpList_nil (hK4 _ _ ?_)
    try clear hK4 K4
    have f27 := f26.sub (sub_cons (i := 0) rfl (sub_cons (i := 1) rfl (sub_cons (i := 2) rfl (sub_cons (i := 3) rfl (sub_cons (i := 4) rfl (sub_cons (i := 5) rfl (sub_cons (i := 12) rfl (sub_cons (i := 35) rfl sub_nil))))))))
    clear f26
    refine C.condT f27 rfl ?_
    refine wp_seq_k fun K5 hK5 => ?_
    refine C.region ?_
    refine L.val f27 wantedN rfl (by decide) (E.assign f27 rfl) fun a28 f28 => ?_
    clear f27 a26
    refine wpList_nil (hK5 _ _ ?_)
    try clear hK5 K5
    have f29 := f28.sub (sub_cons (i := 0) rfl (sub_cons (i := 1) rfl (sub_cons (i := 2) rfl (sub_cons (i := 3) rfl (sub_cons (i := 4) rfl (sub_cons (i := 5) rfl (sub_cons (i := 12) rfl sub_nil)))))))
    clear f28
    refine wp_ret ?_
    try simp only [Exit.inBlock, Exit.then]
    refine C.ret (P := Tryd.prog) (fn := Tryd.f3) f29 rfl rfl ?_
    exact ⟨HK, rfl⟩
  · clear f11
    refine L.val f12 (f12.yes rfl rfl) rfl (by decide) (E.move f12 rfl) fun a13 f13 => ?_
    clear f12 a11
    refine L.val f13 (f13.yes rfl rfl) rfl (by decide) (E.lenS f13 Tryd.underlying9 rfl) fun a14 f14 => ?_
    clear f13 a13
    refine L.val f14 (f14.yes rfl rfl) rfl (by decide) (E.gtr f14 rfl rfl) fun a15 f15 => ?_
    clear f14 a14
    refine L.val f15 wantedN rfl (by decide) (E.pickF f15 rfl rfl) fun a16 f16 => ?_
    clear f15 a15
    refine L.val f16 wantedN rfl (by decide) (E.move f16 rfl) fun a17 f17 => ?_
    clear f16 a16
    first | refine f17.splitD 26 rfl (fun h1 f18 => ?_) (fun h1 f18 => ?_) | refine f17.splitN 26 rfl (fun h1 f18 => ?_) (fun h1 f18 => ?_) | refine f17.splitNB 26 rfl (fun h1 f18 => ?_) (fun h1 f18 => ?_) | refine f17.split 26 rfl (fun h1 f18 => ?_) (fun h1 f18 => ?_)
    · clear f17
      refine L.skip f18 (f18.noF rfl rfl) rfl (by decide) fun a19 f19 => ?_
      clear f18 a17
      refine L.skip f19 (f19.noF rfl rfl) rfl (by decide) fun a20 f20 => ?_
      clear f19 a19
      refine L.skip f20 (f20.noF rfl rfl) rfl (by decide) fun a21 f21 => ?_
      clear f20 a20
      refine L.val f21 wantedN rfl (by decide) (E.pickT f21 rfl rfl) fun a22 f22 => ?_
      clear f21 a21
      refine L.val f22 wantedN rfl (by decide) (E.move f22 rfl) fun a23 f23 => ?_
      clear f22 a22
      refine L.skip f23 (f23.noF rfl rfl) rfl (by decide) fun a24 f24 => ?_
      clear f23 a23
      refine L.skip f24 (f24.noF rfl rfl) rfl (by decide) fun a25 f25 => ?_
      clear f24 a24
      refine L.skip f25 (f25.noF rfl rfl) rfl (by decide) fun a26 f26 => ?_
      clear f25 a25
      refine L.val f26 wantedN rfl (by decide) (E.pickT f26 rfl rfl) fun a27 f27 => ?_
      clear f26 a26
      refine wpList_nil (hK4 _ _ ?_)
      try clear hK4 K4
      have f28 := f27.sub (sub_cons (i := 0) rfl (sub_cons (i := 1) rfl (sub_cons (i := 2) rfl (sub_cons (i := 3) rfl (sub_cons (i := 4) rfl (sub_cons (i := 5) rfl (sub_cons (i := 12) rfl (sub_cons (i := 35) rfl sub_nil))))))))
      clear f27
      refine C.condT f28 rfl ?_
      refine wp_seq_k fun K6 hK6 => ?_
      refine C.region ?_
      refine L.val f28 wantedN rfl (by decide) (E.assign f28 rfl) fun a29 f29 => ?_
      clear f28 a27
      refine wpList_nil (hK6 _ _ ?_)
      try clear hK6 K6
      have f30 := f29.sub (sub_cons (i := 0) rfl (sub_cons (i := 1) rfl (sub_cons (i := 2) rfl (sub_cons (i := 3) rfl (sub_cons (i := 4) rfl (sub_cons (i := 5) rfl (sub_cons (i := 12) rfl sub_nil)))))))
      clear f29
      refine wp_ret ?_
      try simp only [Exit.inBlock, Exit.then]
      refine C.ret (P := Tryd.prog) (fn := Tryd.f3) f30 rfl rfl ?_
      exact ⟨HK, rfl⟩
    · clear f17
      refine L.val f18 (f18.yes rfl rfl) rfl (by decide) (E.move f18 rfl) fun a19 f19 => ?_
      clear f18 a17
      refine L.val f19 (f19.yes rfl rfl) rfl (by decide) (E.lenL f19 Tryd.underlying22 rfl) fun a20 f20 => ?_
      clear f19 a19
      refine L.val f20 (f20.yes rfl rfl) rfl (by decide) (E.gtr f20 rfl rfl) fun a21 f21 => ?_
      clear f20 a20
      refine L.val f21 wantedN rfl (by decide) (E.pickF f21 rfl rfl) fun a22 f22 => ?_
      clear f21 a21
      refine L.val f22 wantedN rfl (by decide) (E.move f22 rfl) fun a23 f23 => ?_
      clear f22 a22
      first | refine f23.splitD 31 rfl (fun h2 f24 => ?_) (fun h2 f24 => ?_) | refine f23.splitN 31 rfl (fun h2 f24 => ?_) (fun h2 f24 => ?_) | refine f23.splitNB 31 rfl (fun h2 f24 => ?_) (fun h2 f24 => ?_) | refine f23.split 31 rfl (fun h2 f24 => ?_) (fun h2 f24 => ?_)
      · clear f23
        refine L.skip f24 (f24.noF rfl rfl) rfl (by decide) fun a25 f25 => ?_
        clear f24 a23
        refine L.skip f25 (f25.noF rfl rfl) rfl (by decide) fun a26 f26 => ?_
        clear f25 a25
        refine L.skip f26 (f26.noF rfl rfl) rfl (by decide) fun a27 f27 => ?_
        clear f26 a26
        refine L.val f27 wantedN rfl (by decide) (E.pickT f27 rfl rfl) fun a28 f28 => ?_
        clear f27 a27
        refine wpList_nil (hK4 _ _ ?_)
        try clear hK4 K4
        have f29 := f28.sub (sub_cons (i := 0) rfl (sub_cons (i := 1) rfl (sub_cons (i := 2) rfl (sub_cons (i := 3) rfl (sub_cons (i := 4) rfl (sub_cons (i := 5) rfl (sub_cons (i := 12) rfl (sub_cons (i := 35) rfl sub_nil))))))))
        clear f28
        refine C.condT f29 rfl ?_
        refine wp_seq_k fun K7 hK7 => ?_
        refine C.region ?_
        refine L.val f29 wantedN rfl (by decide) (E.assign f29 rfl) fun a30 f30 => ?_
        clear f29 a28
        refine wpList_nil (hK7 _ _ ?_)
        try clear hK7 K7
        have f31 := f30.sub (sub_cons (i := 0) rfl (sub_cons (i := 1) rfl (sub_cons (i := 2) rfl (sub_cons (i := 3) rfl (sub_cons (i := 4) rfl (sub_cons (i := 5) rfl (sub_cons (i := 12) rfl sub_nil)))))))
        clear f30
        refine wp_ret ?_
        try simp only [Exit.inBlock, Exit.then]
        refine C.ret (P := Tryd.prog) (fn := Tryd.f3) f31 rfl rfl ?_
        exact ⟨HK, rfl⟩
      · clear f23
        refine L.val f24 (f24.yes rfl rfl) rfl (by decide) (E.move f24 rfl) fun a25 f25 => ?_
        clear f24 a23
        refine L.val f25 (f25.yes rfl rfl) rfl (by decide) (E.lenL f25 Tryd.underlying22 rfl) fun a26 f26 => ?_
        clear f25 a25
        refine L.val f26 (f26.yes rfl rfl) rfl (by decide) (E.gtr f26 rfl rfl) fun a27 f27 => ?_
        clear f26 a26
        refine L.val f27 wantedN rfl (by decide) (E.pickF f27 rfl rfl) fun a28 f28 => ?_
        clear f27 a27
        refine wpList_nil (hK4 _ _ ?_)
        try clear hK4 K4
        have f29 := f28.sub (sub_cons (i := 0) rfl (sub_cons (i := 1) rfl (sub_cons (i := 2) rfl (sub_cons (i := 3) rfl (sub_cons (i := 4) rfl (sub_cons (i := 5) rfl (sub_cons (i := 12) rfl (sub_cons (i := 35) rfl sub_nil))))))))
        clear f28
        first | refine f29.splitD 35 rfl (fun h3 f30 => ?_) (fun h3 f30 => ?_) | refine f29.splitN 35 rfl (fun h3 f30 => ?_) (fun h3 f30 => ?_) | refine f29.splitNB 35 rfl (fun h3 f30 => ?_) (fun h3 f30 => ?_) | refine f29.split 35 rfl (fun h3 f30 => ?_) (fun h3 f30 => ?_)
        · clear f29
          refine C.condT f30 rfl ?_
          refine wp_seq_k fun K8 hK8 => ?_
          refine C.region ?_
          refine L.val f30 wantedN rfl (by decide) (E.assign f30 rfl) fun a31 f31 => ?_
          clear f30 a28
          refine wpList_nil (hK8 _ _ ?_)
          try clear hK8 K8
          have f32 := f31.sub (sub_cons (i := 0) rfl (sub_cons (i := 1) rfl (sub_cons (i := 2) rfl (sub_cons (i := 3) rfl (sub_cons (i := 4) rfl (sub_cons (i := 5) rfl (sub_cons (i := 12) rfl sub_nil)))))))
          clear f31
          refine wp_ret ?_
          try simp only [Exit.inBlock, Exit.then]
          refine C.ret (P := Tryd.prog) (fn := Tryd.f3) f32 rfl rfl ?_
          exact ⟨HK, rfl⟩
        · clear f29
          refine C.condF f30 rfl ?_
          refine wp_skip (hK3 _ _ ?_)
          try clear hK3 K3
          have f31 := f30.sub (sub_cons (i := 0) rfl (sub_cons (i := 1) rfl (sub_cons (i := 2) rfl (sub_cons (i := 3) rfl (sub_cons (i := 4) rfl (sub_cons (i := 5) rfl (sub_cons (i := 12) rfl sub_nil)))))))
          clear f30
          refine wp_seq_k fun K9 hK9 => ?_
          refine C.region ?_
          refine L.val f31 wantedN rfl (by decide) (E.move f31 rfl) fun a32 f32 => ?_
          clear f31 a28
          refine L.val f32 wantedN rfl (by decide) (E.move f32 rfl) fun a33 f33 => ?_
          clear f32 a32
          refine L.val f33 wantedN rfl (by decide) (E.move f33 rfl) fun a34 f34 => ?_
          clear f33 a33
          refine L.call f34 wantedN rfl (by decide) (run_call Tryd.call9 (args1 f34 rfl)) (pieces_any us2 _ _ w1 (Z2.kept HK) (by omega)) ?_
          rintro e w2 ⟨kc2, s1, rfl, q1⟩
          refine ⟨_, rfl, fun a35 f35 => ?_⟩
          clear f34 a34
          have szw2 := kc2.size
          replace HK := HK.trans kc2 (by simp)
          clear kc2
          refine L.val f35 wantedN rfl (by decide) (E.move f35 rfl) fun a36 f36 => ?_
          clear f35 a35
          refine L.call f36 wantedN rfl (by decide) (run_call Tryd.call9 (args1 f36 rfl)) (pieces_any us3 _ _ w2 (Z3.kept HK) (by omega)) ?_
          rintro e w3 ⟨kc3, s2, rfl, q2⟩
          refine ⟨_, rfl, fun a37 f37 => ?_⟩
          clear f36 a36
          have szw3 := kc3.size
          replace HK := HK.trans kc3 (by simp)
          clear kc3
          refine L.val f37 wantedN rfl (by decide) (E.move f37 rfl) fun a38 f38 => ?_
          clear f37 a37
          refine L.call f38 wantedN rfl (by decide) (run_call Tryd.call10 (args1 f38 rfl)) (sfilter_any k4 w3 l4 m4) ?_
          rintro e w4 ⟨kc4, s3, rfl, q3⟩
          refine ⟨_, rfl, fun a39 f39 => ?_⟩
          clear f38 a38
          have szw4 := kc4.size
          replace HK := HK.trans kc4 (by simp)
          clear kc4
          refine L.val f39 wantedN rfl (by decide) (E.move f39 rfl) fun a40 f40 => ?_
          clear f39 a39
          refine L.call f40 wantedN rfl (by decide) (run_call Tryd.call11 (args1 f40 rfl)) (stopic_any k5 w4 l5 m5) ?_
          rintro e w5 ⟨kc5, s4, rfl, q4⟩
          refine ⟨_, rfl, fun a41 f41 => ?_⟩
          clear f40 a40
          have szw5 := kc5.size
          replace HK := HK.trans kc5 (by simp)
          clear kc5
          refine L.val f41 wantedN rfl (by decide) (E.move f41 rfl) fun a42 f42 => ?_
          clear f41 a41
          refine L.call f42 wantedN rfl (by decide) (run_call Tryd.call10 (args1 f42 rfl)) (sfilter_any k5 w5 l5 m5) ?_
          rintro e w6 ⟨kc6, s5, rfl, q5⟩
          refine ⟨_, rfl, fun a43 f43 => ?_⟩
          clear f42 a42
          have szw6 := kc6.size
          replace HK := HK.trans kc6 (by simp)
          clear kc6
          refine L.buildSlice f43 wantedN (by decide) (parts7 f43 rfl rfl rfl rfl rfl rfl rfl) Tryd.underlying26 wzi9_tx rfl rfl (wbs26_7_tx _ _ _ _ _ _ _) fun a44 w7 g6 N6 f44 => ?_
          have SF := ss_blk (l := [a, b, s1, s2, s3, s4, s5]) N6.blk
          obtain ⟨F, Fl, Fs, SF⟩ : ∃ L : List ByteArray, L.length = 7 ∧ (∀ x ∈ L, x.size ≤ 60) ∧ Ss w7 (some ⟨g6, 0, none⟩) L := ⟨_, rfl, by intro x hx; simp at hx; rcases hx with rfl | rfl | rfl | rfl | rfl | rfl | rfl <;> omega, SF⟩
          have Bg6 := N6.blk
          have kg6 := N6.kept
          have log6 := N6.lo
          have ltg6 := Bg6.lt
          have szw7 := kg6.size
          have frg6 : w.heap.size ≤ g6 := Nat.le_trans HK.size log6
          replace HK := HK.trans kg6 (by simp)
          clear N6 kg6
          clear f43 a43
          refine L.val f44 wantedN rfl (by decide) (E.assign f44 rfl) fun a45 f45 => ?_
          clear f44 a44
          refine wpList_nil (hK9 _ _ ?_)
          try clear hK9 K9
          have f46 := f45.sub (sub_cons (i := 12) rfl (sub_cons (i := 13) rfl sub_nil))
          clear f45
          refine wp_seq_k fun K10 hK10 => ?_
          refine wp_seq_k fun K11 hK11 => ?_
          refine C.region ?_
          refine L.val f46 wantedN rfl (by decide) (E.assign f46 rfl) fun a47 f47 => ?_
          clear f46 a45
          refine wpList_nil (hK11 _ _ ?_)
          try clear hK11 K11
          have f48 := f47.sub (sub_cons (i := 12) rfl (sub_cons (i := 13) rfl (sub_cons (i := 14) rfl sub_nil)))
          clear f47
          refine wp_block ?_
          refine C.loop (fun gk a W => ∃ i : Nat, i + gk = 7 ∧ Kept [] w W ∧ Ss W (some ⟨g6, 0, none⟩) F ∧ Fr 139 a [(13, .slice (some ⟨g6, 0, none⟩) 7 7), (14, .int .i64 i)]) (7) ?_ ?_
          · exact ⟨0, by omega, HK, SF, f48.sub (sub_cons rfl (sub_cons rfl sub_nil))⟩
          · intro gk13 a49 w8 hI KL12 hKL12
            obtain ⟨i, hki, HK, SF, f49⟩ := hI
            try clear f48
            refine wp_seq_k fun K13 hK13 => ?_
            refine wp_seq_k fun K14 hK14 => ?_
            refine C.region ?_
            refine L.val f49 wantedN rfl (by decide) (E.move f49 rfl) fun a50 f50 => ?_
            clear f49 a49
            refine L.val f50 wantedN rfl (by decide) (E.move f50 rfl) fun a51 f51 => ?_
            clear f50 a50
            refine L.val f51 wantedN rfl (by decide) (E.lenL f51 Tryd.underlying26 rfl) fun a52 f52 => ?_
            clear f51 a51
            refine L.val f52 wantedN rfl (by decide) (E.lss f52 rfl rfl) fun a53 f53 => ?_
            clear f52 a52
            refine wpList_nil (hK14 _ _ ?_)
            try clear hK14 K14
            have f54 := f53.sub (sub_cons (i := 13) rfl (sub_cons (i := 14) rfl (sub_cons (i := 49) rfl (sub_cons (i := 50) rfl (sub_cons (i := 51) rfl (sub_cons (i := 52) rfl sub_nil))))))
            clear f53
            first | refine f54.splitD 52 rfl (fun h4 f55 => ?_) (fun h4 f55 => ?_) | refine f54.splitN 52 rfl (fun h4 f55 => ?_) (fun h4 f55 => ?_) | refine f54.splitNB 52 rfl (fun h4 f55 => ?_) (fun h4 f55 => ?_) | refine f54.split 52 rfl (fun h4 f55 => ?_) (fun h4 f55 => ?_)
            · clear f54
              refine C.condT f55 rfl ?_
              refine wp_skip (hK13 _ _ ?_)
              try clear hK13 K13
              have f56 := f55.sub (sub_cons (i := 13) rfl (sub_cons (i := 14) rfl (sub_cons (i := 49) rfl (sub_cons (i := 50) rfl (sub_cons (i := 51) rfl (sub_cons (i := 52) rfl sub_nil))))))
              clear f55
              refine wp_seq_k fun K15 hK15 => ?_
              refine wp_block ?_
              refine wp_seq_k fun K16 hK16 => ?_
              refine wp_seq_k fun K17 hK17 => ?_
              obtain ⟨x, hx⟩ : ∃ y, F[i]? = some y := ⟨F[i]'(by omega), List.getElem?_eq_getElem _⟩
              have hxs := Fs x (List.mem_of_getElem? hx)
              refine R.begin (S := fun W => Kept [] w8 W) (by kernel_rfl) (by exact (Kept.refl _ _).drewN 1) ?_
              have hS9 : Kept [] w8 (w8.drewN 1) := (Kept.refl _ _).drewN 1
              have hd9 : Kept [] w8 (w8.drewN 1) := (Kept.refl _ _).drewN 1
              obtain ⟨w9, hww9⟩ : ∃ W, W = w8.drewN 1 := ⟨_, rfl⟩
              rw [← hww9] at hS9 hd9 ⊢
              clear hww9
              have szw9 := hS9.size
              refine R.take 0 f56 rfl rfl (by decide) (by kernel_rfl) (by kernel_rfl) (by kernel_rfl) (fun _ _ _ _ h => h) wantedN hS9 (fun W hW => (E.move f56 rfl)) fun a57 f57 => ?_
              clear f56 a53
              refine R.take 1 f57 rfl rfl (by decide) (by kernel_rfl) (by kernel_rfl) (by kernel_rfl) (fun _ _ _ _ h => h) wantedN hS9 (fun W hW => (E.move f57 rfl)) fun a58 f58 => ?_
              clear f57 a57
              refine R.take 2 f58 rfl rfl (by decide) (by kernel_rfl) (by kernel_rfl) (by kernel_rfl) (fun _ _ _ _ h => h) wantedN hS9 (fun W hW => (E.indexA f58 (by first | rfl | assumption) Tryd.underlying26 wsz9_tx rfl rfl (by omega) (by omega))) fun a59 f59 => ?_
              clear f58 a58
              refine R.take 3 f59 rfl rfl (by decide) (by kernel_rfl) (by kernel_rfl) (by kernel_rfl) (fun _ _ _ _ h => h) wantedN hS9 (fun W hW => (by exact E.load f59 Tryd.underlying9 rfl rfl (ss_cell (SF.kept hW) rfl hx))) fun a60 f60 => ?_
              clear f59 a59
              refine R.take 5 f60 rfl rfl (by decide) (by kernel_rfl) (by kernel_rfl) (by kernel_rfl) (fun _ _ _ _ h => h) wantedN hS9 (fun W hW => (E.move f60 rfl)) fun a61 f61 => ?_
              clear f60 a60
              refine R.take 6 f61 rfl rfl (by decide) (by kernel_rfl) (by kernel_rfl) (by kernel_rfl) (fun _ _ _ _ h => h) wantedN hS9 (fun W hW => (E.move f61 rfl)) fun a62 f62 => ?_
              clear f61 a61
              refine R.take 7 f62 rfl rfl (by decide) (by kernel_rfl) (by kernel_rfl) (by kernel_rfl) (fun _ _ _ _ h => h) wantedN hS9 (fun W hW => (E.indexA f62 (by first | rfl | assumption) Tryd.underlying26 wsz9_tx rfl rfl (by omega) (by omega))) fun a63 f63 => ?_
              clear f62 a62
              refine R.take 8 f63 rfl rfl (by decide) (by kernel_rfl) (by kernel_rfl) (by kernel_rfl) (fun _ _ _ _ h => h) wantedN hS9 (fun W hW => (by exact E.load f63 Tryd.underlying9 rfl rfl (ss_cell (SF.kept hW) rfl hx))) fun a64 f64 => ?_
              clear f63 a63
              refine R.call 4 f64 rfl rfl (by decide) (by kernel_rfl) wantedN (run_call Tryd.call12 (args1 f64 rfl)) (name_any x w9 (G.kept (HK.trans hS9 (by simp))) (by omega)) ?_
              rintro e w10 ⟨kc10, rfl⟩
              replace hS9 := hS9.trans kc10 (by simp)
              refine ⟨_, rfl, hS9, fun a65 f65 => ?_⟩
              clear f64 a64
              have szw10 := kc10.size
              clear kc10
              refine R.call 9 f65 rfl rfl (by decide) (by kernel_rfl) wantedN (run_call Tryd.call13 (args1 f65 rfl)) (nameR_any x w10 (G.kept (HK.trans hS9 (by simp))) (by omega)) ?_
              rintro e w11 ⟨kc11, rfl⟩
              replace hS9 := hS9.trans kc11 (by simp)
              refine ⟨_, rfl, hS9, fun a66 f66 => ?_⟩
              clear f65 a65
              have szw11 := kc11.size
              clear kc11
              refine R.take 10 f66 rfl rfl (by decide) (by kernel_rfl) (by kernel_rfl) (by kernel_rfl) (fun _ _ _ _ h => h) wantedN hS9 (fun W hW => (E.neqB f66 Tryd.underlying4 rfl rfl)) fun a67 f67 => ?_
              clear f66 a66
              have f68 := f67.as (i := 65) (v' := .bool false) rfl (by simp)
              clear f67
              refine R.take 11 f68 rfl rfl (by decide) (by kernel_rfl) (by kernel_rfl) (by kernel_rfl) (fun _ _ _ _ h => h) wantedN hS9 (fun W hW => (E.move f68 rfl)) fun a69 f69 => ?_
              clear f68 a67
              refine R.take 12 f69 rfl rfl (by decide) (by kernel_rfl) (by kernel_rfl) (by kernel_rfl) (fun _ _ _ _ h => h) (f69.yes rfl rfl) hS9 (fun W hW => (E.move f69 rfl)) fun a70 f70 => ?_
              clear f69 a69
              refine R.take 13 f70 rfl rfl (by decide) (by kernel_rfl) (by kernel_rfl) (by kernel_rfl) (fun _ _ _ _ h => h) (f70.yes rfl rfl) hS9 (fun W hW => (E.move f70 rfl)) fun a71 f71 => ?_
              clear f70 a70
              refine R.take 14 f71 rfl rfl (by decide) (by kernel_rfl) (by kernel_rfl) (by kernel_rfl) (fun _ _ _ _ h => h) (f71.yes rfl rfl) hS9 (fun W hW => (E.indexA f71 (by first | rfl | assumption) Tryd.underlying26 wsz9_tx rfl rfl (by omega) (by omega))) fun a72 f72 => ?_
              clear f71 a71
              refine R.take 15 f72 rfl rfl (by decide) (by kernel_rfl) (by kernel_rfl) (by kernel_rfl) (fun _ _ _ _ h => h) (f72.yes rfl rfl) hS9 (fun W hW => (by exact E.load f72 Tryd.underlying9 rfl rfl (ss_cell (SF.kept hW) rfl hx))) fun a73 f73 => ?_
              clear f72 a72
              refine R.take 17 f73 rfl rfl (by decide) (by kernel_rfl) (by kernel_rfl) (by kernel_rfl) (fun _ _ _ _ h => h) (f73.yes rfl rfl) hS9 (fun W hW => (E.move f73 rfl)) fun a74 f74 => ?_
              clear f73 a73
              refine R.take 18 f74 rfl rfl (by decide) (by kernel_rfl) (by kernel_rfl) (by kernel_rfl) (fun _ _ _ _ h => h) (f74.yes rfl rfl) hS9 (fun W hW => (E.move f74 rfl)) fun a75 f75 => ?_
              clear f74 a74
              refine R.take 19 f75 rfl rfl (by decide) (by kernel_rfl) (by kernel_rfl) (by kernel_rfl) (fun _ _ _ _ h => h) (f75.yes rfl rfl) hS9 (fun W hW => (E.indexA f75 (by first | rfl | assumption) Tryd.underlying26 wsz9_tx rfl rfl (by omega) (by omega))) fun a76 f76 => ?_
              clear f75 a75
              refine R.take 20 f76 rfl rfl (by decide) (by kernel_rfl) (by kernel_rfl) (by kernel_rfl) (fun _ _ _ _ h => h) (f76.yes rfl rfl) hS9 (fun W hW => (by exact E.load f76 Tryd.underlying9 rfl rfl (ss_cell (SF.kept hW) rfl hx))) fun a77 f77 => ?_
              clear f76 a76
              refine R.call 16 f77 rfl rfl (by decide) (by kernel_rfl) (f77.yes rfl rfl) (run_call Tryd.call14 (args1 f77 rfl)) (filter_any x w11 (G.kept (HK.trans hS9 (by simp))) (by omega)) ?_
              rintro e w12 ⟨kc12, rfl⟩
              replace hS9 := hS9.trans kc12 (by simp)
              refine ⟨_, rfl, hS9, fun a78 f78 => ?_⟩
              clear f77 a77
              have szw12 := kc12.size
              clear kc12
              refine R.call 21 f78 rfl rfl (by decide) (by kernel_rfl) (f78.yes rfl rfl) (run_call Tryd.call15 (args1 f78 rfl)) (filterR_any x w12 (G.kept (HK.trans hS9 (by simp))) (by omega)) ?_
              rintro e w13 ⟨kc13, rfl⟩
              replace hS9 := hS9.trans kc13 (by simp)
              refine ⟨_, rfl, hS9, fun a79 f79 => ?_⟩
              clear f78 a78
              have szw13 := kc13.size
              clear kc13
              refine R.take 22 f79 rfl rfl (by decide) (by kernel_rfl) (by kernel_rfl) (by kernel_rfl) (fun _ _ _ _ h => h) (f79.yes rfl rfl) hS9 (fun W hW => (E.neqB f79 Tryd.underlying4 rfl rfl)) fun a80 f80 => ?_
              clear f79 a79
              have f81 := f80.as (i := 77) (v' := .bool false) rfl (by simp)
              clear f80
              refine R.take 23 f81 rfl rfl (by decide) (by kernel_rfl) (by kernel_rfl) (by kernel_rfl) (fun _ _ _ _ h => h) wantedN hS9 (fun W hW => (E.pickF f81 rfl rfl)) fun a82 f82 => ?_
              clear f81 a80
              refine R.take 24 f82 rfl rfl (by decide) (by kernel_rfl) (by kernel_rfl) (by kernel_rfl) (fun _ _ _ _ h => h) wantedN hS9 (fun W hW => (E.move f82 rfl)) fun a83 f83 => ?_
              clear f82 a82
              refine R.take 25 f83 rfl rfl (by decide) (by kernel_rfl) (by kernel_rfl) (by kernel_rfl) (fun _ _ _ _ h => h) (f83.yes rfl rfl) hS9 (fun W hW => (E.move f83 rfl)) fun a84 f84 => ?_
              clear f83 a83
              refine R.take 26 f84 rfl rfl (by decide) (by kernel_rfl) (by kernel_rfl) (by kernel_rfl) (fun _ _ _ _ h => h) (f84.yes rfl rfl) hS9 (fun W hW => (E.move f84 rfl)) fun a85 f85 => ?_
              clear f84 a84
              refine R.take 27 f85 rfl rfl (by decide) (by kernel_rfl) (by kernel_rfl) (by kernel_rfl) (fun _ _ _ _ h => h) (f85.yes rfl rfl) hS9 (fun W hW => (E.indexA f85 (by first | rfl | assumption) Tryd.underlying26 wsz9_tx rfl rfl (by omega) (by omega))) fun a86 f86 => ?_
              clear f85 a85
              refine R.take 28 f86 rfl rfl (by decide) (by kernel_rfl) (by kernel_rfl) (by kernel_rfl) (fun _ _ _ _ h => h) (f86.yes rfl rfl) hS9 (fun W hW => (by exact E.load f86 Tryd.underlying9 rfl rfl (ss_cell (SF.kept hW) rfl hx))) fun a87 f87 => ?_
              clear f86 a86
              refine R.take 30 f87 rfl rfl (by decide) (by kernel_rfl) (by kernel_rfl) (by kernel_rfl) (fun _ _ _ _ h => h) (f87.yes rfl rfl) hS9 (fun W hW => (E.move f87 rfl)) fun a88 f88 => ?_
              clear f87 a87
              refine R.take 31 f88 rfl rfl (by decide) (by kernel_rfl) (by kernel_rfl) (by kernel_rfl) (fun _ _ _ _ h => h) (f88.yes rfl rfl) hS9 (fun W hW => (E.move f88 rfl)) fun a89 f89 => ?_
              clear f88 a88
              refine R.take 32 f89 rfl rfl (by decide) (by kernel_rfl) (by kernel_rfl) (by kernel_rfl) (fun _ _ _ _ h => h) (f89.yes rfl rfl) hS9 (fun W hW => (E.indexA f89 (by first | rfl | assumption) Tryd.underlying26 wsz9_tx rfl rfl (by omega) (by omega))) fun a90 f90 => ?_
              clear f89 a89
              refine R.take 33 f90 rfl rfl (by decide) (by kernel_rfl) (by kernel_rfl) (by kernel_rfl) (fun _ _ _ _ h => h) (f90.yes rfl rfl) hS9 (fun W hW => (by exact E.load f90 Tryd.underlying9 rfl rfl (ss_cell (SF.kept hW) rfl hx))) fun a91 f91 => ?_
              clear f90 a90
              refine R.call 29 f91 rfl rfl (by decide) (by kernel_rfl) (f91.yes rfl rfl) (run_call Tryd.call17 (args1 f91 rfl)) (levels_any x w13 (G.kept (HK.trans hS9 (by simp))) (by omega)) ?_
              rintro e w14 ⟨kc14, Aa, ca, rfl, LA, a2, a3, a4⟩
              replace hS9 := hS9.trans kc14 (by simp)
              refine ⟨_, rfl, hS9, fun a92 f92 => ?_⟩
              clear f91 a91
              have szw14 := kc14.size
              clear kc14
              refine R.call 34 f92 rfl rfl (by decide) (by kernel_rfl) (f92.yes rfl rfl) (run_call Tryd.call18 (args1 f92 rfl)) (levelsR_any x w14 (G.kept (HK.trans hS9 (by simp))) (by omega)) ?_
              rintro e w15 ⟨kc15, Ab, cb, rfl, LB, b2, b3, b4⟩
              replace hS9 := hS9.trans kc15 (by simp)
              refine ⟨_, rfl, hS9, fun a93 f93 => ?_⟩
              clear f92 a92
              have szw15 := kc15.size
              replace LA := LA.kept kc15
              clear kc15
              refine R.call 35 f93 rfl rfl (by decide) (by kernel_rfl) (f93.yes rfl rfl) (run_call Tryd.call16 (args2 f93 rfl rfl)) (strs_any (levelsL x) (levelsL x) Aa Ab ca cb w15 LA LB (by omega) (by omega)) ?_
              rintro e w16 ⟨kc16, rfl⟩
              replace hS9 := hS9.trans kc16 (by simp)
              refine ⟨_, rfl, hS9, fun a94 f94 => ?_⟩
              clear f93 a93
              have szw16 := kc16.size
              replace LA := LA.kept kc16
              replace LB := LB.kept kc16
              clear kc16
              have f95 := f94.as (i := 90) (v' := .bool true) rfl (by simp)
              clear f94
              refine R.take 36 f95 rfl rfl (by decide) (by kernel_rfl) (by kernel_rfl) (by kernel_rfl) (fun _ _ _ _ h => h) (f95.yes rfl rfl) hS9 (fun W hW => (E.not f95 rfl)) fun a96 f96 => ?_
              clear f95 a94
              refine R.take 37 f96 rfl rfl (by decide) (by kernel_rfl) (by kernel_rfl) (by kernel_rfl) (fun _ _ _ _ h => h) wantedN hS9 (fun W hW => (E.pickF f96 rfl rfl)) fun a97 f97 => ?_
              clear f96 a96
              have szw16r := hS9.size
              replace HK := HK.trans hS9 (by simp)
              replace SF := SF.kept hS9
              clear hS9
              refine R.done (by kernel_rfl) (hK17 _ _ ?_)
              try clear hK17 K17
              have f98 := f97.sub (sub_cons (i := 13) rfl (sub_cons (i := 14) rfl (sub_cons (i := 49) rfl (sub_cons (i := 50) rfl (sub_cons (i := 51) rfl (sub_cons (i := 52) rfl (sub_cons (i := 55) rfl (sub_cons (i := 56) rfl (sub_cons (i := 57) rfl (sub_cons (i := 58) rfl (sub_cons (i := 59) rfl (sub_cons (i := 60) rfl (sub_cons (i := 61) rfl (sub_cons (i := 62) rfl (sub_cons (i := 63) rfl (sub_cons (i := 64) rfl (sub_cons (i := 65) rfl (sub_cons (i := 66) rfl (sub_cons (i := 67) rfl (sub_cons (i := 68) rfl (sub_cons (i := 69) rfl (sub_cons (i := 70) rfl (sub_cons (i := 71) rfl (sub_cons (i := 72) rfl (sub_cons (i := 73) rfl (sub_cons (i := 74) rfl (sub_cons (i := 75) rfl (sub_cons (i := 76) rfl (sub_cons (i := 77) rfl (sub_cons (i := 78) rfl (sub_cons (i := 79) rfl (sub_cons (i := 80) rfl (sub_cons (i := 81) rfl (sub_cons (i := 82) rfl (sub_cons (i := 83) rfl (sub_cons (i := 84) rfl (sub_cons (i := 85) rfl (sub_cons (i := 86) rfl (sub_cons (i := 87) rfl (sub_cons (i := 88) rfl (sub_cons (i := 89) rfl (sub_cons (i := 90) rfl (sub_cons (i := 91) rfl (sub_cons (i := 92) rfl sub_nil))))))))))))))))))))))))))))))))))))))))))))
              clear f97
              refine C.condF f98 rfl ?_
              refine wp_skip (hK16 _ _ ?_)
              try clear hK16 K16
              have f99 := f98.sub (sub_cons (i := 13) rfl (sub_cons (i := 14) rfl (sub_cons (i := 49) rfl (sub_cons (i := 50) rfl (sub_cons (i := 51) rfl (sub_cons (i := 52) rfl (sub_cons (i := 55) rfl (sub_cons (i := 56) rfl (sub_cons (i := 57) rfl (sub_cons (i := 58) rfl (sub_cons (i := 59) rfl (sub_cons (i := 60) rfl (sub_cons (i := 61) rfl (sub_cons (i := 62) rfl (sub_cons (i := 63) rfl (sub_cons (i := 64) rfl (sub_cons (i := 65) rfl (sub_cons (i := 66) rfl (sub_cons (i := 67) rfl (sub_cons (i := 68) rfl (sub_cons (i := 69) rfl (sub_cons (i := 70) rfl (sub_cons (i := 71) rfl (sub_cons (i := 72) rfl (sub_cons (i := 73) rfl (sub_cons (i := 74) rfl (sub_cons (i := 75) rfl (sub_cons (i := 76) rfl (sub_cons (i := 77) rfl (sub_cons (i := 78) rfl (sub_cons (i := 79) rfl (sub_cons (i := 80) rfl (sub_cons (i := 81) rfl (sub_cons (i := 82) rfl (sub_cons (i := 83) rfl (sub_cons (i := 84) rfl (sub_cons (i := 85) rfl (sub_cons (i := 86) rfl (sub_cons (i := 87) rfl (sub_cons (i := 88) rfl (sub_cons (i := 89) rfl (sub_cons (i := 90) rfl (sub_cons (i := 91) rfl (sub_cons (i := 92) rfl sub_nil))))))))))))))))))))))))))))))))))))))))))))
              clear f98
              refine wp_seq_k fun K18 hK18 => ?_
              refine C.region ?_
              refine L.val f99 wantedN rfl (by decide) (E.assign f99 rfl) fun a100 f100 => ?_
              clear f99 a97
              refine wpList_nil (hK18 _ _ ?_)
              try clear hK18 K18
              have f101 := f100.sub (sub_cons (i := 13) rfl (sub_cons (i := 14) rfl (sub_cons (i := 15) rfl (sub_cons (i := 49) rfl (sub_cons (i := 50) rfl (sub_cons (i := 51) rfl (sub_cons (i := 52) rfl (sub_cons (i := 55) rfl (sub_cons (i := 56) rfl (sub_cons (i := 57) rfl (sub_cons (i := 58) rfl (sub_cons (i := 59) rfl (sub_cons (i := 60) rfl (sub_cons (i := 61) rfl (sub_cons (i := 62) rfl (sub_cons (i := 63) rfl (sub_cons (i := 64) rfl (sub_cons (i := 65) rfl (sub_cons (i := 66) rfl (sub_cons (i := 67) rfl (sub_cons (i := 68) rfl (sub_cons (i := 69) rfl (sub_cons (i := 70) rfl (sub_cons (i := 71) rfl (sub_cons (i := 72) rfl (sub_cons (i := 73) rfl (sub_cons (i := 74) rfl (sub_cons (i := 75) rfl (sub_cons (i := 76) rfl (sub_cons (i := 77) rfl (sub_cons (i := 78) rfl (sub_cons (i := 79) rfl (sub_cons (i := 80) rfl (sub_cons (i := 81) rfl (sub_cons (i := 82) rfl (sub_cons (i := 83) rfl (sub_cons (i := 84) rfl (sub_cons (i := 85) rfl (sub_cons (i := 86) rfl (sub_cons (i := 87) rfl (sub_cons (i := 88) rfl (sub_cons (i := 89) rfl (sub_cons (i := 90) rfl (sub_cons (i := 91) rfl (sub_cons (i := 92) rfl sub_nil)))))))))))))))))))))))))))))))))))))))))))))
              clear f100
              refine wp_block ?_
              refine C.loop (fun gk a W => ∃ o : Nat, o + gk = 7 ∧ Kept [] w W ∧ Ss W (some ⟨g6, 0, none⟩) F ∧ Fr 139 a [(13, .slice (some ⟨g6, 0, none⟩) 7 7), (14, .int .i64 i), (15, .int .i64 o)]) (7) ?_ ?_
              · exact ⟨0, by omega, HK, SF, f101.sub (sub_cons rfl (sub_cons rfl (sub_cons rfl sub_nil)))⟩
              · intro gk20 a102 w17 hI KL19 hKL19
                obtain ⟨o, hko, HK, SF, f102⟩ := hI
                try clear f101
                refine wp_seq_k fun K20 hK20 => ?_
                refine wp_seq_k fun K21 hK21 => ?_
                refine C.region ?_
                refine L.val f102 wantedN rfl (by decide) (E.move f102 rfl) fun a103 f103 => ?_
                clear f102 a102
                refine L.val f103 wantedN rfl (by decide) (E.move f103 rfl) fun a104 f104 => ?_
                clear f103 a103
                refine L.val f104 wantedN rfl (by decide) (E.lenL f104 Tryd.underlying26 rfl) fun a105 f105 => ?_
                clear f104 a104
                refine L.val f105 wantedN rfl (by decide) (E.lss f105 rfl rfl) fun a106 f106 => ?_
                clear f105 a105
                refine wpList_nil (hK21 _ _ ?_)
                try clear hK21 K21
                have f107 := f106.sub (sub_cons (i := 13) rfl (sub_cons (i := 14) rfl (sub_cons (i := 15) rfl (sub_cons (i := 93) rfl (sub_cons (i := 94) rfl (sub_cons (i := 95) rfl (sub_cons (i := 96) rfl sub_nil)))))))
                clear f106
                first | refine f107.splitD 96 rfl (fun h5 f108 => ?_) (fun h5 f108 => ?_) | refine f107.splitN 96 rfl (fun h5 f108 => ?_) (fun h5 f108 => ?_) | refine f107.splitNB 96 rfl (fun h5 f108 => ?_) (fun h5 f108 => ?_) | refine f107.split 96 rfl (fun h5 f108 => ?_) (fun h5 f108 => ?_)
                · clear f107
                  refine C.condT f108 rfl ?_
                  refine wp_skip (hK20 _ _ ?_)
                  try clear hK20 K20
                  have f109 := f108.sub (sub_cons (i := 13) rfl (sub_cons (i := 14) rfl (sub_cons (i := 15) rfl (sub_cons (i := 93) rfl (sub_cons (i := 94) rfl (sub_cons (i := 95) rfl (sub_cons (i := 96) rfl sub_nil)))))))
                  clear f108
                  refine wp_seq_k fun K22 hK22 => ?_
                  refine wp_block ?_
                  refine wp_seq_k fun K23 hK23 => ?_
                  obtain ⟨y, hy⟩ : ∃ y, F[o]? = some y := ⟨F[o]'(by omega), List.getElem?_eq_getElem _⟩
                  have hys := Fs y (List.mem_of_getElem? hy)
                  refine R.begin (S := fun W => Kept [] w17 W) (by kernel_rfl) (by exact (Kept.refl _ _).drewN 1) ?_
                  have hS14 : Kept [] w17 (w17.drewN 1) := (Kept.refl _ _).drewN 1
                  have hd14 : Kept [] w17 (w17.drewN 1) := (Kept.refl _ _).drewN 1
                  obtain ⟨w18, hww18⟩ : ∃ W, W = w17.drewN 1 := ⟨_, rfl⟩
                  rw [← hww18] at hS14 hd14 ⊢
                  clear hww18
                  have szw18 := hS14.size
                  refine R.take 0 f109 rfl rfl (by decide) (by kernel_rfl) (by kernel_rfl) (by kernel_rfl) (fun _ _ _ _ h => h) wantedN hS14 (fun W hW => (E.move f109 rfl)) fun a110 f110 => ?_
                  clear f109 a106
                  refine R.take 1 f110 rfl rfl (by decide) (by kernel_rfl) (by kernel_rfl) (by kernel_rfl) (fun _ _ _ _ h => h) wantedN hS14 (fun W hW => (E.move f110 rfl)) fun a111 f111 => ?_
                  clear f110 a110
                  refine R.take 2 f111 rfl rfl (by decide) (by kernel_rfl) (by kernel_rfl) (by kernel_rfl) (fun _ _ _ _ h => h) wantedN hS14 (fun W hW => (E.indexA f111 (by first | rfl | assumption) Tryd.underlying26 wsz9_tx rfl rfl (by omega) (by omega))) fun a112 f112 => ?_
                  clear f111 a111
                  refine R.take 3 f112 rfl rfl (by decide) (by kernel_rfl) (by kernel_rfl) (by kernel_rfl) (fun _ _ _ _ h => h) wantedN hS14 (fun W hW => (by first | exact E.load f112 Tryd.underlying9 rfl rfl (ss_cell (SF.kept hW) rfl hx) | exact E.load f112 Tryd.underlying9 rfl rfl (ss_cell (SF.kept hW) rfl hy))) fun a113 f113 => ?_
                  clear f112 a112
                  refine R.take 4 f113 rfl rfl (by decide) (by kernel_rfl) (by kernel_rfl) (by kernel_rfl) (fun _ _ _ _ h => h) wantedN hS14 (fun W hW => (E.move f113 rfl)) fun a114 f114 => ?_
                  clear f113 a113
                  refine R.take 5 f114 rfl rfl (by decide) (by kernel_rfl) (by kernel_rfl) (by kernel_rfl) (fun _ _ _ _ h => h) wantedN hS14 (fun W hW => (E.move f114 rfl)) fun a115 f115 => ?_
                  clear f114 a114
                  refine R.take 6 f115 rfl rfl (by decide) (by kernel_rfl) (by kernel_rfl) (by kernel_rfl) (fun _ _ _ _ h => h) wantedN hS14 (fun W hW => (E.indexA f115 (by first | rfl | assumption) Tryd.underlying26 wsz9_tx rfl rfl (by omega) (by omega))) fun a116 f116 => ?_
                  clear f115 a115
                  refine R.take 7 f116 rfl rfl (by decide) (by kernel_rfl) (by kernel_rfl) (by kernel_rfl) (fun _ _ _ _ h => h) wantedN hS14 (fun W hW => (by first | exact E.load f116 Tryd.underlying9 rfl rfl (ss_cell (SF.kept hW) rfl hx) | exact E.load f116 Tryd.underlying9 rfl rfl (ss_cell (SF.kept hW) rfl hy))) fun a117 f117 => ?_
                  clear f116 a116
                  refine R.take 9 f117 rfl rfl (by decide) (by kernel_rfl) (by kernel_rfl) (by kernel_rfl) (fun _ _ _ _ h => h) wantedN hS14 (fun W hW => (E.move f117 rfl)) fun a118 f118 => ?_
                  clear f117 a117
                  refine R.take 10 f118 rfl rfl (by decide) (by kernel_rfl) (by kernel_rfl) (by kernel_rfl) (fun _ _ _ _ h => h) wantedN hS14 (fun W hW => (E.move f118 rfl)) fun a119 f119 => ?_
                  clear f118 a118
                  refine R.take 11 f119 rfl rfl (by decide) (by kernel_rfl) (by kernel_rfl) (by kernel_rfl) (fun _ _ _ _ h => h) wantedN hS14 (fun W hW => (E.indexA f119 (by first | rfl | assumption) Tryd.underlying26 wsz9_tx rfl rfl (by omega) (by omega))) fun a120 f120 => ?_
                  clear f119 a119
                  refine R.take 12 f120 rfl rfl (by decide) (by kernel_rfl) (by kernel_rfl) (by kernel_rfl) (fun _ _ _ _ h => h) wantedN hS14 (fun W hW => (by first | exact E.load f120 Tryd.underlying9 rfl rfl (ss_cell (SF.kept hW) rfl hx) | exact E.load f120 Tryd.underlying9 rfl rfl (ss_cell (SF.kept hW) rfl hy))) fun a121 f121 => ?_
                  clear f120 a120
                  refine R.take 13 f121 rfl rfl (by decide) (by kernel_rfl) (by kernel_rfl) (by kernel_rfl) (fun _ _ _ _ h => h) wantedN hS14 (fun W hW => (E.move f121 rfl)) fun a122 f122 => ?_
                  clear f121 a121
                  refine R.take 14 f122 rfl rfl (by decide) (by kernel_rfl) (by kernel_rfl) (by kernel_rfl) (fun _ _ _ _ h => h) wantedN hS14 (fun W hW => (E.move f122 rfl)) fun a123 f123 => ?_
                  clear f122 a122
                  refine R.take 15 f123 rfl rfl (by decide) (by kernel_rfl) (by kernel_rfl) (by kernel_rfl) (fun _ _ _ _ h => h) wantedN hS14 (fun W hW => (E.indexA f123 (by first | rfl | assumption) Tryd.underlying26 wsz9_tx rfl rfl (by omega) (by omega))) fun a124 f124 => ?_
                  clear f123 a123
                  refine R.take 16 f124 rfl rfl (by decide) (by kernel_rfl) (by kernel_rfl) (by kernel_rfl) (fun _ _ _ _ h => h) wantedN hS14 (fun W hW => (by first | exact E.load f124 Tryd.underlying9 rfl rfl (ss_cell (SF.kept hW) rfl hx) | exact E.load f124 Tryd.underlying9 rfl rfl (ss_cell (SF.kept hW) rfl hy))) fun a125 f125 => ?_
                  clear f124 a124
                  refine R.call 8 f125 rfl rfl (by decide) (by kernel_rfl) wantedN (run_call Tryd.call19 (args2 f125 rfl rfl)) (match_any x y w18 (G.kept (HK.trans hS14 (by simp))) (by omega) (by omega)) ?_
                  rintro e w19 ⟨kc19, rfl⟩
                  replace hS14 := hS14.trans kc19 (by simp)
                  refine ⟨_, rfl, hS14, fun a126 f126 => ?_⟩
                  clear f125 a125
                  have szw19 := kc19.size
                  clear kc19
                  refine R.call 17 f126 rfl rfl (by decide) (by kernel_rfl) wantedN (run_call Tryd.call20 (args2 f126 rfl rfl)) (matchR_any x y w19 (G.kept (HK.trans hS14 (by simp))) (by omega) (by omega)) ?_
                  rintro e w20 ⟨kc20, rfl⟩
                  replace hS14 := hS14.trans kc20 (by simp)
                  refine ⟨_, rfl, hS14, fun a127 f127 => ?_⟩
                  clear f126 a126
                  have szw20 := kc20.size
                  clear kc20
                  refine R.take 18 f127 rfl rfl (by decide) (by kernel_rfl) (by kernel_rfl) (by kernel_rfl) (fun _ _ _ _ h => h) wantedN hS14 (fun W hW => (E.neqB f127 Tryd.underlying4 rfl rfl)) fun a128 f128 => ?_
                  clear f127 a127
                  have f129 := f128.as (i := 117) (v' := .bool false) rfl (by simp)
                  clear f128
                  refine R.take 19 f129 rfl rfl (by decide) (by kernel_rfl) (by kernel_rfl) (by kernel_rfl) (fun _ _ _ _ h => h) wantedN hS14 (fun W hW => (E.move f129 rfl)) fun a130 f130 => ?_
                  clear f129 a128
                  refine R.take 20 f130 rfl rfl (by decide) (by kernel_rfl) (by kernel_rfl) (by kernel_rfl) (fun _ _ _ _ h => h) (f130.yes rfl rfl) hS14 (fun W hW => (E.move f130 rfl)) fun a131 f131 => ?_
                  clear f130 a130
                  refine R.take 21 f131 rfl rfl (by decide) (by kernel_rfl) (by kernel_rfl) (by kernel_rfl) (fun _ _ _ _ h => h) (f131.yes rfl rfl) hS14 (fun W hW => (E.move f131 rfl)) fun a132 f132 => ?_
                  clear f131 a131
                  refine R.take 22 f132 rfl rfl (by decide) (by kernel_rfl) (by kernel_rfl) (by kernel_rfl) (fun _ _ _ _ h => h) (f132.yes rfl rfl) hS14 (fun W hW => (E.indexA f132 (by first | rfl | assumption) Tryd.underlying26 wsz9_tx rfl rfl (by omega) (by omega))) fun a133 f133 => ?_
                  clear f132 a132
                  refine R.take 23 f133 rfl rfl (by decide) (by kernel_rfl) (by kernel_rfl) (by kernel_rfl) (fun _ _ _ _ h => h) (f133.yes rfl rfl) hS14 (fun W hW => (by first | exact E.load f133 Tryd.underlying9 rfl rfl (ss_cell (SF.kept hW) rfl hx) | exact E.load f133 Tryd.underlying9 rfl rfl (ss_cell (SF.kept hW) rfl hy))) fun a134 f134 => ?_
                  clear f133 a133
                  refine R.take 24 f134 rfl rfl (by decide) (by kernel_rfl) (by kernel_rfl) (by kernel_rfl) (fun _ _ _ _ h => h) (f134.yes rfl rfl) hS14 (fun W hW => (E.move f134 rfl)) fun a135 f135 => ?_
                  clear f134 a134
                  refine R.take 25 f135 rfl rfl (by decide) (by kernel_rfl) (by kernel_rfl) (by kernel_rfl) (fun _ _ _ _ h => h) (f135.yes rfl rfl) hS14 (fun W hW => (E.move f135 rfl)) fun a136 f136 => ?_
                  clear f135 a135
                  refine R.take 26 f136 rfl rfl (by decide) (by kernel_rfl) (by kernel_rfl) (by kernel_rfl) (fun _ _ _ _ h => h) (f136.yes rfl rfl) hS14 (fun W hW => (E.indexA f136 (by first | rfl | assumption) Tryd.underlying26 wsz9_tx rfl rfl (by omega) (by omega))) fun a137 f137 => ?_
                  clear f136 a136
                  refine R.take 27 f137 rfl rfl (by decide) (by kernel_rfl) (by kernel_rfl) (by kernel_rfl) (fun _ _ _ _ h => h) (f137.yes rfl rfl) hS14 (fun W hW => (by first | exact E.load f137 Tryd.underlying9 rfl rfl (ss_cell (SF.kept hW) rfl hx) | exact E.load f137 Tryd.underlying9 rfl rfl (ss_cell (SF.kept hW) rfl hy))) fun a138 f138 => ?_
                  clear f137 a137
                  refine R.take 29 f138 rfl rfl (by decide) (by kernel_rfl) (by kernel_rfl) (by kernel_rfl) (fun _ _ _ _ h => h) (f138.yes rfl rfl) hS14 (fun W hW => (E.move f138 rfl)) fun a139 f139 => ?_
                  clear f138 a138
                  refine R.take 30 f139 rfl rfl (by decide) (by kernel_rfl) (by kernel_rfl) (by kernel_rfl) (fun _ _ _ _ h => h) (f139.yes rfl rfl) hS14 (fun W hW => (E.move f139 rfl)) fun a140 f140 => ?_
                  clear f139 a139
                  refine R.take 31 f140 rfl rfl (by decide) (by kernel_rfl) (by kernel_rfl) (by kernel_rfl) (fun _ _ _ _ h => h) (f140.yes rfl rfl) hS14 (fun W hW => (E.indexA f140 (by first | rfl | assumption) Tryd.underlying26 wsz9_tx rfl rfl (by omega) (by omega))) fun a141 f141 => ?_
                  clear f140 a140
                  refine R.take 32 f141 rfl rfl (by decide) (by kernel_rfl) (by kernel_rfl) (by kernel_rfl) (fun _ _ _ _ h => h) (f141.yes rfl rfl) hS14 (fun W hW => (by first | exact E.load f141 Tryd.underlying9 rfl rfl (ss_cell (SF.kept hW) rfl hx) | exact E.load f141 Tryd.underlying9 rfl rfl (ss_cell (SF.kept hW) rfl hy))) fun a142 f142 => ?_
                  clear f141 a141
                  refine R.take 33 f142 rfl rfl (by decide) (by kernel_rfl) (by kernel_rfl) (by kernel_rfl) (fun _ _ _ _ h => h) (f142.yes rfl rfl) hS14 (fun W hW => (E.move f142 rfl)) fun a143 f143 => ?_
                  clear f142 a142
                  refine R.take 34 f143 rfl rfl (by decide) (by kernel_rfl) (by kernel_rfl) (by kernel_rfl) (fun _ _ _ _ h => h) (f143.yes rfl rfl) hS14 (fun W hW => (E.move f143 rfl)) fun a144 f144 => ?_
                  clear f143 a143
                  refine R.take 35 f144 rfl rfl (by decide) (by kernel_rfl) (by kernel_rfl) (by kernel_rfl) (fun _ _ _ _ h => h) (f144.yes rfl rfl) hS14 (fun W hW => (E.indexA f144 (by first | rfl | assumption) Tryd.underlying26 wsz9_tx rfl rfl (by omega) (by omega))) fun a145 f145 => ?_
                  clear f144 a144
                  refine R.take 36 f145 rfl rfl (by decide) (by kernel_rfl) (by kernel_rfl) (by kernel_rfl) (fun _ _ _ _ h => h) (f145.yes rfl rfl) hS14 (fun W hW => (by first | exact E.load f145 Tryd.underlying9 rfl rfl (ss_cell (SF.kept hW) rfl hx) | exact E.load f145 Tryd.underlying9 rfl rfl (ss_cell (SF.kept hW) rfl hy))) fun a146 f146 => ?_
                  clear f145 a145
                  refine R.call 28 f146 rfl rfl (by decide) (by kernel_rfl) (f146.yes rfl rfl) (run_call Tryd.call21 (args2 f146 rfl rfl)) (within_any x y w20 (G.kept (HK.trans hS14 (by simp))) (by omega) (by omega)) ?_
                  rintro e w21 ⟨kc21, rfl⟩
                  replace hS14 := hS14.trans kc21 (by simp)
                  refine ⟨_, rfl, hS14, fun a147 f147 => ?_⟩
                  clear f146 a146
                  have szw21 := kc21.size
                  clear kc21
                  refine R.call 37 f147 rfl rfl (by decide) (by kernel_rfl) (f147.yes rfl rfl) (run_call Tryd.call22 (args2 f147 rfl rfl)) (withinR_any x y w21 (G.kept (HK.trans hS14 (by simp))) (by omega) (by omega)) ?_
                  rintro e w22 ⟨kc22, rfl⟩
                  replace hS14 := hS14.trans kc22 (by simp)
                  refine ⟨_, rfl, hS14, fun a148 f148 => ?_⟩
                  clear f147 a147
                  have szw22 := kc22.size
                  clear kc22
                  refine R.take 38 f148 rfl rfl (by decide) (by kernel_rfl) (by kernel_rfl) (by kernel_rfl) (fun _ _ _ _ h => h) (f148.yes rfl rfl) hS14 (fun W hW => (E.neqB f148 Tryd.underlying4 rfl rfl)) fun a149 f149 => ?_
                  clear f148 a148
                  have f150 := f149.as (i := 137) (v' := .bool false) rfl (by simp)
                  clear f149
                  refine R.take 39 f150 rfl rfl (by decide) (by kernel_rfl) (by kernel_rfl) (by kernel_rfl) (fun _ _ _ _ h => h) wantedN hS14 (fun W hW => (E.pickF f150 rfl rfl)) fun a151 f151 => ?_
                  clear f150 a149
                  have szw22r := hS14.size
                  replace HK := HK.trans hS14 (by simp)
                  replace SF := SF.kept hS14
                  clear hS14
                  refine R.done (by kernel_rfl) (hK23 _ _ ?_)
                  try clear hK23 K23
                  have f152 := f151.sub (sub_cons (i := 13) rfl (sub_cons (i := 14) rfl (sub_cons (i := 15) rfl (sub_cons (i := 93) rfl (sub_cons (i := 94) rfl (sub_cons (i := 95) rfl (sub_cons (i := 96) rfl (sub_cons (i := 99) rfl (sub_cons (i := 100) rfl (sub_cons (i := 101) rfl (sub_cons (i := 102) rfl (sub_cons (i := 103) rfl (sub_cons (i := 104) rfl (sub_cons (i := 105) rfl (sub_cons (i := 106) rfl (sub_cons (i := 107) rfl (sub_cons (i := 108) rfl (sub_cons (i := 109) rfl (sub_cons (i := 110) rfl (sub_cons (i := 111) rfl (sub_cons (i := 112) rfl (sub_cons (i := 113) rfl (sub_cons (i := 114) rfl (sub_cons (i := 115) rfl (sub_cons (i := 116) rfl (sub_cons (i := 117) rfl (sub_cons (i := 118) rfl (sub_cons (i := 119) rfl (sub_cons (i := 120) rfl (sub_cons (i := 121) rfl (sub_cons (i := 122) rfl (sub_cons (i := 123) rfl (sub_cons (i := 124) rfl (sub_cons (i := 125) rfl (sub_cons (i := 126) rfl (sub_cons (i := 127) rfl (sub_cons (i := 128) rfl (sub_cons (i := 129) rfl (sub_cons (i := 130) rfl (sub_cons (i := 131) rfl (sub_cons (i := 132) rfl (sub_cons (i := 133) rfl (sub_cons (i := 134) rfl (sub_cons (i := 135) rfl (sub_cons (i := 136) rfl (sub_cons (i := 137) rfl (sub_cons (i := 138) rfl sub_nil)))))))))))))))))))))))))))))))))))))))))))))))
                  clear f151
                  refine C.condF f152 rfl ?_
                  refine wp_skip (hK22 _ _ ?_)
                  try clear hK22 K22
                  have f153 := f152.sub (sub_cons (i := 13) rfl (sub_cons (i := 14) rfl (sub_cons (i := 15) rfl (sub_cons (i := 93) rfl (sub_cons (i := 94) rfl (sub_cons (i := 95) rfl (sub_cons (i := 96) rfl (sub_cons (i := 99) rfl (sub_cons (i := 100) rfl (sub_cons (i := 101) rfl (sub_cons (i := 102) rfl (sub_cons (i := 103) rfl (sub_cons (i := 104) rfl (sub_cons (i := 105) rfl (sub_cons (i := 106) rfl (sub_cons (i := 107) rfl (sub_cons (i := 108) rfl (sub_cons (i := 109) rfl (sub_cons (i := 110) rfl (sub_cons (i := 111) rfl (sub_cons (i := 112) rfl (sub_cons (i := 113) rfl (sub_cons (i := 114) rfl (sub_cons (i := 115) rfl (sub_cons (i := 116) rfl (sub_cons (i := 117) rfl (sub_cons (i := 118) rfl (sub_cons (i := 119) rfl (sub_cons (i := 120) rfl (sub_cons (i := 121) rfl (sub_cons (i := 122) rfl (sub_cons (i := 123) rfl (sub_cons (i := 124) rfl (sub_cons (i := 125) rfl (sub_cons (i := 126) rfl (sub_cons (i := 127) rfl (sub_cons (i := 128) rfl (sub_cons (i := 129) rfl (sub_cons (i := 130) rfl (sub_cons (i := 131) rfl (sub_cons (i := 132) rfl (sub_cons (i := 133) rfl (sub_cons (i := 134) rfl (sub_cons (i := 135) rfl (sub_cons (i := 136) rfl (sub_cons (i := 137) rfl (sub_cons (i := 138) rfl sub_nil)))))))))))))))))))))))))))))))))))))))))))))))
                  clear f152
                  refine C.region ?_
                  refine L.val f153 wantedN rfl (by decide) (E.move f153 rfl) fun a154 f154 => ?_
                  clear f153 a151
                  refine L.val f154 wantedN rfl (by decide) (E.add f154 rfl rfl (IntWalk.i64_in _ (by omega))) fun a155 f155 => ?_
                  clear f154 a154
                  refine L.val f155 wantedN rfl (by decide) (E.assign f155 rfl) fun a156 f156 => ?_
                  clear f155 a155
                  refine wpList_nil (hKL19 _ _ (gk20 - 1) ?_ ?_)
                  · omega
                  · exact ⟨o + 1, by omega, HK, SF, f156.sub (sub_cons rfl (sub_cons rfl (sub_cons rfl sub_nil)))⟩
                · clear f107
                  refine C.condF f108 rfl ?_
                  refine wp_exit (hK15 _ _ ?_)
                  try clear hK15 K15
                  have f109 := f108.sub (sub_cons (i := 13) rfl (sub_cons (i := 14) rfl (sub_cons (i := 15) rfl (sub_cons (i := 93) rfl (sub_cons (i := 94) rfl (sub_cons (i := 95) rfl (sub_cons (i := 96) rfl sub_nil)))))))
                  clear f108
                  refine C.region ?_
                  refine L.val f109 wantedN rfl (by decide) (E.move f109 rfl) fun a110 f110 => ?_
                  clear f109 a106
                  refine L.val f110 wantedN rfl (by decide) (E.add f110 rfl rfl (IntWalk.i64_in _ (by omega))) fun a111 f111 => ?_
                  clear f110 a110
                  refine L.val f111 wantedN rfl (by decide) (E.assign f111 rfl) fun a112 f112 => ?_
                  clear f111 a111
                  refine wpList_nil (hKL12 _ _ (gk13 - 1) ?_ ?_)
                  · omega
                  · exact ⟨i + 1, by omega, HK, SF, f112.sub (sub_cons rfl (sub_cons rfl sub_nil))⟩
            · clear f54
              refine C.condF f55 rfl ?_
              refine wp_exit (hK10 _ _ ?_)
              try clear hK10 K10
              have f56 := f55.sub sub_nil
              clear f55
              refine wp_seq_k fun K24 hK24 => ?_
              refine C.region ?_
              refine L.val f56 wantedN rfl (by decide) (E.assign f56 rfl) fun a57 f57 => ?_
              clear f56 a53
              refine wpList_nil (hK24 _ _ ?_)
              try clear hK24 K24
              have f58 := f57.sub (sub_cons (i := 12) rfl sub_nil)
              clear f57
              refine wp_ret ?_
              try simp only [Exit.inBlock, Exit.then]
              refine C.ret (P := Tryd.prog) (fn := Tryd.f3) f58 rfl rfl ?_
              exact ⟨HK, rfl⟩

end Go.Proofs.YtpdacegpjofdeaaDoor
