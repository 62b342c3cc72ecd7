/- DotsTell: the walk. -/
import Derived.Test.YtahmlcjgcdajbaaDj
set_option linter.all false
namespace Go.Proofs.Ytahmlcjgcdajbaa
open Go.RowKit Go.Hub
theorem wzi32_g0 : (Try.prog.info? 32).map (fun i => (i.zero, i.size)) = some (some (.agg #[(.int .i64 0), (.int .i64 0), (.int .i64 0)]), 3) := by kernel_rfl
theorem wzi37_g0 : (Try.prog.info? 37).map (fun i => (i.zero, i.size)) = some (some (.agg #[(.slice none 0 0), (.slice none 0 0)]), 2) := by kernel_rfl
theorem wbs24_4_g0 (x0_0 x0_1 x0_2 : Value) (x1_0 x1_1 x1_2 : Value) (x2_0 x2_1 x2_2 : Value) (x3_0 x3_1 x3_2 : Value) : Instr.fill (fun i => some (i * 3, 3)) ((Array.range (4 * 3)).map fun j => (Value.cells (.agg #[(.int .i64 0), (.int .i64 0), (.int .i64 0)]))[j % (Value.cells (.agg #[(.int .i64 0), (.int .i64 0), (.int .i64 0)])).size]!) [(0, .agg #[x0_0, x0_1, x0_2]), (1, .agg #[x1_0, x1_1, x1_2]), (2, .agg #[x2_0, x2_1, x2_2]), (3, .agg #[x3_0, x3_1, x3_2])] = some #[x0_0, x0_1, x0_2, x1_0, x1_1, x1_2, x2_0, x2_1, x2_2, x3_0, x3_1, x3_2] := by kernel_rfl
theorem wbs38_4_g0 (x0_0 x0_1 : Value) (x1_0 x1_1 : Value) (x2_0 x2_1 : Value) (x3_0 x3_1 : Value) : Instr.fill (fun i => some (i * 2, 2)) ((Array.range (4 * 2)).map fun j => (Value.cells (.agg #[(.slice none 0 0), (.slice none 0 0)]))[j % (Value.cells (.agg #[(.slice none 0 0), (.slice none 0 0)])).size]!) [(0, .agg #[x0_0, x0_1]), (1, .agg #[x1_0, x1_1]), (2, .agg #[x2_0, x2_1]), (3, .agg #[x3_0, x3_1])] = some #[x0_0, x0_1, x1_0, x1_1, x2_0, x2_1, x3_0, x3_1] := by kernel_rfl
theorem wsz3_g0 : (Try.prog.info? 3).map (·.size) = some 1 := by kernel_rfl
theorem wsz24_g0 : (Try.prog.info? 24).map (·.size) = some 1 := by kernel_rfl
theorem wsz32_g0 : (Try.prog.info? 32).map (·.size) = some 3 := by kernel_rfl
theorem wsz37_g0 : (Try.prog.info? 37).map (·.size) = some 2 := by kernel_rfl
theorem wbl32_0_1_2_g0 (x0 : Int) (x1 : Int) (x2 : Int) : Try.prog.built 32 [(0, .int .i64 x0), (1, .int .i64 x1), (2, .int .i64 x2)] = some #[.int .i64 x0, .int .i64 x1, .int .i64 x2] := by kernel_rfl
theorem wbl37_0_1_g0 (x0 : Option Addr) (y0 z0 : Nat) (x1 : Option Addr) (y1 z1 : Nat) : Try.prog.built 37 [(0, .slice x0 y0 z0), (1, .slice x1 y1 z1)] = some #[.slice x0 y0 z0, .slice x1 y1 z1] := by kernel_rfl

structure Sd where
  A : Option Addr
  c : Nat
  l : List Dt
abbrev sdv (s : Sd) : Value := .slice s.A s.l.length s.c
structure Pr where
  x : Sd
  y : Sd
abbrev pcell2 (p : Pr) : List Value := [sdv p.x, sdv p.y]
def PrOk (w : World) (p : Pr) : Prop := Ds w p.x.A p.x.l ∧ Ds w p.y.A p.y.l ∧ p.x.l.length ≤ 20 ∧ p.y.l.length ≤ 20
theorem pr_row {w : World} {g t k : Nat} {ps : List Pr} {p : Pr} (B : Blk w g t (ps.flatMap pcell2).toArray) (hp : ps[k]? = some p) : w.rangeAt g (0 + (k : Int).toNat * 2) (pcell2 p) := fun j v hv => by
  have h := flat_at pcell2 2 (fun _ => rfl) ps k p hp j v hv
  rw [Int.toNat_natCast, Nat.zero_add]
  exact B.cell_ (by simpa using h)
theorem ds_row {w : World} {g t k : Nat} {ds : List Dt} {y : Dt} (B : Blk w g t (dcells ds).toArray) (hy : ds[k]? = some y) : w.rangeAt g (0 + (k : Int).toNat * 3) (dcell y) := fun j v hv => by
  have h := dcells_at ds k y hy j v hv
  rw [Int.toNat_natCast, Nat.zero_add]
  exact B.cell_ (by simpa using h)

set_option maxRecDepth 100000 in
set_option maxHeartbeats 3000000 in
theorem tell_any (la lb : List Dt) (l1 l2 : List Int) (d : Dt) (n : Int) (Aa Ab B1 B2 : Option Addr) (ca cb c1 c2 : Nat) (w : World) (D1 : Ds w Aa la) (D2 : Ds w Ab lb) (U1 : Us w B1 l1) (U2 : Us w B2 l2) (b1 : ∀ x ∈ l1, 0 ≤ x ∧ x ≤ 65535) (b2 : ∀ x ∈ l2, 0 ≤ x ∧ x ≤ 65535) (q1 : la.length ≤ maxLen) (q2 : lb.length ≤ maxLen) (m1 : l1.length ≤ maxLen) (m2 : l2.length ≤ maxLen) (hn : 0 ≤ n ∧ n ≤ 65535) : Calls Try.prog 6 #[.slice Aa la.length ca, .slice Ab lb.length cb, .slice B1 l1.length c1, .slice B2 l2.length c2, .agg (dcell d).toArray, .int .u16 n] w (fun e w' => e = .returned (.bool true) ∧ Below w.heap.size w w') := by
  have HK : Kept [] w w := Kept.refl [] w
  unfold maxLen at q1 q2 m1 m2
  refine C.enter Try.func6 rfl Try.ntmps6 rfl ?_
  intro a0 f0
  have f1 : Fr 167 a0 [(0, .slice Aa la.length ca), (1, .slice Ab lb.length cb), (2, .slice B1 l1.length c1), (3, .slice B2 l2.length c2), (4, .agg (dcell d).toArray), (5, .int .u16 n)] := f0
  clear f0
  refine wp_seq_k fun K0 hK0 => ?_
  refine C.region ?_
  refine L.box f1 wantedN (by decide) rfl rfl fun a2 w1 g0 N0 f2 => ?_
  have Bg0 := N0.blk
  have kg0 := N0.kept
  have log0 := N0.lo
  have ltg0 := Bg0.lt
  have szw1 := kg0.size
  have frg0 : w.heap.size ≤ g0 := Nat.le_trans HK.size log0
  replace HK := HK.trans kg0 (by simp)
  clear N0 kg0
  clear f1 a0
  refine L.val f2 wantedN rfl (by decide) (E.assign f2 rfl) fun a3 f3 => ?_
  clear f2 a2
  refine wpList_nil (hK0 _ _ ?_)
  try clear hK0 K0
  have f4 := f3.sub (sub_cons (i := 0) rfl (sub_cons (i := 1) rfl (sub_cons (i := 2) rfl (sub_cons (i := 3) rfl (sub_cons (i := 5) rfl (sub_cons (i := 10) rfl (sub_cons (i := 12) rfl sub_nil)))))))
  clear f3
  refine wp_seq_k fun K1 hK1 => ?_
  refine wp_seq_k fun K2 hK2 => ?_
  refine C.region ?_
  refine L.call f4 wantedN rfl (by decide) (run_call Try.call11 (args0 f4)) (known_any _) ?_
  rintro e w2 ⟨kc2, rfl⟩
  refine ⟨_, rfl, fun a5 f5 => ?_⟩
  clear f4 a3
  have szw2 := kc2.size
  replace HK := HK.trans kc2 (by simp)
  replace Bg0 := Bg0.kept kc2 (by simp)
  clear kc2
  refine L.val f5 wantedN rfl (by decide) (E.not f5 rfl) fun a6 f6 => ?_
  clear f5 a5
  refine wpList_nil (hK2 _ _ ?_)
  try clear hK2 K2
  have f7 := f6.sub (sub_cons (i := 0) rfl (sub_cons (i := 1) rfl (sub_cons (i := 2) rfl (sub_cons (i := 3) rfl (sub_cons (i := 5) rfl (sub_cons (i := 10) rfl (sub_cons (i := 12) rfl (sub_cons (i := 19) rfl sub_nil))))))))
  clear f6
  refine C.condF f7 rfl ?_
  refine wp_skip (hK1 _ _ ?_)
  try clear hK1 K1
  have f8 := f7.sub (sub_cons (i := 0) rfl (sub_cons (i := 1) rfl (sub_cons (i := 2) rfl (sub_cons (i := 3) rfl (sub_cons (i := 5) rfl (sub_cons (i := 10) rfl (sub_cons (i := 12) rfl sub_nil)))))))
  clear f7
  refine wp_seq_k fun K3 hK3 => ?_
  refine wp_seq_k fun K4 hK4 => ?_
  refine C.region ?_
  refine L.val f8 wantedN rfl (by decide) (E.move f8 rfl) fun a9 f9 => ?_
  clear f8 a6
  refine L.val f9 wantedN rfl (by decide) (E.lenL f9 Try.underlying24 rfl) fun a10 f10 => ?_
  clear f9 a9
  refine L.val f10 wantedN rfl (by decide) (E.gtr f10 rfl rfl) fun a11 f11 => ?_
  clear f10 a10
  refine L.val f11 wantedN rfl (by decide) (E.move f11 rfl) fun a12 f12 => ?_
  clear f11 a11
  first | refine f12.splitD 23 rfl (fun h0 f13 => ?_) (fun h0 f13 => ?_) | refine f12.splitN 23 rfl (fun h0 f13 => ?_) (fun h0 f13 => ?_) | refine f12.splitNB 23 rfl (fun h0 f13 => ?_) (fun h0 f13 => ?_) | refine f12.split 23 rfl (fun h0 f13 => ?_) (fun h0 f13 => ?_)
  · clear f12
    refine L.skip f13 (f13.noF rfl rfl) rfl (by decide) fun a14 f14 => ?_
    clear f13 a12
    refine L.skip f14 (f14.noF rfl rfl) rfl (by decide) fun a15 f15 => ?_
    clear f14 a14
    refine L.skip f15 (f15.noF rfl rfl) rfl (by decide) fun a16 f16 => ?_
    clear f15 a15
    refine L.val f16 wantedN rfl (by decide) (E.pickT f16 rfl rfl) fun a17 f17 => ?_
    clear f16 a16
    refine L.val f17 wantedN rfl (by decide) (E.move f17 rfl) fun a18 f18 => ?_
    clear f17 a17
    refine L.skip f18 (f18.noF rfl rfl) rfl (by decide) fun a19 f19 => ?_
    clear f18 a18
    refine L.skip f19 (f19.noF rfl rfl) rfl (by decide) fun a20 f20 => ?_
    clear f19 a19
    refine L.skip f20 (f20.noF rfl rfl) rfl (by decide) fun a21 f21 => ?_
    clear f20 a20
    refine L.val f21 wantedN rfl (by decide) (E.pickT f21 rfl rfl) fun a22 f22 => ?_
    clear f21 a21
    refine L.val f22 wantedN rfl (by decide) (E.move f22 rfl) fun a23 f23 => ?_
    clear f22 a22
    refine L.skip f23 (f23.noF rfl rfl) rfl (by decide) fun a24 f24 => ?_
    clear f23 a23
    refine L.skip f24 (f24.noF rfl rfl) rfl (by decide) fun a25 f25 => ?_
    clear f24 a24
    refine L.skip f25 (f25.noF rfl rfl) rfl (by decide) fun a26 f26 => ?_
    clear f25 a25
    refine L.val f26 wantedN rfl (by decide) (E.pickT f26 rfl rfl) fun a27 f27 => ?_
    clear f26 a26
    refine wpList_nil (hK4 _ _ ?_)
    try clear hK4 K4
    have f28 := f27.sub (sub_cons (i := 0) rfl (sub_cons (i := 1) rfl (sub_cons (i := 2) rfl (sub_cons (i := 3) rfl (sub_cons (i := 5) rfl (sub_cons (i := 10) rfl (sub_cons (i := 12) rfl (sub_cons (i := 37) rfl sub_nil))))))))
    clear f27
    refine C.condT f28 rfl ?_
    refine wp_seq_k fun K5 hK5 => ?_
    refine C.region ?_
    refine L.val f28 wantedN rfl (by decide) (E.assign f28 rfl) fun a29 f29 => ?_
    clear f28 a27
    refine wpList_nil (hK5 _ _ ?_)
    try clear hK5 K5
    have f30 := f29.sub (sub_cons (i := 0) rfl (sub_cons (i := 1) rfl (sub_cons (i := 2) rfl (sub_cons (i := 3) rfl (sub_cons (i := 5) rfl (sub_cons (i := 10) rfl (sub_cons (i := 12) rfl sub_nil)))))))
    clear f29
    refine wp_ret ?_
    try simp only [Exit.inBlock, Exit.then]
    refine C.ret (P := Try.prog) (fn := Try.f6) f30 rfl rfl ?_
    exact ⟨rfl, HK.below0⟩
  · clear f12
    refine L.val f13 (f13.yes rfl rfl) rfl (by decide) (E.move f13 rfl) fun a14 f14 => ?_
    clear f13 a12
    refine L.val f14 (f14.yes rfl rfl) rfl (by decide) (E.lenL f14 Try.underlying24 rfl) fun a15 f15 => ?_
    clear f14 a14
    refine L.val f15 (f15.yes rfl rfl) rfl (by decide) (E.gtr f15 rfl rfl) fun a16 f16 => ?_
    clear f15 a15
    refine L.val f16 wantedN rfl (by decide) (E.pickF f16 rfl rfl) fun a17 f17 => ?_
    clear f16 a16
    refine L.val f17 wantedN rfl (by decide) (E.move f17 rfl) fun a18 f18 => ?_
    clear f17 a17
    first | refine f18.splitD 28 rfl (fun h1 f19 => ?_) (fun h1 f19 => ?_) | refine f18.splitN 28 rfl (fun h1 f19 => ?_) (fun h1 f19 => ?_) | refine f18.splitNB 28 rfl (fun h1 f19 => ?_) (fun h1 f19 => ?_) | refine f18.split 28 rfl (fun h1 f19 => ?_) (fun h1 f19 => ?_)
    · clear f18
      refine L.skip f19 (f19.noF rfl rfl) rfl (by decide) fun a20 f20 => ?_
      clear f19 a18
      refine L.skip f20 (f20.noF rfl rfl) rfl (by decide) fun a21 f21 => ?_
      clear f20 a20
      refine L.skip f21 (f21.noF rfl rfl) rfl (by decide) fun a22 f22 => ?_
      clear f21 a21
      refine L.val f22 wantedN rfl (by decide) (E.pickT f22 rfl rfl) fun a23 f23 => ?_
      clear f22 a22
      refine L.val f23 wantedN rfl (by decide) (E.move f23 rfl) fun a24 f24 => ?_
      clear f23 a23
      refine L.skip f24 (f24.noF rfl rfl) rfl (by decide) fun a25 f25 => ?_
      clear f24 a24
      refine L.skip f25 (f25.noF rfl rfl) rfl (by decide) fun a26 f26 => ?_
      clear f25 a25
      refine L.skip f26 (f26.noF rfl rfl) rfl (by decide) fun a27 f27 => ?_
      clear f26 a26
      refine L.val f27 wantedN rfl (by decide) (E.pickT f27 rfl rfl) fun a28 f28 => ?_
      clear f27 a27
      refine wpList_nil (hK4 _ _ ?_)
      try clear hK4 K4
      have f29 := f28.sub (sub_cons (i := 0) rfl (sub_cons (i := 1) rfl (sub_cons (i := 2) rfl (sub_cons (i := 3) rfl (sub_cons (i := 5) rfl (sub_cons (i := 10) rfl (sub_cons (i := 12) rfl (sub_cons (i := 37) rfl sub_nil))))))))
      clear f28
      refine C.condT f29 rfl ?_
      refine wp_seq_k fun K6 hK6 => ?_
      refine C.region ?_
      refine L.val f29 wantedN rfl (by decide) (E.assign f29 rfl) fun a30 f30 => ?_
      clear f29 a28
      refine wpList_nil (hK6 _ _ ?_)
      try clear hK6 K6
      have f31 := f30.sub (sub_cons (i := 0) rfl (sub_cons (i := 1) rfl (sub_cons (i := 2) rfl (sub_cons (i := 3) rfl (sub_cons (i := 5) rfl (sub_cons (i := 10) rfl (sub_cons (i := 12) rfl sub_nil)))))))
      clear f30
      refine wp_ret ?_
      try simp only [Exit.inBlock, Exit.then]
      refine C.ret (P := Try.prog) (fn := Try.f6) f31 rfl rfl ?_
      exact ⟨rfl, HK.below0⟩
    · clear f18
      refine L.val f19 (f19.yes rfl rfl) rfl (by decide) (E.move f19 rfl) fun a20 f20 => ?_
      clear f19 a18
      refine L.val f20 (f20.yes rfl rfl) rfl (by decide) (E.lenL f20 Try.underlying22 rfl) fun a21 f21 => ?_
      clear f20 a20
      refine L.val f21 (f21.yes rfl rfl) rfl (by decide) (E.gtr f21 rfl rfl) fun a22 f22 => ?_
      clear f21 a21
      refine L.val f22 wantedN rfl (by decide) (E.pickF f22 rfl rfl) fun a23 f23 => ?_
      clear f22 a22
      refine L.val f23 wantedN rfl (by decide) (E.move f23 rfl) fun a24 f24 => ?_
      clear f23 a23
      first | refine f24.splitD 33 rfl (fun h2 f25 => ?_) (fun h2 f25 => ?_) | refine f24.splitN 33 rfl (fun h2 f25 => ?_) (fun h2 f25 => ?_) | refine f24.splitNB 33 rfl (fun h2 f25 => ?_) (fun h2 f25 => ?_) | refine f24.split 33 rfl (fun h2 f25 => ?_) (fun h2 f25 => ?_)
      · clear f24
        refine L.skip f25 (f25.noF rfl rfl) rfl (by decide) fun a26 f26 => ?_
        clear f25 a24
        refine L.skip f26 (f26.noF rfl rfl) rfl (by decide) fun a27 f27 => ?_
        clear f26 a26
        refine L.skip f27 (f27.noF rfl rfl) rfl (by decide) fun a28 f28 => ?_
        clear f27 a27
        refine L.val f28 wantedN rfl (by decide) (E.pickT f28 rfl rfl) fun a29 f29 => ?_
        clear f28 a28
        refine wpList_nil (hK4 _ _ ?_)
        try clear hK4 K4
        have f30 := f29.sub (sub_cons (i := 0) rfl (sub_cons (i := 1) rfl (sub_cons (i := 2) rfl (sub_cons (i := 3) rfl (sub_cons (i := 5) rfl (sub_cons (i := 10) rfl (sub_cons (i := 12) rfl (sub_cons (i := 37) rfl sub_nil))))))))
        clear f29
        refine C.condT f30 rfl ?_
        refine wp_seq_k fun K7 hK7 => ?_
        refine C.region ?_
        refine L.val f30 wantedN rfl (by decide) (E.assign f30 rfl) fun a31 f31 => ?_
        clear f30 a29
        refine wpList_nil (hK7 _ _ ?_)
        try clear hK7 K7
        have f32 := f31.sub (sub_cons (i := 0) rfl (sub_cons (i := 1) rfl (sub_cons (i := 2) rfl (sub_cons (i := 3) rfl (sub_cons (i := 5) rfl (sub_cons (i := 10) rfl (sub_cons (i := 12) rfl sub_nil)))))))
        clear f31
        refine wp_ret ?_
        try simp only [Exit.inBlock, Exit.then]
        refine C.ret (P := Try.prog) (fn := Try.f6) f32 rfl rfl ?_
        exact ⟨rfl, HK.below0⟩
      · clear f24
        refine L.val f25 (f25.yes rfl rfl) rfl (by decide) (E.move f25 rfl) fun a26 f26 => ?_
        clear f25 a24
        refine L.val f26 (f26.yes rfl rfl) rfl (by decide) (E.lenL f26 Try.underlying22 rfl) fun a27 f27 => ?_
        clear f26 a26
        refine L.val f27 (f27.yes rfl rfl) rfl (by decide) (E.gtr f27 rfl rfl) fun a28 f28 => ?_
        clear f27 a27
        refine L.val f28 wantedN rfl (by decide) (E.pickF f28 rfl rfl) fun a29 f29 => ?_
        clear f28 a28
        refine wpList_nil (hK4 _ _ ?_)
        try clear hK4 K4
        have f30 := f29.sub (sub_cons (i := 0) rfl (sub_cons (i := 1) rfl (sub_cons (i := 2) rfl (sub_cons (i := 3) rfl (sub_cons (i := 5) rfl (sub_cons (i := 10) rfl (sub_cons (i := 12) rfl (sub_cons (i := 37) rfl sub_nil))))))))
        clear f29
        first | refine f30.splitD 37 rfl (fun h3 f31 => ?_) (fun h3 f31 => ?_) | refine f30.splitN 37 rfl (fun h3 f31 => ?_) (fun h3 f31 => ?_) | refine f30.splitNB 37 rfl (fun h3 f31 => ?_) (fun h3 f31 => ?_) | refine f30.split 37 rfl (fun h3 f31 => ?_) (fun h3 f31 => ?_)
        · clear f30
          refine C.condT f31 rfl ?_
          refine wp_seq_k fun K8 hK8 => ?_
          refine C.region ?_
          refine L.val f31 wantedN rfl (by decide) (E.assign f31 rfl) fun a32 f32 => ?_
          clear f31 a29
          refine wpList_nil (hK8 _ _ ?_)
          try clear hK8 K8
          have f33 := f32.sub (sub_cons (i := 0) rfl (sub_cons (i := 1) rfl (sub_cons (i := 2) rfl (sub_cons (i := 3) rfl (sub_cons (i := 5) rfl (sub_cons (i := 10) rfl (sub_cons (i := 12) rfl sub_nil)))))))
          clear f32
          refine wp_ret ?_
          try simp only [Exit.inBlock, Exit.then]
          refine C.ret (P := Try.prog) (fn := Try.f6) f33 rfl rfl ?_
          exact ⟨rfl, HK.below0⟩
        · clear f30
          refine C.condF f31 rfl ?_
          refine wp_skip (hK3 _ _ ?_)
          try clear hK3 K3
          have f32 := f31.sub (sub_cons (i := 0) rfl (sub_cons (i := 1) rfl (sub_cons (i := 2) rfl (sub_cons (i := 3) rfl (sub_cons (i := 5) rfl (sub_cons (i := 10) rfl (sub_cons (i := 12) rfl sub_nil)))))))
          clear f31
          refine wp_seq_k fun K9 hK9 => ?_
          refine C.region ?_
          refine L.val f32 wantedN rfl (by decide) (E.move f32 rfl) fun a33 f33 => ?_
          clear f32 a29
          refine L.val f33 wantedN rfl (by decide) (E.rem f33 rfl rfl (by omega) (Int.tmod_eq_emod_of_nonneg (by omega))) fun a34 f34 => ?_
          clear f33 a33
          refine L.val f34 wantedN rfl (by decide) (E.conv f34 Try.underlying30 Try.underlying3 rfl (IntWalk.i64_in _ (by omega))) fun a35 f35 => ?_
          clear f34 a34
          refine L.val f35 wantedN rfl (by decide) (E.move f35 rfl) fun a36 f36 => ?_
          clear f35 a35
          refine L.val f36 wantedN rfl (by decide) (E.quo f36 rfl rfl (by omega) (u16_quo _ _ ⟨by omega, by omega, by omega⟩)) fun a37 f37 => ?_
          clear f36 a36
          refine L.val f37 wantedN rfl (by decide) (E.rem f37 rfl rfl (by omega) (Int.tmod_eq_emod_of_nonneg (by omega))) fun a38 f38 => ?_
          clear f37 a37
          refine L.val f38 wantedN rfl (by decide) (E.conv f38 Try.underlying30 Try.underlying3 rfl (IntWalk.i64_in _ (by omega))) fun a39 f39 => ?_
          clear f38 a38
          refine L.val f39 wantedN rfl (by decide) (E.move f39 rfl) fun a40 f40 => ?_
          clear f39 a39
          refine L.val f40 wantedN rfl (by decide) (E.quo f40 rfl rfl (by omega) (u16_quo _ _ ⟨by omega, by omega, by omega⟩)) fun a41 f41 => ?_
          clear f40 a40
          refine L.val f41 wantedN rfl (by decide) (E.rem f41 rfl rfl (by omega) (Int.tmod_eq_emod_of_nonneg (by omega))) fun a42 f42 => ?_
          clear f41 a41
          refine L.val f42 wantedN rfl (by decide) (E.conv f42 Try.underlying30 Try.underlying3 rfl (IntWalk.i64_in _ (by omega))) fun a43 f43 => ?_
          clear f42 a42
          refine L.val f43 wantedN rfl (by decide) (E.sub f43 rfl rfl (IntWalk.i64_in _ (by omega))) fun a44 f44 => ?_
          clear f43 a43
          refine L.val f44 wantedN rfl (by decide) (E.build f44 (parts3 f44 rfl rfl rfl) (wbl32_0_1_2_g0 _ _ _)) fun a45 f45 => ?_
          clear f44 a44
          refine L.alloc f45 wantedN (by decide) (z := (.agg #[(.int .i64 0), (.int .i64 0), (.int .i64 0)])) (fun _ => by kernel_rfl) rfl fun a46 w3 g2 N2 f46 => ?_
          have Bg2 := N2.blk
          have kg2 := N2.kept
          have log2 := N2.lo
          have ltg2 := Bg2.lt
          have szw3 := kg2.size
          have frg2 : w.heap.size ≤ g2 := Nat.le_trans HK.size log2
          have neg0_g2 : g0 ≠ g2 := by have := Bg0.lt; omega
          replace HK := HK.trans kg2 (by simp)
          replace Bg0 := Bg0.kept kg2 (by simp)
          clear N2 kg2
          clear f45 a45
          refine L.storeR f46 wantedN wsz32_g0 rfl rfl rfl Bg2 rfl rfl fun a47 w4 f47 NB4 ks4 => ?_
          have szw4 := ks4.size
          replace HK := HK.trans ks4 (by intro x hx hlt; simp at hx; subst hx; first | (exfalso; omega) | simp)
          replace Bg0 := Bg0.kept ks4 (by simp; omega)
          replace Bg2 := NB4
          clear ks4 f46 a46
          refine wpList_nil (hK9 _ _ ?_)
          try clear hK9 K9
          have f48 := f47.sub (sub_cons (i := 0) rfl (sub_cons (i := 1) rfl (sub_cons (i := 2) rfl (sub_cons (i := 3) rfl (sub_cons (i := 10) rfl (sub_cons (i := 12) rfl (sub_cons (i := 13) rfl sub_nil)))))))
          clear f47
          refine wp_seq_k fun K10 hK10 => ?_
          refine wp_seq_k fun K11 hK11 => ?_
          refine C.region ?_
          refine L.val f48 wantedN rfl (by decide) (E.move f48 rfl) fun a49 f49 => ?_
          clear f48 a47
          refine L.val f49 wantedN rfl (by decide) (E.move f49 rfl) fun a50 f50 => ?_
          clear f49 a49
          refine L.val f50 wantedN rfl (by decide) (E.build f50 (parts2 f50 rfl rfl) (wbl37_0_1_g0 _ _ _ _ _ _)) fun a51 f51 => ?_
          clear f50 a50
          refine L.val f51 wantedN rfl (by decide) (E.move f51 rfl) fun a52 f52 => ?_
          clear f51 a51
          refine L.call f52 wantedN rfl (by decide) (run_call Try.call12 (args1 f52 rfl)) (of_any l1 _ _ _ (U1.kept HK) (by omega) b1) ?_
          rintro e w5 ⟨kc5, AF1, cF1, rfl, F1⟩
          refine ⟨_, rfl, fun a53 f53 => ?_⟩
          clear f52 a52
          have szw5 := kc5.size
          replace HK := HK.trans kc5 (by simp)
          replace Bg0 := Bg0.kept kc5 (by simp)
          replace Bg2 := Bg2.kept kc5 (by simp)
          clear kc5
          refine L.val f53 wantedN rfl (by decide) (E.move f53 rfl) fun a54 f54 => ?_
          clear f53 a53
          refine L.call f54 wantedN rfl (by decide) (run_call Try.call12 (args1 f54 rfl)) (of_any l2 _ _ _ (U2.kept HK) (by omega) b2) ?_
          rintro e w6 ⟨kc6, AF2, cF2, rfl, F2⟩
          refine ⟨_, rfl, fun a55 f55 => ?_⟩
          clear f54 a54
          have szw6 := kc6.size
          replace HK := HK.trans kc6 (by simp)
          replace Bg0 := Bg0.kept kc6 (by simp)
          replace Bg2 := Bg2.kept kc6 (by simp)
          replace F1 := F1.kept0 kc6
          clear kc6
          refine L.val f55 wantedN rfl (by decide) (E.build f55 (parts2 f55 rfl rfl) (wbl37_0_1_g0 _ _ _ _ _ _)) fun a56 f56 => ?_
          clear f55 a55
          refine L.val f56 wantedN rfl (by decide) (E.move f56 rfl) fun a57 f57 => ?_
          clear f56 a56
          refine L.call f57 wantedN rfl (by decide) (run_call Try.call12 (args1 f57 rfl)) (of_any l1 _ _ _ (U1.kept HK) (by omega) b1) ?_
          rintro e w7 ⟨kc7, AF3, cF3, rfl, F3⟩
          refine ⟨_, rfl, fun a58 f58 => ?_⟩
          clear f57 a57
          have szw7 := kc7.size
          replace HK := HK.trans kc7 (by simp)
          replace Bg0 := Bg0.kept kc7 (by simp)
          replace Bg2 := Bg2.kept kc7 (by simp)
          replace F1 := F1.kept0 kc7
          replace F2 := F2.kept0 kc7
          clear kc7
          refine L.val f58 wantedN rfl (by decide) (E.move f58 rfl) fun a59 f59 => ?_
          clear f58 a58
          refine L.val f59 wantedN rfl (by decide) (E.build f59 (parts2 f59 rfl rfl) (wbl37_0_1_g0 _ _ _ _ _ _)) fun a60 f60 => ?_
          clear f59 a59
          refine L.val f60 wantedN rfl (by decide) (E.move f60 rfl) fun a61 f61 => ?_
          clear f60 a60
          refine L.call f61 wantedN rfl (by decide) (run_call Try.call12 (args1 f61 rfl)) (of_any l1 _ _ _ (U1.kept HK) (by omega) b1) ?_
          rintro e w8 ⟨kc8, AF4, cF4, rfl, F4⟩
          refine ⟨_, rfl, fun a62 f62 => ?_⟩
          clear f61 a61
          have szw8 := kc8.size
          replace HK := HK.trans kc8 (by simp)
          replace Bg0 := Bg0.kept kc8 (by simp)
          replace Bg2 := Bg2.kept kc8 (by simp)
          replace F1 := F1.kept0 kc8
          replace F2 := F2.kept0 kc8
          replace F3 := F3.kept0 kc8
          clear kc8
          refine L.val f62 wantedN rfl (by decide) (E.move f62 rfl) fun a63 f63 => ?_
          clear f62 a62
          refine L.call f63 wantedN rfl (by decide) (run_call Try.call12 (args1 f63 rfl)) (of_any l1 _ _ _ (U1.kept HK) (by omega) b1) ?_
          rintro e w9 ⟨kc9, AF5, cF5, rfl, F5⟩
          refine ⟨_, rfl, fun a64 f64 => ?_⟩
          clear f63 a63
          have szw9 := kc9.size
          replace HK := HK.trans kc9 (by simp)
          replace Bg0 := Bg0.kept kc9 (by simp)
          replace Bg2 := Bg2.kept kc9 (by simp)
          replace F1 := F1.kept0 kc9
          replace F2 := F2.kept0 kc9
          replace F3 := F3.kept0 kc9
          replace F4 := F4.kept0 kc9
          clear kc9
          refine L.val f64 wantedN rfl (by decide) (E.build f64 (parts2 f64 rfl rfl) (wbl37_0_1_g0 _ _ _ _ _ _)) fun a65 f65 => ?_
          clear f64 a64
          refine L.buildSlice f65 wantedN (by decide) (parts4 f65 rfl rfl rfl rfl) Try.underlying38 wzi37_g0 rfl rfl (wbs38_4_g0 _ _ _ _ _ _ _ _) fun a66 w10 g9 N9 f66 => ?_
          have Bg9 := N9.blk
          have kg9 := N9.kept
          have log9 := N9.lo
          have ltg9 := Bg9.lt
          have szw10 := kg9.size
          have frg9 : w.heap.size ≤ g9 := Nat.le_trans HK.size log9
          have neg0_g9 : g0 ≠ g9 := by have := Bg0.lt; omega
          have neg2_g9 : g2 ≠ g9 := by have := Bg2.lt; omega
          replace HK := HK.trans kg9 (by simp)
          replace Bg0 := Bg0.kept kg9 (by simp)
          replace Bg2 := Bg2.kept kg9 (by simp)
          replace F1 := F1.kept0 kg9
          replace F2 := F2.kept0 kg9
          replace F3 := F3.kept0 kg9
          replace F4 := F4.kept0 kg9
          replace F5 := F5.kept0 kg9
          clear N9 kg9
          clear f65 a65
          refine L.val f66 wantedN rfl (by decide) (E.lenL f66 Try.underlying38 rfl) fun a67 f67 => ?_
          clear f66 a66
          refine L.val f67 wantedN rfl (by decide) (E.move f67 rfl) fun a68 f68 => ?_
          clear f67 a67
          refine wpList_nil (hK11 _ _ ?_)
          try clear hK11 K11
          have f69 := f68.sub (sub_cons (i := 10) rfl (sub_cons (i := 12) rfl (sub_cons (i := 13) rfl (sub_cons (i := 68) rfl (sub_cons (i := 69) rfl (sub_cons (i := 70) rfl sub_nil))))))
          clear f68
          refine wp_block ?_
          have HKw := HK
          have Bd0 : Blk w10 g0 32 (dcell d).toArray := Bg0
          have Bn0 : Blk w10 g2 32 (dcell (⟨n % 4, n / 4 % 4, n / 16 % 10 - 1⟩ : Dt)).toArray := Bg2
          have BT0 : Blk w10 g9 37 (([⟨⟨Aa, ca, la⟩, ⟨Ab, cb, lb⟩⟩, ⟨⟨AF1, cF1, ofL l1⟩, ⟨AF2, cF2, ofL l2⟩⟩, ⟨⟨AF3, cF3, ofL l1⟩, ⟨Aa, ca, la⟩⟩, ⟨⟨AF4, cF4, ofL l1⟩, ⟨AF5, cF5, ofL l1⟩⟩] : List Pr).flatMap pcell2).toArray := Bg9
          have hpok : ∀ p ∈ ([⟨⟨Aa, ca, la⟩, ⟨Ab, cb, lb⟩⟩, ⟨⟨AF1, cF1, ofL l1⟩, ⟨AF2, cF2, ofL l2⟩⟩, ⟨⟨AF3, cF3, ofL l1⟩, ⟨Aa, ca, la⟩⟩, ⟨⟨AF4, cF4, ofL l1⟩, ⟨AF5, cF5, ofL l1⟩⟩] : List Pr), PrOk w10 p := by
            intro p hp
            simp only [List.mem_cons, List.not_mem_nil, or_false] at hp
            have g1 := ofL_len l1; have g2 := ofL_len l2
            rcases hp with rfl | rfl | rfl | rfl
            · exact ⟨D1.kept HK, D2.kept HK, by show la.length ≤ 20; omega, by show lb.length ≤ 20; omega⟩
            · exact ⟨F1.sl, F2.sl, by show (ofL l1).length ≤ 20; omega, by show (ofL l2).length ≤ 20; omega⟩
            · exact ⟨F3.sl, D1.kept HK, by show (ofL l1).length ≤ 20; omega, by show la.length ≤ 20; omega⟩
            · exact ⟨F4.sl, F5.sl, by show (ofL l1).length ≤ 20; omega, by show (ofL l1).length ≤ 20; omega⟩
          obtain ⟨ps, hps0⟩ : ∃ ps : List Pr, ps = [⟨⟨Aa, ca, la⟩, ⟨Ab, cb, lb⟩⟩, ⟨⟨AF1, cF1, ofL l1⟩, ⟨AF2, cF2, ofL l2⟩⟩, ⟨⟨AF3, cF3, ofL l1⟩, ⟨Aa, ca, la⟩⟩, ⟨⟨AF4, cF4, ofL l1⟩, ⟨AF5, cF5, ofL l1⟩⟩] := ⟨_, rfl⟩
          rw [← hps0] at BT0 hpok
          have hpl : ps.length = 4 := by rw [hps0]; rfl
          clear hps0
          refine C.loop (fun gk a W => ∃ k : Nat, k + gk = 4 ∧ Kept [] w10 W ∧ Fr 167 a [(10, .pointer (some ⟨g0, 0, none⟩)), (13, .pointer (some ⟨g2, 0, none⟩)), (68, .slice (some ⟨g9, 0, none⟩) 4 4), (69, .int .i64 ((4 : Nat) : Int)), (70, .int .i64 k)]) (4) ?_ ?_
          · exact ⟨0, by omega, Kept.refl _ _, f69.sub (sub_cons rfl (sub_cons rfl (sub_cons rfl (sub_cons rfl (sub_cons rfl sub_nil)))))⟩
          · intro gk13 a70 w11 hI KL12 hKL12
            obtain ⟨k, hk, HK6, f70⟩ := hI
            try clear f69
            have szw1x := HK6.size
            have BT := BT0.kept HK6 (by simp)
            have Bn := Bn0.kept HK6 (by simp)
            have Bd := Bd0.kept HK6 (by simp)
            refine wp_seq_k fun K13 hK13 => ?_
            refine C.region ?_
            refine L.val f70 wantedN rfl (by decide) (E.lss f70 rfl rfl) fun a71 f71 => ?_
            clear f70 a70
            refine wpList_nil (hK13 _ _ ?_)
            try clear hK13 K13
            have f72 := f71.sub (sub_cons (i := 10) rfl (sub_cons (i := 13) rfl (sub_cons (i := 68) rfl (sub_cons (i := 69) rfl (sub_cons (i := 70) rfl (sub_cons (i := 71) rfl sub_nil))))))
            clear f71
            refine wp_seq_k fun K14 hK14 => ?_
            first | refine f72.splitD 71 rfl (fun h4 f73 => ?_) (fun h4 f73 => ?_) | refine f72.splitN 71 rfl (fun h4 f73 => ?_) (fun h4 f73 => ?_) | refine f72.splitNB 71 rfl (fun h4 f73 => ?_) (fun h4 f73 => ?_) | refine f72.split 71 rfl (fun h4 f73 => ?_) (fun h4 f73 => ?_)
            · clear f72
              obtain ⟨p, hp⟩ : ∃ p, ps[k]? = some p := ⟨ps[k]'(by omega), List.getElem?_eq_getElem _⟩
              obtain ⟨dx, dy, lx, ly⟩ := hpok p (List.mem_of_getElem? hp)
              refine C.condT f73 rfl ?_
              refine wp_skip (hK14 _ _ ?_)
              try clear hK14 K14
              have f74 := f73.sub (sub_cons (i := 10) rfl (sub_cons (i := 13) rfl (sub_cons (i := 68) rfl (sub_cons (i := 69) rfl (sub_cons (i := 70) rfl (sub_cons (i := 71) rfl sub_nil))))))
              clear f73
              refine wp_seq_k fun K15 hK15 => ?_
              refine wp_block ?_
              refine wp_seq_k fun K16 hK16 => ?_
              refine C.region ?_
              refine L.val f74 wantedN rfl (by decide) (E.indexA f74 (by first | rfl | assumption) Try.underlying38 wsz37_g0 rfl rfl (by omega) (by omega)) fun a75 f75 => ?_
              clear f74 a71
              refine L.val f75 wantedN rfl (by decide) (E.loadR f75 Try.underlying37 rfl wsz37_g0 rfl (pr_row BT hp) rfl) fun a76 f76 => ?_
              clear f75 a75
              refine L.alloc f76 wantedN (by decide) (z := (.agg #[(.slice none 0 0), (.slice none 0 0)])) (fun _ => by kernel_rfl) rfl fun a77 w12 g11 N11 f77 => ?_
              have Bg11 := N11.blk
              have kg11 := N11.kept
              have log11 := N11.lo
              have ltg11 := Bg11.lt
              have szw12 := kg11.size
              have frg11 : w10.heap.size ≤ g11 := Nat.le_trans HK6.size log11
              have neg9_g11 : g9 ≠ g11 := by have := BT.lt; omega
              have neg2_g11 : g2 ≠ g11 := by have := Bn.lt; omega
              have neg0_g11 : g0 ≠ g11 := by have := Bd.lt; omega
              replace HK6 := HK6.trans kg11 (by simp)
              replace BT := BT.kept kg11 (by simp)
              replace Bn := Bn.kept kg11 (by simp)
              replace Bd := Bd.kept kg11 (by simp)
              clear N11 kg11
              clear f76 a76
              refine L.storeR f77 wantedN wsz37_g0 rfl rfl rfl Bg11 rfl rfl fun a78 w13 f78 NB13 ks13 => ?_
              have szw13 := ks13.size
              replace HK6 := HK6.trans ks13 (by intro x hx hlt; simp at hx; subst hx; first | (exfalso; omega) | simp)
              replace BT := BT.kept ks13 (by simp; omega)
              replace Bn := Bn.kept ks13 (by simp; omega)
              replace Bd := Bd.kept ks13 (by simp; omega)
              replace Bg11 := NB13
              clear ks13 f77 a77
              refine wpList_nil (hK16 _ _ ?_)
              try clear hK16 K16
              have f79 := f78.sub (sub_cons (i := 10) rfl (sub_cons (i := 13) rfl (sub_cons (i := 15) rfl (sub_cons (i := 68) rfl (sub_cons (i := 69) rfl (sub_cons (i := 70) rfl (sub_cons (i := 71) rfl (sub_cons (i := 72) rfl (sub_cons (i := 73) rfl sub_nil)))))))))
              clear f78
              refine wp_seq_k fun K17 hK17 => ?_
              refine wp_seq_k fun K18 hK18 => ?_
              refine R.begin (S := fun W => Kept [] w13 W) (by kernel_rfl) (by exact (Kept.refl _ _).drewN 1) ?_
              have hS9 : Kept [] w13 (w13.drewN 1) := (Kept.refl _ _).drewN 1
              have hd9 : Kept [] w13 (w13.drewN 1) := (Kept.refl _ _).drewN 1
              obtain ⟨w14, hww14⟩ : ∃ W, W = w13.drewN 1 := ⟨_, rfl⟩
              rw [← hww14] at hS9 hd9 ⊢
              clear hww14
              have szw14 := hS9.size
              refine R.take 0 f79 rfl rfl (by decide) (by kernel_rfl) (by kernel_rfl) (by kernel_rfl) (fun _ _ _ _ h => h) wantedN hS9 (fun W hW => (E.indexArr f79 Try.underlying37 wsz24_g0 rfl rfl (by omega) (by omega))) fun a80 f80 => ?_
              clear f79 a78
              refine R.take 1 f80 rfl rfl (by decide) (by kernel_rfl) (by kernel_rfl) (by kernel_rfl) (fun _ _ _ _ h => h) wantedN hS9 (fun W hW => (by first | exact E.load f80 Try.underlying24 rfl rfl ((BT.kept hW (by simp)).cl rfl) | exact E.load f80 Try.underlying24 rfl rfl ((Bn.kept hW (by simp)).cl rfl) | exact E.load f80 Try.underlying24 rfl rfl ((Bd.kept hW (by simp)).cl rfl) | exact E.load f80 Try.underlying24 rfl rfl ((Bg11.kept hW (by simp)).cl rfl))) fun a81 f81 => ?_
              clear f80 a80
              refine R.take 3 f81 rfl rfl (by decide) (by kernel_rfl) (by kernel_rfl) (by kernel_rfl) (fun _ _ _ _ h => h) wantedN hS9 (fun W hW => (E.indexArr f81 Try.underlying37 wsz24_g0 rfl rfl (by omega) (by omega))) fun a82 f82 => ?_
              clear f81 a81
              refine R.take 4 f82 rfl rfl (by decide) (by kernel_rfl) (by kernel_rfl) (by kernel_rfl) (fun _ _ _ _ h => h) wantedN hS9 (fun W hW => (by first | exact E.load f82 Try.underlying24 rfl rfl ((BT.kept hW (by simp)).cl rfl) | exact E.load f82 Try.underlying24 rfl rfl ((Bn.kept hW (by simp)).cl rfl) | exact E.load f82 Try.underlying24 rfl rfl ((Bd.kept hW (by simp)).cl rfl) | exact E.load f82 Try.underlying24 rfl rfl ((Bg11.kept hW (by simp)).cl rfl))) fun a83 f83 => ?_
              clear f82 a82
              refine R.call 2 f83 rfl rfl (by decide) (by kernel_rfl) wantedN (run_call Try.call16 (args1 f83 rfl)) (right_any p.x.l _ _ _ ((dx.kept HK6).kept hS9) (by unfold maxLen; omega)) ?_
              rintro e w15 ⟨kc15, rfl⟩
              replace hS9 := hS9.trans kc15 (by simp)
              refine ⟨_, rfl, hS9, fun a84 f84 => ?_⟩
              clear f83 a83
              have szw15 := kc15.size
              clear kc15
              refine R.call 5 f84 rfl rfl (by decide) (by kernel_rfl) wantedN (run_call Try.call21 (args1 f84 rfl)) (rightR_any p.x.l _ _ _ ((dx.kept HK6).kept hS9) (by unfold maxLen; omega)) ?_
              rintro e w16 ⟨kc16, rfl⟩
              replace hS9 := hS9.trans kc16 (by simp)
              refine ⟨_, rfl, hS9, fun a85 f85 => ?_⟩
              clear f84 a84
              have szw16 := kc16.size
              clear kc16
              refine R.take 6 f85 rfl rfl (by decide) (by kernel_rfl) (by kernel_rfl) (by kernel_rfl) (fun _ _ _ _ h => h) wantedN hS9 (fun W hW => (E.neqB f85 Try.underlying4 rfl rfl)) fun a86 f86 => ?_
              clear f85 a85
              have f87 := f86.as (i := 80) (v' := .bool false) rfl (by simp)
              clear f86
              refine R.take 7 f87 rfl rfl (by decide) (by kernel_rfl) (by kernel_rfl) (by kernel_rfl) (fun _ _ _ _ h => h) wantedN hS9 (fun W hW => (E.move f87 rfl)) fun a88 f88 => ?_
              clear f87 a86
              refine R.take 8 f88 rfl rfl (by decide) (by kernel_rfl) (by kernel_rfl) (by kernel_rfl) (fun _ _ _ _ h => h) (f88.yes rfl rfl) hS9 (fun W hW => (E.indexArr f88 Try.underlying37 wsz24_g0 rfl rfl (by omega) (by omega))) fun a89 f89 => ?_
              clear f88 a88
              refine R.take 9 f89 rfl rfl (by decide) (by kernel_rfl) (by kernel_rfl) (by kernel_rfl) (fun _ _ _ _ h => h) (f89.yes rfl rfl) hS9 (fun W hW => (by first | exact E.load f89 Try.underlying24 rfl rfl ((BT.kept hW (by simp)).cl rfl) | exact E.load f89 Try.underlying24 rfl rfl ((Bn.kept hW (by simp)).cl rfl) | exact E.load f89 Try.underlying24 rfl rfl ((Bd.kept hW (by simp)).cl rfl) | exact E.load f89 Try.underlying24 rfl rfl ((Bg11.kept hW (by simp)).cl rfl))) fun a90 f90 => ?_
              clear f89 a89
              refine R.take 10 f90 rfl rfl (by decide) (by kernel_rfl) (by kernel_rfl) (by kernel_rfl) (fun _ _ _ _ h => h) (f90.yes rfl rfl) hS9 (fun W hW => (E.indexArr f90 Try.underlying37 wsz24_g0 rfl rfl (by omega) (by omega))) fun a91 f91 => ?_
              clear f90 a90
              refine R.take 11 f91 rfl rfl (by decide) (by kernel_rfl) (by kernel_rfl) (by kernel_rfl) (fun _ _ _ _ h => h) (f91.yes rfl rfl) hS9 (fun W hW => (by first | exact E.load f91 Try.underlying24 rfl rfl ((BT.kept hW (by simp)).cl rfl) | exact E.load f91 Try.underlying24 rfl rfl ((Bn.kept hW (by simp)).cl rfl) | exact E.load f91 Try.underlying24 rfl rfl ((Bd.kept hW (by simp)).cl rfl) | exact E.load f91 Try.underlying24 rfl rfl ((Bg11.kept hW (by simp)).cl rfl))) fun a92 f92 => ?_
              clear f91 a91
              refine R.take 13 f92 rfl rfl (by decide) (by kernel_rfl) (by kernel_rfl) (by kernel_rfl) (fun _ _ _ _ h => h) (f92.yes rfl rfl) hS9 (fun W hW => (E.indexArr f92 Try.underlying37 wsz24_g0 rfl rfl (by omega) (by omega))) fun a93 f93 => ?_
              clear f92 a92
              refine R.take 14 f93 rfl rfl (by decide) (by kernel_rfl) (by kernel_rfl) (by kernel_rfl) (fun _ _ _ _ h => h) (f93.yes rfl rfl) hS9 (fun W hW => (by first | exact E.load f93 Try.underlying24 rfl rfl ((BT.kept hW (by simp)).cl rfl) | exact E.load f93 Try.underlying24 rfl rfl ((Bn.kept hW (by simp)).cl rfl) | exact E.load f93 Try.underlying24 rfl rfl ((Bd.kept hW (by simp)).cl rfl) | exact E.load f93 Try.underlying24 rfl rfl ((Bg11.kept hW (by simp)).cl rfl))) fun a94 f94 => ?_
              clear f93 a93
              refine R.take 15 f94 rfl rfl (by decide) (by kernel_rfl) (by kernel_rfl) (by kernel_rfl) (fun _ _ _ _ h => h) (f94.yes rfl rfl) hS9 (fun W hW => (E.indexArr f94 Try.underlying37 wsz24_g0 rfl rfl (by omega) (by omega))) fun a95 f95 => ?_
              clear f94 a94
              refine R.take 16 f95 rfl rfl (by decide) (by kernel_rfl) (by kernel_rfl) (by kernel_rfl) (fun _ _ _ _ h => h) (f95.yes rfl rfl) hS9 (fun W hW => (by first | exact E.load f95 Try.underlying24 rfl rfl ((BT.kept hW (by simp)).cl rfl) | exact E.load f95 Try.underlying24 rfl rfl ((Bn.kept hW (by simp)).cl rfl) | exact E.load f95 Try.underlying24 rfl rfl ((Bd.kept hW (by simp)).cl rfl) | exact E.load f95 Try.underlying24 rfl rfl ((Bg11.kept hW (by simp)).cl rfl))) fun a96 f96 => ?_
              clear f95 a95
              refine R.call 12 f96 rfl rfl (by decide) (by kernel_rfl) (f96.yes rfl rfl) (run_call Try.call13 (args2 f96 rfl rfl)) (Join_any p.x.l p.y.l _ _ _ _ _ ((dx.kept HK6).kept hS9) ((dy.kept HK6).kept hS9) (by omega)) ?_
              rintro e w17 ⟨kc17, AP, cP, rfl, FP⟩
              replace hS9 := hS9.trans kc17 (by simp)
              refine ⟨_, rfl, hS9, fun a97 f97 => ?_⟩
              clear f96 a96
              have szw17 := kc17.size
              clear kc17
              refine R.call 17 f97 rfl rfl (by decide) (by kernel_rfl) (f97.yes rfl rfl) (run_call Try.call22 (args2 f97 rfl rfl)) (JoinR_any p.x.l p.y.l _ _ _ _ _ ((dx.kept HK6).kept hS9) ((dy.kept HK6).kept hS9) (by omega)) ?_
              rintro e w18 ⟨kc18, AQ, cQ, rfl, FQ⟩
              replace hS9 := hS9.trans kc18 (by simp)
              refine ⟨_, rfl, hS9, fun a98 f98 => ?_⟩
              clear f97 a97
              have szw18 := kc18.size
              replace FP := FP.kept0 kc18
              clear kc18
              have hjl := join_len p.x.l p.y.l
              refine R.call 18 f98 rfl rfl (by decide) (by kernel_rfl) (f98.yes rfl rfl) (run_call Try.call14 (args2 f98 rfl rfl)) (dotsEq_any (joinD p.x.l p.y.l) (joinD p.x.l p.y.l) _ _ _ _ _ FP.sl FQ.sl (by unfold maxLen; omega) (by unfold maxLen; omega)) ?_
              rintro e w19 ⟨kc19, rfl⟩
              replace hS9 := hS9.trans kc19 (by simp)
              refine ⟨_, rfl, hS9, fun a99 f99 => ?_⟩
              clear f98 a98
              have szw19 := kc19.size
              replace FP := FP.kept0 kc19
              replace FQ := FQ.kept0 kc19
              clear kc19
              have f100 := f99.as (i := 92) (v' := .bool true) rfl (by rw [decide_eq_true rfl])
              clear f99
              refine R.take 19 f100 rfl rfl (by decide) (by kernel_rfl) (by kernel_rfl) (by kernel_rfl) (fun _ _ _ _ h => h) (f100.yes rfl rfl) hS9 (fun W hW => (E.not f100 rfl)) fun a101 f101 => ?_
              clear f100 a99
              refine R.take 20 f101 rfl rfl (by decide) (by kernel_rfl) (by kernel_rfl) (by kernel_rfl) (fun _ _ _ _ h => h) wantedN hS9 (fun W hW => (E.pickF f101 rfl rfl)) fun a102 f102 => ?_
              clear f101 a101
              refine R.take 21 f102 rfl rfl (by decide) (by kernel_rfl) (by kernel_rfl) (by kernel_rfl) (fun _ _ _ _ h => h) wantedN hS9 (fun W hW => (E.move f102 rfl)) fun a103 f103 => ?_
              clear f102 a102
              refine R.take 22 f103 rfl rfl (by decide) (by kernel_rfl) (by kernel_rfl) (by kernel_rfl) (fun _ _ _ _ h => h) (f103.yes rfl rfl) hS9 (fun W hW => (E.indexArr f103 Try.underlying37 wsz24_g0 rfl rfl (by omega) (by omega))) fun a104 f104 => ?_
              clear f103 a103
              refine R.take 23 f104 rfl rfl (by decide) (by kernel_rfl) (by kernel_rfl) (by kernel_rfl) (fun _ _ _ _ h => h) (f104.yes rfl rfl) hS9 (fun W hW => (by first | exact E.load f104 Try.underlying24 rfl rfl ((BT.kept hW (by simp)).cl rfl) | exact E.load f104 Try.underlying24 rfl rfl ((Bn.kept hW (by simp)).cl rfl) | exact E.load f104 Try.underlying24 rfl rfl ((Bd.kept hW (by simp)).cl rfl) | exact E.load f104 Try.underlying24 rfl rfl ((Bg11.kept hW (by simp)).cl rfl))) fun a105 f105 => ?_
              clear f104 a104
              refine R.take 24 f105 rfl rfl (by decide) (by kernel_rfl) (by kernel_rfl) (by kernel_rfl) (fun _ _ _ _ h => h) (f105.yes rfl rfl) hS9 (fun W hW => (E.indexArr f105 Try.underlying37 wsz24_g0 rfl rfl (by omega) (by omega))) fun a106 f106 => ?_
              clear f105 a105
              refine R.take 25 f106 rfl rfl (by decide) (by kernel_rfl) (by kernel_rfl) (by kernel_rfl) (fun _ _ _ _ h => h) (f106.yes rfl rfl) hS9 (fun W hW => (by first | exact E.load f106 Try.underlying24 rfl rfl ((BT.kept hW (by simp)).cl rfl) | exact E.load f106 Try.underlying24 rfl rfl ((Bn.kept hW (by simp)).cl rfl) | exact E.load f106 Try.underlying24 rfl rfl ((Bd.kept hW (by simp)).cl rfl) | exact E.load f106 Try.underlying24 rfl rfl ((Bg11.kept hW (by simp)).cl rfl))) fun a107 f107 => ?_
              clear f106 a106
              refine R.take 27 f107 rfl rfl (by decide) (by kernel_rfl) (by kernel_rfl) (by kernel_rfl) (fun _ _ _ _ h => h) (f107.yes rfl rfl) hS9 (fun W hW => (E.indexArr f107 Try.underlying37 wsz24_g0 rfl rfl (by omega) (by omega))) fun a108 f108 => ?_
              clear f107 a107
              refine R.take 28 f108 rfl rfl (by decide) (by kernel_rfl) (by kernel_rfl) (by kernel_rfl) (fun _ _ _ _ h => h) (f108.yes rfl rfl) hS9 (fun W hW => (by first | exact E.load f108 Try.underlying24 rfl rfl ((BT.kept hW (by simp)).cl rfl) | exact E.load f108 Try.underlying24 rfl rfl ((Bn.kept hW (by simp)).cl rfl) | exact E.load f108 Try.underlying24 rfl rfl ((Bd.kept hW (by simp)).cl rfl) | exact E.load f108 Try.underlying24 rfl rfl ((Bg11.kept hW (by simp)).cl rfl))) fun a109 f109 => ?_
              clear f108 a108
              refine R.take 29 f109 rfl rfl (by decide) (by kernel_rfl) (by kernel_rfl) (by kernel_rfl) (fun _ _ _ _ h => h) (f109.yes rfl rfl) hS9 (fun W hW => (E.indexArr f109 Try.underlying37 wsz24_g0 rfl rfl (by omega) (by omega))) fun a110 f110 => ?_
              clear f109 a109
              refine R.take 30 f110 rfl rfl (by decide) (by kernel_rfl) (by kernel_rfl) (by kernel_rfl) (fun _ _ _ _ h => h) (f110.yes rfl rfl) hS9 (fun W hW => (by first | exact E.load f110 Try.underlying24 rfl rfl ((BT.kept hW (by simp)).cl rfl) | exact E.load f110 Try.underlying24 rfl rfl ((Bn.kept hW (by simp)).cl rfl) | exact E.load f110 Try.underlying24 rfl rfl ((Bd.kept hW (by simp)).cl rfl) | exact E.load f110 Try.underlying24 rfl rfl ((Bg11.kept hW (by simp)).cl rfl))) fun a111 f111 => ?_
              clear f110 a110
              refine R.call 26 f111 rfl rfl (by decide) (by kernel_rfl) (f111.yes rfl rfl) (run_call Try.call15 (args2 f111 rfl rfl)) (Within_any p.x.l p.y.l _ _ _ _ _ ((dx.kept HK6).kept hS9) ((dy.kept HK6).kept hS9) (by omega) (by omega)) ?_
              rintro e w20 ⟨kc20, rfl⟩
              replace hS9 := hS9.trans kc20 (by simp)
              refine ⟨_, rfl, hS9, fun a112 f112 => ?_⟩
              clear f111 a111
              have szw20 := kc20.size
              replace FP := FP.kept0 kc20
              replace FQ := FQ.kept0 kc20
              clear kc20
              refine R.call 31 f112 rfl rfl (by decide) (by kernel_rfl) (f112.yes rfl rfl) (run_call Try.call23 (args2 f112 rfl rfl)) (WithinR_any p.x.l p.y.l _ _ _ _ _ ((dx.kept HK6).kept hS9) ((dy.kept HK6).kept hS9) (by omega) (by omega)) ?_
              rintro e w21 ⟨kc21, rfl⟩
              replace hS9 := hS9.trans kc21 (by simp)
              refine ⟨_, rfl, hS9, fun a113 f113 => ?_⟩
              clear f112 a112
              have szw21 := kc21.size
              replace FP := FP.kept0 kc21
              replace FQ := FQ.kept0 kc21
              clear kc21
              refine R.take 32 f113 rfl rfl (by decide) (by kernel_rfl) (by kernel_rfl) (by kernel_rfl) (fun _ _ _ _ h => h) (f113.yes rfl rfl) hS9 (fun W hW => (E.neqB f113 Try.underlying4 rfl rfl)) fun a114 f114 => ?_
              clear f113 a113
              have f115 := f114.as (i := 106) (v' := .bool false) rfl (by simp)
              clear f114
              refine R.take 33 f115 rfl rfl (by decide) (by kernel_rfl) (by kernel_rfl) (by kernel_rfl) (fun _ _ _ _ h => h) wantedN hS9 (fun W hW => (E.pickF f115 rfl rfl)) fun a116 f116 => ?_
              clear f115 a114
              have szw21r := hS9.size
              replace HK6 := HK6.trans hS9 (by simp)
              replace BT := BT.kept hS9 (by simp)
              replace Bn := Bn.kept hS9 (by simp)
              replace Bd := Bd.kept hS9 (by simp)
              replace Bg11 := Bg11.kept hS9 (by simp)
              clear hS9
              refine R.done (by kernel_rfl) (hK18 _ _ ?_)
              try clear hK18 K18
              have f117 := f116.sub (sub_cons (i := 10) rfl (sub_cons (i := 13) rfl (sub_cons (i := 15) rfl (sub_cons (i := 68) rfl (sub_cons (i := 69) rfl (sub_cons (i := 70) rfl (sub_cons (i := 71) rfl (sub_cons (i := 72) rfl (sub_cons (i := 73) rfl (sub_cons (i := 74) rfl (sub_cons (i := 75) rfl (sub_cons (i := 76) rfl (sub_cons (i := 77) rfl (sub_cons (i := 78) rfl (sub_cons (i := 79) rfl (sub_cons (i := 80) rfl (sub_cons (i := 81) rfl (sub_cons (i := 82) rfl (sub_cons (i := 83) rfl (sub_cons (i := 84) rfl (sub_cons (i := 85) rfl (sub_cons (i := 86) rfl (sub_cons (i := 87) rfl (sub_cons (i := 88) rfl (sub_cons (i := 89) rfl (sub_cons (i := 90) rfl (sub_cons (i := 91) rfl (sub_cons (i := 92) rfl (sub_cons (i := 93) rfl (sub_cons (i := 94) rfl (sub_cons (i := 95) rfl (sub_cons (i := 96) rfl (sub_cons (i := 97) rfl (sub_cons (i := 98) rfl (sub_cons (i := 99) rfl (sub_cons (i := 100) rfl (sub_cons (i := 101) rfl (sub_cons (i := 102) rfl (sub_cons (i := 103) rfl (sub_cons (i := 104) rfl (sub_cons (i := 105) rfl (sub_cons (i := 106) rfl (sub_cons (i := 107) rfl sub_nil)))))))))))))))))))))))))))))))))))))))))))
              clear f116
              refine C.condF f117 rfl ?_
              refine wp_skip (hK17 _ _ ?_)
              try clear hK17 K17
              have f118 := f117.sub (sub_cons (i := 10) rfl (sub_cons (i := 13) rfl (sub_cons (i := 15) rfl (sub_cons (i := 68) rfl (sub_cons (i := 69) rfl (sub_cons (i := 70) rfl (sub_cons (i := 71) rfl (sub_cons (i := 72) rfl (sub_cons (i := 73) rfl (sub_cons (i := 74) rfl (sub_cons (i := 75) rfl (sub_cons (i := 76) rfl (sub_cons (i := 77) rfl (sub_cons (i := 78) rfl (sub_cons (i := 79) rfl (sub_cons (i := 80) rfl (sub_cons (i := 81) rfl (sub_cons (i := 82) rfl (sub_cons (i := 83) rfl (sub_cons (i := 84) rfl (sub_cons (i := 85) rfl (sub_cons (i := 86) rfl (sub_cons (i := 87) rfl (sub_cons (i := 88) rfl (sub_cons (i := 89) rfl (sub_cons (i := 90) rfl (sub_cons (i := 91) rfl (sub_cons (i := 92) rfl (sub_cons (i := 93) rfl (sub_cons (i := 94) rfl (sub_cons (i := 95) rfl (sub_cons (i := 96) rfl (sub_cons (i := 97) rfl (sub_cons (i := 98) rfl (sub_cons (i := 99) rfl (sub_cons (i := 100) rfl (sub_cons (i := 101) rfl (sub_cons (i := 102) rfl (sub_cons (i := 103) rfl (sub_cons (i := 104) rfl (sub_cons (i := 105) rfl (sub_cons (i := 106) rfl (sub_cons (i := 107) rfl sub_nil)))))))))))))))))))))))))))))))))))))))))))
              clear f117
              refine wp_seq_k fun K19 hK19 => ?_
              refine C.region ?_
              refine L.val f118 wantedN rfl (by decide) (by first | exact E.loadB f118 Try.underlying32 rfl wsz32_g0 rfl (BT) rfl | exact E.loadB f118 Try.underlying32 rfl wsz32_g0 rfl (Bn) rfl | exact E.loadB f118 Try.underlying32 rfl wsz32_g0 rfl (Bd) rfl | exact E.loadB f118 Try.underlying32 rfl wsz32_g0 rfl (Bg11) rfl) fun a119 f119 => ?_
              clear f118 a116
              refine L.val f119 wantedN rfl (by decide) (by first | exact E.loadB f119 Try.underlying32 rfl wsz32_g0 rfl (BT) rfl | exact E.loadB f119 Try.underlying32 rfl wsz32_g0 rfl (Bn) rfl | exact E.loadB f119 Try.underlying32 rfl wsz32_g0 rfl (Bd) rfl | exact E.loadB f119 Try.underlying32 rfl wsz32_g0 rfl (Bg11) rfl) fun a120 f120 => ?_
              clear f119 a119
              refine L.val f120 wantedN rfl (by decide) (E.build f120 (parts3 f120 rfl rfl rfl) (wbl32_0_1_2_g0 _ _ _)) fun a121 f121 => ?_
              clear f120 a120
              refine L.val f121 wantedN rfl (by decide) (E.build f121 (parts3 f121 rfl rfl rfl) (wbl32_0_1_2_g0 _ _ _)) fun a122 f122 => ?_
              clear f121 a121
              refine L.buildSlice f122 wantedN (by decide) (parts4 f122 rfl rfl rfl rfl) Try.underlying24 wzi32_g0 rfl rfl (wbs24_4_g0 _ _ _ _ _ _ _ _ _ _ _ _) fun a123 w22 g21 N21 f123 => ?_
              have Bg21 := N21.blk
              have kg21 := N21.kept
              have log21 := N21.lo
              have ltg21 := Bg21.lt
              have szw22 := kg21.size
              have frg21 : w10.heap.size ≤ g21 := Nat.le_trans HK6.size log21
              have neg9_g21 : g9 ≠ g21 := by have := BT.lt; omega
              have neg2_g21 : g2 ≠ g21 := by have := Bn.lt; omega
              have neg0_g21 : g0 ≠ g21 := by have := Bd.lt; omega
              have neg11_g21 : g11 ≠ g21 := by have := Bg11.lt; omega
              replace HK6 := HK6.trans kg21 (by simp)
              replace BT := BT.kept kg21 (by simp)
              replace Bn := Bn.kept kg21 (by simp)
              replace Bd := Bd.kept kg21 (by simp)
              replace Bg11 := Bg11.kept kg21 (by simp)
              replace FP := FP.kept0 kg21
              replace FQ := FQ.kept0 kg21
              clear N21 kg21
              clear f122 a122
              refine L.val f123 wantedN rfl (by decide) (E.lenL f123 Try.underlying24 rfl) fun a124 f124 => ?_
              clear f123 a123
              refine L.val f124 wantedN rfl (by decide) (E.move f124 rfl) fun a125 f125 => ?_
              clear f124 a124
              refine wpList_nil (hK19 _ _ ?_)
              try clear hK19 K19
              have f126 := f125.sub (sub_cons (i := 10) rfl (sub_cons (i := 13) rfl (sub_cons (i := 15) rfl (sub_cons (i := 68) rfl (sub_cons (i := 69) rfl (sub_cons (i := 70) rfl (sub_cons (i := 71) rfl (sub_cons (i := 72) rfl (sub_cons (i := 73) rfl (sub_cons (i := 74) rfl (sub_cons (i := 75) rfl (sub_cons (i := 76) rfl (sub_cons (i := 77) rfl (sub_cons (i := 78) rfl (sub_cons (i := 79) rfl (sub_cons (i := 80) rfl (sub_cons (i := 81) rfl (sub_cons (i := 82) rfl (sub_cons (i := 83) rfl (sub_cons (i := 84) rfl (sub_cons (i := 85) rfl (sub_cons (i := 86) rfl (sub_cons (i := 87) rfl (sub_cons (i := 88) rfl (sub_cons (i := 89) rfl (sub_cons (i := 90) rfl (sub_cons (i := 91) rfl (sub_cons (i := 92) rfl (sub_cons (i := 93) rfl (sub_cons (i := 94) rfl (sub_cons (i := 95) rfl (sub_cons (i := 96) rfl (sub_cons (i := 97) rfl (sub_cons (i := 98) rfl (sub_cons (i := 99) rfl (sub_cons (i := 100) rfl (sub_cons (i := 101) rfl (sub_cons (i := 102) rfl (sub_cons (i := 103) rfl (sub_cons (i := 104) rfl (sub_cons (i := 105) rfl (sub_cons (i := 106) rfl (sub_cons (i := 107) rfl (sub_cons (i := 108) rfl (sub_cons (i := 109) rfl (sub_cons (i := 110) rfl (sub_cons (i := 111) rfl (sub_cons (i := 112) rfl (sub_cons (i := 113) rfl (sub_cons (i := 114) rfl sub_nil))))))))))))))))))))))))))))))))))))))))))))))))))
              clear f125
              refine wp_block ?_
              have BL0 : Blk w22 g11 37 #[sdv p.x, sdv p.y] := Bg11
              have BE0 : Blk w22 g21 32 (dcells [d, (⟨n % 4, n / 4 % 4, n / 16 % 10 - 1⟩ : Dt), ⟨15, 1, 1⟩, ⟨16, 1, 1⟩]).toArray := Bg21
              obtain ⟨ds, hds0⟩ : ∃ ds : List Dt, ds = [d, (⟨n % 4, n / 4 % 4, n / 16 % 10 - 1⟩ : Dt), ⟨15, 1, 1⟩, ⟨16, 1, 1⟩] := ⟨_, rfl⟩
              rw [← hds0] at BE0
              have hdl : ds.length = 4 := by rw [hds0]; rfl
              clear hds0
              refine C.loop (fun gk a W => ∃ j : Nat, j + gk = 4 ∧ Kept [] w10 W ∧ Blk W g11 37 #[sdv p.x, sdv p.y] ∧ Blk W g21 32 (dcells ds).toArray ∧ Fr 167 a [(10, .pointer (some ⟨g0, 0, none⟩)), (13, .pointer (some ⟨g2, 0, none⟩)), (15, .pointer (some ⟨g11, 0, none⟩)), (68, .slice (some ⟨g9, 0, none⟩) 4 4), (69, .int .i64 ((4 : Nat) : Int)), (70, .int .i64 k), (112, .slice (some ⟨g21, 0, none⟩) 4 4), (113, .int .i64 ((4 : Nat) : Int)), (114, .int .i64 j)]) (4) ?_ ?_
              · exact ⟨0, by omega, HK6, BL0, BE0, f126.sub (sub_cons rfl (sub_cons rfl (sub_cons rfl (sub_cons rfl (sub_cons rfl (sub_cons rfl (sub_cons rfl (sub_cons rfl (sub_cons rfl sub_nil)))))))))⟩
              · intro gk21 a127 w23 hI KL20 hKL20
                obtain ⟨j, hj, HK6, BL, BE, f127⟩ := hI
                try clear f126
                have szw2x := HK6.size
                have Bn := Bn0.kept HK6 (by simp)
                refine wp_seq_k fun K21 hK21 => ?_
                refine C.region ?_
                refine L.val f127 wantedN rfl (by decide) (E.lss f127 rfl rfl) fun a128 f128 => ?_
                clear f127 a127
                refine wpList_nil (hK21 _ _ ?_)
                try clear hK21 K21
                have f129 := f128.sub (sub_cons (i := 10) rfl (sub_cons (i := 13) rfl (sub_cons (i := 15) rfl (sub_cons (i := 68) rfl (sub_cons (i := 69) rfl (sub_cons (i := 70) rfl (sub_cons (i := 112) rfl (sub_cons (i := 113) rfl (sub_cons (i := 114) rfl (sub_cons (i := 115) rfl sub_nil))))))))))
                clear f128
                refine wp_seq_k fun K22 hK22 => ?_
                first | refine f129.splitD 115 rfl (fun h5 f130 => ?_) (fun h5 f130 => ?_) | refine f129.splitN 115 rfl (fun h5 f130 => ?_) (fun h5 f130 => ?_) | refine f129.splitNB 115 rfl (fun h5 f130 => ?_) (fun h5 f130 => ?_) | refine f129.split 115 rfl (fun h5 f130 => ?_) (fun h5 f130 => ?_)
                · clear f129
                  obtain ⟨y, hy⟩ : ∃ y, ds[j]? = some y := ⟨ds[j]'(by omega), List.getElem?_eq_getElem _⟩
                  refine C.condT f130 rfl ?_
                  refine wp_skip (hK22 _ _ ?_)
                  try clear hK22 K22
                  have f131 := f130.sub (sub_cons (i := 10) rfl (sub_cons (i := 13) rfl (sub_cons (i := 15) rfl (sub_cons (i := 68) rfl (sub_cons (i := 69) rfl (sub_cons (i := 70) rfl (sub_cons (i := 112) rfl (sub_cons (i := 113) rfl (sub_cons (i := 114) rfl (sub_cons (i := 115) rfl sub_nil))))))))))
                  clear f130
                  refine wp_seq_k fun K23 hK23 => ?_
                  refine wp_block ?_
                  refine wp_seq_k fun K24 hK24 => ?_
                  refine C.region ?_
                  refine L.val f131 wantedN rfl (by decide) (E.indexA f131 (by first | rfl | assumption) Try.underlying24 wsz32_g0 rfl rfl (by omega) (by omega)) fun a132 f132 => ?_
                  clear f131 a128
                  refine L.val f132 wantedN rfl (by decide) (E.loadR f132 Try.underlying32 rfl wsz32_g0 rfl (ds_row BE hy) rfl) fun a133 f133 => ?_
                  clear f132 a132
                  refine L.alloc f133 wantedN (by decide) (z := (.agg #[(.int .i64 0), (.int .i64 0), (.int .i64 0)])) (fun _ => by kernel_rfl) rfl fun a134 w24 g23 N23 f134 => ?_
                  have Bg23 := N23.blk
                  have kg23 := N23.kept
                  have log23 := N23.lo
                  have ltg23 := Bg23.lt
                  have szw24 := kg23.size
                  have frg23 : w10.heap.size ≤ g23 := Nat.le_trans HK6.size log23
                  have neg11_g23 : g11 ≠ g23 := by have := BL.lt; omega
                  have neg21_g23 : g21 ≠ g23 := by have := BE.lt; omega
                  have neg2_g23 : g2 ≠ g23 := by have := Bn.lt; omega
                  replace HK6 := HK6.trans kg23 (by simp)
                  replace BL := BL.kept kg23 (by simp)
                  replace BE := BE.kept kg23 (by simp)
                  replace Bn := Bn.kept kg23 (by simp)
                  clear N23 kg23
                  clear f133 a133
                  refine L.storeR f134 wantedN wsz32_g0 rfl rfl rfl Bg23 rfl rfl fun a135 w25 f135 NB25 ks25 => ?_
                  have szw25 := ks25.size
                  replace HK6 := HK6.trans ks25 (by intro x hx hlt; simp at hx; subst hx; first | (exfalso; omega) | simp)
                  replace BL := BL.kept ks25 (by simp; omega)
                  replace BE := BE.kept ks25 (by simp; omega)
                  replace Bn := Bn.kept ks25 (by simp; omega)
                  replace Bg23 := NB25
                  clear ks25 f134 a134
                  refine wpList_nil (hK24 _ _ ?_)
                  try clear hK24 K24
                  have f136 := f135.sub (sub_cons (i := 10) rfl (sub_cons (i := 13) rfl (sub_cons (i := 15) rfl (sub_cons (i := 17) rfl (sub_cons (i := 68) rfl (sub_cons (i := 69) rfl (sub_cons (i := 70) rfl (sub_cons (i := 112) rfl (sub_cons (i := 113) rfl (sub_cons (i := 114) rfl (sub_cons (i := 115) rfl (sub_cons (i := 116) rfl (sub_cons (i := 117) rfl sub_nil)))))))))))))
                  clear f135
                  refine wp_seq_k fun K25 hK25 => ?_
                  refine R.begin (S := fun W => Kept [] w25 W) (by kernel_rfl) (by exact (Kept.refl _ _).drewN 1) ?_
                  have hS14 : Kept [] w25 (w25.drewN 1) := (Kept.refl _ _).drewN 1
                  have hd14 : Kept [] w25 (w25.drewN 1) := (Kept.refl _ _).drewN 1
                  obtain ⟨w26, hww26⟩ : ∃ W, W = w25.drewN 1 := ⟨_, rfl⟩
                  rw [← hww26] at hS14 hd14 ⊢
                  clear hww26
                  have szw26 := hS14.size
                  refine R.take 0 f136 rfl rfl (by decide) (by kernel_rfl) (by kernel_rfl) (by kernel_rfl) (fun _ _ _ _ h => h) wantedN hS14 (fun W hW => (E.indexArr f136 Try.underlying37 wsz24_g0 rfl rfl (by omega) (by omega))) fun a137 f137 => ?_
                  clear f136 a135
                  refine R.take 1 f137 rfl rfl (by decide) (by kernel_rfl) (by kernel_rfl) (by kernel_rfl) (fun _ _ _ _ h => h) wantedN hS14 (fun W hW => (by first | exact E.load f137 Try.underlying24 rfl rfl ((BL.kept hW (by simp)).cl rfl) | exact E.load f137 Try.underlying24 rfl rfl ((BE.kept hW (by simp)).cl rfl) | exact E.load f137 Try.underlying24 rfl rfl ((Bn.kept hW (by simp)).cl rfl) | exact E.load f137 Try.underlying24 rfl rfl ((Bg23.kept hW (by simp)).cl rfl))) fun a138 f138 => ?_
                  clear f137 a137
                  refine R.take 2 f138 rfl rfl (by decide) (by kernel_rfl) (by kernel_rfl) (by kernel_rfl) (fun _ _ _ _ h => h) wantedN hS14 (fun W hW => (by first | exact E.loadB f138 Try.underlying32 rfl wsz32_g0 rfl (BL.kept hW (by simp)) rfl | exact E.loadB f138 Try.underlying32 rfl wsz32_g0 rfl (BE.kept hW (by simp)) rfl | exact E.loadB f138 Try.underlying32 rfl wsz32_g0 rfl (Bn.kept hW (by simp)) rfl | exact E.loadB f138 Try.underlying32 rfl wsz32_g0 rfl (Bg23.kept hW (by simp)) rfl)) fun a139 f139 => ?_
                  clear f138 a138
                  refine R.take 4 f139 rfl rfl (by decide) (by kernel_rfl) (by kernel_rfl) (by kernel_rfl) (fun _ _ _ _ h => h) wantedN hS14 (fun W hW => (E.indexArr f139 Try.underlying37 wsz24_g0 rfl rfl (by omega) (by omega))) fun a140 f140 => ?_
                  clear f139 a139
                  refine R.take 5 f140 rfl rfl (by decide) (by kernel_rfl) (by kernel_rfl) (by kernel_rfl) (fun _ _ _ _ h => h) wantedN hS14 (fun W hW => (by first | exact E.load f140 Try.underlying24 rfl rfl ((BL.kept hW (by simp)).cl rfl) | exact E.load f140 Try.underlying24 rfl rfl ((BE.kept hW (by simp)).cl rfl) | exact E.load f140 Try.underlying24 rfl rfl ((Bn.kept hW (by simp)).cl rfl) | exact E.load f140 Try.underlying24 rfl rfl ((Bg23.kept hW (by simp)).cl rfl))) fun a141 f141 => ?_
                  clear f140 a140
                  refine R.take 6 f141 rfl rfl (by decide) (by kernel_rfl) (by kernel_rfl) (by kernel_rfl) (fun _ _ _ _ h => h) wantedN hS14 (fun W hW => (by first | exact E.loadB f141 Try.underlying32 rfl wsz32_g0 rfl (BL.kept hW (by simp)) rfl | exact E.loadB f141 Try.underlying32 rfl wsz32_g0 rfl (BE.kept hW (by simp)) rfl | exact E.loadB f141 Try.underlying32 rfl wsz32_g0 rfl (Bn.kept hW (by simp)) rfl | exact E.loadB f141 Try.underlying32 rfl wsz32_g0 rfl (Bg23.kept hW (by simp)) rfl)) fun a142 f142 => ?_
                  clear f141 a141
                  refine R.call 3 f142 rfl rfl (by decide) (by kernel_rfl) wantedN (run_call Try.call18 (args2 f142 rfl rfl)) (Has_any p.x.l _ _ y _ ((dx.kept HK6).kept hS14) (by omega)) ?_
                  rintro e w27 ⟨kc27, rfl⟩
                  replace hS14 := hS14.trans kc27 (by simp)
                  refine ⟨_, rfl, hS14, fun a143 f143 => ?_⟩
                  clear f142 a142
                  have szw27 := kc27.size
                  clear kc27
                  refine R.call 7 f143 rfl rfl (by decide) (by kernel_rfl) wantedN (run_call Try.call24 (args2 f143 rfl rfl)) (HasR_any p.x.l _ _ y _ ((dx.kept HK6).kept hS14) (by omega)) ?_
                  rintro e w28 ⟨kc28, rfl⟩
                  replace hS14 := hS14.trans kc28 (by simp)
                  refine ⟨_, rfl, hS14, fun a144 f144 => ?_⟩
                  clear f143 a143
                  have szw28 := kc28.size
                  clear kc28
                  refine R.take 8 f144 rfl rfl (by decide) (by kernel_rfl) (by kernel_rfl) (by kernel_rfl) (fun _ _ _ _ h => h) wantedN hS14 (fun W hW => (E.neqB f144 Try.underlying4 rfl rfl)) fun a145 f145 => ?_
                  clear f144 a144
                  have f146 := f145.as (i := 126) (v' := .bool false) rfl (by simp)
                  clear f145
                  refine R.take 9 f146 rfl rfl (by decide) (by kernel_rfl) (by kernel_rfl) (by kernel_rfl) (fun _ _ _ _ h => h) wantedN hS14 (fun W hW => (E.move f146 rfl)) fun a147 f147 => ?_
                  clear f146 a145
                  refine R.take 10 f147 rfl rfl (by decide) (by kernel_rfl) (by kernel_rfl) (by kernel_rfl) (fun _ _ _ _ h => h) (f147.yes rfl rfl) hS14 (fun W hW => (E.indexArr f147 Try.underlying37 wsz24_g0 rfl rfl (by omega) (by omega))) fun a148 f148 => ?_
                  clear f147 a147
                  refine R.take 11 f148 rfl rfl (by decide) (by kernel_rfl) (by kernel_rfl) (by kernel_rfl) (fun _ _ _ _ h => h) (f148.yes rfl rfl) hS14 (fun W hW => (by first | exact E.load f148 Try.underlying24 rfl rfl ((BL.kept hW (by simp)).cl rfl) | exact E.load f148 Try.underlying24 rfl rfl ((BE.kept hW (by simp)).cl rfl) | exact E.load f148 Try.underlying24 rfl rfl ((Bn.kept hW (by simp)).cl rfl) | exact E.load f148 Try.underlying24 rfl rfl ((Bg23.kept hW (by simp)).cl rfl))) fun a149 f149 => ?_
                  clear f148 a148
                  refine R.take 12 f149 rfl rfl (by decide) (by kernel_rfl) (by kernel_rfl) (by kernel_rfl) (fun _ _ _ _ h => h) (f149.yes rfl rfl) hS14 (fun W hW => (E.fieldAddr f149 Try.underlying32 rfl rfl wsz3_g0)) fun a150 f150 => ?_
                  clear f149 a149
                  refine R.take 13 f150 rfl rfl (by decide) (by kernel_rfl) (by kernel_rfl) (by kernel_rfl) (fun _ _ _ _ h => h) (f150.yes rfl rfl) hS14 (fun W hW => (by first | exact E.load f150 Try.underlying3 rfl rfl ((BL.kept hW (by simp)).cl rfl) | exact E.load f150 Try.underlying3 rfl rfl ((BE.kept hW (by simp)).cl rfl) | exact E.load f150 Try.underlying3 rfl rfl ((Bn.kept hW (by simp)).cl rfl) | exact E.load f150 Try.underlying3 rfl rfl ((Bg23.kept hW (by simp)).cl rfl))) fun a151 f151 => ?_
                  clear f150 a150
                  refine R.take 14 f151 rfl rfl (by decide) (by kernel_rfl) (by kernel_rfl) (by kernel_rfl) (fun _ _ _ _ h => h) (f151.yes rfl rfl) hS14 (fun W hW => (E.fieldAddr f151 Try.underlying32 rfl rfl wsz3_g0)) fun a152 f152 => ?_
                  clear f151 a151
                  refine R.take 15 f152 rfl rfl (by decide) (by kernel_rfl) (by kernel_rfl) (by kernel_rfl) (fun _ _ _ _ h => h) (f152.yes rfl rfl) hS14 (fun W hW => (by first | exact E.load f152 Try.underlying3 rfl rfl ((BL.kept hW (by simp)).cl rfl) | exact E.load f152 Try.underlying3 rfl rfl ((BE.kept hW (by simp)).cl rfl) | exact E.load f152 Try.underlying3 rfl rfl ((Bn.kept hW (by simp)).cl rfl) | exact E.load f152 Try.underlying3 rfl rfl ((Bg23.kept hW (by simp)).cl rfl))) fun a153 f153 => ?_
                  clear f152 a152
                  refine R.take 17 f153 rfl rfl (by decide) (by kernel_rfl) (by kernel_rfl) (by kernel_rfl) (fun _ _ _ _ h => h) (f153.yes rfl rfl) hS14 (fun W hW => (E.indexArr f153 Try.underlying37 wsz24_g0 rfl rfl (by omega) (by omega))) fun a154 f154 => ?_
                  clear f153 a153
                  refine R.take 18 f154 rfl rfl (by decide) (by kernel_rfl) (by kernel_rfl) (by kernel_rfl) (fun _ _ _ _ h => h) (f154.yes rfl rfl) hS14 (fun W hW => (by first | exact E.load f154 Try.underlying24 rfl rfl ((BL.kept hW (by simp)).cl rfl) | exact E.load f154 Try.underlying24 rfl rfl ((BE.kept hW (by simp)).cl rfl) | exact E.load f154 Try.underlying24 rfl rfl ((Bn.kept hW (by simp)).cl rfl) | exact E.load f154 Try.underlying24 rfl rfl ((Bg23.kept hW (by simp)).cl rfl))) fun a155 f155 => ?_
                  clear f154 a154
                  refine R.take 19 f155 rfl rfl (by decide) (by kernel_rfl) (by kernel_rfl) (by kernel_rfl) (fun _ _ _ _ h => h) (f155.yes rfl rfl) hS14 (fun W hW => (E.fieldAddr f155 Try.underlying32 rfl rfl wsz3_g0)) fun a156 f156 => ?_
                  clear f155 a155
                  refine R.take 20 f156 rfl rfl (by decide) (by kernel_rfl) (by kernel_rfl) (by kernel_rfl) (fun _ _ _ _ h => h) (f156.yes rfl rfl) hS14 (fun W hW => (by first | exact E.load f156 Try.underlying3 rfl rfl ((BL.kept hW (by simp)).cl rfl) | exact E.load f156 Try.underlying3 rfl rfl ((BE.kept hW (by simp)).cl rfl) | exact E.load f156 Try.underlying3 rfl rfl ((Bn.kept hW (by simp)).cl rfl) | exact E.load f156 Try.underlying3 rfl rfl ((Bg23.kept hW (by simp)).cl rfl))) fun a157 f157 => ?_
                  clear f156 a156
                  refine R.take 21 f157 rfl rfl (by decide) (by kernel_rfl) (by kernel_rfl) (by kernel_rfl) (fun _ _ _ _ h => h) (f157.yes rfl rfl) hS14 (fun W hW => (E.fieldAddr f157 Try.underlying32 rfl rfl wsz3_g0)) fun a158 f158 => ?_
                  clear f157 a157
                  refine R.take 22 f158 rfl rfl (by decide) (by kernel_rfl) (by kernel_rfl) (by kernel_rfl) (fun _ _ _ _ h => h) (f158.yes rfl rfl) hS14 (fun W hW => (by first | exact E.load f158 Try.underlying3 rfl rfl ((BL.kept hW (by simp)).cl rfl) | exact E.load f158 Try.underlying3 rfl rfl ((BE.kept hW (by simp)).cl rfl) | exact E.load f158 Try.underlying3 rfl rfl ((Bn.kept hW (by simp)).cl rfl) | exact E.load f158 Try.underlying3 rfl rfl ((Bg23.kept hW (by simp)).cl rfl))) fun a159 f159 => ?_
                  clear f158 a158
                  refine R.call 16 f159 rfl rfl (by decide) (by kernel_rfl) (f159.yes rfl rfl) (run_call Try.call19 (args3 f159 rfl rfl rfl)) (Top_any p.x.l _ _ y.node y.epoch _ ((dx.kept HK6).kept hS14) (by omega)) ?_
                  rintro e w29 ⟨kc29, rfl⟩
                  replace hS14 := hS14.trans kc29 (by simp)
                  refine ⟨_, rfl, hS14, fun a160 f160 => ?_⟩
                  clear f159 a159
                  have szw29 := kc29.size
                  clear kc29
                  refine R.call 23 f160 rfl rfl (by decide) (by kernel_rfl) (f160.yes rfl rfl) (run_call Try.call20 (args3 f160 rfl rfl rfl)) (TopR_any p.x.l _ _ y.node y.epoch _ ((dx.kept HK6).kept hS14) (by omega)) ?_
                  rintro e w30 ⟨kc30, rfl⟩
                  replace hS14 := hS14.trans kc30 (by simp)
                  refine ⟨_, rfl, hS14, fun a161 f161 => ?_⟩
                  clear f160 a160
                  have szw30 := kc30.size
                  clear kc30
                  refine R.take 24 f161 rfl rfl (by decide) (by kernel_rfl) (by kernel_rfl) (by kernel_rfl) (fun _ _ _ _ h => h) (f161.yes rfl rfl) hS14 (fun W hW => (E.neq f161 rfl rfl)) fun a162 f162 => ?_
                  clear f161 a161
                  have f163 := f162.as (i := 142) (v' := .bool false) rfl (by simp)
                  clear f162
                  refine R.take 25 f163 rfl rfl (by decide) (by kernel_rfl) (by kernel_rfl) (by kernel_rfl) (fun _ _ _ _ h => h) wantedN hS14 (fun W hW => (E.pickF f163 rfl rfl)) fun a164 f164 => ?_
                  clear f163 a162
                  refine R.take 26 f164 rfl rfl (by decide) (by kernel_rfl) (by kernel_rfl) (by kernel_rfl) (fun _ _ _ _ h => h) wantedN hS14 (fun W hW => (E.move f164 rfl)) fun a165 f165 => ?_
                  clear f164 a164
                  refine R.take 27 f165 rfl rfl (by decide) (by kernel_rfl) (by kernel_rfl) (by kernel_rfl) (fun _ _ _ _ h => h) (f165.yes rfl rfl) hS14 (fun W hW => (E.indexArr f165 Try.underlying37 wsz24_g0 rfl rfl (by omega) (by omega))) fun a166 f166 => ?_
                  clear f165 a165
                  refine R.take 28 f166 rfl rfl (by decide) (by kernel_rfl) (by kernel_rfl) (by kernel_rfl) (fun _ _ _ _ h => h) (f166.yes rfl rfl) hS14 (fun W hW => (by first | exact E.load f166 Try.underlying24 rfl rfl ((BL.kept hW (by simp)).cl rfl) | exact E.load f166 Try.underlying24 rfl rfl ((BE.kept hW (by simp)).cl rfl) | exact E.load f166 Try.underlying24 rfl rfl ((Bn.kept hW (by simp)).cl rfl) | exact E.load f166 Try.underlying24 rfl rfl ((Bg23.kept hW (by simp)).cl rfl))) fun a167 f167 => ?_
                  clear f166 a166
                  refine R.take 29 f167 rfl rfl (by decide) (by kernel_rfl) (by kernel_rfl) (by kernel_rfl) (fun _ _ _ _ h => h) (f167.yes rfl rfl) hS14 (fun W hW => (by first | exact E.loadB f167 Try.underlying32 rfl wsz32_g0 rfl (BL.kept hW (by simp)) rfl | exact E.loadB f167 Try.underlying32 rfl wsz32_g0 rfl (BE.kept hW (by simp)) rfl | exact E.loadB f167 Try.underlying32 rfl wsz32_g0 rfl (Bn.kept hW (by simp)) rfl | exact E.loadB f167 Try.underlying32 rfl wsz32_g0 rfl (Bg23.kept hW (by simp)) rfl)) fun a168 f168 => ?_
                  clear f167 a167
                  refine R.take 31 f168 rfl rfl (by decide) (by kernel_rfl) (by kernel_rfl) (by kernel_rfl) (fun _ _ _ _ h => h) (f168.yes rfl rfl) hS14 (fun W hW => (E.indexArr f168 Try.underlying37 wsz24_g0 rfl rfl (by omega) (by omega))) fun a169 f169 => ?_
                  clear f168 a168
                  refine R.take 32 f169 rfl rfl (by decide) (by kernel_rfl) (by kernel_rfl) (by kernel_rfl) (fun _ _ _ _ h => h) (f169.yes rfl rfl) hS14 (fun W hW => (by first | exact E.load f169 Try.underlying24 rfl rfl ((BL.kept hW (by simp)).cl rfl) | exact E.load f169 Try.underlying24 rfl rfl ((BE.kept hW (by simp)).cl rfl) | exact E.load f169 Try.underlying24 rfl rfl ((Bn.kept hW (by simp)).cl rfl) | exact E.load f169 Try.underlying24 rfl rfl ((Bg23.kept hW (by simp)).cl rfl))) fun a170 f170 => ?_
                  clear f169 a169
                  refine R.take 33 f170 rfl rfl (by decide) (by kernel_rfl) (by kernel_rfl) (by kernel_rfl) (fun _ _ _ _ h => h) (f170.yes rfl rfl) hS14 (fun W hW => (by first | exact E.loadB f170 Try.underlying32 rfl wsz32_g0 rfl (BL.kept hW (by simp)) rfl | exact E.loadB f170 Try.underlying32 rfl wsz32_g0 rfl (BE.kept hW (by simp)) rfl | exact E.loadB f170 Try.underlying32 rfl wsz32_g0 rfl (Bn.kept hW (by simp)) rfl | exact E.loadB f170 Try.underlying32 rfl wsz32_g0 rfl (Bg23.kept hW (by simp)) rfl)) fun a171 f171 => ?_
                  clear f170 a170
                  refine R.call 30 f171 rfl rfl (by decide) (by kernel_rfl) (f171.yes rfl rfl) (run_call Try.call17 (args2 f171 rfl rfl)) (Add_any p.x.l _ _ y _ ((dx.kept HK6).kept hS14) (by omega)) ?_
                  rintro e w31 ⟨kc31, AP, cP, rfl, FP⟩
                  replace hS14 := hS14.trans kc31 (by simp)
                  refine ⟨_, rfl, hS14, fun a172 f172 => ?_⟩
                  clear f171 a171
                  have szw31 := kc31.size
                  clear kc31
                  refine R.call 34 f172 rfl rfl (by decide) (by kernel_rfl) (f172.yes rfl rfl) (run_call Try.call25 (args2 f172 rfl rfl)) (AddR_any p.x.l _ _ y _ ((dx.kept HK6).kept hS14) (by omega)) ?_
                  rintro e w32 ⟨kc32, AQ, cQ, rfl, FQ⟩
                  replace hS14 := hS14.trans kc32 (by simp)
                  refine ⟨_, rfl, hS14, fun a173 f173 => ?_⟩
                  clear f172 a172
                  have szw32 := kc32.size
                  replace FP := FP.kept0 kc32
                  clear kc32
                  have hal := add_len p.x.l y
                  refine R.call 35 f173 rfl rfl (by decide) (by kernel_rfl) (f173.yes rfl rfl) (run_call Try.call14 (args2 f173 rfl rfl)) (dotsEq_any (addD p.x.l y) (addD p.x.l y) _ _ _ _ _ FP.sl FQ.sl (by unfold maxLen; omega) (by unfold maxLen; omega)) ?_
                  rintro e w33 ⟨kc33, rfl⟩
                  replace hS14 := hS14.trans kc33 (by simp)
                  refine ⟨_, rfl, hS14, fun a174 f174 => ?_⟩
                  clear f173 a173
                  have szw33 := kc33.size
                  replace FP := FP.kept0 kc33
                  replace FQ := FQ.kept0 kc33
                  clear kc33
                  have f175 := f174.as (i := 153) (v' := .bool true) rfl (by rw [decide_eq_true rfl])
                  clear f174
                  refine R.take 36 f175 rfl rfl (by decide) (by kernel_rfl) (by kernel_rfl) (by kernel_rfl) (fun _ _ _ _ h => h) (f175.yes rfl rfl) hS14 (fun W hW => (E.not f175 rfl)) fun a176 f176 => ?_
                  clear f175 a174
                  refine R.take 37 f176 rfl rfl (by decide) (by kernel_rfl) (by kernel_rfl) (by kernel_rfl) (fun _ _ _ _ h => h) wantedN hS14 (fun W hW => (E.pickF f176 rfl rfl)) fun a177 f177 => ?_
                  clear f176 a176
                  refine R.take 38 f177 rfl rfl (by decide) (by kernel_rfl) (by kernel_rfl) (by kernel_rfl) (fun _ _ _ _ h => h) wantedN hS14 (fun W hW => (E.move f177 rfl)) fun a178 f178 => ?_
                  clear f177 a177
                  refine R.take 39 f178 rfl rfl (by decide) (by kernel_rfl) (by kernel_rfl) (by kernel_rfl) (fun _ _ _ _ h => h) (f178.yes rfl rfl) hS14 (fun W hW => (by first | exact E.loadB f178 Try.underlying32 rfl wsz32_g0 rfl (BL.kept hW (by simp)) rfl | exact E.loadB f178 Try.underlying32 rfl wsz32_g0 rfl (BE.kept hW (by simp)) rfl | exact E.loadB f178 Try.underlying32 rfl wsz32_g0 rfl (Bn.kept hW (by simp)) rfl | exact E.loadB f178 Try.underlying32 rfl wsz32_g0 rfl (Bg23.kept hW (by simp)) rfl)) fun a179 f179 => ?_
                  clear f178 a178
                  refine R.take 40 f179 rfl rfl (by decide) (by kernel_rfl) (by kernel_rfl) (by kernel_rfl) (fun _ _ _ _ h => h) (f179.yes rfl rfl) hS14 (fun W hW => (by first | exact E.loadB f179 Try.underlying32 rfl wsz32_g0 rfl (BL.kept hW (by simp)) rfl | exact E.loadB f179 Try.underlying32 rfl wsz32_g0 rfl (BE.kept hW (by simp)) rfl | exact E.loadB f179 Try.underlying32 rfl wsz32_g0 rfl (Bn.kept hW (by simp)) rfl | exact E.loadB f179 Try.underlying32 rfl wsz32_g0 rfl (Bg23.kept hW (by simp)) rfl)) fun a180 f180 => ?_
                  clear f179 a179
                  refine R.take 42 f180 rfl rfl (by decide) (by kernel_rfl) (by kernel_rfl) (by kernel_rfl) (fun _ _ _ _ h => h) (f180.yes rfl rfl) hS14 (fun W hW => (by first | exact E.loadB f180 Try.underlying32 rfl wsz32_g0 rfl (BL.kept hW (by simp)) rfl | exact E.loadB f180 Try.underlying32 rfl wsz32_g0 rfl (BE.kept hW (by simp)) rfl | exact E.loadB f180 Try.underlying32 rfl wsz32_g0 rfl (Bn.kept hW (by simp)) rfl | exact E.loadB f180 Try.underlying32 rfl wsz32_g0 rfl (Bg23.kept hW (by simp)) rfl)) fun a181 f181 => ?_
                  clear f180 a180
                  refine R.take 43 f181 rfl rfl (by decide) (by kernel_rfl) (by kernel_rfl) (by kernel_rfl) (fun _ _ _ _ h => h) (f181.yes rfl rfl) hS14 (fun W hW => (by first | exact E.loadB f181 Try.underlying32 rfl wsz32_g0 rfl (BL.kept hW (by simp)) rfl | exact E.loadB f181 Try.underlying32 rfl wsz32_g0 rfl (BE.kept hW (by simp)) rfl | exact E.loadB f181 Try.underlying32 rfl wsz32_g0 rfl (Bn.kept hW (by simp)) rfl | exact E.loadB f181 Try.underlying32 rfl wsz32_g0 rfl (Bg23.kept hW (by simp)) rfl)) fun a182 f182 => ?_
                  clear f181 a181
                  refine R.call 41 f182 rfl rfl (by decide) (by kernel_rfl) (f182.yes rfl rfl) (run_call Try.call26 (args2 f182 rfl rfl)) (Before_any y (⟨n % 4, n / 4 % 4, n / 16 % 10 - 1⟩ : Dt) _) ?_
                  rintro e w34 ⟨kc34, rfl⟩
                  replace hS14 := hS14.trans kc34 (by simp)
                  refine ⟨_, rfl, hS14, fun a183 f183 => ?_⟩
                  clear f182 a182
                  have szw34 := kc34.size
                  replace FP := FP.kept0 kc34
                  replace FQ := FQ.kept0 kc34
                  clear kc34
                  refine R.call 44 f183 rfl rfl (by decide) (by kernel_rfl) (f183.yes rfl rfl) (run_call Try.call27 (args2 f183 rfl rfl)) (BeforeR_any y (⟨n % 4, n / 4 % 4, n / 16 % 10 - 1⟩ : Dt) _) ?_
                  rintro e w35 ⟨kc35, rfl⟩
                  replace hS14 := hS14.trans kc35 (by simp)
                  refine ⟨_, rfl, hS14, fun a184 f184 => ?_⟩
                  clear f183 a183
                  have szw35 := kc35.size
                  replace FP := FP.kept0 kc35
                  replace FQ := FQ.kept0 kc35
                  clear kc35
                  refine R.take 45 f184 rfl rfl (by decide) (by kernel_rfl) (by kernel_rfl) (by kernel_rfl) (fun _ _ _ _ h => h) (f184.yes rfl rfl) hS14 (fun W hW => (E.neqB f184 Try.underlying4 rfl rfl)) fun a185 f185 => ?_
                  clear f184 a184
                  have f186 := f185.as (i := 163) (v' := .bool false) rfl (by simp)
                  clear f185
                  refine R.take 46 f186 rfl rfl (by decide) (by kernel_rfl) (by kernel_rfl) (by kernel_rfl) (fun _ _ _ _ h => h) wantedN hS14 (fun W hW => (E.pickF f186 rfl rfl)) fun a187 f187 => ?_
                  clear f186 a185
                  have szw35r := hS14.size
                  replace HK6 := HK6.trans hS14 (by simp)
                  replace BL := BL.kept hS14 (by simp)
                  replace BE := BE.kept hS14 (by simp)
                  replace Bn := Bn.kept hS14 (by simp)
                  replace Bg23 := Bg23.kept hS14 (by simp)
                  clear hS14
                  refine R.done (by kernel_rfl) (hK25 _ _ ?_)
                  try clear hK25 K25
                  have f188 := f187.sub (sub_cons (i := 10) rfl (sub_cons (i := 13) rfl (sub_cons (i := 15) rfl (sub_cons (i := 17) rfl (sub_cons (i := 68) rfl (sub_cons (i := 69) rfl (sub_cons (i := 70) rfl (sub_cons (i := 112) rfl (sub_cons (i := 113) rfl (sub_cons (i := 114) rfl (sub_cons (i := 115) rfl (sub_cons (i := 116) rfl (sub_cons (i := 117) rfl (sub_cons (i := 118) rfl (sub_cons (i := 119) rfl (sub_cons (i := 120) rfl (sub_cons (i := 121) rfl (sub_cons (i := 122) rfl (sub_cons (i := 123) rfl (sub_cons (i := 124) rfl (sub_cons (i := 125) rfl (sub_cons (i := 126) rfl (sub_cons (i := 127) rfl (sub_cons (i := 128) rfl (sub_cons (i := 129) rfl (sub_cons (i := 130) rfl (sub_cons (i := 131) rfl (sub_cons (i := 132) rfl (sub_cons (i := 133) rfl (sub_cons (i := 134) rfl (sub_cons (i := 135) rfl (sub_cons (i := 136) rfl (sub_cons (i := 137) rfl (sub_cons (i := 138) rfl (sub_cons (i := 139) rfl (sub_cons (i := 140) rfl (sub_cons (i := 141) rfl (sub_cons (i := 142) rfl (sub_cons (i := 143) rfl (sub_cons (i := 144) rfl (sub_cons (i := 145) rfl (sub_cons (i := 146) rfl (sub_cons (i := 147) rfl (sub_cons (i := 148) rfl (sub_cons (i := 149) rfl (sub_cons (i := 150) rfl (sub_cons (i := 151) rfl (sub_cons (i := 152) rfl (sub_cons (i := 153) rfl (sub_cons (i := 154) rfl (sub_cons (i := 155) rfl (sub_cons (i := 156) rfl (sub_cons (i := 157) rfl (sub_cons (i := 158) rfl (sub_cons (i := 159) rfl (sub_cons (i := 160) rfl (sub_cons (i := 161) rfl (sub_cons (i := 162) rfl (sub_cons (i := 163) rfl (sub_cons (i := 164) rfl sub_nil))))))))))))))))))))))))))))))))))))))))))))))))))))))))))))
                  clear f187
                  refine C.condF f188 rfl ?_
                  refine wp_skip (hK23 _ _ ?_)
                  try clear hK23 K23
                  have f189 := f188.sub (sub_cons (i := 10) rfl (sub_cons (i := 13) rfl (sub_cons (i := 15) rfl (sub_cons (i := 17) rfl (sub_cons (i := 68) rfl (sub_cons (i := 69) rfl (sub_cons (i := 70) rfl (sub_cons (i := 112) rfl (sub_cons (i := 113) rfl (sub_cons (i := 114) rfl (sub_cons (i := 115) rfl (sub_cons (i := 116) rfl (sub_cons (i := 117) rfl (sub_cons (i := 118) rfl (sub_cons (i := 119) rfl (sub_cons (i := 120) rfl (sub_cons (i := 121) rfl (sub_cons (i := 122) rfl (sub_cons (i := 123) rfl (sub_cons (i := 124) rfl (sub_cons (i := 125) rfl (sub_cons (i := 126) rfl (sub_cons (i := 127) rfl (sub_cons (i := 128) rfl (sub_cons (i := 129) rfl (sub_cons (i := 130) rfl (sub_cons (i := 131) rfl (sub_cons (i := 132) rfl (sub_cons (i := 133) rfl (sub_cons (i := 134) rfl (sub_cons (i := 135) rfl (sub_cons (i := 136) rfl (sub_cons (i := 137) rfl (sub_cons (i := 138) rfl (sub_cons (i := 139) rfl (sub_cons (i := 140) rfl (sub_cons (i := 141) rfl (sub_cons (i := 142) rfl (sub_cons (i := 143) rfl (sub_cons (i := 144) rfl (sub_cons (i := 145) rfl (sub_cons (i := 146) rfl (sub_cons (i := 147) rfl (sub_cons (i := 148) rfl (sub_cons (i := 149) rfl (sub_cons (i := 150) rfl (sub_cons (i := 151) rfl (sub_cons (i := 152) rfl (sub_cons (i := 153) rfl (sub_cons (i := 154) rfl (sub_cons (i := 155) rfl (sub_cons (i := 156) rfl (sub_cons (i := 157) rfl (sub_cons (i := 158) rfl (sub_cons (i := 159) rfl (sub_cons (i := 160) rfl (sub_cons (i := 161) rfl (sub_cons (i := 162) rfl (sub_cons (i := 163) rfl (sub_cons (i := 164) rfl sub_nil))))))))))))))))))))))))))))))))))))))))))))))))))))))))))))
                  clear f188
                  refine C.region ?_
                  refine L.val f189 wantedN rfl (by decide) (E.add f189 rfl rfl (IntWalk.i64_in _ (by omega))) fun a190 f190 => ?_
                  clear f189 a187
                  refine L.val f190 wantedN rfl (by decide) (E.move f190 rfl) fun a191 f191 => ?_
                  clear f190 a190
                  refine wpList_nil (hKL20 _ _ (gk21 - 1) ?_ ?_)
                  · omega
                  · exact ⟨j + 1, by omega, HK6, BL, BE, f191.sub (sub_cons rfl (sub_cons rfl (sub_cons rfl (sub_cons rfl (sub_cons rfl (sub_cons rfl (sub_cons rfl (sub_cons rfl (sub_cons rfl sub_nil)))))))))⟩
                · clear f129
                  refine C.condF f130 rfl ?_
                  refine wp_exit (hK15 _ _ ?_)
                  try clear hK15 K15
                  have f131 := f130.sub (sub_cons (i := 10) rfl (sub_cons (i := 13) rfl (sub_cons (i := 15) rfl (sub_cons (i := 68) rfl (sub_cons (i := 69) rfl (sub_cons (i := 70) rfl (sub_cons (i := 112) rfl (sub_cons (i := 113) rfl (sub_cons (i := 114) rfl (sub_cons (i := 115) rfl sub_nil))))))))))
                  clear f130
                  refine C.region ?_
                  refine L.val f131 wantedN rfl (by decide) (E.add f131 rfl rfl (IntWalk.i64_in _ (by omega))) fun a132 f132 => ?_
                  clear f131 a128
                  refine L.val f132 wantedN rfl (by decide) (E.move f132 rfl) fun a133 f133 => ?_
                  clear f132 a132
                  refine wpList_nil (hKL12 _ _ (gk13 - 1) ?_ ?_)
                  · omega
                  · exact ⟨k + 1, by omega, HK6, f133.sub (sub_cons rfl (sub_cons rfl (sub_cons rfl (sub_cons rfl (sub_cons rfl sub_nil)))))⟩
            · clear f72
              refine C.condF f73 rfl ?_
              refine wp_exit (hK10 _ _ ?_)
              try clear hK10 K10
              have f74 := f73.sub sub_nil
              clear f73
              refine wp_seq_k fun K26 hK26 => ?_
              refine C.region ?_
              refine L.val f74 wantedN rfl (by decide) (E.assign f74 rfl) fun a75 f75 => ?_
              clear f74 a71
              refine wpList_nil (hK26 _ _ ?_)
              try clear hK26 K26
              have f76 := f75.sub (sub_cons (i := 12) rfl sub_nil)
              clear f75
              refine wp_ret ?_
              try simp only [Exit.inBlock, Exit.then]
              refine C.ret (P := Try.prog) (fn := Try.f6) f76 rfl rfl ?_
              exact ⟨rfl, (HKw.trans HK6 (by simp)).below0⟩

end Go.Proofs.Ytahmlcjgcdajbaa
