/- CastTells: the walk (printed by walk.py). -/
import Derived.Test.YtagcfmmbbcnkbaaQ
import Derived.Test.YtagcfmmbbcnkbaaAp
set_option linter.all false
namespace Go.Proofs.Ytagcfmmbbcnkbaa
open Go.RowKit Go.Hub
theorem wsz3 : (Try.prog.info? 3).map (·.size) = some 1 := by kernel_rfl
theorem wsz28 : (Try.prog.info? 28).map (·.size) = some 24 := by kernel_rfl
theorem wsz37 : (Try.prog.info? 37).map (·.size) = some 24 := by kernel_rfl

theorem zi28c : (Try.prog.info? 28).map (fun i => (i.zero, i.size)) = some (some (.agg zeroPk), 24) := by kernel_rfl
theorem Trio.kept {B : Nat} {w w' : World} {g : Nat} {L : List Nat} (h : Trio B w g) (hk : Kept L w w') (hg : g ∉ L) (hs : Same EP B w w') : Trio B w' g := by
  intro i hi
  obtain ⟨p, s, h1, h2, h3⟩ := h i hi
  refine ⟨p, s, fun j v hv => ?_, h2.same hs, h3⟩
  have := h1 j v hv
  rw [hk.cell (p := ⟨g, i * 24 + j, none⟩) (block_lt_of_cell this) hg]
  exact this
theorem trio_blk (B : Nat) (w : World) (g : Nat) (p q r : Pk) (s t u : Ad) (b : Blk w g 28 (p.cells s ++ q.cells t ++ r.cells u)) (hp : p.Ok EP B w s) (hq : q.Ok EP B w t) (hr : r.Ok EP B w u) (lp : Light p) (lq : Light q) (lr : Light r) : Trio B w g := by
  have z1 : ∀ (p : Pk) (s : Ad), (p.cells s).size = 24 := fun _ _ => rfl
  have lt : ∀ (p : Pk) (s : Ad) j v, (p.cells s)[j]? = some v → j < 24 := fun p s j v h => by
    have := (Array.getElem?_eq_some_iff.1 h).1
    rwa [z1] at this
  intro i hi
  match i, hi with
  | 0, _ =>
    refine ⟨p, s, fun j v h => ?_, hp, lp⟩
    have := lt p s j v h
    rw [b.cell]
    rw [Array.append_assoc, Array.getElem?_append_left (by rw [z1]; omega)]
    simpa using h
  | 1, _ =>
    refine ⟨q, t, fun j v h => ?_, hq, lq⟩
    have := lt q t j v h
    rw [b.cell]
    rw [Array.getElem?_append_left (by rw [Array.size_append, z1, z1]; omega), Array.getElem?_append_right (by rw [z1]; omega), z1]
    simpa using h
  | 2, _ =>
    refine ⟨r, u, fun j v h => ?_, hr, lr⟩
    have := lt r u j v h
    rw [b.cell]
    rw [Array.getElem?_append_right (by rw [Array.size_append, z1, z1]; omega), Array.size_append, z1, z1]
    simpa using h
theorem okT (B : Nat) (w : World) (k a : Int) : Pk.Ok EP B w { kind := k, id := a, topic := ⟨#[116]⟩ } s0 := ⟨Bs.nil _ _ _ _, Bs.nil _ _ _ _, Bs.nil _ _ _ _, Cs.nil _ _ _ _ _, Cs.nil _ _ _ _ _⟩
theorem lightT (k a : Int) : Light { kind := k, id := a, topic := ⟨#[116]⟩ } := by simp [Light]
theorem kplace_le (k : Int) : kplace k ≤ 5 := by
  unfold kplace
  repeat' split
  all_goals omega
theorem row24i {w : World} {g i : Nat} {p : Pk} {s : Ad} (h : ∀ j v, (p.cells s)[j]? = some v → w.cell? ⟨g, i * 24 + j, none⟩ = some v) : w.rangeAt g (0 + Int.toNat (i : Int) * 24) (p.cells s).toList := fun j v hv => by
  have := h j v (by simpa using hv)
  simpa using this
theorem any_n (n : Nat) {p : Pk} (hkp : kplace p.kind = n) (B : Nat) (p' : Pk) (s : Ad) (w : World) (hpp : p' = p) (h : p.Ok EP B w s) (hp : p.Small) (hB : B ≤ w.heap.size) :
    Calls Try.prog 9 #[.agg (p.cells s)] w fun e w' => ∃ s', e = .returned (boxed n (p.cells s')) ∧ p.Ok EP B w' s' ∧ Below w.heap.size w w' := hkp ▸ any_any B p s w h hp hB
theorem name_n {k : Int} {n : Nat} (h : kplace k = n) (w : World) : Calls Try.prog 12 #[.int .i64 k] w fun e w' => w = w' ∧ e = .returned (.string (nameS n)) := (name_any k w).mono fun e w' hh => ⟨hh.2, by rw [← h]; exact hh.1⟩

set_option maxRecDepth 100000 in
set_option maxHeartbeats 1000000 in
theorem tells_any (p0 : Pk) (s0' : Ad) (k a b c : Int) (x : List UInt8) (A : Option Addr) (cx : Nat) (w : World) (O0 : p0.Ok EP w.heap.size w s0') (hm : p0.subs.length ≤ maxLen) (hr : p0.Reach) (hk : 0 ≤ k ∧ k ≤ 255) (ha : 0 ≤ a ∧ a ≤ 255) (hb : 0 ≤ b ∧ b ≤ 255) (hc : 0 ≤ c ∧ c ≤ 255) (X0 : Bs EP w.heap.size w A x.length x) (hxm : x.length ≤ maxLen) : Calls Try.prog 3 #[.agg (p0.cells s0'), .int .u8 k, .int .u8 a, .int .u8 b, .int .u8 c, .slice A x.length cx] w fun e w' => e = .returned (.bool true) ∧ Kept [] w w' := by
  have HK : Kept [] w w := Kept.refl [] w
  unfold maxLen at hxm
  refine C.enter Try.func3 rfl Try.ntmps3 rfl ?_
  intro a0 f0
  have f1 : Fr 139 a0 [(0, .agg (p0.cells s0')), (1, .int .u8 k), (2, .int .u8 a), (3, .int .u8 b), (4, .int .u8 c), (5, .slice A x.length cx)] := f0
  clear f0
  refine wp_seq_k fun K0 hK0 => ?_
  refine C.region ?_
  refine L.box f1 wantedN (by decide) rfl rfl fun a2 w1 g0 N0 f2 => ?_
  have Bg0 := N0.blk
  have kg0 := N0.kept
  have log0 := N0.lo
  have ltg0 := Bg0.lt
  have szw1 := kg0.size
  have frg0 : w.heap.size ≤ g0 := Nat.le_trans HK.size log0
  replace HK := HK.trans kg0 (by simp)
  replace O0 := O0.same (Same.of_kept kg0 (by simp))
  replace X0 := X0.same (Same.of_kept kg0 (by simp))
  clear N0 kg0
  clear f1 a0
  refine L.val f2 wantedN rfl (by decide) (E.assign f2 rfl) fun a3 f3 => ?_
  clear f2 a2
  refine wpList_nil (hK0 _ _ ?_)
  try clear hK0 K0
  have f4 := f3.sub (sub_cons (i := 1) rfl (sub_cons (i := 2) rfl (sub_cons (i := 3) rfl (sub_cons (i := 4) rfl (sub_cons (i := 5) rfl (sub_cons (i := 6) rfl (sub_cons (i := 12) rfl sub_nil)))))))
  clear f3
  refine wp_seq_k fun K1 hK1 => ?_
  refine wp_seq_k fun K2 hK2 => ?_
  refine C.region ?_
  refine L.call f4 wantedN rfl (by decide) (run_call Try.call6 (args0 f4)) (known_any _) ?_
  rintro e w2 ⟨rfl, kb2⟩
  have kc2 := Kept.of_below kb2 []
  refine ⟨_, rfl, fun a5 f5 => ?_⟩
  clear f4 a3
  have szw2 := kc2.size
  replace HK := HK.trans kc2 (by simp)
  replace O0 := O0.same (Same.of_kept kc2 (by simp))
  replace X0 := X0.same (Same.of_kept kc2 (by simp))
  replace Bg0 := Bg0.kept kc2 (by simp)
  clear kc2
  clear kb2
  refine L.val f5 wantedN rfl (by decide) (E.not f5 rfl) fun a6 f6 => ?_
  clear f5 a5
  refine wpList_nil (hK2 _ _ ?_)
  try clear hK2 K2
  have f7 := f6.sub (sub_cons (i := 1) rfl (sub_cons (i := 2) rfl (sub_cons (i := 3) rfl (sub_cons (i := 4) rfl (sub_cons (i := 5) rfl (sub_cons (i := 6) rfl (sub_cons (i := 12) rfl (sub_cons (i := 23) rfl sub_nil))))))))
  clear f6
  refine C.condF f7 rfl ?_
  refine wp_skip (hK1 _ _ ?_)
  try clear hK1 K1
  have f8 := f7.sub (sub_cons (i := 1) rfl (sub_cons (i := 2) rfl (sub_cons (i := 3) rfl (sub_cons (i := 4) rfl (sub_cons (i := 5) rfl (sub_cons (i := 6) rfl (sub_cons (i := 12) rfl sub_nil)))))))
  clear f7
  refine wp_seq_k fun K3 hK3 => ?_
  refine wp_seq_k fun K4 hK4 => ?_
  refine C.region ?_
  refine L.val f8 wantedN rfl (by decide) (by first | exact E.loadB f8 Try.underlying28 rfl wsz28 rfl (Bg0) rfl | exact E.loadA f8 Try.underlying28 rfl wsz28 rfl (row24i hcs) rfl) fun a9 f9 => ?_
  clear f8 a6
  refine L.call f9 wantedN rfl (by decide) (run_call Try.call7 (args1 f9 rfl)) (light_small w.heap.size p0 s0' _ O0 hm hr) ?_
  rintro e w3 ⟨⟨bb, rfl, hbb⟩, kb3⟩
  have kc3 := Kept.of_below kb3 []
  refine ⟨_, rfl, fun a10 f10 => ?_⟩
  clear f9 a9
  have szw3 := kc3.size
  replace HK := HK.trans kc3 (by simp)
  replace O0 := O0.same (Same.of_kept kc3 (by simp))
  replace X0 := X0.same (Same.of_kept kc3 (by simp))
  replace Bg0 := Bg0.kept kc3 (by simp)
  clear kc3
  clear kb3
  refine L.val f10 wantedN rfl (by decide) (E.not f10 rfl) fun a11 f11 => ?_
  clear f10 a10
  refine L.val f11 wantedN rfl (by decide) (E.move f11 rfl) fun a12 f12 => ?_
  clear f11 a11
  first | refine f12.splitD 27 rfl (fun h0 f13 => ?_) (fun h0 f13 => ?_) | refine f12.splitN 27 rfl (fun h0 f13 => ?_) (fun h0 f13 => ?_) | refine f12.splitNB 27 rfl (fun h0 f13 => ?_) (fun h0 f13 => ?_) | refine f12.split 27 rfl (fun h0 f13 => ?_) (fun h0 f13 => ?_)
  · clear f12
    refine L.skip f13 (f13.noF rfl rfl) rfl (by decide) fun a14 f14 => ?_
    clear f13 a12
    refine L.skip f14 (f14.noF rfl rfl) rfl (by decide) fun a15 f15 => ?_
    clear f14 a14
    refine L.skip f15 (f15.noF rfl rfl) rfl (by decide) fun a16 f16 => ?_
    clear f15 a15
    refine L.val f16 wantedN rfl (by decide) (E.pickT f16 rfl rfl) fun a17 f17 => ?_
    clear f16 a16
    refine wpList_nil (hK4 _ _ ?_)
    try clear hK4 K4
    have f18 := f17.sub (sub_cons (i := 1) rfl (sub_cons (i := 2) rfl (sub_cons (i := 3) rfl (sub_cons (i := 4) rfl (sub_cons (i := 5) rfl (sub_cons (i := 6) rfl (sub_cons (i := 12) rfl (sub_cons (i := 31) rfl sub_nil))))))))
    clear f17
    refine C.condT f18 rfl ?_
    refine wp_seq_k fun K5 hK5 => ?_
    refine C.region ?_
    refine L.val f18 wantedN rfl (by decide) (E.assign f18 rfl) fun a19 f19 => ?_
    clear f18 a17
    refine wpList_nil (hK5 _ _ ?_)
    try clear hK5 K5
    have f20 := f19.sub (sub_cons (i := 1) rfl (sub_cons (i := 2) rfl (sub_cons (i := 3) rfl (sub_cons (i := 4) rfl (sub_cons (i := 5) rfl (sub_cons (i := 6) rfl (sub_cons (i := 12) rfl sub_nil)))))))
    clear f19
    refine wp_ret ?_
    try simp only [Exit.inBlock, Exit.then]
    refine C.ret (P := Try.prog) (fn := Try.f3) f20 rfl rfl ?_
    exact ⟨rfl, HK⟩
  · clear f12
    have hlp : Light p0 := hbb h0
    refine L.val f13 (f13.yes rfl rfl) rfl (by decide) (E.move f13 rfl) fun a14 f14 => ?_
    clear f13 a12
    refine L.val f14 (f14.yes rfl rfl) rfl (by decide) (E.lenL f14 Try.underlying22 rfl) fun a15 f15 => ?_
    clear f14 a14
    refine L.val f15 (f15.yes rfl rfl) rfl (by decide) (E.gtr f15 rfl rfl) fun a16 f16 => ?_
    clear f15 a15
    refine L.val f16 wantedN rfl (by decide) (E.pickF f16 rfl rfl) fun a17 f17 => ?_
    clear f16 a16
    refine wpList_nil (hK4 _ _ ?_)
    try clear hK4 K4
    have f18 := f17.sub (sub_cons (i := 1) rfl (sub_cons (i := 2) rfl (sub_cons (i := 3) rfl (sub_cons (i := 4) rfl (sub_cons (i := 5) rfl (sub_cons (i := 6) rfl (sub_cons (i := 12) rfl (sub_cons (i := 31) rfl sub_nil))))))))
    clear f17
    first | refine f18.splitD 31 rfl (fun h1 f19 => ?_) (fun h1 f19 => ?_) | refine f18.splitN 31 rfl (fun h1 f19 => ?_) (fun h1 f19 => ?_) | refine f18.splitNB 31 rfl (fun h1 f19 => ?_) (fun h1 f19 => ?_) | refine f18.split 31 rfl (fun h1 f19 => ?_) (fun h1 f19 => ?_)
    · clear f18
      refine C.condT f19 rfl ?_
      refine wp_seq_k fun K6 hK6 => ?_
      refine C.region ?_
      refine L.val f19 wantedN rfl (by decide) (E.assign f19 rfl) fun a20 f20 => ?_
      clear f19 a17
      refine wpList_nil (hK6 _ _ ?_)
      try clear hK6 K6
      have f21 := f20.sub (sub_cons (i := 1) rfl (sub_cons (i := 2) rfl (sub_cons (i := 3) rfl (sub_cons (i := 4) rfl (sub_cons (i := 5) rfl (sub_cons (i := 6) rfl (sub_cons (i := 12) rfl sub_nil)))))))
      clear f20
      refine wp_ret ?_
      try simp only [Exit.inBlock, Exit.then]
      refine C.ret (P := Try.prog) (fn := Try.f3) f21 rfl rfl ?_
      exact ⟨rfl, HK⟩
    · clear f18
      refine C.condF f19 rfl ?_
      refine wp_skip (hK3 _ _ ?_)
      try clear hK3 K3
      have f20 := f19.sub (sub_cons (i := 1) rfl (sub_cons (i := 2) rfl (sub_cons (i := 3) rfl (sub_cons (i := 4) rfl (sub_cons (i := 5) rfl (sub_cons (i := 6) rfl (sub_cons (i := 12) rfl sub_nil)))))))
      clear f19
      refine wp_seq_k fun K7 hK7 => ?_
      refine wp_seq_k fun K8 hK8 => ?_
      refine R.begin (S := fun W => Kept [] w3 W) (by kernel_rfl) (by exact (Kept.refl _ _).drewN 1) ?_
      have hS5 : Kept [] w3 (w3.drewN 1) := (Kept.refl _ _).drewN 1
      obtain ⟨w4, hww4⟩ : ∃ W, W = w3.drewN 1 := ⟨_, rfl⟩
      rw [← hww4] at hS5 ⊢
      clear hww4
      refine R.take 0 f20 rfl rfl (by decide) (by kernel_rfl) (by kernel_rfl) (by kernel_rfl) (fun _ _ _ _ h => h) wantedN hS5 (fun W hW => (by first | exact E.loadB f20 Try.underlying28 rfl wsz28 rfl (Bg0.kept hW (by simp)) rfl | exact E.loadA f20 Try.underlying28 rfl wsz28 rfl (row24i hcs) rfl)) fun a21 f21 => ?_
      clear f20 a17
      refine R.take 1 f21 rfl rfl (by decide) (by kernel_rfl) (by kernel_rfl) (by kernel_rfl) (fun _ _ _ _ h => h) wantedN hS5 (fun W hW => (E.move f21 rfl)) fun a22 f22 => ?_
      clear f21 a21
      refine R.take 2 f22 rfl rfl (by decide) (by kernel_rfl) (by kernel_rfl) (by kernel_rfl) (fun _ _ _ _ h => h) wantedN hS5 (fun W hW => (E.move f22 rfl)) fun a23 f23 => ?_
      clear f22 a22
      refine R.take 3 f23 rfl rfl (by decide) (by kernel_rfl) (by kernel_rfl) (by kernel_rfl) (fun _ _ _ _ h => h) wantedN hS5 (fun W hW => (E.move f23 rfl)) fun a24 f24 => ?_
      clear f23 a23
      refine R.take 4 f24 rfl rfl (by decide) (by kernel_rfl) (by kernel_rfl) (by kernel_rfl) (fun _ _ _ _ h => h) wantedN hS5 (fun W hW => (E.move f24 rfl)) fun a25 f25 => ?_
      clear f24 a24
      refine R.take 5 f25 rfl rfl (by decide) (by kernel_rfl) (by kernel_rfl) (by kernel_rfl) (fun _ _ _ _ h => h) wantedN hS5 (fun W hW => (E.move f25 rfl)) fun a26 f26 => ?_
      clear f25 a25
      refine R.take 7 f26 rfl rfl (by decide) (by kernel_rfl) (by kernel_rfl) (by kernel_rfl) (fun _ _ _ _ h => h) wantedN hS5 (fun W hW => (E.move f26 rfl)) fun a27 f27 => ?_
      clear f26 a26
      refine R.take 8 f27 rfl rfl (by decide) (by kernel_rfl) (by kernel_rfl) (by kernel_rfl) (fun _ _ _ _ h => h) wantedN hS5 (fun W hW => (E.rem f27 rfl rfl (by omega) (Int.tmod_eq_emod_of_nonneg (by omega)))) fun a28 f28 => ?_
      clear f27 a27
      refine R.take 9 f28 rfl rfl (by decide) (by kernel_rfl) (by kernel_rfl) (by kernel_rfl) (fun _ _ _ _ h => h) wantedN hS5 (fun W hW => (E.conv f28 Try.underlying5 Try.underlying3 rfl (IntWalk.i64_in _ (by omega)))) fun a29 f29 => ?_
      clear f28 a28
      refine R.take 10 f29 rfl rfl (by decide) (by kernel_rfl) (by kernel_rfl) (by kernel_rfl) (fun _ _ _ _ h => h) wantedN hS5 (fun W hW => (E.move f29 rfl)) fun a30 f30 => ?_
      clear f29 a29
      refine R.take 11 f30 rfl rfl (by decide) (by kernel_rfl) (by kernel_rfl) (by kernel_rfl) (fun _ _ _ _ h => h) wantedN hS5 (fun W hW => (E.conv f30 Try.underlying5 Try.underlying3 rfl (IntWalk.i64_in _ (by omega)))) fun a31 f31 => ?_
      clear f30 a30
      refine R.take 12 f31 rfl rfl (by decide) (by kernel_rfl) (by kernel_rfl) (by kernel_rfl) (fun _ _ _ _ h => h) wantedN hS5 (fun W hW => (E.build f31 (parts3 f31 rfl rfl rfl) (builtT _ _))) fun a32 f32 => ?_
      clear f31 a31
      refine R.take 15 f32 rfl rfl (by decide) (by kernel_rfl) (by kernel_rfl) (by kernel_rfl) (fun _ _ _ _ h => h) wantedN hS5 (fun W hW => (E.move f32 rfl)) fun a33 f33 => ?_
      clear f32 a32
      refine R.call 6 f33 rfl rfl (by decide) (by kernel_rfl) wantedN (run_call Try.call8 (args5 f33 rfl rfl rfl rfl rfl)) (packet_any w.heap.size k a b c x A cx _ hk ha hb hc (X0.same (Same.of_kept hS5 (by simp))) (by omega) (Nat.le_trans HK.size hS5.size)) ?_
      rintro e w5 ⟨q, t, rfl, Oq, lq, kb5⟩
      have kc5 := Kept.of_below kb5 []
      replace hS5 := hS5.trans kc5 (by simp)
      refine ⟨_, rfl, hS5, fun a34 f34 => ?_⟩
      clear f33 a33
      have szw5 := kc5.size
      clear kc5
      clear kb5
      refine R.one 13 (by kernel_rfl) ?_
      refine O.buildSlice f34 rfl wantedN (by decide) (parts3 f34 rfl rfl rfl) Try.underlying32 zi28c rfl rfl (slice3 _ _ _ _ _ _) (fun _ hk => hS5.trans hk (by simp)) fun a35 w6 g5 N5 hSn f35 => ?_
      clear f34 a34
      have Bg5 := N5.blk
      have kg5 := N5.kept
      have log5 := N5.lo
      have ltg5 := Bg5.lt
      have szw6 := kg5.size
      have szSw6 := hS5.size
      replace Oq := Oq.same (Same.of_kept kg5 (by simp))
      clear N5 kg5
      replace hS5 := hSn
      clear hSn
      refine R.take 14 f35 rfl rfl (by decide) (by kernel_rfl) (by kernel_rfl) (by kernel_rfl) (fun _ _ _ _ h => h) wantedN hS5 (fun W hW => (E.lenL f35 Try.underlying32 rfl)) fun a36 f36 => ?_
      clear f35 a35
      have szw6r := hS5.size
      replace HK := HK.trans hS5 (by simp)
      replace O0 := O0.same (Same.of_kept hS5 (by simp))
      replace X0 := X0.same (Same.of_kept hS5 (by simp))
      replace Bg0 := Bg0.kept hS5 (by simp)
      clear hS5
      refine R.done (by kernel_rfl) (hK8 _ _ ?_)
      try clear hK8 K8
      have f37 := f36.sub (sub_cons (i := 12) rfl (sub_cons (i := 45) rfl (sub_cons (i := 46) rfl (sub_cons (i := 47) rfl sub_nil))))
      clear f36
      refine wp_block ?_
      have T0 := trio_blk w.heap.size w6 g5 p0 q _ s0' t s0 Bg5 O0 Oq (okT _ _ _ _) hlp lq (lightT _ _)
      refine C.loop (fun gk a W => ∃ i : Nat, i + gk = 3 ∧ Kept [] w W ∧ Trio w.heap.size W g5 ∧ g5 < W.heap.size ∧ Fr 139 a [(45, .slice (some ⟨g5, 0, none⟩) 3 3), (46, .int .i64 3), (47, .int .i64 i)]) (3) ?_ ?_
      · exact ⟨0, rfl, HK, T0, Bg5.lt, f37.sub (sub_cons rfl (sub_cons rfl (sub_cons rfl sub_nil)))⟩
      · intro gk10 a38 w7 hI KL9 hKL9
        obtain ⟨i, hi, HK, T, ltg, f38⟩ := hI
        try clear f37
        refine wp_seq_k fun K10 hK10 => ?_
        refine C.region ?_
        refine L.val f38 wantedN rfl (by decide) (E.lss f38 rfl rfl) fun a39 f39 => ?_
        clear f38 a38
        refine wpList_nil (hK10 _ _ ?_)
        try clear hK10 K10
        have f40 := f39.sub (sub_cons (i := 45) rfl (sub_cons (i := 46) rfl (sub_cons (i := 47) rfl (sub_cons (i := 48) rfl sub_nil))))
        clear f39
        refine wp_seq_k fun K11 hK11 => ?_
        first | refine f40.splitD 48 rfl (fun h2 f41 => ?_) (fun h2 f41 => ?_) | refine f40.splitN 48 rfl (fun h2 f41 => ?_) (fun h2 f41 => ?_) | refine f40.splitNB 48 rfl (fun h2 f41 => ?_) (fun h2 f41 => ?_) | refine f40.split 48 rfl (fun h2 f41 => ?_) (fun h2 f41 => ?_)
        · clear f40
          refine C.condT f41 rfl ?_
          refine wp_skip (hK11 _ _ ?_)
          try clear hK11 K11
          have f42 := f41.sub (sub_cons (i := 45) rfl (sub_cons (i := 46) rfl (sub_cons (i := 47) rfl (sub_cons (i := 48) rfl sub_nil))))
          clear f41
          refine wp_seq_k fun K12 hK12 => ?_
          refine wp_block ?_
          refine wp_seq_k fun K13 hK13 => ?_
          obtain ⟨p, s, hcs, O, hl⟩ := T i (by omega)
          obtain ⟨n, hn, hkp⟩ : ∃ n, n ≤ 5 ∧ kplace p.kind = n := ⟨_, kplace_le _, rfl⟩
          refine C.region ?_
          refine L.val f42 wantedN rfl (by decide) (E.indexA f42 (by first | rfl | assumption) Try.underlying32 wsz28 rfl rfl (by omega) (by omega)) fun a43 f43 => ?_
          clear f42 a39
          refine L.val f43 wantedN rfl (by decide) (by exact E.loadA f43 Try.underlying28 rfl wsz28 rfl (row24i hcs) rfl) fun a44 f44 => ?_
          clear f43 a43
          refine L.alloc f44 wantedN (by decide) (z := (.agg #[(.int .i64 0), (.bool false), (.bool false), (.int .i64 0), (.int .i64 0), (.string ⟨#[]⟩), (.slice none 0 0), (.int .i64 0), (.string ⟨#[]⟩), (.bool false), (.int .i64 0), (.bool false), (.string ⟨#[]⟩), (.slice none 0 0), (.int .i64 0), (.bool false), (.bool false), (.bool false), (.string ⟨#[]⟩), (.slice none 0 0), (.bool false), (.int .i64 0), (.slice none 0 0), (.slice none 0 0)])) (fun _ => by kernel_rfl) rfl fun a45 w8 g7 N7 f45 => ?_
          have Bg7 := N7.blk
          have kg7 := N7.kept
          have log7 := N7.lo
          have ltg7 := Bg7.lt
          have szw8 := kg7.size
          have frg7 : w.heap.size ≤ g7 := Nat.le_trans HK.size log7
          replace HK := HK.trans kg7 (by simp)
          replace T := T.kept kg7 (by simp) (Same.of_kept kg7 (by simp))
          replace O := O.same (Same.of_kept kg7 (by simp))
          clear N7 kg7
          clear f44 a44
          refine L.storeR f45 wantedN wsz28 rfl rfl rfl Bg7 rfl rfl fun a46 w9 f46 NB9 ks9 => ?_
          have szw9 := ks9.size
          replace HK := HK.trans ks9 (by intro x hx hlt; simp at hx; subst hx; first | (exfalso; omega) | simp)
          replace T := T.kept ks9 (by simp; omega) (Same.of_kept ks9 (by intro x hx hlt; simp at hx; subst hx; exact ⟨by omega, Bg7.not_typ (by decide)⟩))
          replace O := O.same (Same.of_kept ks9 (by intro x hx hlt; simp at hx; subst hx; exact ⟨by omega, Bg7.not_typ (by decide)⟩))
          replace Bg7 := NB9
          clear ks9 f45 a45
          refine wpList_nil (hK13 _ _ ?_)
          try clear hK13 K13
          have f47 := f46.sub (sub_cons (i := 14) rfl (sub_cons (i := 45) rfl (sub_cons (i := 46) rfl (sub_cons (i := 47) rfl (sub_cons (i := 48) rfl (sub_cons (i := 49) rfl (sub_cons (i := 50) rfl sub_nil)))))))
          clear f46
          refine wp_seq_k fun K14 hK14 => ?_
          refine C.region ?_
          refine L.val f47 wantedN rfl (by decide) (by first | exact E.loadB f47 Try.underlying28 rfl wsz28 rfl (Bg7) rfl | exact E.loadA f47 Try.underlying28 rfl wsz28 rfl (row24i hcs) rfl) fun a48 f48 => ?_
          clear f47 a46
          refine L.call f48 wantedN rfl (by decide) (run_call Try.call9 (args1 f48 rfl)) (any_n n hkp w.heap.size p s _ rfl O hl.small HK.size) ?_
          rintro e w10 ⟨s10, rfl, O10, kb10⟩
          have kc10 := Kept.of_below kb10 []
          refine ⟨_, rfl, fun a49 f49 => ?_⟩
          clear f48 a48
          have szw10 := kc10.size
          replace HK := HK.trans kc10 (by simp)
          replace T := T.kept kc10 (by simp) (Same.of_kept kc10 (by simp))
          replace O := O.same (Same.of_kept kc10 (by simp))
          replace Bg7 := Bg7.kept kc10 (by simp)
          clear kc10
          clear kb10
          refine L.val f49 wantedN rfl (by decide) (E.assign f49 rfl) fun a50 f50 => ?_
          clear f49 a49
          refine wpList_nil (hK14 _ _ ?_)
          try clear hK14 K14
          have f51 := f50.sub (sub_cons (i := 14) rfl (sub_cons (i := 15) rfl (sub_cons (i := 45) rfl (sub_cons (i := 46) rfl (sub_cons (i := 47) rfl (sub_cons (i := 48) rfl (sub_cons (i := 49) rfl (sub_cons (i := 50) rfl (sub_cons (i := 51) rfl (sub_cons (i := 52) rfl sub_nil))))))))))
          clear f50
          refine wp_seq_k fun K15 hK15 => ?_
          rcases (show n = 0 ∨ n = 1 ∨ n = 2 ∨ n = 3 ∨ n = 4 ∨ n = 5 by omega) with rfl | rfl | rfl | rfl | rfl | rfl
          · have hkq := hkp
            refine C.region ?_
            refine L.val f51 wantedN rfl (by decide) (E.move f51 rfl) fun a52 f52 => ?_
            clear f51 a50
            refine L.call f52 wantedN rfl (by decide) (run_call Try.call10 (args1 f52 rfl)) (packet_of w.heap.size 0 (by decide) p s10 _ O10 hl.small HK.size) ?_
            rintro e w11 ⟨s11, rfl, O11, kb11⟩
            have kc11 := Kept.of_below kb11 []
            refine ⟨_, rfl, fun a53 f53 => ?_⟩
            clear f52 a52
            have szw11 := kc11.size
            replace HK := HK.trans kc11 (by simp)
            replace T := T.kept kc11 (by simp) (Same.of_kept kc11 (by simp))
            replace O := O.same (Same.of_kept kc11 (by simp))
            replace Bg7 := Bg7.kept kc11 (by simp)
            replace O10 := O10.same (Same.of_kept kc11 (by simp))
            clear kc11
            clear kb11
            refine L.val f53 wantedN rfl (by decide) (E.move f53 rfl) fun a54 f54 => ?_
            clear f53 a53
            refine L.val f54 wantedN rfl (by decide) (E.extract f54 rfl rfl) fun a55 f55 => ?_
            clear f54 a54
            refine L.val f55 wantedN rfl (by decide) (E.extract f55 rfl rfl) fun a56 f56 => ?_
            clear f55 a55
            refine L.alloc f56 wantedN (by decide) (z := (.agg #[(.int .i64 0), (.bool false), (.bool false), (.int .i64 0), (.int .i64 0), (.string ⟨#[]⟩), (.slice none 0 0), (.int .i64 0), (.string ⟨#[]⟩), (.bool false), (.int .i64 0), (.bool false), (.string ⟨#[]⟩), (.slice none 0 0), (.int .i64 0), (.bool false), (.bool false), (.bool false), (.string ⟨#[]⟩), (.slice none 0 0), (.bool false), (.int .i64 0), (.slice none 0 0), (.slice none 0 0)])) (fun _ => by kernel_rfl) rfl fun a57 w12 g11 N11 f57 => ?_
            have Bg11 := N11.blk
            have kg11 := N11.kept
            have log11 := N11.lo
            have ltg11 := Bg11.lt
            have szw12 := kg11.size
            have frg11 : w.heap.size ≤ g11 := Nat.le_trans HK.size log11
            have neg7_g11 : g7 ≠ g11 := by have := Bg7.lt; omega
            replace HK := HK.trans kg11 (by simp)
            replace T := T.kept kg11 (by simp) (Same.of_kept kg11 (by simp))
            replace O := O.same (Same.of_kept kg11 (by simp))
            replace Bg7 := Bg7.kept kg11 (by simp)
            replace O10 := O10.same (Same.of_kept kg11 (by simp))
            replace O11 := O11.same (Same.of_kept kg11 (by simp))
            clear N11 kg11
            clear f56 a56
            refine L.storeR f57 wantedN wsz28 rfl rfl rfl Bg11 rfl rfl fun a58 w13 f58 NB13 ks13 => ?_
            have szw13 := ks13.size
            replace HK := HK.trans ks13 (by intro x hx hlt; simp at hx; subst hx; first | (exfalso; omega) | simp)
            replace T := T.kept ks13 (by simp; omega) (Same.of_kept ks13 (by intro x hx hlt; simp at hx; subst hx; exact ⟨by omega, Bg11.not_typ (by decide)⟩))
            replace O := O.same (Same.of_kept ks13 (by intro x hx hlt; simp at hx; subst hx; exact ⟨by omega, Bg11.not_typ (by decide)⟩))
            replace Bg7 := Bg7.kept ks13 (by simp; omega)
            replace O10 := O10.same (Same.of_kept ks13 (by intro x hx hlt; simp at hx; subst hx; exact ⟨by omega, Bg11.not_typ (by decide)⟩))
            replace O11 := O11.same (Same.of_kept ks13 (by intro x hx hlt; simp at hx; subst hx; exact ⟨by omega, Bg11.not_typ (by decide)⟩))
            replace Bg11 := NB13
            clear ks13 f57 a57
            refine L.val f58 wantedN rfl (by decide) (E.assign f58 rfl) fun a59 f59 => ?_
            clear f58 a58
            refine wpList_nil (hK15 _ _ ?_)
            try clear hK15 K15
            have f60 := f59.sub (sub_cons (i := 14) rfl (sub_cons (i := 15) rfl (sub_cons (i := 16) rfl (sub_cons (i := 17) rfl (sub_cons (i := 45) rfl (sub_cons (i := 46) rfl (sub_cons (i := 47) rfl (sub_cons (i := 48) rfl (sub_cons (i := 49) rfl (sub_cons (i := 50) rfl (sub_cons (i := 51) rfl (sub_cons (i := 52) rfl (sub_cons (i := 53) rfl (sub_cons (i := 54) rfl (sub_cons (i := 55) rfl (sub_cons (i := 56) rfl (sub_cons (i := 57) rfl sub_nil)))))))))))))))))
            clear f59
            refine wp_seq_k fun K16 hK16 => ?_
            refine C.region ?_
            refine L.val f60 wantedN rfl (by decide) (E.move f60 rfl) fun a61 f61 => ?_
            clear f60 a59
            refine L.call f61 wantedN rfl (by decide) (run_call Try.call11 (args1 f61 rfl)) (try_other _ (.inr ⟨_, _, rfl, by decide⟩) _) ?_
            rintro e w14 ⟨rfl, kb14⟩
            have kc14 := Kept.of_below kb14 []
            refine ⟨_, rfl, fun a62 f62 => ?_⟩
            clear f61 a61
            have szw14 := kc14.size
            replace HK := HK.trans kc14 (by simp)
            replace T := T.kept kc14 (by simp) (Same.of_kept kc14 (by simp))
            replace O := O.same (Same.of_kept kc14 (by simp))
            replace Bg7 := Bg7.kept kc14 (by simp)
            replace O10 := O10.same (Same.of_kept kc14 (by simp))
            replace O11 := O11.same (Same.of_kept kc14 (by simp))
            replace Bg11 := Bg11.kept kc14 (by simp)
            clear kc14
            clear kb14
            refine L.val f62 wantedN rfl (by decide) (E.move f62 rfl) fun a63 f63 => ?_
            clear f62 a62
            refine L.val f63 wantedN rfl (by decide) (E.extract f63 rfl rfl) fun a64 f64 => ?_
            clear f63 a63
            refine L.val f64 wantedN rfl (by decide) (E.extract f64 rfl rfl) fun a65 f65 => ?_
            clear f64 a64
            refine L.alloc f65 wantedN (by decide) (z := (.agg #[(.int .i64 0), (.bool false), (.bool false), (.int .i64 0), (.int .i64 0), (.string ⟨#[]⟩), (.slice none 0 0), (.int .i64 0), (.string ⟨#[]⟩), (.bool false), (.int .i64 0), (.bool false), (.string ⟨#[]⟩), (.slice none 0 0), (.int .i64 0), (.bool false), (.bool false), (.bool false), (.string ⟨#[]⟩), (.slice none 0 0), (.bool false), (.int .i64 0), (.slice none 0 0), (.slice none 0 0)])) (fun _ => by kernel_rfl) rfl fun a66 w15 g14 N14 f66 => ?_
            have Bg14 := N14.blk
            have kg14 := N14.kept
            have log14 := N14.lo
            have ltg14 := Bg14.lt
            have szw15 := kg14.size
            have frg14 : w.heap.size ≤ g14 := Nat.le_trans HK.size log14
            have neg7_g14 : g7 ≠ g14 := by have := Bg7.lt; omega
            have neg11_g14 : g11 ≠ g14 := by have := Bg11.lt; omega
            replace HK := HK.trans kg14 (by simp)
            replace T := T.kept kg14 (by simp) (Same.of_kept kg14 (by simp))
            replace O := O.same (Same.of_kept kg14 (by simp))
            replace Bg7 := Bg7.kept kg14 (by simp)
            replace O10 := O10.same (Same.of_kept kg14 (by simp))
            replace O11 := O11.same (Same.of_kept kg14 (by simp))
            replace Bg11 := Bg11.kept kg14 (by simp)
            clear N14 kg14
            clear f65 a65
            refine L.storeR f66 wantedN wsz37 rfl rfl rfl Bg14 rfl rfl fun a67 w16 f67 NB16 ks16 => ?_
            have szw16 := ks16.size
            replace HK := HK.trans ks16 (by intro x hx hlt; simp at hx; subst hx; first | (exfalso; omega) | simp)
            replace T := T.kept ks16 (by simp; omega) (Same.of_kept ks16 (by intro x hx hlt; simp at hx; subst hx; exact ⟨by omega, Bg14.not_typ (by decide)⟩))
            replace O := O.same (Same.of_kept ks16 (by intro x hx hlt; simp at hx; subst hx; exact ⟨by omega, Bg14.not_typ (by decide)⟩))
            replace Bg7 := Bg7.kept ks16 (by simp; omega)
            replace O10 := O10.same (Same.of_kept ks16 (by intro x hx hlt; simp at hx; subst hx; exact ⟨by omega, Bg14.not_typ (by decide)⟩))
            replace O11 := O11.same (Same.of_kept ks16 (by intro x hx hlt; simp at hx; subst hx; exact ⟨by omega, Bg14.not_typ (by decide)⟩))
            replace Bg11 := Bg11.kept ks16 (by simp; omega)
            replace Bg14 := NB16
            clear ks16 f66 a66
            refine L.val f67 wantedN rfl (by decide) (E.assign f67 rfl) fun a68 f68 => ?_
            clear f67 a67
            refine wpList_nil (hK16 _ _ ?_)
            try clear hK16 K16
            have f69 := f68.sub (sub_cons (i := 14) rfl (sub_cons (i := 15) rfl (sub_cons (i := 16) rfl (sub_cons (i := 17) rfl (sub_cons (i := 18) rfl (sub_cons (i := 19) rfl (sub_cons (i := 45) rfl (sub_cons (i := 46) rfl (sub_cons (i := 47) rfl (sub_cons (i := 48) rfl (sub_cons (i := 49) rfl (sub_cons (i := 50) rfl (sub_cons (i := 51) rfl (sub_cons (i := 52) rfl (sub_cons (i := 53) rfl (sub_cons (i := 54) rfl (sub_cons (i := 55) rfl (sub_cons (i := 56) rfl (sub_cons (i := 57) rfl (sub_cons (i := 58) rfl (sub_cons (i := 59) rfl (sub_cons (i := 60) rfl (sub_cons (i := 61) rfl (sub_cons (i := 62) rfl sub_nil))))))))))))))))))))))))
            clear f68
            refine wp_seq_k fun K17 hK17 => ?_
            refine C.region ?_
            refine L.val f69 wantedN rfl (by decide) (E.fieldAddr f69 Try.underlying28 rfl rfl wsz3) fun a70 f70 => ?_
            clear f69 a68
            refine L.val f70 wantedN rfl (by decide) (by first | exact E.load f70 Try.underlying3 rfl rfl ((Bg7).cell_ rfl) | exact E.load f70 Try.underlying3 rfl rfl ((Bg11).cell_ rfl) | exact E.load f70 Try.underlying3 rfl rfl ((Bg14).cell_ rfl)) fun a71 f71 => ?_
            clear f70 a70
            refine L.call f71 wantedN rfl (by decide) (run_call Try.call12 (args1 f71 rfl)) (name_n hkp _) ?_
            rintro e w16x ⟨rfl, rfl⟩
            refine ⟨_, rfl, fun a72 f72 => ?_⟩
            clear f71 a71
            refine L.val f72 wantedN rfl (by decide) (E.assign f72 rfl) fun a73 f73 => ?_
            clear f72 a72
            refine wpList_nil (hK17 _ _ ?_)
            try clear hK17 K17
            have f74 := f73.sub (sub_cons (i := 14) rfl (sub_cons (i := 15) rfl (sub_cons (i := 16) rfl (sub_cons (i := 17) rfl (sub_cons (i := 18) rfl (sub_cons (i := 19) rfl (sub_cons (i := 20) rfl (sub_cons (i := 45) rfl (sub_cons (i := 46) rfl (sub_cons (i := 47) rfl (sub_cons (i := 48) rfl (sub_cons (i := 49) rfl (sub_cons (i := 50) rfl (sub_cons (i := 51) rfl (sub_cons (i := 52) rfl (sub_cons (i := 53) rfl (sub_cons (i := 54) rfl (sub_cons (i := 55) rfl (sub_cons (i := 56) rfl (sub_cons (i := 57) rfl (sub_cons (i := 58) rfl (sub_cons (i := 59) rfl (sub_cons (i := 60) rfl (sub_cons (i := 61) rfl (sub_cons (i := 62) rfl (sub_cons (i := 63) rfl (sub_cons (i := 64) rfl (sub_cons (i := 65) rfl sub_nil))))))))))))))))))))))))))))
            clear f73
            refine wp_seq_k fun K18 hK18 => ?_
            refine wp_seq_k fun K19 hK19 => ?_
            refine C.region ?_
            refine L.val f74 wantedN rfl (by decide) (E.move f74 rfl) fun a75 f75 => ?_
            clear f74 a73
            refine L.call f75 wantedN rfl (by decide) (run_call Try.call13 (args1 f75 rfl)) (name_of 0 (by decide) _ _) ?_
            rintro e w17 ⟨rfl, kb17⟩
            have kc17 := Kept.of_below kb17 []
            refine ⟨_, rfl, fun a76 f76 => ?_⟩
            clear f75 a75
            have szw17 := kc17.size
            replace HK := HK.trans kc17 (by simp)
            replace T := T.kept kc17 (by simp) (Same.of_kept kc17 (by simp))
            replace O := O.same (Same.of_kept kc17 (by simp))
            replace Bg7 := Bg7.kept kc17 (by simp)
            replace O10 := O10.same (Same.of_kept kc17 (by simp))
            replace O11 := O11.same (Same.of_kept kc17 (by simp))
            replace Bg11 := Bg11.kept kc17 (by simp)
            replace Bg14 := Bg14.kept kc17 (by simp)
            clear kc17
            clear kb17
            refine L.val f76 wantedN rfl (by decide) (E.move f76 rfl) fun a77 f77 => ?_
            clear f76 a76
            refine L.val f77 wantedN rfl (by decide) (E.neqS f77 rfl rfl) fun a78 f78 => ?_
            clear f77 a77
            have f79 := f78.as (i := 69) (v' := .bool false) rfl (by simp [nameS])
            clear f78
            refine L.val f79 wantedN rfl (by decide) (E.move f79 rfl) fun a80 f80 => ?_
            clear f79 a78
            refine L.val f80 (f80.yes rfl rfl) rfl (by decide) (E.move f80 rfl) fun a81 f81 => ?_
            clear f80 a80
            refine L.val f81 (f81.yes rfl rfl) rfl (by decide) (E.move f81 rfl) fun a82 f82 => ?_
            clear f81 a81
            refine L.val f82 (f82.yes rfl rfl) rfl (by decide) (E.neqS f82 rfl rfl) fun a83 f83 => ?_
            clear f82 a82
            have f84 := f83.as (i := 73) (v' := .bool true) rfl (by simp [nameS])
            clear f83
            refine L.val f84 (f84.yes rfl rfl) rfl (by decide) (E.neqB f84 Try.underlying4 rfl rfl) fun a85 f85 => ?_
            clear f84 a83
            have f86 := f85.as (i := 74) (v' := .bool false) rfl rfl
            clear f85
            refine L.val f86 wantedN rfl (by decide) (E.pickF f86 rfl rfl) fun a87 f87 => ?_
            clear f86 a85
            refine L.val f87 wantedN rfl (by decide) (E.move f87 rfl) fun a88 f88 => ?_
            clear f87 a87
            refine L.val f88 (f88.yes rfl rfl) rfl (by decide) (E.move f88 rfl) fun a89 f89 => ?_
            clear f88 a88
            refine L.val f89 (f89.yes rfl rfl) rfl (by decide) (E.move f89 rfl) fun a90 f90 => ?_
            clear f89 a89
            refine L.val f90 (f90.yes rfl rfl) rfl (by decide) (by first | exact E.loadB f90 Try.underlying28 rfl wsz28 rfl (Bg7) rfl | exact E.loadB f90 Try.underlying28 rfl wsz28 rfl (Bg11) rfl | exact E.loadB f90 Try.underlying28 rfl wsz28 rfl (Bg14) rfl | exact E.loadA f90 Try.underlying28 rfl wsz28 rfl (row24i hcs) rfl) fun a91 f91 => ?_
            clear f90 a90
            refine L.val f91 (f91.yes rfl rfl) rfl (by decide) (by first | exact E.loadB f91 Try.underlying28 rfl wsz28 rfl (Bg7) rfl | exact E.loadB f91 Try.underlying28 rfl wsz28 rfl (Bg11) rfl | exact E.loadB f91 Try.underlying28 rfl wsz28 rfl (Bg14) rfl | exact E.loadA f91 Try.underlying28 rfl wsz28 rfl (row24i hcs) rfl) fun a92 f92 => ?_
            clear f91 a91
            refine L.call f92 (f92.yes rfl rfl) rfl (by decide) (run_call Try.call14 (args2 f92 rfl rfl)) (same_any w.heap.size p s11 s _ O11 O hl.small) ?_
            rintro e w18 ⟨rfl, kb18⟩
            have kc18 := Kept.of_below kb18 []
            refine ⟨_, rfl, fun a93 f93 => ?_⟩
            clear f92 a92
            have szw18 := kc18.size
            replace HK := HK.trans kc18 (by simp)
            replace T := T.kept kc18 (by simp) (Same.of_kept kc18 (by simp))
            replace O := O.same (Same.of_kept kc18 (by simp))
            replace Bg7 := Bg7.kept kc18 (by simp)
            replace O10 := O10.same (Same.of_kept kc18 (by simp))
            replace O11 := O11.same (Same.of_kept kc18 (by simp))
            replace Bg11 := Bg11.kept kc18 (by simp)
            replace Bg14 := Bg14.kept kc18 (by simp)
            clear kc18
            clear kb18
            refine L.val f93 (f93.yes rfl rfl) rfl (by decide) (E.not f93 rfl) fun a94 f94 => ?_
            clear f93 a93
            refine L.val f94 (f94.yes rfl rfl) rfl (by decide) (E.pickT f94 rfl rfl) fun a95 f95 => ?_
            clear f94 a94
            refine L.val f95 wantedN rfl (by decide) (E.pickF f95 rfl rfl) fun a96 f96 => ?_
            clear f95 a95
            refine L.val f96 wantedN rfl (by decide) (E.move f96 rfl) fun a97 f97 => ?_
            clear f96 a96
            refine L.val f97 (f97.yes rfl rfl) rfl (by decide) (E.move f97 rfl) fun a98 f98 => ?_
            clear f97 a97
            refine L.val f98 (f98.yes rfl rfl) rfl (by decide) (E.not f98 rfl) fun a99 f99 => ?_
            clear f98 a98
            refine L.val f99 (f99.yes rfl rfl) rfl (by decide) (E.move f99 rfl) fun a100 f100 => ?_
            clear f99 a99
            refine L.skip f100 (f100.noT rfl rfl) rfl (by decide) fun a101 f101 => ?_
            clear f100 a100
            refine L.skip f101 (f101.noT rfl rfl) rfl (by decide) fun a102 f102 => ?_
            clear f101 a101
            refine L.skip f102 (f102.noT rfl rfl) rfl (by decide) fun a103 f103 => ?_
            clear f102 a102
            refine L.skip f103 (f103.noT rfl rfl) rfl (by decide) fun a104 f104 => ?_
            clear f103 a103
            refine L.val f104 (f104.yes rfl rfl) rfl (by decide) (E.pickF f104 rfl rfl) fun a105 f105 => ?_
            clear f104 a104
            refine L.val f105 wantedN rfl (by decide) (E.pickF f105 rfl rfl) fun a106 f106 => ?_
            clear f105 a105
            refine L.val f106 wantedN rfl (by decide) (E.move f106 rfl) fun a107 f107 => ?_
            clear f106 a106
            refine L.val f107 (f107.yes rfl rfl) rfl (by decide) (E.move f107 rfl) fun a108 f108 => ?_
            clear f107 a107
            refine L.val f108 (f108.yes rfl rfl) rfl (by decide) (E.move f108 rfl) fun a109 f109 => ?_
            clear f108 a108
            refine L.val f109 (f109.yes rfl rfl) rfl (by decide) (E.eqlS f109 rfl rfl) fun a110 f110 => ?_
            clear f109 a109
            have f111 := f110.as (i := 98) (v' := .bool false) rfl (by simp [nameS])
            clear f110
            refine L.val f111 (f111.yes rfl rfl) rfl (by decide) (E.neqB f111 Try.underlying4 rfl rfl) fun a112 f112 => ?_
            clear f111 a110
            have f113 := f112.as (i := 99) (v' := .bool false) rfl rfl
            clear f112
            refine L.val f113 wantedN rfl (by decide) (E.pickF f113 rfl rfl) fun a114 f114 => ?_
            clear f113 a112
            refine L.val f114 wantedN rfl (by decide) (E.move f114 rfl) fun a115 f115 => ?_
            clear f114 a114
            refine L.val f115 (f115.yes rfl rfl) rfl (by decide) (E.move f115 rfl) fun a116 f116 => ?_
            clear f115 a115
            refine L.val f116 (f116.yes rfl rfl) rfl (by decide) (E.move f116 rfl) fun a117 f117 => ?_
            clear f116 a116
            refine L.skip f117 (f117.noT rfl rfl) rfl (by decide) fun a118 f118 => ?_
            clear f117 a117
            refine L.skip f118 (f118.noT rfl rfl) rfl (by decide) fun a119 f119 => ?_
            clear f118 a118
            refine L.skip f119 (f119.noT rfl rfl) rfl (by decide) fun a120 f120 => ?_
            clear f119 a119
            refine L.skip f120 (f120.noT rfl rfl) rfl (by decide) fun a121 f121 => ?_
            clear f120 a120
            refine L.skip f121 (f121.noT rfl rfl) rfl (by decide) fun a122 f122 => ?_
            clear f121 a121
            refine L.val f122 (f122.yes rfl rfl) rfl (by decide) (E.pickF f122 rfl rfl) fun a123 f123 => ?_
            clear f122 a122
            refine L.val f123 wantedN rfl (by decide) (E.pickF f123 rfl rfl) fun a124 f124 => ?_
            clear f123 a123
            refine L.val f124 wantedN rfl (by decide) (E.move f124 rfl) fun a125 f125 => ?_
            clear f124 a124
            refine L.val f125 (f125.yes rfl rfl) rfl (by decide) (E.move f125 rfl) fun a126 f126 => ?_
            clear f125 a125
            refine L.val f126 (f126.yes rfl rfl) rfl (by decide) (E.not f126 rfl) fun a127 f127 => ?_
            clear f126 a126
            refine L.val f127 (f127.yes rfl rfl) rfl (by decide) (E.move f127 rfl) fun a128 f128 => ?_
            clear f127 a127
            refine L.val f128 (f128.yes rfl rfl) rfl (by decide) (E.fieldAddr f128 Try.underlying37 rfl rfl wsz28) fun a129 f129 => ?_
            clear f128 a128
            refine L.val f129 (f129.yes rfl rfl) rfl (by decide) (by first | exact E.loadB f129 Try.underlying28 rfl wsz28 rfl (Bg7) rfl | exact E.loadB f129 Try.underlying28 rfl wsz28 rfl (Bg11) rfl | exact E.loadB f129 Try.underlying28 rfl wsz28 rfl (Bg14) rfl | exact E.loadA f129 Try.underlying28 rfl wsz28 rfl (row24i hcs) rfl) fun a130 f130 => ?_
            clear f129 a129
            refine L.val f130 (f130.yes rfl rfl) rfl (by decide) (E.build f130 (parts0 f130) builtZ) fun a131 f131 => ?_
            clear f130 a130
            refine L.call f131 (f131.yes rfl rfl) rfl (by decide) (run_call Try.call14 (args2 f131 rfl rfl)) (same_zero _) ?_
            rintro e w19 ⟨rfl, kb19⟩
            have kc19 := Kept.of_below kb19 []
            refine ⟨_, rfl, fun a132 f132 => ?_⟩
            clear f131 a131
            have szw19 := kc19.size
            replace HK := HK.trans kc19 (by simp)
            replace T := T.kept kc19 (by simp) (Same.of_kept kc19 (by simp))
            replace O := O.same (Same.of_kept kc19 (by simp))
            replace Bg7 := Bg7.kept kc19 (by simp)
            replace O10 := O10.same (Same.of_kept kc19 (by simp))
            replace O11 := O11.same (Same.of_kept kc19 (by simp))
            replace Bg11 := Bg11.kept kc19 (by simp)
            replace Bg14 := Bg14.kept kc19 (by simp)
            clear kc19
            clear kb19
            refine L.val f132 (f132.yes rfl rfl) rfl (by decide) (E.not f132 rfl) fun a133 f133 => ?_
            clear f132 a132
            refine L.val f133 (f133.yes rfl rfl) rfl (by decide) (E.pickT f133 rfl rfl) fun a134 f134 => ?_
            clear f133 a133
            refine L.val f134 wantedN rfl (by decide) (E.pickF f134 rfl rfl) fun a135 f135 => ?_
            clear f134 a134
            refine wpList_nil (hK19 _ _ ?_)
            try clear hK19 K19
            have f136 := f135.sub (sub_cons (i := 14) rfl (sub_cons (i := 15) rfl (sub_cons (i := 16) rfl (sub_cons (i := 17) rfl (sub_cons (i := 18) rfl (sub_cons (i := 19) rfl (sub_cons (i := 20) rfl (sub_cons (i := 45) rfl (sub_cons (i := 46) rfl (sub_cons (i := 47) rfl (sub_cons (i := 48) rfl (sub_cons (i := 49) rfl (sub_cons (i := 50) rfl (sub_cons (i := 51) rfl (sub_cons (i := 52) rfl (sub_cons (i := 53) rfl (sub_cons (i := 54) rfl (sub_cons (i := 55) rfl (sub_cons (i := 56) rfl (sub_cons (i := 57) rfl (sub_cons (i := 58) rfl (sub_cons (i := 59) rfl (sub_cons (i := 60) rfl (sub_cons (i := 61) rfl (sub_cons (i := 62) rfl (sub_cons (i := 63) rfl (sub_cons (i := 64) rfl (sub_cons (i := 65) rfl (sub_cons (i := 66) rfl (sub_cons (i := 67) rfl (sub_cons (i := 68) rfl (sub_cons (i := 69) rfl (sub_cons (i := 70) rfl (sub_cons (i := 71) rfl (sub_cons (i := 72) rfl (sub_cons (i := 73) rfl (sub_cons (i := 74) rfl (sub_cons (i := 75) rfl (sub_cons (i := 76) rfl (sub_cons (i := 77) rfl (sub_cons (i := 78) rfl (sub_cons (i := 79) rfl (sub_cons (i := 80) rfl (sub_cons (i := 81) rfl (sub_cons (i := 82) rfl (sub_cons (i := 83) rfl (sub_cons (i := 84) rfl (sub_cons (i := 85) rfl (sub_cons (i := 86) rfl (sub_cons (i := 87) rfl (sub_cons (i := 88) rfl (sub_cons (i := 89) rfl (sub_cons (i := 90) rfl (sub_cons (i := 91) rfl (sub_cons (i := 92) rfl (sub_cons (i := 93) rfl (sub_cons (i := 94) rfl (sub_cons (i := 95) rfl (sub_cons (i := 96) rfl (sub_cons (i := 97) rfl (sub_cons (i := 98) rfl (sub_cons (i := 99) rfl (sub_cons (i := 100) rfl (sub_cons (i := 101) rfl (sub_cons (i := 102) rfl (sub_cons (i := 103) rfl (sub_cons (i := 104) rfl (sub_cons (i := 105) rfl (sub_cons (i := 106) rfl (sub_cons (i := 107) rfl (sub_cons (i := 108) rfl (sub_cons (i := 109) rfl (sub_cons (i := 110) rfl (sub_cons (i := 111) rfl (sub_cons (i := 112) rfl (sub_cons (i := 113) rfl (sub_cons (i := 114) rfl (sub_cons (i := 115) rfl (sub_cons (i := 116) rfl (sub_cons (i := 117) rfl (sub_cons (i := 118) rfl (sub_cons (i := 119) rfl (sub_cons (i := 120) rfl (sub_cons (i := 121) rfl sub_nil))))))))))))))))))))))))))))))))))))))))))))))))))))))))))))))))))))))))))))))))))))
            clear f135
            refine C.condF f136 rfl ?_
            refine wp_skip (hK18 _ _ ?_)
            try clear hK18 K18
            have f137 := f136.sub (sub_cons (i := 14) rfl (sub_cons (i := 15) rfl (sub_cons (i := 16) rfl (sub_cons (i := 17) rfl (sub_cons (i := 18) rfl (sub_cons (i := 19) rfl (sub_cons (i := 20) rfl (sub_cons (i := 45) rfl (sub_cons (i := 46) rfl (sub_cons (i := 47) rfl (sub_cons (i := 48) rfl (sub_cons (i := 49) rfl (sub_cons (i := 50) rfl (sub_cons (i := 51) rfl (sub_cons (i := 52) rfl (sub_cons (i := 53) rfl (sub_cons (i := 54) rfl (sub_cons (i := 55) rfl (sub_cons (i := 56) rfl (sub_cons (i := 57) rfl (sub_cons (i := 58) rfl (sub_cons (i := 59) rfl (sub_cons (i := 60) rfl (sub_cons (i := 61) rfl (sub_cons (i := 62) rfl (sub_cons (i := 63) rfl (sub_cons (i := 64) rfl (sub_cons (i := 65) rfl (sub_cons (i := 66) rfl (sub_cons (i := 67) rfl (sub_cons (i := 68) rfl (sub_cons (i := 69) rfl (sub_cons (i := 70) rfl (sub_cons (i := 71) rfl (sub_cons (i := 72) rfl (sub_cons (i := 73) rfl (sub_cons (i := 74) rfl (sub_cons (i := 75) rfl (sub_cons (i := 76) rfl (sub_cons (i := 77) rfl (sub_cons (i := 78) rfl (sub_cons (i := 79) rfl (sub_cons (i := 80) rfl (sub_cons (i := 81) rfl (sub_cons (i := 82) rfl (sub_cons (i := 83) rfl (sub_cons (i := 84) rfl (sub_cons (i := 85) rfl (sub_cons (i := 86) rfl (sub_cons (i := 87) rfl (sub_cons (i := 88) rfl (sub_cons (i := 89) rfl (sub_cons (i := 90) rfl (sub_cons (i := 91) rfl (sub_cons (i := 92) rfl (sub_cons (i := 93) rfl (sub_cons (i := 94) rfl (sub_cons (i := 95) rfl (sub_cons (i := 96) rfl (sub_cons (i := 97) rfl (sub_cons (i := 98) rfl (sub_cons (i := 99) rfl (sub_cons (i := 100) rfl (sub_cons (i := 101) rfl (sub_cons (i := 102) rfl (sub_cons (i := 103) rfl (sub_cons (i := 104) rfl (sub_cons (i := 105) rfl (sub_cons (i := 106) rfl (sub_cons (i := 107) rfl (sub_cons (i := 108) rfl (sub_cons (i := 109) rfl (sub_cons (i := 110) rfl (sub_cons (i := 111) rfl (sub_cons (i := 112) rfl (sub_cons (i := 113) rfl (sub_cons (i := 114) rfl (sub_cons (i := 115) rfl (sub_cons (i := 116) rfl (sub_cons (i := 117) rfl (sub_cons (i := 118) rfl (sub_cons (i := 119) rfl (sub_cons (i := 120) rfl (sub_cons (i := 121) rfl sub_nil))))))))))))))))))))))))))))))))))))))))))))))))))))))))))))))))))))))))))))))))))))
            clear f136
            refine wp_seq_k fun K20 hK20 => ?_
            refine C.region ?_
            refine L.val f137 wantedN rfl (by decide) (E.assign f137 rfl) fun a138 f138 => ?_
            clear f137 a135
            refine wpList_nil (hK20 _ _ ?_)
            try clear hK20 K20
            have f139 := f138.sub (sub_cons (i := 14) rfl (sub_cons (i := 15) rfl (sub_cons (i := 16) rfl (sub_cons (i := 17) rfl (sub_cons (i := 18) rfl (sub_cons (i := 19) rfl (sub_cons (i := 20) rfl (sub_cons (i := 21) rfl (sub_cons (i := 45) rfl (sub_cons (i := 46) rfl (sub_cons (i := 47) rfl (sub_cons (i := 48) rfl (sub_cons (i := 49) rfl (sub_cons (i := 50) rfl (sub_cons (i := 51) rfl (sub_cons (i := 52) rfl (sub_cons (i := 53) rfl (sub_cons (i := 54) rfl (sub_cons (i := 55) rfl (sub_cons (i := 56) rfl (sub_cons (i := 57) rfl (sub_cons (i := 58) rfl (sub_cons (i := 59) rfl (sub_cons (i := 60) rfl (sub_cons (i := 61) rfl (sub_cons (i := 62) rfl (sub_cons (i := 63) rfl (sub_cons (i := 64) rfl (sub_cons (i := 65) rfl (sub_cons (i := 66) rfl (sub_cons (i := 67) rfl (sub_cons (i := 68) rfl (sub_cons (i := 69) rfl (sub_cons (i := 70) rfl (sub_cons (i := 71) rfl (sub_cons (i := 72) rfl (sub_cons (i := 73) rfl (sub_cons (i := 74) rfl (sub_cons (i := 75) rfl (sub_cons (i := 76) rfl (sub_cons (i := 77) rfl (sub_cons (i := 78) rfl (sub_cons (i := 79) rfl (sub_cons (i := 80) rfl (sub_cons (i := 81) rfl (sub_cons (i := 82) rfl (sub_cons (i := 83) rfl (sub_cons (i := 84) rfl (sub_cons (i := 85) rfl (sub_cons (i := 86) rfl (sub_cons (i := 87) rfl (sub_cons (i := 88) rfl (sub_cons (i := 89) rfl (sub_cons (i := 90) rfl (sub_cons (i := 91) rfl (sub_cons (i := 92) rfl (sub_cons (i := 93) rfl (sub_cons (i := 94) rfl (sub_cons (i := 95) rfl (sub_cons (i := 96) rfl (sub_cons (i := 97) rfl (sub_cons (i := 98) rfl (sub_cons (i := 99) rfl (sub_cons (i := 100) rfl (sub_cons (i := 101) rfl (sub_cons (i := 102) rfl (sub_cons (i := 103) rfl (sub_cons (i := 104) rfl (sub_cons (i := 105) rfl (sub_cons (i := 106) rfl (sub_cons (i := 107) rfl (sub_cons (i := 108) rfl (sub_cons (i := 109) rfl (sub_cons (i := 110) rfl (sub_cons (i := 111) rfl (sub_cons (i := 112) rfl (sub_cons (i := 113) rfl (sub_cons (i := 114) rfl (sub_cons (i := 115) rfl (sub_cons (i := 116) rfl (sub_cons (i := 117) rfl (sub_cons (i := 118) rfl (sub_cons (i := 119) rfl (sub_cons (i := 120) rfl (sub_cons (i := 121) rfl sub_nil)))))))))))))))))))))))))))))))))))))))))))))))))))))))))))))))))))))))))))))))))))))
            clear f138
            refine wp_seq_k fun K21 hK21 => ?_
            refine wp_seq_k fun K22 hK22 => ?_
            refine C.region ?_
            refine L.val f139 wantedN rfl (by decide) (E.move f139 rfl) fun a140 f140 => ?_
            clear f139 a138
            refine L.val f140 wantedN rfl (by decide) (E.eqlS f140 rfl rfl) fun a141 f141 => ?_
            clear f140 a140
            have f142 := f141.as (i := 123) (v' := .bool false) rfl (by simp [nameS])
            clear f141
            refine L.val f142 wantedN rfl (by decide) (E.move f142 rfl) fun a143 f143 => ?_
            clear f142 a141
            refine L.val f143 (f143.yes rfl rfl) rfl (by decide) (E.move f143 rfl) fun a144 f144 => ?_
            clear f143 a143
            refine L.val f144 (f144.yes rfl rfl) rfl (by decide) (E.eqlS f144 rfl rfl) fun a145 f145 => ?_
            clear f144 a144
            have f146 := f145.as (i := 126) (v' := .bool false) rfl (by simp [nameS])
            clear f145
            refine L.val f146 wantedN rfl (by decide) (E.pickF f146 rfl rfl) fun a147 f147 => ?_
            clear f146 a145
            refine L.val f147 wantedN rfl (by decide) (E.move f147 rfl) fun a148 f148 => ?_
            clear f147 a147
            refine L.val f148 (f148.yes rfl rfl) rfl (by decide) (E.move f148 rfl) fun a149 f149 => ?_
            clear f148 a148
            refine L.val f149 (f149.yes rfl rfl) rfl (by decide) (E.eqlS f149 rfl rfl) fun a150 f150 => ?_
            clear f149 a149
            have f151 := f150.as (i := 130) (v' := .bool false) rfl (by simp [nameS])
            clear f150
            refine L.val f151 wantedN rfl (by decide) (E.pickF f151 rfl rfl) fun a152 f152 => ?_
            clear f151 a150
            refine wpList_nil (hK22 _ _ ?_)
            try clear hK22 K22
            have f153 := f152.sub (sub_cons (i := 14) rfl (sub_cons (i := 15) rfl (sub_cons (i := 16) rfl (sub_cons (i := 17) rfl (sub_cons (i := 18) rfl (sub_cons (i := 19) rfl (sub_cons (i := 20) rfl (sub_cons (i := 21) rfl (sub_cons (i := 45) rfl (sub_cons (i := 46) rfl (sub_cons (i := 47) rfl (sub_cons (i := 48) rfl (sub_cons (i := 49) rfl (sub_cons (i := 50) rfl (sub_cons (i := 51) rfl (sub_cons (i := 52) rfl (sub_cons (i := 53) rfl (sub_cons (i := 54) rfl (sub_cons (i := 55) rfl (sub_cons (i := 56) rfl (sub_cons (i := 57) rfl (sub_cons (i := 58) rfl (sub_cons (i := 59) rfl (sub_cons (i := 60) rfl (sub_cons (i := 61) rfl (sub_cons (i := 62) rfl (sub_cons (i := 63) rfl (sub_cons (i := 64) rfl (sub_cons (i := 65) rfl (sub_cons (i := 66) rfl (sub_cons (i := 67) rfl (sub_cons (i := 68) rfl (sub_cons (i := 69) rfl (sub_cons (i := 70) rfl (sub_cons (i := 71) rfl (sub_cons (i := 72) rfl (sub_cons (i := 73) rfl (sub_cons (i := 74) rfl (sub_cons (i := 75) rfl (sub_cons (i := 76) rfl (sub_cons (i := 77) rfl (sub_cons (i := 78) rfl (sub_cons (i := 79) rfl (sub_cons (i := 80) rfl (sub_cons (i := 81) rfl (sub_cons (i := 82) rfl (sub_cons (i := 83) rfl (sub_cons (i := 84) rfl (sub_cons (i := 85) rfl (sub_cons (i := 86) rfl (sub_cons (i := 87) rfl (sub_cons (i := 88) rfl (sub_cons (i := 89) rfl (sub_cons (i := 90) rfl (sub_cons (i := 91) rfl (sub_cons (i := 92) rfl (sub_cons (i := 93) rfl (sub_cons (i := 94) rfl (sub_cons (i := 95) rfl (sub_cons (i := 96) rfl (sub_cons (i := 97) rfl (sub_cons (i := 98) rfl (sub_cons (i := 99) rfl (sub_cons (i := 100) rfl (sub_cons (i := 101) rfl (sub_cons (i := 102) rfl (sub_cons (i := 103) rfl (sub_cons (i := 104) rfl (sub_cons (i := 105) rfl (sub_cons (i := 106) rfl (sub_cons (i := 107) rfl (sub_cons (i := 108) rfl (sub_cons (i := 109) rfl (sub_cons (i := 110) rfl (sub_cons (i := 111) rfl (sub_cons (i := 112) rfl (sub_cons (i := 113) rfl (sub_cons (i := 114) rfl (sub_cons (i := 115) rfl (sub_cons (i := 116) rfl (sub_cons (i := 117) rfl (sub_cons (i := 118) rfl (sub_cons (i := 119) rfl (sub_cons (i := 120) rfl (sub_cons (i := 121) rfl (sub_cons (i := 122) rfl (sub_cons (i := 123) rfl (sub_cons (i := 124) rfl (sub_cons (i := 125) rfl (sub_cons (i := 126) rfl (sub_cons (i := 127) rfl (sub_cons (i := 128) rfl (sub_cons (i := 129) rfl (sub_cons (i := 130) rfl (sub_cons (i := 131) rfl sub_nil)))))))))))))))))))))))))))))))))))))))))))))))))))))))))))))))))))))))))))))))))))))))))))))))
            clear f152
            refine C.condF f153 rfl ?_
            refine wp_skip (hK21 _ _ ?_)
            try clear hK21 K21
            have f154 := f153.sub (sub_cons (i := 14) rfl (sub_cons (i := 15) rfl (sub_cons (i := 16) rfl (sub_cons (i := 17) rfl (sub_cons (i := 18) rfl (sub_cons (i := 19) rfl (sub_cons (i := 20) rfl (sub_cons (i := 21) rfl (sub_cons (i := 45) rfl (sub_cons (i := 46) rfl (sub_cons (i := 47) rfl (sub_cons (i := 48) rfl (sub_cons (i := 49) rfl (sub_cons (i := 50) rfl (sub_cons (i := 51) rfl (sub_cons (i := 52) rfl (sub_cons (i := 53) rfl (sub_cons (i := 54) rfl (sub_cons (i := 55) rfl (sub_cons (i := 56) rfl (sub_cons (i := 57) rfl (sub_cons (i := 58) rfl (sub_cons (i := 59) rfl (sub_cons (i := 60) rfl (sub_cons (i := 61) rfl (sub_cons (i := 62) rfl (sub_cons (i := 63) rfl (sub_cons (i := 64) rfl (sub_cons (i := 65) rfl (sub_cons (i := 66) rfl (sub_cons (i := 67) rfl (sub_cons (i := 68) rfl (sub_cons (i := 69) rfl (sub_cons (i := 70) rfl (sub_cons (i := 71) rfl (sub_cons (i := 72) rfl (sub_cons (i := 73) rfl (sub_cons (i := 74) rfl (sub_cons (i := 75) rfl (sub_cons (i := 76) rfl (sub_cons (i := 77) rfl (sub_cons (i := 78) rfl (sub_cons (i := 79) rfl (sub_cons (i := 80) rfl (sub_cons (i := 81) rfl (sub_cons (i := 82) rfl (sub_cons (i := 83) rfl (sub_cons (i := 84) rfl (sub_cons (i := 85) rfl (sub_cons (i := 86) rfl (sub_cons (i := 87) rfl (sub_cons (i := 88) rfl (sub_cons (i := 89) rfl (sub_cons (i := 90) rfl (sub_cons (i := 91) rfl (sub_cons (i := 92) rfl (sub_cons (i := 93) rfl (sub_cons (i := 94) rfl (sub_cons (i := 95) rfl (sub_cons (i := 96) rfl (sub_cons (i := 97) rfl (sub_cons (i := 98) rfl (sub_cons (i := 99) rfl (sub_cons (i := 100) rfl (sub_cons (i := 101) rfl (sub_cons (i := 102) rfl (sub_cons (i := 103) rfl (sub_cons (i := 104) rfl (sub_cons (i := 105) rfl (sub_cons (i := 106) rfl (sub_cons (i := 107) rfl (sub_cons (i := 108) rfl (sub_cons (i := 109) rfl (sub_cons (i := 110) rfl (sub_cons (i := 111) rfl (sub_cons (i := 112) rfl (sub_cons (i := 113) rfl (sub_cons (i := 114) rfl (sub_cons (i := 115) rfl (sub_cons (i := 116) rfl (sub_cons (i := 117) rfl (sub_cons (i := 118) rfl (sub_cons (i := 119) rfl (sub_cons (i := 120) rfl (sub_cons (i := 121) rfl (sub_cons (i := 122) rfl (sub_cons (i := 123) rfl (sub_cons (i := 124) rfl (sub_cons (i := 125) rfl (sub_cons (i := 126) rfl (sub_cons (i := 127) rfl (sub_cons (i := 128) rfl (sub_cons (i := 129) rfl (sub_cons (i := 130) rfl (sub_cons (i := 131) rfl sub_nil)))))))))))))))))))))))))))))))))))))))))))))))))))))))))))))))))))))))))))))))))))))))))))))))
            clear f153
            refine wp_seq_k fun K23 hK23 => ?_
            refine C.region ?_
            refine L.val f154 wantedN rfl (by decide) (E.move f154 rfl) fun a155 f155 => ?_
            clear f154 a152
            refine L.call f155 wantedN rfl (by decide) (run_call Try.call15 (args1 f155 rfl)) (id_of 0 (by decide) p s10 _) ?_
            rintro e w20 ⟨rfl, kb20⟩
            have kc20 := Kept.of_below kb20 []
            refine ⟨_, rfl, fun a156 f156 => ?_⟩
            clear f155 a155
            have szw20 := kc20.size
            replace HK := HK.trans kc20 (by simp)
            replace T := T.kept kc20 (by simp) (Same.of_kept kc20 (by simp))
            replace O := O.same (Same.of_kept kc20 (by simp))
            replace Bg7 := Bg7.kept kc20 (by simp)
            replace O10 := O10.same (Same.of_kept kc20 (by simp))
            replace O11 := O11.same (Same.of_kept kc20 (by simp))
            replace Bg11 := Bg11.kept kc20 (by simp)
            replace Bg14 := Bg14.kept kc20 (by simp)
            clear kc20
            clear kb20
            refine L.val f156 wantedN rfl (by decide) (E.move f156 rfl) fun a157 f157 => ?_
            clear f156 a156
            refine L.val f157 wantedN rfl (by decide) (E.neq f157 rfl rfl) fun a158 f158 => ?_
            clear f157 a157
            have f159 := f158.as (i := 137) (v' := .bool false) rfl (by simp [idOf])
            clear f158
            refine wpList_nil (hK23 _ _ ?_)
            try clear hK23 K23
            have f160 := f159.sub (sub_cons (i := 14) rfl (sub_cons (i := 15) rfl (sub_cons (i := 16) rfl (sub_cons (i := 17) rfl (sub_cons (i := 18) rfl (sub_cons (i := 19) rfl (sub_cons (i := 20) rfl (sub_cons (i := 21) rfl (sub_cons (i := 45) rfl (sub_cons (i := 46) rfl (sub_cons (i := 47) rfl (sub_cons (i := 48) rfl (sub_cons (i := 49) rfl (sub_cons (i := 50) rfl (sub_cons (i := 51) rfl (sub_cons (i := 52) rfl (sub_cons (i := 53) rfl (sub_cons (i := 54) rfl (sub_cons (i := 55) rfl (sub_cons (i := 56) rfl (sub_cons (i := 57) rfl (sub_cons (i := 58) rfl (sub_cons (i := 59) rfl (sub_cons (i := 60) rfl (sub_cons (i := 61) rfl (sub_cons (i := 62) rfl (sub_cons (i := 63) rfl (sub_cons (i := 64) rfl (sub_cons (i := 65) rfl (sub_cons (i := 66) rfl (sub_cons (i := 67) rfl (sub_cons (i := 68) rfl (sub_cons (i := 69) rfl (sub_cons (i := 70) rfl (sub_cons (i := 71) rfl (sub_cons (i := 72) rfl (sub_cons (i := 73) rfl (sub_cons (i := 74) rfl (sub_cons (i := 75) rfl (sub_cons (i := 76) rfl (sub_cons (i := 77) rfl (sub_cons (i := 78) rfl (sub_cons (i := 79) rfl (sub_cons (i := 80) rfl (sub_cons (i := 81) rfl (sub_cons (i := 82) rfl (sub_cons (i := 83) rfl (sub_cons (i := 84) rfl (sub_cons (i := 85) rfl (sub_cons (i := 86) rfl (sub_cons (i := 87) rfl (sub_cons (i := 88) rfl (sub_cons (i := 89) rfl (sub_cons (i := 90) rfl (sub_cons (i := 91) rfl (sub_cons (i := 92) rfl (sub_cons (i := 93) rfl (sub_cons (i := 94) rfl (sub_cons (i := 95) rfl (sub_cons (i := 96) rfl (sub_cons (i := 97) rfl (sub_cons (i := 98) rfl (sub_cons (i := 99) rfl (sub_cons (i := 100) rfl (sub_cons (i := 101) rfl (sub_cons (i := 102) rfl (sub_cons (i := 103) rfl (sub_cons (i := 104) rfl (sub_cons (i := 105) rfl (sub_cons (i := 106) rfl (sub_cons (i := 107) rfl (sub_cons (i := 108) rfl (sub_cons (i := 109) rfl (sub_cons (i := 110) rfl (sub_cons (i := 111) rfl (sub_cons (i := 112) rfl (sub_cons (i := 113) rfl (sub_cons (i := 114) rfl (sub_cons (i := 115) rfl (sub_cons (i := 116) rfl (sub_cons (i := 117) rfl (sub_cons (i := 118) rfl (sub_cons (i := 119) rfl (sub_cons (i := 120) rfl (sub_cons (i := 121) rfl (sub_cons (i := 122) rfl (sub_cons (i := 123) rfl (sub_cons (i := 124) rfl (sub_cons (i := 125) rfl (sub_cons (i := 126) rfl (sub_cons (i := 127) rfl (sub_cons (i := 128) rfl (sub_cons (i := 129) rfl (sub_cons (i := 130) rfl (sub_cons (i := 131) rfl (sub_cons (i := 134) rfl (sub_cons (i := 135) rfl (sub_cons (i := 136) rfl (sub_cons (i := 137) rfl sub_nil)))))))))))))))))))))))))))))))))))))))))))))))))))))))))))))))))))))))))))))))))))))))))))))))))))
            clear f159
            refine C.condF f160 rfl ?_
            refine wp_skip (hK12 _ _ ?_)
            try clear hK12 K12
            have f161 := f160.sub (sub_cons (i := 14) rfl (sub_cons (i := 15) rfl (sub_cons (i := 16) rfl (sub_cons (i := 17) rfl (sub_cons (i := 18) rfl (sub_cons (i := 19) rfl (sub_cons (i := 20) rfl (sub_cons (i := 21) rfl (sub_cons (i := 45) rfl (sub_cons (i := 46) rfl (sub_cons (i := 47) rfl (sub_cons (i := 48) rfl (sub_cons (i := 49) rfl (sub_cons (i := 50) rfl (sub_cons (i := 51) rfl (sub_cons (i := 52) rfl (sub_cons (i := 53) rfl (sub_cons (i := 54) rfl (sub_cons (i := 55) rfl (sub_cons (i := 56) rfl (sub_cons (i := 57) rfl (sub_cons (i := 58) rfl (sub_cons (i := 59) rfl (sub_cons (i := 60) rfl (sub_cons (i := 61) rfl (sub_cons (i := 62) rfl (sub_cons (i := 63) rfl (sub_cons (i := 64) rfl (sub_cons (i := 65) rfl (sub_cons (i := 66) rfl (sub_cons (i := 67) rfl (sub_cons (i := 68) rfl (sub_cons (i := 69) rfl (sub_cons (i := 70) rfl (sub_cons (i := 71) rfl (sub_cons (i := 72) rfl (sub_cons (i := 73) rfl (sub_cons (i := 74) rfl (sub_cons (i := 75) rfl (sub_cons (i := 76) rfl (sub_cons (i := 77) rfl (sub_cons (i := 78) rfl (sub_cons (i := 79) rfl (sub_cons (i := 80) rfl (sub_cons (i := 81) rfl (sub_cons (i := 82) rfl (sub_cons (i := 83) rfl (sub_cons (i := 84) rfl (sub_cons (i := 85) rfl (sub_cons (i := 86) rfl (sub_cons (i := 87) rfl (sub_cons (i := 88) rfl (sub_cons (i := 89) rfl (sub_cons (i := 90) rfl (sub_cons (i := 91) rfl (sub_cons (i := 92) rfl (sub_cons (i := 93) rfl (sub_cons (i := 94) rfl (sub_cons (i := 95) rfl (sub_cons (i := 96) rfl (sub_cons (i := 97) rfl (sub_cons (i := 98) rfl (sub_cons (i := 99) rfl (sub_cons (i := 100) rfl (sub_cons (i := 101) rfl (sub_cons (i := 102) rfl (sub_cons (i := 103) rfl (sub_cons (i := 104) rfl (sub_cons (i := 105) rfl (sub_cons (i := 106) rfl (sub_cons (i := 107) rfl (sub_cons (i := 108) rfl (sub_cons (i := 109) rfl (sub_cons (i := 110) rfl (sub_cons (i := 111) rfl (sub_cons (i := 112) rfl (sub_cons (i := 113) rfl (sub_cons (i := 114) rfl (sub_cons (i := 115) rfl (sub_cons (i := 116) rfl (sub_cons (i := 117) rfl (sub_cons (i := 118) rfl (sub_cons (i := 119) rfl (sub_cons (i := 120) rfl (sub_cons (i := 121) rfl (sub_cons (i := 122) rfl (sub_cons (i := 123) rfl (sub_cons (i := 124) rfl (sub_cons (i := 125) rfl (sub_cons (i := 126) rfl (sub_cons (i := 127) rfl (sub_cons (i := 128) rfl (sub_cons (i := 129) rfl (sub_cons (i := 130) rfl (sub_cons (i := 131) rfl (sub_cons (i := 134) rfl (sub_cons (i := 135) rfl (sub_cons (i := 136) rfl (sub_cons (i := 137) rfl sub_nil)))))))))))))))))))))))))))))))))))))))))))))))))))))))))))))))))))))))))))))))))))))))))))))))))))
            clear f160
            refine C.region ?_
            refine L.val f161 wantedN rfl (by decide) (E.add f161 rfl rfl (IntWalk.i64_in _ (by omega))) fun a162 f162 => ?_
            clear f161 a158
            refine L.val f162 wantedN rfl (by decide) (E.move f162 rfl) fun a163 f163 => ?_
            clear f162 a162
            refine wpList_nil (hKL9 _ _ (gk10 - 1) ?_ ?_)
            · omega
            · exact ⟨i + 1, by omega, HK, T, by omega, f163.sub (sub_cons rfl (sub_cons rfl (sub_cons rfl sub_nil)))⟩
          · have hkq := hkp
            refine C.region ?_
            refine L.val f51 wantedN rfl (by decide) (E.move f51 rfl) fun a52 f52 => ?_
            clear f51 a50
            refine L.call f52 wantedN rfl (by decide) (run_call Try.call10 (args1 f52 rfl)) (packet_of w.heap.size 1 (by decide) p s10 _ O10 hl.small HK.size) ?_
            rintro e w11 ⟨s11, rfl, O11, kb11⟩
            have kc11 := Kept.of_below kb11 []
            refine ⟨_, rfl, fun a53 f53 => ?_⟩
            clear f52 a52
            have szw11 := kc11.size
            replace HK := HK.trans kc11 (by simp)
            replace T := T.kept kc11 (by simp) (Same.of_kept kc11 (by simp))
            replace O := O.same (Same.of_kept kc11 (by simp))
            replace Bg7 := Bg7.kept kc11 (by simp)
            replace O10 := O10.same (Same.of_kept kc11 (by simp))
            clear kc11
            clear kb11
            refine L.val f53 wantedN rfl (by decide) (E.move f53 rfl) fun a54 f54 => ?_
            clear f53 a53
            refine L.val f54 wantedN rfl (by decide) (E.extract f54 rfl rfl) fun a55 f55 => ?_
            clear f54 a54
            refine L.val f55 wantedN rfl (by decide) (E.extract f55 rfl rfl) fun a56 f56 => ?_
            clear f55 a55
            refine L.alloc f56 wantedN (by decide) (z := (.agg #[(.int .i64 0), (.bool false), (.bool false), (.int .i64 0), (.int .i64 0), (.string ⟨#[]⟩), (.slice none 0 0), (.int .i64 0), (.string ⟨#[]⟩), (.bool false), (.int .i64 0), (.bool false), (.string ⟨#[]⟩), (.slice none 0 0), (.int .i64 0), (.bool false), (.bool false), (.bool false), (.string ⟨#[]⟩), (.slice none 0 0), (.bool false), (.int .i64 0), (.slice none 0 0), (.slice none 0 0)])) (fun _ => by kernel_rfl) rfl fun a57 w12 g11 N11 f57 => ?_
            have Bg11 := N11.blk
            have kg11 := N11.kept
            have log11 := N11.lo
            have ltg11 := Bg11.lt
            have szw12 := kg11.size
            have frg11 : w.heap.size ≤ g11 := Nat.le_trans HK.size log11
            have neg7_g11 : g7 ≠ g11 := by have := Bg7.lt; omega
            replace HK := HK.trans kg11 (by simp)
            replace T := T.kept kg11 (by simp) (Same.of_kept kg11 (by simp))
            replace O := O.same (Same.of_kept kg11 (by simp))
            replace Bg7 := Bg7.kept kg11 (by simp)
            replace O10 := O10.same (Same.of_kept kg11 (by simp))
            replace O11 := O11.same (Same.of_kept kg11 (by simp))
            clear N11 kg11
            clear f56 a56
            refine L.storeR f57 wantedN wsz28 rfl rfl rfl Bg11 rfl rfl fun a58 w13 f58 NB13 ks13 => ?_
            have szw13 := ks13.size
            replace HK := HK.trans ks13 (by intro x hx hlt; simp at hx; subst hx; first | (exfalso; omega) | simp)
            replace T := T.kept ks13 (by simp; omega) (Same.of_kept ks13 (by intro x hx hlt; simp at hx; subst hx; exact ⟨by omega, Bg11.not_typ (by decide)⟩))
            replace O := O.same (Same.of_kept ks13 (by intro x hx hlt; simp at hx; subst hx; exact ⟨by omega, Bg11.not_typ (by decide)⟩))
            replace Bg7 := Bg7.kept ks13 (by simp; omega)
            replace O10 := O10.same (Same.of_kept ks13 (by intro x hx hlt; simp at hx; subst hx; exact ⟨by omega, Bg11.not_typ (by decide)⟩))
            replace O11 := O11.same (Same.of_kept ks13 (by intro x hx hlt; simp at hx; subst hx; exact ⟨by omega, Bg11.not_typ (by decide)⟩))
            replace Bg11 := NB13
            clear ks13 f57 a57
            refine L.val f58 wantedN rfl (by decide) (E.assign f58 rfl) fun a59 f59 => ?_
            clear f58 a58
            refine wpList_nil (hK15 _ _ ?_)
            try clear hK15 K15
            have f60 := f59.sub (sub_cons (i := 14) rfl (sub_cons (i := 15) rfl (sub_cons (i := 16) rfl (sub_cons (i := 17) rfl (sub_cons (i := 45) rfl (sub_cons (i := 46) rfl (sub_cons (i := 47) rfl (sub_cons (i := 48) rfl (sub_cons (i := 49) rfl (sub_cons (i := 50) rfl (sub_cons (i := 51) rfl (sub_cons (i := 52) rfl (sub_cons (i := 53) rfl (sub_cons (i := 54) rfl (sub_cons (i := 55) rfl (sub_cons (i := 56) rfl (sub_cons (i := 57) rfl sub_nil)))))))))))))))))
            clear f59
            refine wp_seq_k fun K24 hK24 => ?_
            refine C.region ?_
            refine L.val f60 wantedN rfl (by decide) (E.move f60 rfl) fun a61 f61 => ?_
            clear f60 a59
            refine L.call f61 wantedN rfl (by decide) (run_call Try.call11 (args1 f61 rfl)) (try_msg w.heap.size p s10 _ O10 hl.small HK.size) ?_
            rintro e w14 ⟨s14, rfl, O14, kb14⟩
            have kc14 := Kept.of_below kb14 []
            refine ⟨_, rfl, fun a62 f62 => ?_⟩
            clear f61 a61
            have szw14 := kc14.size
            replace HK := HK.trans kc14 (by simp)
            replace T := T.kept kc14 (by simp) (Same.of_kept kc14 (by simp))
            replace O := O.same (Same.of_kept kc14 (by simp))
            replace Bg7 := Bg7.kept kc14 (by simp)
            replace O10 := O10.same (Same.of_kept kc14 (by simp))
            replace O11 := O11.same (Same.of_kept kc14 (by simp))
            replace Bg11 := Bg11.kept kc14 (by simp)
            clear kc14
            clear kb14
            refine L.val f62 wantedN rfl (by decide) (E.move f62 rfl) fun a63 f63 => ?_
            clear f62 a62
            refine L.val f63 wantedN rfl (by decide) (E.extract f63 rfl rfl) fun a64 f64 => ?_
            clear f63 a63
            refine L.val f64 wantedN rfl (by decide) (E.extract f64 rfl rfl) fun a65 f65 => ?_
            clear f64 a64
            refine L.alloc f65 wantedN (by decide) (z := (.agg #[(.int .i64 0), (.bool false), (.bool false), (.int .i64 0), (.int .i64 0), (.string ⟨#[]⟩), (.slice none 0 0), (.int .i64 0), (.string ⟨#[]⟩), (.bool false), (.int .i64 0), (.bool false), (.string ⟨#[]⟩), (.slice none 0 0), (.int .i64 0), (.bool false), (.bool false), (.bool false), (.string ⟨#[]⟩), (.slice none 0 0), (.bool false), (.int .i64 0), (.slice none 0 0), (.slice none 0 0)])) (fun _ => by kernel_rfl) rfl fun a66 w15 g14 N14 f66 => ?_
            have Bg14 := N14.blk
            have kg14 := N14.kept
            have log14 := N14.lo
            have ltg14 := Bg14.lt
            have szw15 := kg14.size
            have frg14 : w.heap.size ≤ g14 := Nat.le_trans HK.size log14
            have neg7_g14 : g7 ≠ g14 := by have := Bg7.lt; omega
            have neg11_g14 : g11 ≠ g14 := by have := Bg11.lt; omega
            replace HK := HK.trans kg14 (by simp)
            replace T := T.kept kg14 (by simp) (Same.of_kept kg14 (by simp))
            replace O := O.same (Same.of_kept kg14 (by simp))
            replace Bg7 := Bg7.kept kg14 (by simp)
            replace O10 := O10.same (Same.of_kept kg14 (by simp))
            replace O11 := O11.same (Same.of_kept kg14 (by simp))
            replace Bg11 := Bg11.kept kg14 (by simp)
            replace O14 := O14.same (Same.of_kept kg14 (by simp))
            clear N14 kg14
            clear f65 a65
            refine L.storeR f66 wantedN wsz37 rfl rfl rfl Bg14 rfl rfl fun a67 w16 f67 NB16 ks16 => ?_
            have szw16 := ks16.size
            replace HK := HK.trans ks16 (by intro x hx hlt; simp at hx; subst hx; first | (exfalso; omega) | simp)
            replace T := T.kept ks16 (by simp; omega) (Same.of_kept ks16 (by intro x hx hlt; simp at hx; subst hx; exact ⟨by omega, Bg14.not_typ (by decide)⟩))
            replace O := O.same (Same.of_kept ks16 (by intro x hx hlt; simp at hx; subst hx; exact ⟨by omega, Bg14.not_typ (by decide)⟩))
            replace Bg7 := Bg7.kept ks16 (by simp; omega)
            replace O10 := O10.same (Same.of_kept ks16 (by intro x hx hlt; simp at hx; subst hx; exact ⟨by omega, Bg14.not_typ (by decide)⟩))
            replace O11 := O11.same (Same.of_kept ks16 (by intro x hx hlt; simp at hx; subst hx; exact ⟨by omega, Bg14.not_typ (by decide)⟩))
            replace Bg11 := Bg11.kept ks16 (by simp; omega)
            replace O14 := O14.same (Same.of_kept ks16 (by intro x hx hlt; simp at hx; subst hx; exact ⟨by omega, Bg14.not_typ (by decide)⟩))
            replace Bg14 := NB16
            clear ks16 f66 a66
            refine L.val f67 wantedN rfl (by decide) (E.assign f67 rfl) fun a68 f68 => ?_
            clear f67 a67
            refine wpList_nil (hK24 _ _ ?_)
            try clear hK24 K24
            have f69 := f68.sub (sub_cons (i := 14) rfl (sub_cons (i := 15) rfl (sub_cons (i := 16) rfl (sub_cons (i := 17) rfl (sub_cons (i := 18) rfl (sub_cons (i := 19) rfl (sub_cons (i := 45) rfl (sub_cons (i := 46) rfl (sub_cons (i := 47) rfl (sub_cons (i := 48) rfl (sub_cons (i := 49) rfl (sub_cons (i := 50) rfl (sub_cons (i := 51) rfl (sub_cons (i := 52) rfl (sub_cons (i := 53) rfl (sub_cons (i := 54) rfl (sub_cons (i := 55) rfl (sub_cons (i := 56) rfl (sub_cons (i := 57) rfl (sub_cons (i := 58) rfl (sub_cons (i := 59) rfl (sub_cons (i := 60) rfl (sub_cons (i := 61) rfl (sub_cons (i := 62) rfl sub_nil))))))))))))))))))))))))
            clear f68
            refine wp_seq_k fun K25 hK25 => ?_
            refine C.region ?_
            refine L.val f69 wantedN rfl (by decide) (E.fieldAddr f69 Try.underlying28 rfl rfl wsz3) fun a70 f70 => ?_
            clear f69 a68
            refine L.val f70 wantedN rfl (by decide) (by first | exact E.load f70 Try.underlying3 rfl rfl ((Bg7).cell_ rfl) | exact E.load f70 Try.underlying3 rfl rfl ((Bg11).cell_ rfl) | exact E.load f70 Try.underlying3 rfl rfl ((Bg14).cell_ rfl)) fun a71 f71 => ?_
            clear f70 a70
            refine L.call f71 wantedN rfl (by decide) (run_call Try.call12 (args1 f71 rfl)) (name_n hkp _) ?_
            rintro e w16x ⟨rfl, rfl⟩
            refine ⟨_, rfl, fun a72 f72 => ?_⟩
            clear f71 a71
            refine L.val f72 wantedN rfl (by decide) (E.assign f72 rfl) fun a73 f73 => ?_
            clear f72 a72
            refine wpList_nil (hK25 _ _ ?_)
            try clear hK25 K25
            have f74 := f73.sub (sub_cons (i := 14) rfl (sub_cons (i := 15) rfl (sub_cons (i := 16) rfl (sub_cons (i := 17) rfl (sub_cons (i := 18) rfl (sub_cons (i := 19) rfl (sub_cons (i := 20) rfl (sub_cons (i := 45) rfl (sub_cons (i := 46) rfl (sub_cons (i := 47) rfl (sub_cons (i := 48) rfl (sub_cons (i := 49) rfl (sub_cons (i := 50) rfl (sub_cons (i := 51) rfl (sub_cons (i := 52) rfl (sub_cons (i := 53) rfl (sub_cons (i := 54) rfl (sub_cons (i := 55) rfl (sub_cons (i := 56) rfl (sub_cons (i := 57) rfl (sub_cons (i := 58) rfl (sub_cons (i := 59) rfl (sub_cons (i := 60) rfl (sub_cons (i := 61) rfl (sub_cons (i := 62) rfl (sub_cons (i := 63) rfl (sub_cons (i := 64) rfl (sub_cons (i := 65) rfl sub_nil))))))))))))))))))))))))))))
            clear f73
            refine wp_seq_k fun K26 hK26 => ?_
            refine wp_seq_k fun K27 hK27 => ?_
            refine C.region ?_
            refine L.val f74 wantedN rfl (by decide) (E.move f74 rfl) fun a75 f75 => ?_
            clear f74 a73
            refine L.call f75 wantedN rfl (by decide) (run_call Try.call13 (args1 f75 rfl)) (name_of 1 (by decide) _ _) ?_
            rintro e w17 ⟨rfl, kb17⟩
            have kc17 := Kept.of_below kb17 []
            refine ⟨_, rfl, fun a76 f76 => ?_⟩
            clear f75 a75
            have szw17 := kc17.size
            replace HK := HK.trans kc17 (by simp)
            replace T := T.kept kc17 (by simp) (Same.of_kept kc17 (by simp))
            replace O := O.same (Same.of_kept kc17 (by simp))
            replace Bg7 := Bg7.kept kc17 (by simp)
            replace O10 := O10.same (Same.of_kept kc17 (by simp))
            replace O11 := O11.same (Same.of_kept kc17 (by simp))
            replace Bg11 := Bg11.kept kc17 (by simp)
            replace O14 := O14.same (Same.of_kept kc17 (by simp))
            replace Bg14 := Bg14.kept kc17 (by simp)
            clear kc17
            clear kb17
            refine L.val f76 wantedN rfl (by decide) (E.move f76 rfl) fun a77 f77 => ?_
            clear f76 a76
            refine L.val f77 wantedN rfl (by decide) (E.neqS f77 rfl rfl) fun a78 f78 => ?_
            clear f77 a77
            have f79 := f78.as (i := 69) (v' := .bool false) rfl (by simp [nameS])
            clear f78
            refine L.val f79 wantedN rfl (by decide) (E.move f79 rfl) fun a80 f80 => ?_
            clear f79 a78
            refine L.val f80 (f80.yes rfl rfl) rfl (by decide) (E.move f80 rfl) fun a81 f81 => ?_
            clear f80 a80
            refine L.val f81 (f81.yes rfl rfl) rfl (by decide) (E.move f81 rfl) fun a82 f82 => ?_
            clear f81 a81
            refine L.val f82 (f82.yes rfl rfl) rfl (by decide) (E.neqS f82 rfl rfl) fun a83 f83 => ?_
            clear f82 a82
            have f84 := f83.as (i := 73) (v' := .bool true) rfl (by simp [nameS])
            clear f83
            refine L.val f84 (f84.yes rfl rfl) rfl (by decide) (E.neqB f84 Try.underlying4 rfl rfl) fun a85 f85 => ?_
            clear f84 a83
            have f86 := f85.as (i := 74) (v' := .bool false) rfl rfl
            clear f85
            refine L.val f86 wantedN rfl (by decide) (E.pickF f86 rfl rfl) fun a87 f87 => ?_
            clear f86 a85
            refine L.val f87 wantedN rfl (by decide) (E.move f87 rfl) fun a88 f88 => ?_
            clear f87 a87
            refine L.val f88 (f88.yes rfl rfl) rfl (by decide) (E.move f88 rfl) fun a89 f89 => ?_
            clear f88 a88
            refine L.val f89 (f89.yes rfl rfl) rfl (by decide) (E.move f89 rfl) fun a90 f90 => ?_
            clear f89 a89
            refine L.val f90 (f90.yes rfl rfl) rfl (by decide) (by first | exact E.loadB f90 Try.underlying28 rfl wsz28 rfl (Bg7) rfl | exact E.loadB f90 Try.underlying28 rfl wsz28 rfl (Bg11) rfl | exact E.loadB f90 Try.underlying28 rfl wsz28 rfl (Bg14) rfl | exact E.loadA f90 Try.underlying28 rfl wsz28 rfl (row24i hcs) rfl) fun a91 f91 => ?_
            clear f90 a90
            refine L.val f91 (f91.yes rfl rfl) rfl (by decide) (by first | exact E.loadB f91 Try.underlying28 rfl wsz28 rfl (Bg7) rfl | exact E.loadB f91 Try.underlying28 rfl wsz28 rfl (Bg11) rfl | exact E.loadB f91 Try.underlying28 rfl wsz28 rfl (Bg14) rfl | exact E.loadA f91 Try.underlying28 rfl wsz28 rfl (row24i hcs) rfl) fun a92 f92 => ?_
            clear f91 a91
            refine L.call f92 (f92.yes rfl rfl) rfl (by decide) (run_call Try.call14 (args2 f92 rfl rfl)) (same_any w.heap.size p s11 s _ O11 O hl.small) ?_
            rintro e w18 ⟨rfl, kb18⟩
            have kc18 := Kept.of_below kb18 []
            refine ⟨_, rfl, fun a93 f93 => ?_⟩
            clear f92 a92
            have szw18 := kc18.size
            replace HK := HK.trans kc18 (by simp)
            replace T := T.kept kc18 (by simp) (Same.of_kept kc18 (by simp))
            replace O := O.same (Same.of_kept kc18 (by simp))
            replace Bg7 := Bg7.kept kc18 (by simp)
            replace O10 := O10.same (Same.of_kept kc18 (by simp))
            replace O11 := O11.same (Same.of_kept kc18 (by simp))
            replace Bg11 := Bg11.kept kc18 (by simp)
            replace O14 := O14.same (Same.of_kept kc18 (by simp))
            replace Bg14 := Bg14.kept kc18 (by simp)
            clear kc18
            clear kb18
            refine L.val f93 (f93.yes rfl rfl) rfl (by decide) (E.not f93 rfl) fun a94 f94 => ?_
            clear f93 a93
            refine L.val f94 (f94.yes rfl rfl) rfl (by decide) (E.pickT f94 rfl rfl) fun a95 f95 => ?_
            clear f94 a94
            refine L.val f95 wantedN rfl (by decide) (E.pickF f95 rfl rfl) fun a96 f96 => ?_
            clear f95 a95
            refine L.val f96 wantedN rfl (by decide) (E.move f96 rfl) fun a97 f97 => ?_
            clear f96 a96
            refine L.val f97 (f97.yes rfl rfl) rfl (by decide) (E.move f97 rfl) fun a98 f98 => ?_
            clear f97 a97
            refine L.val f98 (f98.yes rfl rfl) rfl (by decide) (E.not f98 rfl) fun a99 f99 => ?_
            clear f98 a98
            refine L.val f99 (f99.yes rfl rfl) rfl (by decide) (E.move f99 rfl) fun a100 f100 => ?_
            clear f99 a99
            refine L.skip f100 (f100.noT rfl rfl) rfl (by decide) fun a101 f101 => ?_
            clear f100 a100
            refine L.skip f101 (f101.noT rfl rfl) rfl (by decide) fun a102 f102 => ?_
            clear f101 a101
            refine L.skip f102 (f102.noT rfl rfl) rfl (by decide) fun a103 f103 => ?_
            clear f102 a102
            refine L.skip f103 (f103.noT rfl rfl) rfl (by decide) fun a104 f104 => ?_
            clear f103 a103
            refine L.val f104 (f104.yes rfl rfl) rfl (by decide) (E.pickF f104 rfl rfl) fun a105 f105 => ?_
            clear f104 a104
            refine L.val f105 wantedN rfl (by decide) (E.pickF f105 rfl rfl) fun a106 f106 => ?_
            clear f105 a105
            refine L.val f106 wantedN rfl (by decide) (E.move f106 rfl) fun a107 f107 => ?_
            clear f106 a106
            refine L.val f107 (f107.yes rfl rfl) rfl (by decide) (E.move f107 rfl) fun a108 f108 => ?_
            clear f107 a107
            refine L.val f108 (f108.yes rfl rfl) rfl (by decide) (E.move f108 rfl) fun a109 f109 => ?_
            clear f108 a108
            refine L.val f109 (f109.yes rfl rfl) rfl (by decide) (E.eqlS f109 rfl rfl) fun a110 f110 => ?_
            clear f109 a109
            have f111 := f110.as (i := 98) (v' := .bool true) rfl (by simp [nameS])
            clear f110
            refine L.val f111 (f111.yes rfl rfl) rfl (by decide) (E.neqB f111 Try.underlying4 rfl rfl) fun a112 f112 => ?_
            clear f111 a110
            have f113 := f112.as (i := 99) (v' := .bool false) rfl rfl
            clear f112
            refine L.val f113 wantedN rfl (by decide) (E.pickF f113 rfl rfl) fun a114 f114 => ?_
            clear f113 a112
            refine L.val f114 wantedN rfl (by decide) (E.move f114 rfl) fun a115 f115 => ?_
            clear f114 a114
            refine L.val f115 (f115.yes rfl rfl) rfl (by decide) (E.move f115 rfl) fun a116 f116 => ?_
            clear f115 a115
            refine L.val f116 (f116.yes rfl rfl) rfl (by decide) (E.move f116 rfl) fun a117 f117 => ?_
            clear f116 a116
            refine L.val f117 (f117.yes rfl rfl) rfl (by decide) (E.fieldAddr f117 Try.underlying37 rfl rfl wsz28) fun a118 f118 => ?_
            clear f117 a117
            refine L.val f118 (f118.yes rfl rfl) rfl (by decide) (by first | exact E.loadB f118 Try.underlying28 rfl wsz28 rfl (Bg7) rfl | exact E.loadB f118 Try.underlying28 rfl wsz28 rfl (Bg11) rfl | exact E.loadB f118 Try.underlying28 rfl wsz28 rfl (Bg14) rfl | exact E.loadA f118 Try.underlying28 rfl wsz28 rfl (row24i hcs) rfl) fun a119 f119 => ?_
            clear f118 a118
            refine L.val f119 (f119.yes rfl rfl) rfl (by decide) (by first | exact E.loadB f119 Try.underlying28 rfl wsz28 rfl (Bg7) rfl | exact E.loadB f119 Try.underlying28 rfl wsz28 rfl (Bg11) rfl | exact E.loadB f119 Try.underlying28 rfl wsz28 rfl (Bg14) rfl | exact E.loadA f119 Try.underlying28 rfl wsz28 rfl (row24i hcs) rfl) fun a120 f120 => ?_
            clear f119 a119
            refine L.call f120 (f120.yes rfl rfl) rfl (by decide) (run_call Try.call14 (args2 f120 rfl rfl)) (same_any w.heap.size p s14 s _ O14 O hl.small) ?_
            rintro e w19 ⟨rfl, kb19⟩
            have kc19 := Kept.of_below kb19 []
            refine ⟨_, rfl, fun a121 f121 => ?_⟩
            clear f120 a120
            have szw19 := kc19.size
            replace HK := HK.trans kc19 (by simp)
            replace T := T.kept kc19 (by simp) (Same.of_kept kc19 (by simp))
            replace O := O.same (Same.of_kept kc19 (by simp))
            replace Bg7 := Bg7.kept kc19 (by simp)
            replace O10 := O10.same (Same.of_kept kc19 (by simp))
            replace O11 := O11.same (Same.of_kept kc19 (by simp))
            replace Bg11 := Bg11.kept kc19 (by simp)
            replace O14 := O14.same (Same.of_kept kc19 (by simp))
            replace Bg14 := Bg14.kept kc19 (by simp)
            clear kc19
            clear kb19
            refine L.val f121 (f121.yes rfl rfl) rfl (by decide) (E.not f121 rfl) fun a122 f122 => ?_
            clear f121 a121
            refine L.val f122 (f122.yes rfl rfl) rfl (by decide) (E.pickT f122 rfl rfl) fun a123 f123 => ?_
            clear f122 a122
            refine L.val f123 wantedN rfl (by decide) (E.pickF f123 rfl rfl) fun a124 f124 => ?_
            clear f123 a123
            refine L.val f124 wantedN rfl (by decide) (E.move f124 rfl) fun a125 f125 => ?_
            clear f124 a124
            refine L.val f125 (f125.yes rfl rfl) rfl (by decide) (E.move f125 rfl) fun a126 f126 => ?_
            clear f125 a125
            refine L.val f126 (f126.yes rfl rfl) rfl (by decide) (E.not f126 rfl) fun a127 f127 => ?_
            clear f126 a126
            refine L.val f127 (f127.yes rfl rfl) rfl (by decide) (E.move f127 rfl) fun a128 f128 => ?_
            clear f127 a127
            refine L.skip f128 (f128.noT rfl rfl) rfl (by decide) fun a129 f129 => ?_
            clear f128 a128
            refine L.skip f129 (f129.noT rfl rfl) rfl (by decide) fun a130 f130 => ?_
            clear f129 a129
            refine L.skip f130 (f130.noT rfl rfl) rfl (by decide) fun a131 f131 => ?_
            clear f130 a130
            refine L.skip f131 (f131.noT rfl rfl) rfl (by decide) fun a132 f132 => ?_
            clear f131 a131
            refine L.skip f132 (f132.noT rfl rfl) rfl (by decide) fun a133 f133 => ?_
            clear f132 a132
            refine L.val f133 (f133.yes rfl rfl) rfl (by decide) (E.pickF f133 rfl rfl) fun a134 f134 => ?_
            clear f133 a133
            refine L.val f134 wantedN rfl (by decide) (E.pickF f134 rfl rfl) fun a135 f135 => ?_
            clear f134 a134
            refine wpList_nil (hK27 _ _ ?_)
            try clear hK27 K27
            have f136 := f135.sub (sub_cons (i := 14) rfl (sub_cons (i := 15) rfl (sub_cons (i := 16) rfl (sub_cons (i := 17) rfl (sub_cons (i := 18) rfl (sub_cons (i := 19) rfl (sub_cons (i := 20) rfl (sub_cons (i := 45) rfl (sub_cons (i := 46) rfl (sub_cons (i := 47) rfl (sub_cons (i := 48) rfl (sub_cons (i := 49) rfl (sub_cons (i := 50) rfl (sub_cons (i := 51) rfl (sub_cons (i := 52) rfl (sub_cons (i := 53) rfl (sub_cons (i := 54) rfl (sub_cons (i := 55) rfl (sub_cons (i := 56) rfl (sub_cons (i := 57) rfl (sub_cons (i := 58) rfl (sub_cons (i := 59) rfl (sub_cons (i := 60) rfl (sub_cons (i := 61) rfl (sub_cons (i := 62) rfl (sub_cons (i := 63) rfl (sub_cons (i := 64) rfl (sub_cons (i := 65) rfl (sub_cons (i := 66) rfl (sub_cons (i := 67) rfl (sub_cons (i := 68) rfl (sub_cons (i := 69) rfl (sub_cons (i := 70) rfl (sub_cons (i := 71) rfl (sub_cons (i := 72) rfl (sub_cons (i := 73) rfl (sub_cons (i := 74) rfl (sub_cons (i := 75) rfl (sub_cons (i := 76) rfl (sub_cons (i := 77) rfl (sub_cons (i := 78) rfl (sub_cons (i := 79) rfl (sub_cons (i := 80) rfl (sub_cons (i := 81) rfl (sub_cons (i := 82) rfl (sub_cons (i := 83) rfl (sub_cons (i := 84) rfl (sub_cons (i := 85) rfl (sub_cons (i := 86) rfl (sub_cons (i := 87) rfl (sub_cons (i := 88) rfl (sub_cons (i := 89) rfl (sub_cons (i := 90) rfl (sub_cons (i := 91) rfl (sub_cons (i := 92) rfl (sub_cons (i := 93) rfl (sub_cons (i := 94) rfl (sub_cons (i := 95) rfl (sub_cons (i := 96) rfl (sub_cons (i := 97) rfl (sub_cons (i := 98) rfl (sub_cons (i := 99) rfl (sub_cons (i := 100) rfl (sub_cons (i := 101) rfl (sub_cons (i := 102) rfl (sub_cons (i := 103) rfl (sub_cons (i := 104) rfl (sub_cons (i := 105) rfl (sub_cons (i := 106) rfl (sub_cons (i := 107) rfl (sub_cons (i := 108) rfl (sub_cons (i := 109) rfl (sub_cons (i := 110) rfl (sub_cons (i := 111) rfl (sub_cons (i := 112) rfl (sub_cons (i := 113) rfl (sub_cons (i := 114) rfl (sub_cons (i := 115) rfl (sub_cons (i := 116) rfl (sub_cons (i := 117) rfl (sub_cons (i := 118) rfl (sub_cons (i := 119) rfl (sub_cons (i := 120) rfl (sub_cons (i := 121) rfl sub_nil))))))))))))))))))))))))))))))))))))))))))))))))))))))))))))))))))))))))))))))))))))
            clear f135
            refine C.condF f136 rfl ?_
            refine wp_skip (hK26 _ _ ?_)
            try clear hK26 K26
            have f137 := f136.sub (sub_cons (i := 14) rfl (sub_cons (i := 15) rfl (sub_cons (i := 16) rfl (sub_cons (i := 17) rfl (sub_cons (i := 18) rfl (sub_cons (i := 19) rfl (sub_cons (i := 20) rfl (sub_cons (i := 45) rfl (sub_cons (i := 46) rfl (sub_cons (i := 47) rfl (sub_cons (i := 48) rfl (sub_cons (i := 49) rfl (sub_cons (i := 50) rfl (sub_cons (i := 51) rfl (sub_cons (i := 52) rfl (sub_cons (i := 53) rfl (sub_cons (i := 54) rfl (sub_cons (i := 55) rfl (sub_cons (i := 56) rfl (sub_cons (i := 57) rfl (sub_cons (i := 58) rfl (sub_cons (i := 59) rfl (sub_cons (i := 60) rfl (sub_cons (i := 61) rfl (sub_cons (i := 62) rfl (sub_cons (i := 63) rfl (sub_cons (i := 64) rfl (sub_cons (i := 65) rfl (sub_cons (i := 66) rfl (sub_cons (i := 67) rfl (sub_cons (i := 68) rfl (sub_cons (i := 69) rfl (sub_cons (i := 70) rfl (sub_cons (i := 71) rfl (sub_cons (i := 72) rfl (sub_cons (i := 73) rfl (sub_cons (i := 74) rfl (sub_cons (i := 75) rfl (sub_cons (i := 76) rfl (sub_cons (i := 77) rfl (sub_cons (i := 78) rfl (sub_cons (i := 79) rfl (sub_cons (i := 80) rfl (sub_cons (i := 81) rfl (sub_cons (i := 82) rfl (sub_cons (i := 83) rfl (sub_cons (i := 84) rfl (sub_cons (i := 85) rfl (sub_cons (i := 86) rfl (sub_cons (i := 87) rfl (sub_cons (i := 88) rfl (sub_cons (i := 89) rfl (sub_cons (i := 90) rfl (sub_cons (i := 91) rfl (sub_cons (i := 92) rfl (sub_cons (i := 93) rfl (sub_cons (i := 94) rfl (sub_cons (i := 95) rfl (sub_cons (i := 96) rfl (sub_cons (i := 97) rfl (sub_cons (i := 98) rfl (sub_cons (i := 99) rfl (sub_cons (i := 100) rfl (sub_cons (i := 101) rfl (sub_cons (i := 102) rfl (sub_cons (i := 103) rfl (sub_cons (i := 104) rfl (sub_cons (i := 105) rfl (sub_cons (i := 106) rfl (sub_cons (i := 107) rfl (sub_cons (i := 108) rfl (sub_cons (i := 109) rfl (sub_cons (i := 110) rfl (sub_cons (i := 111) rfl (sub_cons (i := 112) rfl (sub_cons (i := 113) rfl (sub_cons (i := 114) rfl (sub_cons (i := 115) rfl (sub_cons (i := 116) rfl (sub_cons (i := 117) rfl (sub_cons (i := 118) rfl (sub_cons (i := 119) rfl (sub_cons (i := 120) rfl (sub_cons (i := 121) rfl sub_nil))))))))))))))))))))))))))))))))))))))))))))))))))))))))))))))))))))))))))))))))))))
            clear f136
            refine wp_seq_k fun K28 hK28 => ?_
            refine C.region ?_
            refine L.val f137 wantedN rfl (by decide) (E.assign f137 rfl) fun a138 f138 => ?_
            clear f137 a135
            refine wpList_nil (hK28 _ _ ?_)
            try clear hK28 K28
            have f139 := f138.sub (sub_cons (i := 14) rfl (sub_cons (i := 15) rfl (sub_cons (i := 16) rfl (sub_cons (i := 17) rfl (sub_cons (i := 18) rfl (sub_cons (i := 19) rfl (sub_cons (i := 20) rfl (sub_cons (i := 21) rfl (sub_cons (i := 45) rfl (sub_cons (i := 46) rfl (sub_cons (i := 47) rfl (sub_cons (i := 48) rfl (sub_cons (i := 49) rfl (sub_cons (i := 50) rfl (sub_cons (i := 51) rfl (sub_cons (i := 52) rfl (sub_cons (i := 53) rfl (sub_cons (i := 54) rfl (sub_cons (i := 55) rfl (sub_cons (i := 56) rfl (sub_cons (i := 57) rfl (sub_cons (i := 58) rfl (sub_cons (i := 59) rfl (sub_cons (i := 60) rfl (sub_cons (i := 61) rfl (sub_cons (i := 62) rfl (sub_cons (i := 63) rfl (sub_cons (i := 64) rfl (sub_cons (i := 65) rfl (sub_cons (i := 66) rfl (sub_cons (i := 67) rfl (sub_cons (i := 68) rfl (sub_cons (i := 69) rfl (sub_cons (i := 70) rfl (sub_cons (i := 71) rfl (sub_cons (i := 72) rfl (sub_cons (i := 73) rfl (sub_cons (i := 74) rfl (sub_cons (i := 75) rfl (sub_cons (i := 76) rfl (sub_cons (i := 77) rfl (sub_cons (i := 78) rfl (sub_cons (i := 79) rfl (sub_cons (i := 80) rfl (sub_cons (i := 81) rfl (sub_cons (i := 82) rfl (sub_cons (i := 83) rfl (sub_cons (i := 84) rfl (sub_cons (i := 85) rfl (sub_cons (i := 86) rfl (sub_cons (i := 87) rfl (sub_cons (i := 88) rfl (sub_cons (i := 89) rfl (sub_cons (i := 90) rfl (sub_cons (i := 91) rfl (sub_cons (i := 92) rfl (sub_cons (i := 93) rfl (sub_cons (i := 94) rfl (sub_cons (i := 95) rfl (sub_cons (i := 96) rfl (sub_cons (i := 97) rfl (sub_cons (i := 98) rfl (sub_cons (i := 99) rfl (sub_cons (i := 100) rfl (sub_cons (i := 101) rfl (sub_cons (i := 102) rfl (sub_cons (i := 103) rfl (sub_cons (i := 104) rfl (sub_cons (i := 105) rfl (sub_cons (i := 106) rfl (sub_cons (i := 107) rfl (sub_cons (i := 108) rfl (sub_cons (i := 109) rfl (sub_cons (i := 110) rfl (sub_cons (i := 111) rfl (sub_cons (i := 112) rfl (sub_cons (i := 113) rfl (sub_cons (i := 114) rfl (sub_cons (i := 115) rfl (sub_cons (i := 116) rfl (sub_cons (i := 117) rfl (sub_cons (i := 118) rfl (sub_cons (i := 119) rfl (sub_cons (i := 120) rfl (sub_cons (i := 121) rfl sub_nil)))))))))))))))))))))))))))))))))))))))))))))))))))))))))))))))))))))))))))))))))))))
            clear f138
            refine wp_seq_k fun K29 hK29 => ?_
            refine wp_seq_k fun K30 hK30 => ?_
            refine C.region ?_
            refine L.val f139 wantedN rfl (by decide) (E.move f139 rfl) fun a140 f140 => ?_
            clear f139 a138
            refine L.val f140 wantedN rfl (by decide) (E.eqlS f140 rfl rfl) fun a141 f141 => ?_
            clear f140 a140
            have f142 := f141.as (i := 123) (v' := .bool true) rfl (by simp [nameS])
            clear f141
            refine L.val f142 wantedN rfl (by decide) (E.move f142 rfl) fun a143 f143 => ?_
            clear f142 a141
            refine L.skip f143 (f143.noF rfl rfl) rfl (by decide) fun a144 f144 => ?_
            clear f143 a143
            refine L.skip f144 (f144.noF rfl rfl) rfl (by decide) fun a145 f145 => ?_
            clear f144 a144
            refine L.val f145 wantedN rfl (by decide) (E.pickT f145 rfl rfl) fun a146 f146 => ?_
            clear f145 a145
            refine L.val f146 wantedN rfl (by decide) (E.move f146 rfl) fun a147 f147 => ?_
            clear f146 a146
            refine L.skip f147 (f147.noF rfl rfl) rfl (by decide) fun a148 f148 => ?_
            clear f147 a147
            refine L.skip f148 (f148.noF rfl rfl) rfl (by decide) fun a149 f149 => ?_
            clear f148 a148
            refine L.val f149 wantedN rfl (by decide) (E.pickT f149 rfl rfl) fun a150 f150 => ?_
            clear f149 a149
            refine wpList_nil (hK30 _ _ ?_)
            try clear hK30 K30
            have f151 := f150.sub (sub_cons (i := 14) rfl (sub_cons (i := 15) rfl (sub_cons (i := 16) rfl (sub_cons (i := 17) rfl (sub_cons (i := 18) rfl (sub_cons (i := 19) rfl (sub_cons (i := 20) rfl (sub_cons (i := 21) rfl (sub_cons (i := 45) rfl (sub_cons (i := 46) rfl (sub_cons (i := 47) rfl (sub_cons (i := 48) rfl (sub_cons (i := 49) rfl (sub_cons (i := 50) rfl (sub_cons (i := 51) rfl (sub_cons (i := 52) rfl (sub_cons (i := 53) rfl (sub_cons (i := 54) rfl (sub_cons (i := 55) rfl (sub_cons (i := 56) rfl (sub_cons (i := 57) rfl (sub_cons (i := 58) rfl (sub_cons (i := 59) rfl (sub_cons (i := 60) rfl (sub_cons (i := 61) rfl (sub_cons (i := 62) rfl (sub_cons (i := 63) rfl (sub_cons (i := 64) rfl (sub_cons (i := 65) rfl (sub_cons (i := 66) rfl (sub_cons (i := 67) rfl (sub_cons (i := 68) rfl (sub_cons (i := 69) rfl (sub_cons (i := 70) rfl (sub_cons (i := 71) rfl (sub_cons (i := 72) rfl (sub_cons (i := 73) rfl (sub_cons (i := 74) rfl (sub_cons (i := 75) rfl (sub_cons (i := 76) rfl (sub_cons (i := 77) rfl (sub_cons (i := 78) rfl (sub_cons (i := 79) rfl (sub_cons (i := 80) rfl (sub_cons (i := 81) rfl (sub_cons (i := 82) rfl (sub_cons (i := 83) rfl (sub_cons (i := 84) rfl (sub_cons (i := 85) rfl (sub_cons (i := 86) rfl (sub_cons (i := 87) rfl (sub_cons (i := 88) rfl (sub_cons (i := 89) rfl (sub_cons (i := 90) rfl (sub_cons (i := 91) rfl (sub_cons (i := 92) rfl (sub_cons (i := 93) rfl (sub_cons (i := 94) rfl (sub_cons (i := 95) rfl (sub_cons (i := 96) rfl (sub_cons (i := 97) rfl (sub_cons (i := 98) rfl (sub_cons (i := 99) rfl (sub_cons (i := 100) rfl (sub_cons (i := 101) rfl (sub_cons (i := 102) rfl (sub_cons (i := 103) rfl (sub_cons (i := 104) rfl (sub_cons (i := 105) rfl (sub_cons (i := 106) rfl (sub_cons (i := 107) rfl (sub_cons (i := 108) rfl (sub_cons (i := 109) rfl (sub_cons (i := 110) rfl (sub_cons (i := 111) rfl (sub_cons (i := 112) rfl (sub_cons (i := 113) rfl (sub_cons (i := 114) rfl (sub_cons (i := 115) rfl (sub_cons (i := 116) rfl (sub_cons (i := 117) rfl (sub_cons (i := 118) rfl (sub_cons (i := 119) rfl (sub_cons (i := 120) rfl (sub_cons (i := 121) rfl (sub_cons (i := 122) rfl (sub_cons (i := 123) rfl (sub_cons (i := 124) rfl (sub_cons (i := 125) rfl (sub_cons (i := 126) rfl (sub_cons (i := 127) rfl (sub_cons (i := 128) rfl (sub_cons (i := 129) rfl (sub_cons (i := 130) rfl (sub_cons (i := 131) rfl sub_nil)))))))))))))))))))))))))))))))))))))))))))))))))))))))))))))))))))))))))))))))))))))))))))))))
            clear f150
            refine C.condT f151 rfl ?_
            refine C.region ?_
            refine L.val f151 wantedN rfl (by decide) (E.fieldAddr f151 Try.underlying28 rfl rfl wsz3) fun a152 f152 => ?_
            clear f151 a150
            refine L.val f152 wantedN rfl (by decide) (by first | exact E.load f152 Try.underlying3 rfl rfl ((Bg7).cell_ rfl) | exact E.load f152 Try.underlying3 rfl rfl ((Bg11).cell_ rfl) | exact E.load f152 Try.underlying3 rfl rfl ((Bg14).cell_ rfl)) fun a153 f153 => ?_
            clear f152 a152
            refine L.val f153 wantedN rfl (by decide) (E.assign f153 rfl) fun a154 f154 => ?_
            clear f153 a153
            refine wpList_nil (hK29 _ _ ?_)
            try clear hK29 K29
            have f155 := f154.sub (sub_cons (i := 14) rfl (sub_cons (i := 15) rfl (sub_cons (i := 16) rfl (sub_cons (i := 17) rfl (sub_cons (i := 18) rfl (sub_cons (i := 19) rfl (sub_cons (i := 20) rfl (sub_cons (i := 21) rfl (sub_cons (i := 45) rfl (sub_cons (i := 46) rfl (sub_cons (i := 47) rfl (sub_cons (i := 48) rfl (sub_cons (i := 49) rfl (sub_cons (i := 50) rfl (sub_cons (i := 51) rfl (sub_cons (i := 52) rfl (sub_cons (i := 53) rfl (sub_cons (i := 54) rfl (sub_cons (i := 55) rfl (sub_cons (i := 56) rfl (sub_cons (i := 57) rfl (sub_cons (i := 58) rfl (sub_cons (i := 59) rfl (sub_cons (i := 60) rfl (sub_cons (i := 61) rfl (sub_cons (i := 62) rfl (sub_cons (i := 63) rfl (sub_cons (i := 64) rfl (sub_cons (i := 65) rfl (sub_cons (i := 66) rfl (sub_cons (i := 67) rfl (sub_cons (i := 68) rfl (sub_cons (i := 69) rfl (sub_cons (i := 70) rfl (sub_cons (i := 71) rfl (sub_cons (i := 72) rfl (sub_cons (i := 73) rfl (sub_cons (i := 74) rfl (sub_cons (i := 75) rfl (sub_cons (i := 76) rfl (sub_cons (i := 77) rfl (sub_cons (i := 78) rfl (sub_cons (i := 79) rfl (sub_cons (i := 80) rfl (sub_cons (i := 81) rfl (sub_cons (i := 82) rfl (sub_cons (i := 83) rfl (sub_cons (i := 84) rfl (sub_cons (i := 85) rfl (sub_cons (i := 86) rfl (sub_cons (i := 87) rfl (sub_cons (i := 88) rfl (sub_cons (i := 89) rfl (sub_cons (i := 90) rfl (sub_cons (i := 91) rfl (sub_cons (i := 92) rfl (sub_cons (i := 93) rfl (sub_cons (i := 94) rfl (sub_cons (i := 95) rfl (sub_cons (i := 96) rfl (sub_cons (i := 97) rfl (sub_cons (i := 98) rfl (sub_cons (i := 99) rfl (sub_cons (i := 100) rfl (sub_cons (i := 101) rfl (sub_cons (i := 102) rfl (sub_cons (i := 103) rfl (sub_cons (i := 104) rfl (sub_cons (i := 105) rfl (sub_cons (i := 106) rfl (sub_cons (i := 107) rfl (sub_cons (i := 108) rfl (sub_cons (i := 109) rfl (sub_cons (i := 110) rfl (sub_cons (i := 111) rfl (sub_cons (i := 112) rfl (sub_cons (i := 113) rfl (sub_cons (i := 114) rfl (sub_cons (i := 115) rfl (sub_cons (i := 116) rfl (sub_cons (i := 117) rfl (sub_cons (i := 118) rfl (sub_cons (i := 119) rfl (sub_cons (i := 120) rfl (sub_cons (i := 121) rfl (sub_cons (i := 122) rfl (sub_cons (i := 123) rfl (sub_cons (i := 124) rfl (sub_cons (i := 125) rfl (sub_cons (i := 126) rfl (sub_cons (i := 127) rfl (sub_cons (i := 128) rfl (sub_cons (i := 129) rfl (sub_cons (i := 130) rfl (sub_cons (i := 131) rfl (sub_cons (i := 132) rfl (sub_cons (i := 133) rfl sub_nil)))))))))))))))))))))))))))))))))))))))))))))))))))))))))))))))))))))))))))))))))))))))))))))))))
            clear f154
            refine wp_seq_k fun K31 hK31 => ?_
            refine C.region ?_
            refine L.val f155 wantedN rfl (by decide) (E.move f155 rfl) fun a156 f156 => ?_
            clear f155 a154
            refine L.call f156 wantedN rfl (by decide) (run_call Try.call15 (args1 f156 rfl)) (id_of 1 (by decide) p s10 _) ?_
            rintro e w20 ⟨rfl, kb20⟩
            have kc20 := Kept.of_below kb20 []
            refine ⟨_, rfl, fun a157 f157 => ?_⟩
            clear f156 a156
            have szw20 := kc20.size
            replace HK := HK.trans kc20 (by simp)
            replace T := T.kept kc20 (by simp) (Same.of_kept kc20 (by simp))
            replace O := O.same (Same.of_kept kc20 (by simp))
            replace Bg7 := Bg7.kept kc20 (by simp)
            replace O10 := O10.same (Same.of_kept kc20 (by simp))
            replace O11 := O11.same (Same.of_kept kc20 (by simp))
            replace Bg11 := Bg11.kept kc20 (by simp)
            replace O14 := O14.same (Same.of_kept kc20 (by simp))
            replace Bg14 := Bg14.kept kc20 (by simp)
            clear kc20
            clear kb20
            refine L.val f157 wantedN rfl (by decide) (E.move f157 rfl) fun a158 f158 => ?_
            clear f157 a157
            refine L.val f158 wantedN rfl (by decide) (E.neq f158 rfl rfl) fun a159 f159 => ?_
            clear f158 a158
            have f160 := f159.as (i := 137) (v' := .bool false) rfl (by simp [idOf])
            clear f159
            refine wpList_nil (hK31 _ _ ?_)
            try clear hK31 K31
            have f161 := f160.sub (sub_cons (i := 14) rfl (sub_cons (i := 15) rfl (sub_cons (i := 16) rfl (sub_cons (i := 17) rfl (sub_cons (i := 18) rfl (sub_cons (i := 19) rfl (sub_cons (i := 20) rfl (sub_cons (i := 21) rfl (sub_cons (i := 45) rfl (sub_cons (i := 46) rfl (sub_cons (i := 47) rfl (sub_cons (i := 48) rfl (sub_cons (i := 49) rfl (sub_cons (i := 50) rfl (sub_cons (i := 51) rfl (sub_cons (i := 52) rfl (sub_cons (i := 53) rfl (sub_cons (i := 54) rfl (sub_cons (i := 55) rfl (sub_cons (i := 56) rfl (sub_cons (i := 57) rfl (sub_cons (i := 58) rfl (sub_cons (i := 59) rfl (sub_cons (i := 60) rfl (sub_cons (i := 61) rfl (sub_cons (i := 62) rfl (sub_cons (i := 63) rfl (sub_cons (i := 64) rfl (sub_cons (i := 65) rfl (sub_cons (i := 66) rfl (sub_cons (i := 67) rfl (sub_cons (i := 68) rfl (sub_cons (i := 69) rfl (sub_cons (i := 70) rfl (sub_cons (i := 71) rfl (sub_cons (i := 72) rfl (sub_cons (i := 73) rfl (sub_cons (i := 74) rfl (sub_cons (i := 75) rfl (sub_cons (i := 76) rfl (sub_cons (i := 77) rfl (sub_cons (i := 78) rfl (sub_cons (i := 79) rfl (sub_cons (i := 80) rfl (sub_cons (i := 81) rfl (sub_cons (i := 82) rfl (sub_cons (i := 83) rfl (sub_cons (i := 84) rfl (sub_cons (i := 85) rfl (sub_cons (i := 86) rfl (sub_cons (i := 87) rfl (sub_cons (i := 88) rfl (sub_cons (i := 89) rfl (sub_cons (i := 90) rfl (sub_cons (i := 91) rfl (sub_cons (i := 92) rfl (sub_cons (i := 93) rfl (sub_cons (i := 94) rfl (sub_cons (i := 95) rfl (sub_cons (i := 96) rfl (sub_cons (i := 97) rfl (sub_cons (i := 98) rfl (sub_cons (i := 99) rfl (sub_cons (i := 100) rfl (sub_cons (i := 101) rfl (sub_cons (i := 102) rfl (sub_cons (i := 103) rfl (sub_cons (i := 104) rfl (sub_cons (i := 105) rfl (sub_cons (i := 106) rfl (sub_cons (i := 107) rfl (sub_cons (i := 108) rfl (sub_cons (i := 109) rfl (sub_cons (i := 110) rfl (sub_cons (i := 111) rfl (sub_cons (i := 112) rfl (sub_cons (i := 113) rfl (sub_cons (i := 114) rfl (sub_cons (i := 115) rfl (sub_cons (i := 116) rfl (sub_cons (i := 117) rfl (sub_cons (i := 118) rfl (sub_cons (i := 119) rfl (sub_cons (i := 120) rfl (sub_cons (i := 121) rfl (sub_cons (i := 122) rfl (sub_cons (i := 123) rfl (sub_cons (i := 124) rfl (sub_cons (i := 125) rfl (sub_cons (i := 126) rfl (sub_cons (i := 127) rfl (sub_cons (i := 128) rfl (sub_cons (i := 129) rfl (sub_cons (i := 130) rfl (sub_cons (i := 131) rfl (sub_cons (i := 132) rfl (sub_cons (i := 133) rfl (sub_cons (i := 134) rfl (sub_cons (i := 135) rfl (sub_cons (i := 136) rfl (sub_cons (i := 137) rfl sub_nil)))))))))))))))))))))))))))))))))))))))))))))))))))))))))))))))))))))))))))))))))))))))))))))))))))))
            clear f160
            refine C.condF f161 rfl ?_
            refine wp_skip (hK12 _ _ ?_)
            try clear hK12 K12
            have f162 := f161.sub (sub_cons (i := 14) rfl (sub_cons (i := 15) rfl (sub_cons (i := 16) rfl (sub_cons (i := 17) rfl (sub_cons (i := 18) rfl (sub_cons (i := 19) rfl (sub_cons (i := 20) rfl (sub_cons (i := 21) rfl (sub_cons (i := 45) rfl (sub_cons (i := 46) rfl (sub_cons (i := 47) rfl (sub_cons (i := 48) rfl (sub_cons (i := 49) rfl (sub_cons (i := 50) rfl (sub_cons (i := 51) rfl (sub_cons (i := 52) rfl (sub_cons (i := 53) rfl (sub_cons (i := 54) rfl (sub_cons (i := 55) rfl (sub_cons (i := 56) rfl (sub_cons (i := 57) rfl (sub_cons (i := 58) rfl (sub_cons (i := 59) rfl (sub_cons (i := 60) rfl (sub_cons (i := 61) rfl (sub_cons (i := 62) rfl (sub_cons (i := 63) rfl (sub_cons (i := 64) rfl (sub_cons (i := 65) rfl (sub_cons (i := 66) rfl (sub_cons (i := 67) rfl (sub_cons (i := 68) rfl (sub_cons (i := 69) rfl (sub_cons (i := 70) rfl (sub_cons (i := 71) rfl (sub_cons (i := 72) rfl (sub_cons (i := 73) rfl (sub_cons (i := 74) rfl (sub_cons (i := 75) rfl (sub_cons (i := 76) rfl (sub_cons (i := 77) rfl (sub_cons (i := 78) rfl (sub_cons (i := 79) rfl (sub_cons (i := 80) rfl (sub_cons (i := 81) rfl (sub_cons (i := 82) rfl (sub_cons (i := 83) rfl (sub_cons (i := 84) rfl (sub_cons (i := 85) rfl (sub_cons (i := 86) rfl (sub_cons (i := 87) rfl (sub_cons (i := 88) rfl (sub_cons (i := 89) rfl (sub_cons (i := 90) rfl (sub_cons (i := 91) rfl (sub_cons (i := 92) rfl (sub_cons (i := 93) rfl (sub_cons (i := 94) rfl (sub_cons (i := 95) rfl (sub_cons (i := 96) rfl (sub_cons (i := 97) rfl (sub_cons (i := 98) rfl (sub_cons (i := 99) rfl (sub_cons (i := 100) rfl (sub_cons (i := 101) rfl (sub_cons (i := 102) rfl (sub_cons (i := 103) rfl (sub_cons (i := 104) rfl (sub_cons (i := 105) rfl (sub_cons (i := 106) rfl (sub_cons (i := 107) rfl (sub_cons (i := 108) rfl (sub_cons (i := 109) rfl (sub_cons (i := 110) rfl (sub_cons (i := 111) rfl (sub_cons (i := 112) rfl (sub_cons (i := 113) rfl (sub_cons (i := 114) rfl (sub_cons (i := 115) rfl (sub_cons (i := 116) rfl (sub_cons (i := 117) rfl (sub_cons (i := 118) rfl (sub_cons (i := 119) rfl (sub_cons (i := 120) rfl (sub_cons (i := 121) rfl (sub_cons (i := 122) rfl (sub_cons (i := 123) rfl (sub_cons (i := 124) rfl (sub_cons (i := 125) rfl (sub_cons (i := 126) rfl (sub_cons (i := 127) rfl (sub_cons (i := 128) rfl (sub_cons (i := 129) rfl (sub_cons (i := 130) rfl (sub_cons (i := 131) rfl (sub_cons (i := 132) rfl (sub_cons (i := 133) rfl (sub_cons (i := 134) rfl (sub_cons (i := 135) rfl (sub_cons (i := 136) rfl (sub_cons (i := 137) rfl sub_nil)))))))))))))))))))))))))))))))))))))))))))))))))))))))))))))))))))))))))))))))))))))))))))))))))))))
            clear f161
            refine C.region ?_
            refine L.val f162 wantedN rfl (by decide) (E.add f162 rfl rfl (IntWalk.i64_in _ (by omega))) fun a163 f163 => ?_
            clear f162 a159
            refine L.val f163 wantedN rfl (by decide) (E.move f163 rfl) fun a164 f164 => ?_
            clear f163 a163
            refine wpList_nil (hKL9 _ _ (gk10 - 1) ?_ ?_)
            · omega
            · exact ⟨i + 1, by omega, HK, T, by omega, f164.sub (sub_cons rfl (sub_cons rfl (sub_cons rfl sub_nil)))⟩
          · have hkq := hkp
            refine C.region ?_
            refine L.val f51 wantedN rfl (by decide) (E.move f51 rfl) fun a52 f52 => ?_
            clear f51 a50
            refine L.call f52 wantedN rfl (by decide) (run_call Try.call10 (args1 f52 rfl)) (packet_of w.heap.size 2 (by decide) p s10 _ O10 hl.small HK.size) ?_
            rintro e w11 ⟨s11, rfl, O11, kb11⟩
            have kc11 := Kept.of_below kb11 []
            refine ⟨_, rfl, fun a53 f53 => ?_⟩
            clear f52 a52
            have szw11 := kc11.size
            replace HK := HK.trans kc11 (by simp)
            replace T := T.kept kc11 (by simp) (Same.of_kept kc11 (by simp))
            replace O := O.same (Same.of_kept kc11 (by simp))
            replace Bg7 := Bg7.kept kc11 (by simp)
            replace O10 := O10.same (Same.of_kept kc11 (by simp))
            clear kc11
            clear kb11
            refine L.val f53 wantedN rfl (by decide) (E.move f53 rfl) fun a54 f54 => ?_
            clear f53 a53
            refine L.val f54 wantedN rfl (by decide) (E.extract f54 rfl rfl) fun a55 f55 => ?_
            clear f54 a54
            refine L.val f55 wantedN rfl (by decide) (E.extract f55 rfl rfl) fun a56 f56 => ?_
            clear f55 a55
            refine L.alloc f56 wantedN (by decide) (z := (.agg #[(.int .i64 0), (.bool false), (.bool false), (.int .i64 0), (.int .i64 0), (.string ⟨#[]⟩), (.slice none 0 0), (.int .i64 0), (.string ⟨#[]⟩), (.bool false), (.int .i64 0), (.bool false), (.string ⟨#[]⟩), (.slice none 0 0), (.int .i64 0), (.bool false), (.bool false), (.bool false), (.string ⟨#[]⟩), (.slice none 0 0), (.bool false), (.int .i64 0), (.slice none 0 0), (.slice none 0 0)])) (fun _ => by kernel_rfl) rfl fun a57 w12 g11 N11 f57 => ?_
            have Bg11 := N11.blk
            have kg11 := N11.kept
            have log11 := N11.lo
            have ltg11 := Bg11.lt
            have szw12 := kg11.size
            have frg11 : w.heap.size ≤ g11 := Nat.le_trans HK.size log11
            have neg7_g11 : g7 ≠ g11 := by have := Bg7.lt; omega
            replace HK := HK.trans kg11 (by simp)
            replace T := T.kept kg11 (by simp) (Same.of_kept kg11 (by simp))
            replace O := O.same (Same.of_kept kg11 (by simp))
            replace Bg7 := Bg7.kept kg11 (by simp)
            replace O10 := O10.same (Same.of_kept kg11 (by simp))
            replace O11 := O11.same (Same.of_kept kg11 (by simp))
            clear N11 kg11
            clear f56 a56
            refine L.storeR f57 wantedN wsz28 rfl rfl rfl Bg11 rfl rfl fun a58 w13 f58 NB13 ks13 => ?_
            have szw13 := ks13.size
            replace HK := HK.trans ks13 (by intro x hx hlt; simp at hx; subst hx; first | (exfalso; omega) | simp)
            replace T := T.kept ks13 (by simp; omega) (Same.of_kept ks13 (by intro x hx hlt; simp at hx; subst hx; exact ⟨by omega, Bg11.not_typ (by decide)⟩))
            replace O := O.same (Same.of_kept ks13 (by intro x hx hlt; simp at hx; subst hx; exact ⟨by omega, Bg11.not_typ (by decide)⟩))
            replace Bg7 := Bg7.kept ks13 (by simp; omega)
            replace O10 := O10.same (Same.of_kept ks13 (by intro x hx hlt; simp at hx; subst hx; exact ⟨by omega, Bg11.not_typ (by decide)⟩))
            replace O11 := O11.same (Same.of_kept ks13 (by intro x hx hlt; simp at hx; subst hx; exact ⟨by omega, Bg11.not_typ (by decide)⟩))
            replace Bg11 := NB13
            clear ks13 f57 a57
            refine L.val f58 wantedN rfl (by decide) (E.assign f58 rfl) fun a59 f59 => ?_
            clear f58 a58
            refine wpList_nil (hK15 _ _ ?_)
            try clear hK15 K15
            have f60 := f59.sub (sub_cons (i := 14) rfl (sub_cons (i := 15) rfl (sub_cons (i := 16) rfl (sub_cons (i := 17) rfl (sub_cons (i := 45) rfl (sub_cons (i := 46) rfl (sub_cons (i := 47) rfl (sub_cons (i := 48) rfl (sub_cons (i := 49) rfl (sub_cons (i := 50) rfl (sub_cons (i := 51) rfl (sub_cons (i := 52) rfl (sub_cons (i := 53) rfl (sub_cons (i := 54) rfl (sub_cons (i := 55) rfl (sub_cons (i := 56) rfl (sub_cons (i := 57) rfl sub_nil)))))))))))))))))
            clear f59
            refine wp_seq_k fun K32 hK32 => ?_
            refine C.region ?_
            refine L.val f60 wantedN rfl (by decide) (E.move f60 rfl) fun a61 f61 => ?_
            clear f60 a59
            refine L.call f61 wantedN rfl (by decide) (run_call Try.call11 (args1 f61 rfl)) (try_other _ (.inr ⟨_, _, rfl, by decide⟩) _) ?_
            rintro e w14 ⟨rfl, kb14⟩
            have kc14 := Kept.of_below kb14 []
            refine ⟨_, rfl, fun a62 f62 => ?_⟩
            clear f61 a61
            have szw14 := kc14.size
            replace HK := HK.trans kc14 (by simp)
            replace T := T.kept kc14 (by simp) (Same.of_kept kc14 (by simp))
            replace O := O.same (Same.of_kept kc14 (by simp))
            replace Bg7 := Bg7.kept kc14 (by simp)
            replace O10 := O10.same (Same.of_kept kc14 (by simp))
            replace O11 := O11.same (Same.of_kept kc14 (by simp))
            replace Bg11 := Bg11.kept kc14 (by simp)
            clear kc14
            clear kb14
            refine L.val f62 wantedN rfl (by decide) (E.move f62 rfl) fun a63 f63 => ?_
            clear f62 a62
            refine L.val f63 wantedN rfl (by decide) (E.extract f63 rfl rfl) fun a64 f64 => ?_
            clear f63 a63
            refine L.val f64 wantedN rfl (by decide) (E.extract f64 rfl rfl) fun a65 f65 => ?_
            clear f64 a64
            refine L.alloc f65 wantedN (by decide) (z := (.agg #[(.int .i64 0), (.bool false), (.bool false), (.int .i64 0), (.int .i64 0), (.string ⟨#[]⟩), (.slice none 0 0), (.int .i64 0), (.string ⟨#[]⟩), (.bool false), (.int .i64 0), (.bool false), (.string ⟨#[]⟩), (.slice none 0 0), (.int .i64 0), (.bool false), (.bool false), (.bool false), (.string ⟨#[]⟩), (.slice none 0 0), (.bool false), (.int .i64 0), (.slice none 0 0), (.slice none 0 0)])) (fun _ => by kernel_rfl) rfl fun a66 w15 g14 N14 f66 => ?_
            have Bg14 := N14.blk
            have kg14 := N14.kept
            have log14 := N14.lo
            have ltg14 := Bg14.lt
            have szw15 := kg14.size
            have frg14 : w.heap.size ≤ g14 := Nat.le_trans HK.size log14
            have neg7_g14 : g7 ≠ g14 := by have := Bg7.lt; omega
            have neg11_g14 : g11 ≠ g14 := by have := Bg11.lt; omega
            replace HK := HK.trans kg14 (by simp)
            replace T := T.kept kg14 (by simp) (Same.of_kept kg14 (by simp))
            replace O := O.same (Same.of_kept kg14 (by simp))
            replace Bg7 := Bg7.kept kg14 (by simp)
            replace O10 := O10.same (Same.of_kept kg14 (by simp))
            replace O11 := O11.same (Same.of_kept kg14 (by simp))
            replace Bg11 := Bg11.kept kg14 (by simp)
            clear N14 kg14
            clear f65 a65
            refine L.storeR f66 wantedN wsz37 rfl rfl rfl Bg14 rfl rfl fun a67 w16 f67 NB16 ks16 => ?_
            have szw16 := ks16.size
            replace HK := HK.trans ks16 (by intro x hx hlt; simp at hx; subst hx; first | (exfalso; omega) | simp)
            replace T := T.kept ks16 (by simp; omega) (Same.of_kept ks16 (by intro x hx hlt; simp at hx; subst hx; exact ⟨by omega, Bg14.not_typ (by decide)⟩))
            replace O := O.same (Same.of_kept ks16 (by intro x hx hlt; simp at hx; subst hx; exact ⟨by omega, Bg14.not_typ (by decide)⟩))
            replace Bg7 := Bg7.kept ks16 (by simp; omega)
            replace O10 := O10.same (Same.of_kept ks16 (by intro x hx hlt; simp at hx; subst hx; exact ⟨by omega, Bg14.not_typ (by decide)⟩))
            replace O11 := O11.same (Same.of_kept ks16 (by intro x hx hlt; simp at hx; subst hx; exact ⟨by omega, Bg14.not_typ (by decide)⟩))
            replace Bg11 := Bg11.kept ks16 (by simp; omega)
            replace Bg14 := NB16
            clear ks16 f66 a66
            refine L.val f67 wantedN rfl (by decide) (E.assign f67 rfl) fun a68 f68 => ?_
            clear f67 a67
            refine wpList_nil (hK32 _ _ ?_)
            try clear hK32 K32
            have f69 := f68.sub (sub_cons (i := 14) rfl (sub_cons (i := 15) rfl (sub_cons (i := 16) rfl (sub_cons (i := 17) rfl (sub_cons (i := 18) rfl (sub_cons (i := 19) rfl (sub_cons (i := 45) rfl (sub_cons (i := 46) rfl (sub_cons (i := 47) rfl (sub_cons (i := 48) rfl (sub_cons (i := 49) rfl (sub_cons (i := 50) rfl (sub_cons (i := 51) rfl (sub_cons (i := 52) rfl (sub_cons (i := 53) rfl (sub_cons (i := 54) rfl (sub_cons (i := 55) rfl (sub_cons (i := 56) rfl (sub_cons (i := 57) rfl (sub_cons (i := 58) rfl (sub_cons (i := 59) rfl (sub_cons (i := 60) rfl (sub_cons (i := 61) rfl (sub_cons (i := 62) rfl sub_nil))))))))))))))))))))))))
            clear f68
            refine wp_seq_k fun K33 hK33 => ?_
            refine C.region ?_
            refine L.val f69 wantedN rfl (by decide) (E.fieldAddr f69 Try.underlying28 rfl rfl wsz3) fun a70 f70 => ?_
            clear f69 a68
            refine L.val f70 wantedN rfl (by decide) (by first | exact E.load f70 Try.underlying3 rfl rfl ((Bg7).cell_ rfl) | exact E.load f70 Try.underlying3 rfl rfl ((Bg11).cell_ rfl) | exact E.load f70 Try.underlying3 rfl rfl ((Bg14).cell_ rfl)) fun a71 f71 => ?_
            clear f70 a70
            refine L.call f71 wantedN rfl (by decide) (run_call Try.call12 (args1 f71 rfl)) (name_n hkp _) ?_
            rintro e w16x ⟨rfl, rfl⟩
            refine ⟨_, rfl, fun a72 f72 => ?_⟩
            clear f71 a71
            refine L.val f72 wantedN rfl (by decide) (E.assign f72 rfl) fun a73 f73 => ?_
            clear f72 a72
            refine wpList_nil (hK33 _ _ ?_)
            try clear hK33 K33
            have f74 := f73.sub (sub_cons (i := 14) rfl (sub_cons (i := 15) rfl (sub_cons (i := 16) rfl (sub_cons (i := 17) rfl (sub_cons (i := 18) rfl (sub_cons (i := 19) rfl (sub_cons (i := 20) rfl (sub_cons (i := 45) rfl (sub_cons (i := 46) rfl (sub_cons (i := 47) rfl (sub_cons (i := 48) rfl (sub_cons (i := 49) rfl (sub_cons (i := 50) rfl (sub_cons (i := 51) rfl (sub_cons (i := 52) rfl (sub_cons (i := 53) rfl (sub_cons (i := 54) rfl (sub_cons (i := 55) rfl (sub_cons (i := 56) rfl (sub_cons (i := 57) rfl (sub_cons (i := 58) rfl (sub_cons (i := 59) rfl (sub_cons (i := 60) rfl (sub_cons (i := 61) rfl (sub_cons (i := 62) rfl (sub_cons (i := 63) rfl (sub_cons (i := 64) rfl (sub_cons (i := 65) rfl sub_nil))))))))))))))))))))))))))))
            clear f73
            refine wp_seq_k fun K34 hK34 => ?_
            refine wp_seq_k fun K35 hK35 => ?_
            refine C.region ?_
            refine L.val f74 wantedN rfl (by decide) (E.move f74 rfl) fun a75 f75 => ?_
            clear f74 a73
            refine L.call f75 wantedN rfl (by decide) (run_call Try.call13 (args1 f75 rfl)) (name_of 2 (by decide) _ _) ?_
            rintro e w17 ⟨rfl, kb17⟩
            have kc17 := Kept.of_below kb17 []
            refine ⟨_, rfl, fun a76 f76 => ?_⟩
            clear f75 a75
            have szw17 := kc17.size
            replace HK := HK.trans kc17 (by simp)
            replace T := T.kept kc17 (by simp) (Same.of_kept kc17 (by simp))
            replace O := O.same (Same.of_kept kc17 (by simp))
            replace Bg7 := Bg7.kept kc17 (by simp)
            replace O10 := O10.same (Same.of_kept kc17 (by simp))
            replace O11 := O11.same (Same.of_kept kc17 (by simp))
            replace Bg11 := Bg11.kept kc17 (by simp)
            replace Bg14 := Bg14.kept kc17 (by simp)
            clear kc17
            clear kb17
            refine L.val f76 wantedN rfl (by decide) (E.move f76 rfl) fun a77 f77 => ?_
            clear f76 a76
            refine L.val f77 wantedN rfl (by decide) (E.neqS f77 rfl rfl) fun a78 f78 => ?_
            clear f77 a77
            have f79 := f78.as (i := 69) (v' := .bool false) rfl (by simp [nameS])
            clear f78
            refine L.val f79 wantedN rfl (by decide) (E.move f79 rfl) fun a80 f80 => ?_
            clear f79 a78
            refine L.val f80 (f80.yes rfl rfl) rfl (by decide) (E.move f80 rfl) fun a81 f81 => ?_
            clear f80 a80
            refine L.val f81 (f81.yes rfl rfl) rfl (by decide) (E.move f81 rfl) fun a82 f82 => ?_
            clear f81 a81
            refine L.val f82 (f82.yes rfl rfl) rfl (by decide) (E.neqS f82 rfl rfl) fun a83 f83 => ?_
            clear f82 a82
            have f84 := f83.as (i := 73) (v' := .bool true) rfl (by simp [nameS])
            clear f83
            refine L.val f84 (f84.yes rfl rfl) rfl (by decide) (E.neqB f84 Try.underlying4 rfl rfl) fun a85 f85 => ?_
            clear f84 a83
            have f86 := f85.as (i := 74) (v' := .bool false) rfl rfl
            clear f85
            refine L.val f86 wantedN rfl (by decide) (E.pickF f86 rfl rfl) fun a87 f87 => ?_
            clear f86 a85
            refine L.val f87 wantedN rfl (by decide) (E.move f87 rfl) fun a88 f88 => ?_
            clear f87 a87
            refine L.val f88 (f88.yes rfl rfl) rfl (by decide) (E.move f88 rfl) fun a89 f89 => ?_
            clear f88 a88
            refine L.val f89 (f89.yes rfl rfl) rfl (by decide) (E.move f89 rfl) fun a90 f90 => ?_
            clear f89 a89
            refine L.val f90 (f90.yes rfl rfl) rfl (by decide) (by first | exact E.loadB f90 Try.underlying28 rfl wsz28 rfl (Bg7) rfl | exact E.loadB f90 Try.underlying28 rfl wsz28 rfl (Bg11) rfl | exact E.loadB f90 Try.underlying28 rfl wsz28 rfl (Bg14) rfl | exact E.loadA f90 Try.underlying28 rfl wsz28 rfl (row24i hcs) rfl) fun a91 f91 => ?_
            clear f90 a90
            refine L.val f91 (f91.yes rfl rfl) rfl (by decide) (by first | exact E.loadB f91 Try.underlying28 rfl wsz28 rfl (Bg7) rfl | exact E.loadB f91 Try.underlying28 rfl wsz28 rfl (Bg11) rfl | exact E.loadB f91 Try.underlying28 rfl wsz28 rfl (Bg14) rfl | exact E.loadA f91 Try.underlying28 rfl wsz28 rfl (row24i hcs) rfl) fun a92 f92 => ?_
            clear f91 a91
            refine L.call f92 (f92.yes rfl rfl) rfl (by decide) (run_call Try.call14 (args2 f92 rfl rfl)) (same_any w.heap.size p s11 s _ O11 O hl.small) ?_
            rintro e w18 ⟨rfl, kb18⟩
            have kc18 := Kept.of_below kb18 []
            refine ⟨_, rfl, fun a93 f93 => ?_⟩
            clear f92 a92
            have szw18 := kc18.size
            replace HK := HK.trans kc18 (by simp)
            replace T := T.kept kc18 (by simp) (Same.of_kept kc18 (by simp))
            replace O := O.same (Same.of_kept kc18 (by simp))
            replace Bg7 := Bg7.kept kc18 (by simp)
            replace O10 := O10.same (Same.of_kept kc18 (by simp))
            replace O11 := O11.same (Same.of_kept kc18 (by simp))
            replace Bg11 := Bg11.kept kc18 (by simp)
            replace Bg14 := Bg14.kept kc18 (by simp)
            clear kc18
            clear kb18
            refine L.val f93 (f93.yes rfl rfl) rfl (by decide) (E.not f93 rfl) fun a94 f94 => ?_
            clear f93 a93
            refine L.val f94 (f94.yes rfl rfl) rfl (by decide) (E.pickT f94 rfl rfl) fun a95 f95 => ?_
            clear f94 a94
            refine L.val f95 wantedN rfl (by decide) (E.pickF f95 rfl rfl) fun a96 f96 => ?_
            clear f95 a95
            refine L.val f96 wantedN rfl (by decide) (E.move f96 rfl) fun a97 f97 => ?_
            clear f96 a96
            refine L.val f97 (f97.yes rfl rfl) rfl (by decide) (E.move f97 rfl) fun a98 f98 => ?_
            clear f97 a97
            refine L.val f98 (f98.yes rfl rfl) rfl (by decide) (E.not f98 rfl) fun a99 f99 => ?_
            clear f98 a98
            refine L.val f99 (f99.yes rfl rfl) rfl (by decide) (E.move f99 rfl) fun a100 f100 => ?_
            clear f99 a99
            refine L.skip f100 (f100.noT rfl rfl) rfl (by decide) fun a101 f101 => ?_
            clear f100 a100
            refine L.skip f101 (f101.noT rfl rfl) rfl (by decide) fun a102 f102 => ?_
            clear f101 a101
            refine L.skip f102 (f102.noT rfl rfl) rfl (by decide) fun a103 f103 => ?_
            clear f102 a102
            refine L.skip f103 (f103.noT rfl rfl) rfl (by decide) fun a104 f104 => ?_
            clear f103 a103
            refine L.val f104 (f104.yes rfl rfl) rfl (by decide) (E.pickF f104 rfl rfl) fun a105 f105 => ?_
            clear f104 a104
            refine L.val f105 wantedN rfl (by decide) (E.pickF f105 rfl rfl) fun a106 f106 => ?_
            clear f105 a105
            refine L.val f106 wantedN rfl (by decide) (E.move f106 rfl) fun a107 f107 => ?_
            clear f106 a106
            refine L.val f107 (f107.yes rfl rfl) rfl (by decide) (E.move f107 rfl) fun a108 f108 => ?_
            clear f107 a107
            refine L.val f108 (f108.yes rfl rfl) rfl (by decide) (E.move f108 rfl) fun a109 f109 => ?_
            clear f108 a108
            refine L.val f109 (f109.yes rfl rfl) rfl (by decide) (E.eqlS f109 rfl rfl) fun a110 f110 => ?_
            clear f109 a109
            have f111 := f110.as (i := 98) (v' := .bool false) rfl (by simp [nameS])
            clear f110
            refine L.val f111 (f111.yes rfl rfl) rfl (by decide) (E.neqB f111 Try.underlying4 rfl rfl) fun a112 f112 => ?_
            clear f111 a110
            have f113 := f112.as (i := 99) (v' := .bool false) rfl rfl
            clear f112
            refine L.val f113 wantedN rfl (by decide) (E.pickF f113 rfl rfl) fun a114 f114 => ?_
            clear f113 a112
            refine L.val f114 wantedN rfl (by decide) (E.move f114 rfl) fun a115 f115 => ?_
            clear f114 a114
            refine L.val f115 (f115.yes rfl rfl) rfl (by decide) (E.move f115 rfl) fun a116 f116 => ?_
            clear f115 a115
            refine L.val f116 (f116.yes rfl rfl) rfl (by decide) (E.move f116 rfl) fun a117 f117 => ?_
            clear f116 a116
            refine L.skip f117 (f117.noT rfl rfl) rfl (by decide) fun a118 f118 => ?_
            clear f117 a117
            refine L.skip f118 (f118.noT rfl rfl) rfl (by decide) fun a119 f119 => ?_
            clear f118 a118
            refine L.skip f119 (f119.noT rfl rfl) rfl (by decide) fun a120 f120 => ?_
            clear f119 a119
            refine L.skip f120 (f120.noT rfl rfl) rfl (by decide) fun a121 f121 => ?_
            clear f120 a120
            refine L.skip f121 (f121.noT rfl rfl) rfl (by decide) fun a122 f122 => ?_
            clear f121 a121
            refine L.val f122 (f122.yes rfl rfl) rfl (by decide) (E.pickF f122 rfl rfl) fun a123 f123 => ?_
            clear f122 a122
            refine L.val f123 wantedN rfl (by decide) (E.pickF f123 rfl rfl) fun a124 f124 => ?_
            clear f123 a123
            refine L.val f124 wantedN rfl (by decide) (E.move f124 rfl) fun a125 f125 => ?_
            clear f124 a124
            refine L.val f125 (f125.yes rfl rfl) rfl (by decide) (E.move f125 rfl) fun a126 f126 => ?_
            clear f125 a125
            refine L.val f126 (f126.yes rfl rfl) rfl (by decide) (E.not f126 rfl) fun a127 f127 => ?_
            clear f126 a126
            refine L.val f127 (f127.yes rfl rfl) rfl (by decide) (E.move f127 rfl) fun a128 f128 => ?_
            clear f127 a127
            refine L.val f128 (f128.yes rfl rfl) rfl (by decide) (E.fieldAddr f128 Try.underlying37 rfl rfl wsz28) fun a129 f129 => ?_
            clear f128 a128
            refine L.val f129 (f129.yes rfl rfl) rfl (by decide) (by first | exact E.loadB f129 Try.underlying28 rfl wsz28 rfl (Bg7) rfl | exact E.loadB f129 Try.underlying28 rfl wsz28 rfl (Bg11) rfl | exact E.loadB f129 Try.underlying28 rfl wsz28 rfl (Bg14) rfl | exact E.loadA f129 Try.underlying28 rfl wsz28 rfl (row24i hcs) rfl) fun a130 f130 => ?_
            clear f129 a129
            refine L.val f130 (f130.yes rfl rfl) rfl (by decide) (E.build f130 (parts0 f130) builtZ) fun a131 f131 => ?_
            clear f130 a130
            refine L.call f131 (f131.yes rfl rfl) rfl (by decide) (run_call Try.call14 (args2 f131 rfl rfl)) (same_zero _) ?_
            rintro e w19 ⟨rfl, kb19⟩
            have kc19 := Kept.of_below kb19 []
            refine ⟨_, rfl, fun a132 f132 => ?_⟩
            clear f131 a131
            have szw19 := kc19.size
            replace HK := HK.trans kc19 (by simp)
            replace T := T.kept kc19 (by simp) (Same.of_kept kc19 (by simp))
            replace O := O.same (Same.of_kept kc19 (by simp))
            replace Bg7 := Bg7.kept kc19 (by simp)
            replace O10 := O10.same (Same.of_kept kc19 (by simp))
            replace O11 := O11.same (Same.of_kept kc19 (by simp))
            replace Bg11 := Bg11.kept kc19 (by simp)
            replace Bg14 := Bg14.kept kc19 (by simp)
            clear kc19
            clear kb19
            refine L.val f132 (f132.yes rfl rfl) rfl (by decide) (E.not f132 rfl) fun a133 f133 => ?_
            clear f132 a132
            refine L.val f133 (f133.yes rfl rfl) rfl (by decide) (E.pickT f133 rfl rfl) fun a134 f134 => ?_
            clear f133 a133
            refine L.val f134 wantedN rfl (by decide) (E.pickF f134 rfl rfl) fun a135 f135 => ?_
            clear f134 a134
            refine wpList_nil (hK35 _ _ ?_)
            try clear hK35 K35
            have f136 := f135.sub (sub_cons (i := 14) rfl (sub_cons (i := 15) rfl (sub_cons (i := 16) rfl (sub_cons (i := 17) rfl (sub_cons (i := 18) rfl (sub_cons (i := 19) rfl (sub_cons (i := 20) rfl (sub_cons (i := 45) rfl (sub_cons (i := 46) rfl (sub_cons (i := 47) rfl (sub_cons (i := 48) rfl (sub_cons (i := 49) rfl (sub_cons (i := 50) rfl (sub_cons (i := 51) rfl (sub_cons (i := 52) rfl (sub_cons (i := 53) rfl (sub_cons (i := 54) rfl (sub_cons (i := 55) rfl (sub_cons (i := 56) rfl (sub_cons (i := 57) rfl (sub_cons (i := 58) rfl (sub_cons (i := 59) rfl (sub_cons (i := 60) rfl (sub_cons (i := 61) rfl (sub_cons (i := 62) rfl (sub_cons (i := 63) rfl (sub_cons (i := 64) rfl (sub_cons (i := 65) rfl (sub_cons (i := 66) rfl (sub_cons (i := 67) rfl (sub_cons (i := 68) rfl (sub_cons (i := 69) rfl (sub_cons (i := 70) rfl (sub_cons (i := 71) rfl (sub_cons (i := 72) rfl (sub_cons (i := 73) rfl (sub_cons (i := 74) rfl (sub_cons (i := 75) rfl (sub_cons (i := 76) rfl (sub_cons (i := 77) rfl (sub_cons (i := 78) rfl (sub_cons (i := 79) rfl (sub_cons (i := 80) rfl (sub_cons (i := 81) rfl (sub_cons (i := 82) rfl (sub_cons (i := 83) rfl (sub_cons (i := 84) rfl (sub_cons (i := 85) rfl (sub_cons (i := 86) rfl (sub_cons (i := 87) rfl (sub_cons (i := 88) rfl (sub_cons (i := 89) rfl (sub_cons (i := 90) rfl (sub_cons (i := 91) rfl (sub_cons (i := 92) rfl (sub_cons (i := 93) rfl (sub_cons (i := 94) rfl (sub_cons (i := 95) rfl (sub_cons (i := 96) rfl (sub_cons (i := 97) rfl (sub_cons (i := 98) rfl (sub_cons (i := 99) rfl (sub_cons (i := 100) rfl (sub_cons (i := 101) rfl (sub_cons (i := 102) rfl (sub_cons (i := 103) rfl (sub_cons (i := 104) rfl (sub_cons (i := 105) rfl (sub_cons (i := 106) rfl (sub_cons (i := 107) rfl (sub_cons (i := 108) rfl (sub_cons (i := 109) rfl (sub_cons (i := 110) rfl (sub_cons (i := 111) rfl (sub_cons (i := 112) rfl (sub_cons (i := 113) rfl (sub_cons (i := 114) rfl (sub_cons (i := 115) rfl (sub_cons (i := 116) rfl (sub_cons (i := 117) rfl (sub_cons (i := 118) rfl (sub_cons (i := 119) rfl (sub_cons (i := 120) rfl (sub_cons (i := 121) rfl sub_nil))))))))))))))))))))))))))))))))))))))))))))))))))))))))))))))))))))))))))))))))))))
            clear f135
            refine C.condF f136 rfl ?_
            refine wp_skip (hK34 _ _ ?_)
            try clear hK34 K34
            have f137 := f136.sub (sub_cons (i := 14) rfl (sub_cons (i := 15) rfl (sub_cons (i := 16) rfl (sub_cons (i := 17) rfl (sub_cons (i := 18) rfl (sub_cons (i := 19) rfl (sub_cons (i := 20) rfl (sub_cons (i := 45) rfl (sub_cons (i := 46) rfl (sub_cons (i := 47) rfl (sub_cons (i := 48) rfl (sub_cons (i := 49) rfl (sub_cons (i := 50) rfl (sub_cons (i := 51) rfl (sub_cons (i := 52) rfl (sub_cons (i := 53) rfl (sub_cons (i := 54) rfl (sub_cons (i := 55) rfl (sub_cons (i := 56) rfl (sub_cons (i := 57) rfl (sub_cons (i := 58) rfl (sub_cons (i := 59) rfl (sub_cons (i := 60) rfl (sub_cons (i := 61) rfl (sub_cons (i := 62) rfl (sub_cons (i := 63) rfl (sub_cons (i := 64) rfl (sub_cons (i := 65) rfl (sub_cons (i := 66) rfl (sub_cons (i := 67) rfl (sub_cons (i := 68) rfl (sub_cons (i := 69) rfl (sub_cons (i := 70) rfl (sub_cons (i := 71) rfl (sub_cons (i := 72) rfl (sub_cons (i := 73) rfl (sub_cons (i := 74) rfl (sub_cons (i := 75) rfl (sub_cons (i := 76) rfl (sub_cons (i := 77) rfl (sub_cons (i := 78) rfl (sub_cons (i := 79) rfl (sub_cons (i := 80) rfl (sub_cons (i := 81) rfl (sub_cons (i := 82) rfl (sub_cons (i := 83) rfl (sub_cons (i := 84) rfl (sub_cons (i := 85) rfl (sub_cons (i := 86) rfl (sub_cons (i := 87) rfl (sub_cons (i := 88) rfl (sub_cons (i := 89) rfl (sub_cons (i := 90) rfl (sub_cons (i := 91) rfl (sub_cons (i := 92) rfl (sub_cons (i := 93) rfl (sub_cons (i := 94) rfl (sub_cons (i := 95) rfl (sub_cons (i := 96) rfl (sub_cons (i := 97) rfl (sub_cons (i := 98) rfl (sub_cons (i := 99) rfl (sub_cons (i := 100) rfl (sub_cons (i := 101) rfl (sub_cons (i := 102) rfl (sub_cons (i := 103) rfl (sub_cons (i := 104) rfl (sub_cons (i := 105) rfl (sub_cons (i := 106) rfl (sub_cons (i := 107) rfl (sub_cons (i := 108) rfl (sub_cons (i := 109) rfl (sub_cons (i := 110) rfl (sub_cons (i := 111) rfl (sub_cons (i := 112) rfl (sub_cons (i := 113) rfl (sub_cons (i := 114) rfl (sub_cons (i := 115) rfl (sub_cons (i := 116) rfl (sub_cons (i := 117) rfl (sub_cons (i := 118) rfl (sub_cons (i := 119) rfl (sub_cons (i := 120) rfl (sub_cons (i := 121) rfl sub_nil))))))))))))))))))))))))))))))))))))))))))))))))))))))))))))))))))))))))))))))))))))
            clear f136
            refine wp_seq_k fun K36 hK36 => ?_
            refine C.region ?_
            refine L.val f137 wantedN rfl (by decide) (E.assign f137 rfl) fun a138 f138 => ?_
            clear f137 a135
            refine wpList_nil (hK36 _ _ ?_)
            try clear hK36 K36
            have f139 := f138.sub (sub_cons (i := 14) rfl (sub_cons (i := 15) rfl (sub_cons (i := 16) rfl (sub_cons (i := 17) rfl (sub_cons (i := 18) rfl (sub_cons (i := 19) rfl (sub_cons (i := 20) rfl (sub_cons (i := 21) rfl (sub_cons (i := 45) rfl (sub_cons (i := 46) rfl (sub_cons (i := 47) rfl (sub_cons (i := 48) rfl (sub_cons (i := 49) rfl (sub_cons (i := 50) rfl (sub_cons (i := 51) rfl (sub_cons (i := 52) rfl (sub_cons (i := 53) rfl (sub_cons (i := 54) rfl (sub_cons (i := 55) rfl (sub_cons (i := 56) rfl (sub_cons (i := 57) rfl (sub_cons (i := 58) rfl (sub_cons (i := 59) rfl (sub_cons (i := 60) rfl (sub_cons (i := 61) rfl (sub_cons (i := 62) rfl (sub_cons (i := 63) rfl (sub_cons (i := 64) rfl (sub_cons (i := 65) rfl (sub_cons (i := 66) rfl (sub_cons (i := 67) rfl (sub_cons (i := 68) rfl (sub_cons (i := 69) rfl (sub_cons (i := 70) rfl (sub_cons (i := 71) rfl (sub_cons (i := 72) rfl (sub_cons (i := 73) rfl (sub_cons (i := 74) rfl (sub_cons (i := 75) rfl (sub_cons (i := 76) rfl (sub_cons (i := 77) rfl (sub_cons (i := 78) rfl (sub_cons (i := 79) rfl (sub_cons (i := 80) rfl (sub_cons (i := 81) rfl (sub_cons (i := 82) rfl (sub_cons (i := 83) rfl (sub_cons (i := 84) rfl (sub_cons (i := 85) rfl (sub_cons (i := 86) rfl (sub_cons (i := 87) rfl (sub_cons (i := 88) rfl (sub_cons (i := 89) rfl (sub_cons (i := 90) rfl (sub_cons (i := 91) rfl (sub_cons (i := 92) rfl (sub_cons (i := 93) rfl (sub_cons (i := 94) rfl (sub_cons (i := 95) rfl (sub_cons (i := 96) rfl (sub_cons (i := 97) rfl (sub_cons (i := 98) rfl (sub_cons (i := 99) rfl (sub_cons (i := 100) rfl (sub_cons (i := 101) rfl (sub_cons (i := 102) rfl (sub_cons (i := 103) rfl (sub_cons (i := 104) rfl (sub_cons (i := 105) rfl (sub_cons (i := 106) rfl (sub_cons (i := 107) rfl (sub_cons (i := 108) rfl (sub_cons (i := 109) rfl (sub_cons (i := 110) rfl (sub_cons (i := 111) rfl (sub_cons (i := 112) rfl (sub_cons (i := 113) rfl (sub_cons (i := 114) rfl (sub_cons (i := 115) rfl (sub_cons (i := 116) rfl (sub_cons (i := 117) rfl (sub_cons (i := 118) rfl (sub_cons (i := 119) rfl (sub_cons (i := 120) rfl (sub_cons (i := 121) rfl sub_nil)))))))))))))))))))))))))))))))))))))))))))))))))))))))))))))))))))))))))))))))))))))
            clear f138
            refine wp_seq_k fun K37 hK37 => ?_
            refine wp_seq_k fun K38 hK38 => ?_
            refine C.region ?_
            refine L.val f139 wantedN rfl (by decide) (E.move f139 rfl) fun a140 f140 => ?_
            clear f139 a138
            refine L.val f140 wantedN rfl (by decide) (E.eqlS f140 rfl rfl) fun a141 f141 => ?_
            clear f140 a140
            have f142 := f141.as (i := 123) (v' := .bool false) rfl (by simp [nameS])
            clear f141
            refine L.val f142 wantedN rfl (by decide) (E.move f142 rfl) fun a143 f143 => ?_
            clear f142 a141
            refine L.val f143 (f143.yes rfl rfl) rfl (by decide) (E.move f143 rfl) fun a144 f144 => ?_
            clear f143 a143
            refine L.val f144 (f144.yes rfl rfl) rfl (by decide) (E.eqlS f144 rfl rfl) fun a145 f145 => ?_
            clear f144 a144
            have f146 := f145.as (i := 126) (v' := .bool true) rfl (by simp [nameS])
            clear f145
            refine L.val f146 wantedN rfl (by decide) (E.pickF f146 rfl rfl) fun a147 f147 => ?_
            clear f146 a145
            refine L.val f147 wantedN rfl (by decide) (E.move f147 rfl) fun a148 f148 => ?_
            clear f147 a147
            refine L.skip f148 (f148.noF rfl rfl) rfl (by decide) fun a149 f149 => ?_
            clear f148 a148
            refine L.skip f149 (f149.noF rfl rfl) rfl (by decide) fun a150 f150 => ?_
            clear f149 a149
            refine L.val f150 wantedN rfl (by decide) (E.pickT f150 rfl rfl) fun a151 f151 => ?_
            clear f150 a150
            refine wpList_nil (hK38 _ _ ?_)
            try clear hK38 K38
            have f152 := f151.sub (sub_cons (i := 14) rfl (sub_cons (i := 15) rfl (sub_cons (i := 16) rfl (sub_cons (i := 17) rfl (sub_cons (i := 18) rfl (sub_cons (i := 19) rfl (sub_cons (i := 20) rfl (sub_cons (i := 21) rfl (sub_cons (i := 45) rfl (sub_cons (i := 46) rfl (sub_cons (i := 47) rfl (sub_cons (i := 48) rfl (sub_cons (i := 49) rfl (sub_cons (i := 50) rfl (sub_cons (i := 51) rfl (sub_cons (i := 52) rfl (sub_cons (i := 53) rfl (sub_cons (i := 54) rfl (sub_cons (i := 55) rfl (sub_cons (i := 56) rfl (sub_cons (i := 57) rfl (sub_cons (i := 58) rfl (sub_cons (i := 59) rfl (sub_cons (i := 60) rfl (sub_cons (i := 61) rfl (sub_cons (i := 62) rfl (sub_cons (i := 63) rfl (sub_cons (i := 64) rfl (sub_cons (i := 65) rfl (sub_cons (i := 66) rfl (sub_cons (i := 67) rfl (sub_cons (i := 68) rfl (sub_cons (i := 69) rfl (sub_cons (i := 70) rfl (sub_cons (i := 71) rfl (sub_cons (i := 72) rfl (sub_cons (i := 73) rfl (sub_cons (i := 74) rfl (sub_cons (i := 75) rfl (sub_cons (i := 76) rfl (sub_cons (i := 77) rfl (sub_cons (i := 78) rfl (sub_cons (i := 79) rfl (sub_cons (i := 80) rfl (sub_cons (i := 81) rfl (sub_cons (i := 82) rfl (sub_cons (i := 83) rfl (sub_cons (i := 84) rfl (sub_cons (i := 85) rfl (sub_cons (i := 86) rfl (sub_cons (i := 87) rfl (sub_cons (i := 88) rfl (sub_cons (i := 89) rfl (sub_cons (i := 90) rfl (sub_cons (i := 91) rfl (sub_cons (i := 92) rfl (sub_cons (i := 93) rfl (sub_cons (i := 94) rfl (sub_cons (i := 95) rfl (sub_cons (i := 96) rfl (sub_cons (i := 97) rfl (sub_cons (i := 98) rfl (sub_cons (i := 99) rfl (sub_cons (i := 100) rfl (sub_cons (i := 101) rfl (sub_cons (i := 102) rfl (sub_cons (i := 103) rfl (sub_cons (i := 104) rfl (sub_cons (i := 105) rfl (sub_cons (i := 106) rfl (sub_cons (i := 107) rfl (sub_cons (i := 108) rfl (sub_cons (i := 109) rfl (sub_cons (i := 110) rfl (sub_cons (i := 111) rfl (sub_cons (i := 112) rfl (sub_cons (i := 113) rfl (sub_cons (i := 114) rfl (sub_cons (i := 115) rfl (sub_cons (i := 116) rfl (sub_cons (i := 117) rfl (sub_cons (i := 118) rfl (sub_cons (i := 119) rfl (sub_cons (i := 120) rfl (sub_cons (i := 121) rfl (sub_cons (i := 122) rfl (sub_cons (i := 123) rfl (sub_cons (i := 124) rfl (sub_cons (i := 125) rfl (sub_cons (i := 126) rfl (sub_cons (i := 127) rfl (sub_cons (i := 128) rfl (sub_cons (i := 129) rfl (sub_cons (i := 130) rfl (sub_cons (i := 131) rfl sub_nil)))))))))))))))))))))))))))))))))))))))))))))))))))))))))))))))))))))))))))))))))))))))))))))))
            clear f151
            refine C.condT f152 rfl ?_
            refine C.region ?_
            refine L.val f152 wantedN rfl (by decide) (E.fieldAddr f152 Try.underlying28 rfl rfl wsz3) fun a153 f153 => ?_
            clear f152 a151
            refine L.val f153 wantedN rfl (by decide) (by first | exact E.load f153 Try.underlying3 rfl rfl ((Bg7).cell_ rfl) | exact E.load f153 Try.underlying3 rfl rfl ((Bg11).cell_ rfl) | exact E.load f153 Try.underlying3 rfl rfl ((Bg14).cell_ rfl)) fun a154 f154 => ?_
            clear f153 a153
            refine L.val f154 wantedN rfl (by decide) (E.assign f154 rfl) fun a155 f155 => ?_
            clear f154 a154
            refine wpList_nil (hK37 _ _ ?_)
            try clear hK37 K37
            have f156 := f155.sub (sub_cons (i := 14) rfl (sub_cons (i := 15) rfl (sub_cons (i := 16) rfl (sub_cons (i := 17) rfl (sub_cons (i := 18) rfl (sub_cons (i := 19) rfl (sub_cons (i := 20) rfl (sub_cons (i := 21) rfl (sub_cons (i := 45) rfl (sub_cons (i := 46) rfl (sub_cons (i := 47) rfl (sub_cons (i := 48) rfl (sub_cons (i := 49) rfl (sub_cons (i := 50) rfl (sub_cons (i := 51) rfl (sub_cons (i := 52) rfl (sub_cons (i := 53) rfl (sub_cons (i := 54) rfl (sub_cons (i := 55) rfl (sub_cons (i := 56) rfl (sub_cons (i := 57) rfl (sub_cons (i := 58) rfl (sub_cons (i := 59) rfl (sub_cons (i := 60) rfl (sub_cons (i := 61) rfl (sub_cons (i := 62) rfl (sub_cons (i := 63) rfl (sub_cons (i := 64) rfl (sub_cons (i := 65) rfl (sub_cons (i := 66) rfl (sub_cons (i := 67) rfl (sub_cons (i := 68) rfl (sub_cons (i := 69) rfl (sub_cons (i := 70) rfl (sub_cons (i := 71) rfl (sub_cons (i := 72) rfl (sub_cons (i := 73) rfl (sub_cons (i := 74) rfl (sub_cons (i := 75) rfl (sub_cons (i := 76) rfl (sub_cons (i := 77) rfl (sub_cons (i := 78) rfl (sub_cons (i := 79) rfl (sub_cons (i := 80) rfl (sub_cons (i := 81) rfl (sub_cons (i := 82) rfl (sub_cons (i := 83) rfl (sub_cons (i := 84) rfl (sub_cons (i := 85) rfl (sub_cons (i := 86) rfl (sub_cons (i := 87) rfl (sub_cons (i := 88) rfl (sub_cons (i := 89) rfl (sub_cons (i := 90) rfl (sub_cons (i := 91) rfl (sub_cons (i := 92) rfl (sub_cons (i := 93) rfl (sub_cons (i := 94) rfl (sub_cons (i := 95) rfl (sub_cons (i := 96) rfl (sub_cons (i := 97) rfl (sub_cons (i := 98) rfl (sub_cons (i := 99) rfl (sub_cons (i := 100) rfl (sub_cons (i := 101) rfl (sub_cons (i := 102) rfl (sub_cons (i := 103) rfl (sub_cons (i := 104) rfl (sub_cons (i := 105) rfl (sub_cons (i := 106) rfl (sub_cons (i := 107) rfl (sub_cons (i := 108) rfl (sub_cons (i := 109) rfl (sub_cons (i := 110) rfl (sub_cons (i := 111) rfl (sub_cons (i := 112) rfl (sub_cons (i := 113) rfl (sub_cons (i := 114) rfl (sub_cons (i := 115) rfl (sub_cons (i := 116) rfl (sub_cons (i := 117) rfl (sub_cons (i := 118) rfl (sub_cons (i := 119) rfl (sub_cons (i := 120) rfl (sub_cons (i := 121) rfl (sub_cons (i := 122) rfl (sub_cons (i := 123) rfl (sub_cons (i := 124) rfl (sub_cons (i := 125) rfl (sub_cons (i := 126) rfl (sub_cons (i := 127) rfl (sub_cons (i := 128) rfl (sub_cons (i := 129) rfl (sub_cons (i := 130) rfl (sub_cons (i := 131) rfl (sub_cons (i := 132) rfl (sub_cons (i := 133) rfl sub_nil)))))))))))))))))))))))))))))))))))))))))))))))))))))))))))))))))))))))))))))))))))))))))))))))))
            clear f155
            refine wp_seq_k fun K39 hK39 => ?_
            refine C.region ?_
            refine L.val f156 wantedN rfl (by decide) (E.move f156 rfl) fun a157 f157 => ?_
            clear f156 a155
            refine L.call f157 wantedN rfl (by decide) (run_call Try.call15 (args1 f157 rfl)) (id_of 2 (by decide) p s10 _) ?_
            rintro e w20 ⟨rfl, kb20⟩
            have kc20 := Kept.of_below kb20 []
            refine ⟨_, rfl, fun a158 f158 => ?_⟩
            clear f157 a157
            have szw20 := kc20.size
            replace HK := HK.trans kc20 (by simp)
            replace T := T.kept kc20 (by simp) (Same.of_kept kc20 (by simp))
            replace O := O.same (Same.of_kept kc20 (by simp))
            replace Bg7 := Bg7.kept kc20 (by simp)
            replace O10 := O10.same (Same.of_kept kc20 (by simp))
            replace O11 := O11.same (Same.of_kept kc20 (by simp))
            replace Bg11 := Bg11.kept kc20 (by simp)
            replace Bg14 := Bg14.kept kc20 (by simp)
            clear kc20
            clear kb20
            refine L.val f158 wantedN rfl (by decide) (E.move f158 rfl) fun a159 f159 => ?_
            clear f158 a158
            refine L.val f159 wantedN rfl (by decide) (E.neq f159 rfl rfl) fun a160 f160 => ?_
            clear f159 a159
            have f161 := f160.as (i := 137) (v' := .bool false) rfl (by simp [idOf])
            clear f160
            refine wpList_nil (hK39 _ _ ?_)
            try clear hK39 K39
            have f162 := f161.sub (sub_cons (i := 14) rfl (sub_cons (i := 15) rfl (sub_cons (i := 16) rfl (sub_cons (i := 17) rfl (sub_cons (i := 18) rfl (sub_cons (i := 19) rfl (sub_cons (i := 20) rfl (sub_cons (i := 21) rfl (sub_cons (i := 45) rfl (sub_cons (i := 46) rfl (sub_cons (i := 47) rfl (sub_cons (i := 48) rfl (sub_cons (i := 49) rfl (sub_cons (i := 50) rfl (sub_cons (i := 51) rfl (sub_cons (i := 52) rfl (sub_cons (i := 53) rfl (sub_cons (i := 54) rfl (sub_cons (i := 55) rfl (sub_cons (i := 56) rfl (sub_cons (i := 57) rfl (sub_cons (i := 58) rfl (sub_cons (i := 59) rfl (sub_cons (i := 60) rfl (sub_cons (i := 61) rfl (sub_cons (i := 62) rfl (sub_cons (i := 63) rfl (sub_cons (i := 64) rfl (sub_cons (i := 65) rfl (sub_cons (i := 66) rfl (sub_cons (i := 67) rfl (sub_cons (i := 68) rfl (sub_cons (i := 69) rfl (sub_cons (i := 70) rfl (sub_cons (i := 71) rfl (sub_cons (i := 72) rfl (sub_cons (i := 73) rfl (sub_cons (i := 74) rfl (sub_cons (i := 75) rfl (sub_cons (i := 76) rfl (sub_cons (i := 77) rfl (sub_cons (i := 78) rfl (sub_cons (i := 79) rfl (sub_cons (i := 80) rfl (sub_cons (i := 81) rfl (sub_cons (i := 82) rfl (sub_cons (i := 83) rfl (sub_cons (i := 84) rfl (sub_cons (i := 85) rfl (sub_cons (i := 86) rfl (sub_cons (i := 87) rfl (sub_cons (i := 88) rfl (sub_cons (i := 89) rfl (sub_cons (i := 90) rfl (sub_cons (i := 91) rfl (sub_cons (i := 92) rfl (sub_cons (i := 93) rfl (sub_cons (i := 94) rfl (sub_cons (i := 95) rfl (sub_cons (i := 96) rfl (sub_cons (i := 97) rfl (sub_cons (i := 98) rfl (sub_cons (i := 99) rfl (sub_cons (i := 100) rfl (sub_cons (i := 101) rfl (sub_cons (i := 102) rfl (sub_cons (i := 103) rfl (sub_cons (i := 104) rfl (sub_cons (i := 105) rfl (sub_cons (i := 106) rfl (sub_cons (i := 107) rfl (sub_cons (i := 108) rfl (sub_cons (i := 109) rfl (sub_cons (i := 110) rfl (sub_cons (i := 111) rfl (sub_cons (i := 112) rfl (sub_cons (i := 113) rfl (sub_cons (i := 114) rfl (sub_cons (i := 115) rfl (sub_cons (i := 116) rfl (sub_cons (i := 117) rfl (sub_cons (i := 118) rfl (sub_cons (i := 119) rfl (sub_cons (i := 120) rfl (sub_cons (i := 121) rfl (sub_cons (i := 122) rfl (sub_cons (i := 123) rfl (sub_cons (i := 124) rfl (sub_cons (i := 125) rfl (sub_cons (i := 126) rfl (sub_cons (i := 127) rfl (sub_cons (i := 128) rfl (sub_cons (i := 129) rfl (sub_cons (i := 130) rfl (sub_cons (i := 131) rfl (sub_cons (i := 132) rfl (sub_cons (i := 133) rfl (sub_cons (i := 134) rfl (sub_cons (i := 135) rfl (sub_cons (i := 136) rfl (sub_cons (i := 137) rfl sub_nil)))))))))))))))))))))))))))))))))))))))))))))))))))))))))))))))))))))))))))))))))))))))))))))))))))))
            clear f161
            refine C.condF f162 rfl ?_
            refine wp_skip (hK12 _ _ ?_)
            try clear hK12 K12
            have f163 := f162.sub (sub_cons (i := 14) rfl (sub_cons (i := 15) rfl (sub_cons (i := 16) rfl (sub_cons (i := 17) rfl (sub_cons (i := 18) rfl (sub_cons (i := 19) rfl (sub_cons (i := 20) rfl (sub_cons (i := 21) rfl (sub_cons (i := 45) rfl (sub_cons (i := 46) rfl (sub_cons (i := 47) rfl (sub_cons (i := 48) rfl (sub_cons (i := 49) rfl (sub_cons (i := 50) rfl (sub_cons (i := 51) rfl (sub_cons (i := 52) rfl (sub_cons (i := 53) rfl (sub_cons (i := 54) rfl (sub_cons (i := 55) rfl (sub_cons (i := 56) rfl (sub_cons (i := 57) rfl (sub_cons (i := 58) rfl (sub_cons (i := 59) rfl (sub_cons (i := 60) rfl (sub_cons (i := 61) rfl (sub_cons (i := 62) rfl (sub_cons (i := 63) rfl (sub_cons (i := 64) rfl (sub_cons (i := 65) rfl (sub_cons (i := 66) rfl (sub_cons (i := 67) rfl (sub_cons (i := 68) rfl (sub_cons (i := 69) rfl (sub_cons (i := 70) rfl (sub_cons (i := 71) rfl (sub_cons (i := 72) rfl (sub_cons (i := 73) rfl (sub_cons (i := 74) rfl (sub_cons (i := 75) rfl (sub_cons (i := 76) rfl (sub_cons (i := 77) rfl (sub_cons (i := 78) rfl (sub_cons (i := 79) rfl (sub_cons (i := 80) rfl (sub_cons (i := 81) rfl (sub_cons (i := 82) rfl (sub_cons (i := 83) rfl (sub_cons (i := 84) rfl (sub_cons (i := 85) rfl (sub_cons (i := 86) rfl (sub_cons (i := 87) rfl (sub_cons (i := 88) rfl (sub_cons (i := 89) rfl (sub_cons (i := 90) rfl (sub_cons (i := 91) rfl (sub_cons (i := 92) rfl (sub_cons (i := 93) rfl (sub_cons (i := 94) rfl (sub_cons (i := 95) rfl (sub_cons (i := 96) rfl (sub_cons (i := 97) rfl (sub_cons (i := 98) rfl (sub_cons (i := 99) rfl (sub_cons (i := 100) rfl (sub_cons (i := 101) rfl (sub_cons (i := 102) rfl (sub_cons (i := 103) rfl (sub_cons (i := 104) rfl (sub_cons (i := 105) rfl (sub_cons (i := 106) rfl (sub_cons (i := 107) rfl (sub_cons (i := 108) rfl (sub_cons (i := 109) rfl (sub_cons (i := 110) rfl (sub_cons (i := 111) rfl (sub_cons (i := 112) rfl (sub_cons (i := 113) rfl (sub_cons (i := 114) rfl (sub_cons (i := 115) rfl (sub_cons (i := 116) rfl (sub_cons (i := 117) rfl (sub_cons (i := 118) rfl (sub_cons (i := 119) rfl (sub_cons (i := 120) rfl (sub_cons (i := 121) rfl (sub_cons (i := 122) rfl (sub_cons (i := 123) rfl (sub_cons (i := 124) rfl (sub_cons (i := 125) rfl (sub_cons (i := 126) rfl (sub_cons (i := 127) rfl (sub_cons (i := 128) rfl (sub_cons (i := 129) rfl (sub_cons (i := 130) rfl (sub_cons (i := 131) rfl (sub_cons (i := 132) rfl (sub_cons (i := 133) rfl (sub_cons (i := 134) rfl (sub_cons (i := 135) rfl (sub_cons (i := 136) rfl (sub_cons (i := 137) rfl sub_nil)))))))))))))))))))))))))))))))))))))))))))))))))))))))))))))))))))))))))))))))))))))))))))))))))))))
            clear f162
            refine C.region ?_
            refine L.val f163 wantedN rfl (by decide) (E.add f163 rfl rfl (IntWalk.i64_in _ (by omega))) fun a164 f164 => ?_
            clear f163 a160
            refine L.val f164 wantedN rfl (by decide) (E.move f164 rfl) fun a165 f165 => ?_
            clear f164 a164
            refine wpList_nil (hKL9 _ _ (gk10 - 1) ?_ ?_)
            · omega
            · exact ⟨i + 1, by omega, HK, T, by omega, f165.sub (sub_cons rfl (sub_cons rfl (sub_cons rfl sub_nil)))⟩
          · have hkq := hkp
            refine C.region ?_
            refine L.val f51 wantedN rfl (by decide) (E.move f51 rfl) fun a52 f52 => ?_
            clear f51 a50
            refine L.call f52 wantedN rfl (by decide) (run_call Try.call10 (args1 f52 rfl)) (packet_of w.heap.size 3 (by decide) p s10 _ O10 hl.small HK.size) ?_
            rintro e w11 ⟨s11, rfl, O11, kb11⟩
            have kc11 := Kept.of_below kb11 []
            refine ⟨_, rfl, fun a53 f53 => ?_⟩
            clear f52 a52
            have szw11 := kc11.size
            replace HK := HK.trans kc11 (by simp)
            replace T := T.kept kc11 (by simp) (Same.of_kept kc11 (by simp))
            replace O := O.same (Same.of_kept kc11 (by simp))
            replace Bg7 := Bg7.kept kc11 (by simp)
            replace O10 := O10.same (Same.of_kept kc11 (by simp))
            clear kc11
            clear kb11
            refine L.val f53 wantedN rfl (by decide) (E.move f53 rfl) fun a54 f54 => ?_
            clear f53 a53
            refine L.val f54 wantedN rfl (by decide) (E.extract f54 rfl rfl) fun a55 f55 => ?_
            clear f54 a54
            refine L.val f55 wantedN rfl (by decide) (E.extract f55 rfl rfl) fun a56 f56 => ?_
            clear f55 a55
            refine L.alloc f56 wantedN (by decide) (z := (.agg #[(.int .i64 0), (.bool false), (.bool false), (.int .i64 0), (.int .i64 0), (.string ⟨#[]⟩), (.slice none 0 0), (.int .i64 0), (.string ⟨#[]⟩), (.bool false), (.int .i64 0), (.bool false), (.string ⟨#[]⟩), (.slice none 0 0), (.int .i64 0), (.bool false), (.bool false), (.bool false), (.string ⟨#[]⟩), (.slice none 0 0), (.bool false), (.int .i64 0), (.slice none 0 0), (.slice none 0 0)])) (fun _ => by kernel_rfl) rfl fun a57 w12 g11 N11 f57 => ?_
            have Bg11 := N11.blk
            have kg11 := N11.kept
            have log11 := N11.lo
            have ltg11 := Bg11.lt
            have szw12 := kg11.size
            have frg11 : w.heap.size ≤ g11 := Nat.le_trans HK.size log11
            have neg7_g11 : g7 ≠ g11 := by have := Bg7.lt; omega
            replace HK := HK.trans kg11 (by simp)
            replace T := T.kept kg11 (by simp) (Same.of_kept kg11 (by simp))
            replace O := O.same (Same.of_kept kg11 (by simp))
            replace Bg7 := Bg7.kept kg11 (by simp)
            replace O10 := O10.same (Same.of_kept kg11 (by simp))
            replace O11 := O11.same (Same.of_kept kg11 (by simp))
            clear N11 kg11
            clear f56 a56
            refine L.storeR f57 wantedN wsz28 rfl rfl rfl Bg11 rfl rfl fun a58 w13 f58 NB13 ks13 => ?_
            have szw13 := ks13.size
            replace HK := HK.trans ks13 (by intro x hx hlt; simp at hx; subst hx; first | (exfalso; omega) | simp)
            replace T := T.kept ks13 (by simp; omega) (Same.of_kept ks13 (by intro x hx hlt; simp at hx; subst hx; exact ⟨by omega, Bg11.not_typ (by decide)⟩))
            replace O := O.same (Same.of_kept ks13 (by intro x hx hlt; simp at hx; subst hx; exact ⟨by omega, Bg11.not_typ (by decide)⟩))
            replace Bg7 := Bg7.kept ks13 (by simp; omega)
            replace O10 := O10.same (Same.of_kept ks13 (by intro x hx hlt; simp at hx; subst hx; exact ⟨by omega, Bg11.not_typ (by decide)⟩))
            replace O11 := O11.same (Same.of_kept ks13 (by intro x hx hlt; simp at hx; subst hx; exact ⟨by omega, Bg11.not_typ (by decide)⟩))
            replace Bg11 := NB13
            clear ks13 f57 a57
            refine L.val f58 wantedN rfl (by decide) (E.assign f58 rfl) fun a59 f59 => ?_
            clear f58 a58
            refine wpList_nil (hK15 _ _ ?_)
            try clear hK15 K15
            have f60 := f59.sub (sub_cons (i := 14) rfl (sub_cons (i := 15) rfl (sub_cons (i := 16) rfl (sub_cons (i := 17) rfl (sub_cons (i := 45) rfl (sub_cons (i := 46) rfl (sub_cons (i := 47) rfl (sub_cons (i := 48) rfl (sub_cons (i := 49) rfl (sub_cons (i := 50) rfl (sub_cons (i := 51) rfl (sub_cons (i := 52) rfl (sub_cons (i := 53) rfl (sub_cons (i := 54) rfl (sub_cons (i := 55) rfl (sub_cons (i := 56) rfl (sub_cons (i := 57) rfl sub_nil)))))))))))))))))
            clear f59
            refine wp_seq_k fun K40 hK40 => ?_
            refine C.region ?_
            refine L.val f60 wantedN rfl (by decide) (E.move f60 rfl) fun a61 f61 => ?_
            clear f60 a59
            refine L.call f61 wantedN rfl (by decide) (run_call Try.call11 (args1 f61 rfl)) (try_other _ (.inr ⟨_, _, rfl, by decide⟩) _) ?_
            rintro e w14 ⟨rfl, kb14⟩
            have kc14 := Kept.of_below kb14 []
            refine ⟨_, rfl, fun a62 f62 => ?_⟩
            clear f61 a61
            have szw14 := kc14.size
            replace HK := HK.trans kc14 (by simp)
            replace T := T.kept kc14 (by simp) (Same.of_kept kc14 (by simp))
            replace O := O.same (Same.of_kept kc14 (by simp))
            replace Bg7 := Bg7.kept kc14 (by simp)
            replace O10 := O10.same (Same.of_kept kc14 (by simp))
            replace O11 := O11.same (Same.of_kept kc14 (by simp))
            replace Bg11 := Bg11.kept kc14 (by simp)
            clear kc14
            clear kb14
            refine L.val f62 wantedN rfl (by decide) (E.move f62 rfl) fun a63 f63 => ?_
            clear f62 a62
            refine L.val f63 wantedN rfl (by decide) (E.extract f63 rfl rfl) fun a64 f64 => ?_
            clear f63 a63
            refine L.val f64 wantedN rfl (by decide) (E.extract f64 rfl rfl) fun a65 f65 => ?_
            clear f64 a64
            refine L.alloc f65 wantedN (by decide) (z := (.agg #[(.int .i64 0), (.bool false), (.bool false), (.int .i64 0), (.int .i64 0), (.string ⟨#[]⟩), (.slice none 0 0), (.int .i64 0), (.string ⟨#[]⟩), (.bool false), (.int .i64 0), (.bool false), (.string ⟨#[]⟩), (.slice none 0 0), (.int .i64 0), (.bool false), (.bool false), (.bool false), (.string ⟨#[]⟩), (.slice none 0 0), (.bool false), (.int .i64 0), (.slice none 0 0), (.slice none 0 0)])) (fun _ => by kernel_rfl) rfl fun a66 w15 g14 N14 f66 => ?_
            have Bg14 := N14.blk
            have kg14 := N14.kept
            have log14 := N14.lo
            have ltg14 := Bg14.lt
            have szw15 := kg14.size
            have frg14 : w.heap.size ≤ g14 := Nat.le_trans HK.size log14
            have neg7_g14 : g7 ≠ g14 := by have := Bg7.lt; omega
            have neg11_g14 : g11 ≠ g14 := by have := Bg11.lt; omega
            replace HK := HK.trans kg14 (by simp)
            replace T := T.kept kg14 (by simp) (Same.of_kept kg14 (by simp))
            replace O := O.same (Same.of_kept kg14 (by simp))
            replace Bg7 := Bg7.kept kg14 (by simp)
            replace O10 := O10.same (Same.of_kept kg14 (by simp))
            replace O11 := O11.same (Same.of_kept kg14 (by simp))
            replace Bg11 := Bg11.kept kg14 (by simp)
            clear N14 kg14
            clear f65 a65
            refine L.storeR f66 wantedN wsz37 rfl rfl rfl Bg14 rfl rfl fun a67 w16 f67 NB16 ks16 => ?_
            have szw16 := ks16.size
            replace HK := HK.trans ks16 (by intro x hx hlt; simp at hx; subst hx; first | (exfalso; omega) | simp)
            replace T := T.kept ks16 (by simp; omega) (Same.of_kept ks16 (by intro x hx hlt; simp at hx; subst hx; exact ⟨by omega, Bg14.not_typ (by decide)⟩))
            replace O := O.same (Same.of_kept ks16 (by intro x hx hlt; simp at hx; subst hx; exact ⟨by omega, Bg14.not_typ (by decide)⟩))
            replace Bg7 := Bg7.kept ks16 (by simp; omega)
            replace O10 := O10.same (Same.of_kept ks16 (by intro x hx hlt; simp at hx; subst hx; exact ⟨by omega, Bg14.not_typ (by decide)⟩))
            replace O11 := O11.same (Same.of_kept ks16 (by intro x hx hlt; simp at hx; subst hx; exact ⟨by omega, Bg14.not_typ (by decide)⟩))
            replace Bg11 := Bg11.kept ks16 (by simp; omega)
            replace Bg14 := NB16
            clear ks16 f66 a66
            refine L.val f67 wantedN rfl (by decide) (E.assign f67 rfl) fun a68 f68 => ?_
            clear f67 a67
            refine wpList_nil (hK40 _ _ ?_)
            try clear hK40 K40
            have f69 := f68.sub (sub_cons (i := 14) rfl (sub_cons (i := 15) rfl (sub_cons (i := 16) rfl (sub_cons (i := 17) rfl (sub_cons (i := 18) rfl (sub_cons (i := 19) rfl (sub_cons (i := 45) rfl (sub_cons (i := 46) rfl (sub_cons (i := 47) rfl (sub_cons (i := 48) rfl (sub_cons (i := 49) rfl (sub_cons (i := 50) rfl (sub_cons (i := 51) rfl (sub_cons (i := 52) rfl (sub_cons (i := 53) rfl (sub_cons (i := 54) rfl (sub_cons (i := 55) rfl (sub_cons (i := 56) rfl (sub_cons (i := 57) rfl (sub_cons (i := 58) rfl (sub_cons (i := 59) rfl (sub_cons (i := 60) rfl (sub_cons (i := 61) rfl (sub_cons (i := 62) rfl sub_nil))))))))))))))))))))))))
            clear f68
            refine wp_seq_k fun K41 hK41 => ?_
            refine C.region ?_
            refine L.val f69 wantedN rfl (by decide) (E.fieldAddr f69 Try.underlying28 rfl rfl wsz3) fun a70 f70 => ?_
            clear f69 a68
            refine L.val f70 wantedN rfl (by decide) (by first | exact E.load f70 Try.underlying3 rfl rfl ((Bg7).cell_ rfl) | exact E.load f70 Try.underlying3 rfl rfl ((Bg11).cell_ rfl) | exact E.load f70 Try.underlying3 rfl rfl ((Bg14).cell_ rfl)) fun a71 f71 => ?_
            clear f70 a70
            refine L.call f71 wantedN rfl (by decide) (run_call Try.call12 (args1 f71 rfl)) (name_n hkp _) ?_
            rintro e w16x ⟨rfl, rfl⟩
            refine ⟨_, rfl, fun a72 f72 => ?_⟩
            clear f71 a71
            refine L.val f72 wantedN rfl (by decide) (E.assign f72 rfl) fun a73 f73 => ?_
            clear f72 a72
            refine wpList_nil (hK41 _ _ ?_)
            try clear hK41 K41
            have f74 := f73.sub (sub_cons (i := 14) rfl (sub_cons (i := 15) rfl (sub_cons (i := 16) rfl (sub_cons (i := 17) rfl (sub_cons (i := 18) rfl (sub_cons (i := 19) rfl (sub_cons (i := 20) rfl (sub_cons (i := 45) rfl (sub_cons (i := 46) rfl (sub_cons (i := 47) rfl (sub_cons (i := 48) rfl (sub_cons (i := 49) rfl (sub_cons (i := 50) rfl (sub_cons (i := 51) rfl (sub_cons (i := 52) rfl (sub_cons (i := 53) rfl (sub_cons (i := 54) rfl (sub_cons (i := 55) rfl (sub_cons (i := 56) rfl (sub_cons (i := 57) rfl (sub_cons (i := 58) rfl (sub_cons (i := 59) rfl (sub_cons (i := 60) rfl (sub_cons (i := 61) rfl (sub_cons (i := 62) rfl (sub_cons (i := 63) rfl (sub_cons (i := 64) rfl (sub_cons (i := 65) rfl sub_nil))))))))))))))))))))))))))))
            clear f73
            refine wp_seq_k fun K42 hK42 => ?_
            refine wp_seq_k fun K43 hK43 => ?_
            refine C.region ?_
            refine L.val f74 wantedN rfl (by decide) (E.move f74 rfl) fun a75 f75 => ?_
            clear f74 a73
            refine L.call f75 wantedN rfl (by decide) (run_call Try.call13 (args1 f75 rfl)) (name_of 3 (by decide) _ _) ?_
            rintro e w17 ⟨rfl, kb17⟩
            have kc17 := Kept.of_below kb17 []
            refine ⟨_, rfl, fun a76 f76 => ?_⟩
            clear f75 a75
            have szw17 := kc17.size
            replace HK := HK.trans kc17 (by simp)
            replace T := T.kept kc17 (by simp) (Same.of_kept kc17 (by simp))
            replace O := O.same (Same.of_kept kc17 (by simp))
            replace Bg7 := Bg7.kept kc17 (by simp)
            replace O10 := O10.same (Same.of_kept kc17 (by simp))
            replace O11 := O11.same (Same.of_kept kc17 (by simp))
            replace Bg11 := Bg11.kept kc17 (by simp)
            replace Bg14 := Bg14.kept kc17 (by simp)
            clear kc17
            clear kb17
            refine L.val f76 wantedN rfl (by decide) (E.move f76 rfl) fun a77 f77 => ?_
            clear f76 a76
            refine L.val f77 wantedN rfl (by decide) (E.neqS f77 rfl rfl) fun a78 f78 => ?_
            clear f77 a77
            have f79 := f78.as (i := 69) (v' := .bool false) rfl (by simp [nameS])
            clear f78
            refine L.val f79 wantedN rfl (by decide) (E.move f79 rfl) fun a80 f80 => ?_
            clear f79 a78
            refine L.val f80 (f80.yes rfl rfl) rfl (by decide) (E.move f80 rfl) fun a81 f81 => ?_
            clear f80 a80
            refine L.val f81 (f81.yes rfl rfl) rfl (by decide) (E.move f81 rfl) fun a82 f82 => ?_
            clear f81 a81
            refine L.val f82 (f82.yes rfl rfl) rfl (by decide) (E.neqS f82 rfl rfl) fun a83 f83 => ?_
            clear f82 a82
            have f84 := f83.as (i := 73) (v' := .bool true) rfl (by simp [nameS])
            clear f83
            refine L.val f84 (f84.yes rfl rfl) rfl (by decide) (E.neqB f84 Try.underlying4 rfl rfl) fun a85 f85 => ?_
            clear f84 a83
            have f86 := f85.as (i := 74) (v' := .bool false) rfl rfl
            clear f85
            refine L.val f86 wantedN rfl (by decide) (E.pickF f86 rfl rfl) fun a87 f87 => ?_
            clear f86 a85
            refine L.val f87 wantedN rfl (by decide) (E.move f87 rfl) fun a88 f88 => ?_
            clear f87 a87
            refine L.val f88 (f88.yes rfl rfl) rfl (by decide) (E.move f88 rfl) fun a89 f89 => ?_
            clear f88 a88
            refine L.val f89 (f89.yes rfl rfl) rfl (by decide) (E.move f89 rfl) fun a90 f90 => ?_
            clear f89 a89
            refine L.val f90 (f90.yes rfl rfl) rfl (by decide) (by first | exact E.loadB f90 Try.underlying28 rfl wsz28 rfl (Bg7) rfl | exact E.loadB f90 Try.underlying28 rfl wsz28 rfl (Bg11) rfl | exact E.loadB f90 Try.underlying28 rfl wsz28 rfl (Bg14) rfl | exact E.loadA f90 Try.underlying28 rfl wsz28 rfl (row24i hcs) rfl) fun a91 f91 => ?_
            clear f90 a90
            refine L.val f91 (f91.yes rfl rfl) rfl (by decide) (by first | exact E.loadB f91 Try.underlying28 rfl wsz28 rfl (Bg7) rfl | exact E.loadB f91 Try.underlying28 rfl wsz28 rfl (Bg11) rfl | exact E.loadB f91 Try.underlying28 rfl wsz28 rfl (Bg14) rfl | exact E.loadA f91 Try.underlying28 rfl wsz28 rfl (row24i hcs) rfl) fun a92 f92 => ?_
            clear f91 a91
            refine L.call f92 (f92.yes rfl rfl) rfl (by decide) (run_call Try.call14 (args2 f92 rfl rfl)) (same_any w.heap.size p s11 s _ O11 O hl.small) ?_
            rintro e w18 ⟨rfl, kb18⟩
            have kc18 := Kept.of_below kb18 []
            refine ⟨_, rfl, fun a93 f93 => ?_⟩
            clear f92 a92
            have szw18 := kc18.size
            replace HK := HK.trans kc18 (by simp)
            replace T := T.kept kc18 (by simp) (Same.of_kept kc18 (by simp))
            replace O := O.same (Same.of_kept kc18 (by simp))
            replace Bg7 := Bg7.kept kc18 (by simp)
            replace O10 := O10.same (Same.of_kept kc18 (by simp))
            replace O11 := O11.same (Same.of_kept kc18 (by simp))
            replace Bg11 := Bg11.kept kc18 (by simp)
            replace Bg14 := Bg14.kept kc18 (by simp)
            clear kc18
            clear kb18
            refine L.val f93 (f93.yes rfl rfl) rfl (by decide) (E.not f93 rfl) fun a94 f94 => ?_
            clear f93 a93
            refine L.val f94 (f94.yes rfl rfl) rfl (by decide) (E.pickT f94 rfl rfl) fun a95 f95 => ?_
            clear f94 a94
            refine L.val f95 wantedN rfl (by decide) (E.pickF f95 rfl rfl) fun a96 f96 => ?_
            clear f95 a95
            refine L.val f96 wantedN rfl (by decide) (E.move f96 rfl) fun a97 f97 => ?_
            clear f96 a96
            refine L.val f97 (f97.yes rfl rfl) rfl (by decide) (E.move f97 rfl) fun a98 f98 => ?_
            clear f97 a97
            refine L.val f98 (f98.yes rfl rfl) rfl (by decide) (E.not f98 rfl) fun a99 f99 => ?_
            clear f98 a98
            refine L.val f99 (f99.yes rfl rfl) rfl (by decide) (E.move f99 rfl) fun a100 f100 => ?_
            clear f99 a99
            refine L.skip f100 (f100.noT rfl rfl) rfl (by decide) fun a101 f101 => ?_
            clear f100 a100
            refine L.skip f101 (f101.noT rfl rfl) rfl (by decide) fun a102 f102 => ?_
            clear f101 a101
            refine L.skip f102 (f102.noT rfl rfl) rfl (by decide) fun a103 f103 => ?_
            clear f102 a102
            refine L.skip f103 (f103.noT rfl rfl) rfl (by decide) fun a104 f104 => ?_
            clear f103 a103
            refine L.val f104 (f104.yes rfl rfl) rfl (by decide) (E.pickF f104 rfl rfl) fun a105 f105 => ?_
            clear f104 a104
            refine L.val f105 wantedN rfl (by decide) (E.pickF f105 rfl rfl) fun a106 f106 => ?_
            clear f105 a105
            refine L.val f106 wantedN rfl (by decide) (E.move f106 rfl) fun a107 f107 => ?_
            clear f106 a106
            refine L.val f107 (f107.yes rfl rfl) rfl (by decide) (E.move f107 rfl) fun a108 f108 => ?_
            clear f107 a107
            refine L.val f108 (f108.yes rfl rfl) rfl (by decide) (E.move f108 rfl) fun a109 f109 => ?_
            clear f108 a108
            refine L.val f109 (f109.yes rfl rfl) rfl (by decide) (E.eqlS f109 rfl rfl) fun a110 f110 => ?_
            clear f109 a109
            have f111 := f110.as (i := 98) (v' := .bool false) rfl (by simp [nameS])
            clear f110
            refine L.val f111 (f111.yes rfl rfl) rfl (by decide) (E.neqB f111 Try.underlying4 rfl rfl) fun a112 f112 => ?_
            clear f111 a110
            have f113 := f112.as (i := 99) (v' := .bool false) rfl rfl
            clear f112
            refine L.val f113 wantedN rfl (by decide) (E.pickF f113 rfl rfl) fun a114 f114 => ?_
            clear f113 a112
            refine L.val f114 wantedN rfl (by decide) (E.move f114 rfl) fun a115 f115 => ?_
            clear f114 a114
            refine L.val f115 (f115.yes rfl rfl) rfl (by decide) (E.move f115 rfl) fun a116 f116 => ?_
            clear f115 a115
            refine L.val f116 (f116.yes rfl rfl) rfl (by decide) (E.move f116 rfl) fun a117 f117 => ?_
            clear f116 a116
            refine L.skip f117 (f117.noT rfl rfl) rfl (by decide) fun a118 f118 => ?_
            clear f117 a117
            refine L.skip f118 (f118.noT rfl rfl) rfl (by decide) fun a119 f119 => ?_
            clear f118 a118
            refine L.skip f119 (f119.noT rfl rfl) rfl (by decide) fun a120 f120 => ?_
            clear f119 a119
            refine L.skip f120 (f120.noT rfl rfl) rfl (by decide) fun a121 f121 => ?_
            clear f120 a120
            refine L.skip f121 (f121.noT rfl rfl) rfl (by decide) fun a122 f122 => ?_
            clear f121 a121
            refine L.val f122 (f122.yes rfl rfl) rfl (by decide) (E.pickF f122 rfl rfl) fun a123 f123 => ?_
            clear f122 a122
            refine L.val f123 wantedN rfl (by decide) (E.pickF f123 rfl rfl) fun a124 f124 => ?_
            clear f123 a123
            refine L.val f124 wantedN rfl (by decide) (E.move f124 rfl) fun a125 f125 => ?_
            clear f124 a124
            refine L.val f125 (f125.yes rfl rfl) rfl (by decide) (E.move f125 rfl) fun a126 f126 => ?_
            clear f125 a125
            refine L.val f126 (f126.yes rfl rfl) rfl (by decide) (E.not f126 rfl) fun a127 f127 => ?_
            clear f126 a126
            refine L.val f127 (f127.yes rfl rfl) rfl (by decide) (E.move f127 rfl) fun a128 f128 => ?_
            clear f127 a127
            refine L.val f128 (f128.yes rfl rfl) rfl (by decide) (E.fieldAddr f128 Try.underlying37 rfl rfl wsz28) fun a129 f129 => ?_
            clear f128 a128
            refine L.val f129 (f129.yes rfl rfl) rfl (by decide) (by first | exact E.loadB f129 Try.underlying28 rfl wsz28 rfl (Bg7) rfl | exact E.loadB f129 Try.underlying28 rfl wsz28 rfl (Bg11) rfl | exact E.loadB f129 Try.underlying28 rfl wsz28 rfl (Bg14) rfl | exact E.loadA f129 Try.underlying28 rfl wsz28 rfl (row24i hcs) rfl) fun a130 f130 => ?_
            clear f129 a129
            refine L.val f130 (f130.yes rfl rfl) rfl (by decide) (E.build f130 (parts0 f130) builtZ) fun a131 f131 => ?_
            clear f130 a130
            refine L.call f131 (f131.yes rfl rfl) rfl (by decide) (run_call Try.call14 (args2 f131 rfl rfl)) (same_zero _) ?_
            rintro e w19 ⟨rfl, kb19⟩
            have kc19 := Kept.of_below kb19 []
            refine ⟨_, rfl, fun a132 f132 => ?_⟩
            clear f131 a131
            have szw19 := kc19.size
            replace HK := HK.trans kc19 (by simp)
            replace T := T.kept kc19 (by simp) (Same.of_kept kc19 (by simp))
            replace O := O.same (Same.of_kept kc19 (by simp))
            replace Bg7 := Bg7.kept kc19 (by simp)
            replace O10 := O10.same (Same.of_kept kc19 (by simp))
            replace O11 := O11.same (Same.of_kept kc19 (by simp))
            replace Bg11 := Bg11.kept kc19 (by simp)
            replace Bg14 := Bg14.kept kc19 (by simp)
            clear kc19
            clear kb19
            refine L.val f132 (f132.yes rfl rfl) rfl (by decide) (E.not f132 rfl) fun a133 f133 => ?_
            clear f132 a132
            refine L.val f133 (f133.yes rfl rfl) rfl (by decide) (E.pickT f133 rfl rfl) fun a134 f134 => ?_
            clear f133 a133
            refine L.val f134 wantedN rfl (by decide) (E.pickF f134 rfl rfl) fun a135 f135 => ?_
            clear f134 a134
            refine wpList_nil (hK43 _ _ ?_)
            try clear hK43 K43
            have f136 := f135.sub (sub_cons (i := 14) rfl (sub_cons (i := 15) rfl (sub_cons (i := 16) rfl (sub_cons (i := 17) rfl (sub_cons (i := 18) rfl (sub_cons (i := 19) rfl (sub_cons (i := 20) rfl (sub_cons (i := 45) rfl (sub_cons (i := 46) rfl (sub_cons (i := 47) rfl (sub_cons (i := 48) rfl (sub_cons (i := 49) rfl (sub_cons (i := 50) rfl (sub_cons (i := 51) rfl (sub_cons (i := 52) rfl (sub_cons (i := 53) rfl (sub_cons (i := 54) rfl (sub_cons (i := 55) rfl (sub_cons (i := 56) rfl (sub_cons (i := 57) rfl (sub_cons (i := 58) rfl (sub_cons (i := 59) rfl (sub_cons (i := 60) rfl (sub_cons (i := 61) rfl (sub_cons (i := 62) rfl (sub_cons (i := 63) rfl (sub_cons (i := 64) rfl (sub_cons (i := 65) rfl (sub_cons (i := 66) rfl (sub_cons (i := 67) rfl (sub_cons (i := 68) rfl (sub_cons (i := 69) rfl (sub_cons (i := 70) rfl (sub_cons (i := 71) rfl (sub_cons (i := 72) rfl (sub_cons (i := 73) rfl (sub_cons (i := 74) rfl (sub_cons (i := 75) rfl (sub_cons (i := 76) rfl (sub_cons (i := 77) rfl (sub_cons (i := 78) rfl (sub_cons (i := 79) rfl (sub_cons (i := 80) rfl (sub_cons (i := 81) rfl (sub_cons (i := 82) rfl (sub_cons (i := 83) rfl (sub_cons (i := 84) rfl (sub_cons (i := 85) rfl (sub_cons (i := 86) rfl (sub_cons (i := 87) rfl (sub_cons (i := 88) rfl (sub_cons (i := 89) rfl (sub_cons (i := 90) rfl (sub_cons (i := 91) rfl (sub_cons (i := 92) rfl (sub_cons (i := 93) rfl (sub_cons (i := 94) rfl (sub_cons (i := 95) rfl (sub_cons (i := 96) rfl (sub_cons (i := 97) rfl (sub_cons (i := 98) rfl (sub_cons (i := 99) rfl (sub_cons (i := 100) rfl (sub_cons (i := 101) rfl (sub_cons (i := 102) rfl (sub_cons (i := 103) rfl (sub_cons (i := 104) rfl (sub_cons (i := 105) rfl (sub_cons (i := 106) rfl (sub_cons (i := 107) rfl (sub_cons (i := 108) rfl (sub_cons (i := 109) rfl (sub_cons (i := 110) rfl (sub_cons (i := 111) rfl (sub_cons (i := 112) rfl (sub_cons (i := 113) rfl (sub_cons (i := 114) rfl (sub_cons (i := 115) rfl (sub_cons (i := 116) rfl (sub_cons (i := 117) rfl (sub_cons (i := 118) rfl (sub_cons (i := 119) rfl (sub_cons (i := 120) rfl (sub_cons (i := 121) rfl sub_nil))))))))))))))))))))))))))))))))))))))))))))))))))))))))))))))))))))))))))))))))))))
            clear f135
            refine C.condF f136 rfl ?_
            refine wp_skip (hK42 _ _ ?_)
            try clear hK42 K42
            have f137 := f136.sub (sub_cons (i := 14) rfl (sub_cons (i := 15) rfl (sub_cons (i := 16) rfl (sub_cons (i := 17) rfl (sub_cons (i := 18) rfl (sub_cons (i := 19) rfl (sub_cons (i := 20) rfl (sub_cons (i := 45) rfl (sub_cons (i := 46) rfl (sub_cons (i := 47) rfl (sub_cons (i := 48) rfl (sub_cons (i := 49) rfl (sub_cons (i := 50) rfl (sub_cons (i := 51) rfl (sub_cons (i := 52) rfl (sub_cons (i := 53) rfl (sub_cons (i := 54) rfl (sub_cons (i := 55) rfl (sub_cons (i := 56) rfl (sub_cons (i := 57) rfl (sub_cons (i := 58) rfl (sub_cons (i := 59) rfl (sub_cons (i := 60) rfl (sub_cons (i := 61) rfl (sub_cons (i := 62) rfl (sub_cons (i := 63) rfl (sub_cons (i := 64) rfl (sub_cons (i := 65) rfl (sub_cons (i := 66) rfl (sub_cons (i := 67) rfl (sub_cons (i := 68) rfl (sub_cons (i := 69) rfl (sub_cons (i := 70) rfl (sub_cons (i := 71) rfl (sub_cons (i := 72) rfl (sub_cons (i := 73) rfl (sub_cons (i := 74) rfl (sub_cons (i := 75) rfl (sub_cons (i := 76) rfl (sub_cons (i := 77) rfl (sub_cons (i := 78) rfl (sub_cons (i := 79) rfl (sub_cons (i := 80) rfl (sub_cons (i := 81) rfl (sub_cons (i := 82) rfl (sub_cons (i := 83) rfl (sub_cons (i := 84) rfl (sub_cons (i := 85) rfl (sub_cons (i := 86) rfl (sub_cons (i := 87) rfl (sub_cons (i := 88) rfl (sub_cons (i := 89) rfl (sub_cons (i := 90) rfl (sub_cons (i := 91) rfl (sub_cons (i := 92) rfl (sub_cons (i := 93) rfl (sub_cons (i := 94) rfl (sub_cons (i := 95) rfl (sub_cons (i := 96) rfl (sub_cons (i := 97) rfl (sub_cons (i := 98) rfl (sub_cons (i := 99) rfl (sub_cons (i := 100) rfl (sub_cons (i := 101) rfl (sub_cons (i := 102) rfl (sub_cons (i := 103) rfl (sub_cons (i := 104) rfl (sub_cons (i := 105) rfl (sub_cons (i := 106) rfl (sub_cons (i := 107) rfl (sub_cons (i := 108) rfl (sub_cons (i := 109) rfl (sub_cons (i := 110) rfl (sub_cons (i := 111) rfl (sub_cons (i := 112) rfl (sub_cons (i := 113) rfl (sub_cons (i := 114) rfl (sub_cons (i := 115) rfl (sub_cons (i := 116) rfl (sub_cons (i := 117) rfl (sub_cons (i := 118) rfl (sub_cons (i := 119) rfl (sub_cons (i := 120) rfl (sub_cons (i := 121) rfl sub_nil))))))))))))))))))))))))))))))))))))))))))))))))))))))))))))))))))))))))))))))))))))
            clear f136
            refine wp_seq_k fun K44 hK44 => ?_
            refine C.region ?_
            refine L.val f137 wantedN rfl (by decide) (E.assign f137 rfl) fun a138 f138 => ?_
            clear f137 a135
            refine wpList_nil (hK44 _ _ ?_)
            try clear hK44 K44
            have f139 := f138.sub (sub_cons (i := 14) rfl (sub_cons (i := 15) rfl (sub_cons (i := 16) rfl (sub_cons (i := 17) rfl (sub_cons (i := 18) rfl (sub_cons (i := 19) rfl (sub_cons (i := 20) rfl (sub_cons (i := 21) rfl (sub_cons (i := 45) rfl (sub_cons (i := 46) rfl (sub_cons (i := 47) rfl (sub_cons (i := 48) rfl (sub_cons (i := 49) rfl (sub_cons (i := 50) rfl (sub_cons (i := 51) rfl (sub_cons (i := 52) rfl (sub_cons (i := 53) rfl (sub_cons (i := 54) rfl (sub_cons (i := 55) rfl (sub_cons (i := 56) rfl (sub_cons (i := 57) rfl (sub_cons (i := 58) rfl (sub_cons (i := 59) rfl (sub_cons (i := 60) rfl (sub_cons (i := 61) rfl (sub_cons (i := 62) rfl (sub_cons (i := 63) rfl (sub_cons (i := 64) rfl (sub_cons (i := 65) rfl (sub_cons (i := 66) rfl (sub_cons (i := 67) rfl (sub_cons (i := 68) rfl (sub_cons (i := 69) rfl (sub_cons (i := 70) rfl (sub_cons (i := 71) rfl (sub_cons (i := 72) rfl (sub_cons (i := 73) rfl (sub_cons (i := 74) rfl (sub_cons (i := 75) rfl (sub_cons (i := 76) rfl (sub_cons (i := 77) rfl (sub_cons (i := 78) rfl (sub_cons (i := 79) rfl (sub_cons (i := 80) rfl (sub_cons (i := 81) rfl (sub_cons (i := 82) rfl (sub_cons (i := 83) rfl (sub_cons (i := 84) rfl (sub_cons (i := 85) rfl (sub_cons (i := 86) rfl (sub_cons (i := 87) rfl (sub_cons (i := 88) rfl (sub_cons (i := 89) rfl (sub_cons (i := 90) rfl (sub_cons (i := 91) rfl (sub_cons (i := 92) rfl (sub_cons (i := 93) rfl (sub_cons (i := 94) rfl (sub_cons (i := 95) rfl (sub_cons (i := 96) rfl (sub_cons (i := 97) rfl (sub_cons (i := 98) rfl (sub_cons (i := 99) rfl (sub_cons (i := 100) rfl (sub_cons (i := 101) rfl (sub_cons (i := 102) rfl (sub_cons (i := 103) rfl (sub_cons (i := 104) rfl (sub_cons (i := 105) rfl (sub_cons (i := 106) rfl (sub_cons (i := 107) rfl (sub_cons (i := 108) rfl (sub_cons (i := 109) rfl (sub_cons (i := 110) rfl (sub_cons (i := 111) rfl (sub_cons (i := 112) rfl (sub_cons (i := 113) rfl (sub_cons (i := 114) rfl (sub_cons (i := 115) rfl (sub_cons (i := 116) rfl (sub_cons (i := 117) rfl (sub_cons (i := 118) rfl (sub_cons (i := 119) rfl (sub_cons (i := 120) rfl (sub_cons (i := 121) rfl sub_nil)))))))))))))))))))))))))))))))))))))))))))))))))))))))))))))))))))))))))))))))))))))
            clear f138
            refine wp_seq_k fun K45 hK45 => ?_
            refine wp_seq_k fun K46 hK46 => ?_
            refine C.region ?_
            refine L.val f139 wantedN rfl (by decide) (E.move f139 rfl) fun a140 f140 => ?_
            clear f139 a138
            refine L.val f140 wantedN rfl (by decide) (E.eqlS f140 rfl rfl) fun a141 f141 => ?_
            clear f140 a140
            have f142 := f141.as (i := 123) (v' := .bool false) rfl (by simp [nameS])
            clear f141
            refine L.val f142 wantedN rfl (by decide) (E.move f142 rfl) fun a143 f143 => ?_
            clear f142 a141
            refine L.val f143 (f143.yes rfl rfl) rfl (by decide) (E.move f143 rfl) fun a144 f144 => ?_
            clear f143 a143
            refine L.val f144 (f144.yes rfl rfl) rfl (by decide) (E.eqlS f144 rfl rfl) fun a145 f145 => ?_
            clear f144 a144
            have f146 := f145.as (i := 126) (v' := .bool false) rfl (by simp [nameS])
            clear f145
            refine L.val f146 wantedN rfl (by decide) (E.pickF f146 rfl rfl) fun a147 f147 => ?_
            clear f146 a145
            refine L.val f147 wantedN rfl (by decide) (E.move f147 rfl) fun a148 f148 => ?_
            clear f147 a147
            refine L.val f148 (f148.yes rfl rfl) rfl (by decide) (E.move f148 rfl) fun a149 f149 => ?_
            clear f148 a148
            refine L.val f149 (f149.yes rfl rfl) rfl (by decide) (E.eqlS f149 rfl rfl) fun a150 f150 => ?_
            clear f149 a149
            have f151 := f150.as (i := 130) (v' := .bool true) rfl (by simp [nameS])
            clear f150
            refine L.val f151 wantedN rfl (by decide) (E.pickF f151 rfl rfl) fun a152 f152 => ?_
            clear f151 a150
            refine wpList_nil (hK46 _ _ ?_)
            try clear hK46 K46
            have f153 := f152.sub (sub_cons (i := 14) rfl (sub_cons (i := 15) rfl (sub_cons (i := 16) rfl (sub_cons (i := 17) rfl (sub_cons (i := 18) rfl (sub_cons (i := 19) rfl (sub_cons (i := 20) rfl (sub_cons (i := 21) rfl (sub_cons (i := 45) rfl (sub_cons (i := 46) rfl (sub_cons (i := 47) rfl (sub_cons (i := 48) rfl (sub_cons (i := 49) rfl (sub_cons (i := 50) rfl (sub_cons (i := 51) rfl (sub_cons (i := 52) rfl (sub_cons (i := 53) rfl (sub_cons (i := 54) rfl (sub_cons (i := 55) rfl (sub_cons (i := 56) rfl (sub_cons (i := 57) rfl (sub_cons (i := 58) rfl (sub_cons (i := 59) rfl (sub_cons (i := 60) rfl (sub_cons (i := 61) rfl (sub_cons (i := 62) rfl (sub_cons (i := 63) rfl (sub_cons (i := 64) rfl (sub_cons (i := 65) rfl (sub_cons (i := 66) rfl (sub_cons (i := 67) rfl (sub_cons (i := 68) rfl (sub_cons (i := 69) rfl (sub_cons (i := 70) rfl (sub_cons (i := 71) rfl (sub_cons (i := 72) rfl (sub_cons (i := 73) rfl (sub_cons (i := 74) rfl (sub_cons (i := 75) rfl (sub_cons (i := 76) rfl (sub_cons (i := 77) rfl (sub_cons (i := 78) rfl (sub_cons (i := 79) rfl (sub_cons (i := 80) rfl (sub_cons (i := 81) rfl (sub_cons (i := 82) rfl (sub_cons (i := 83) rfl (sub_cons (i := 84) rfl (sub_cons (i := 85) rfl (sub_cons (i := 86) rfl (sub_cons (i := 87) rfl (sub_cons (i := 88) rfl (sub_cons (i := 89) rfl (sub_cons (i := 90) rfl (sub_cons (i := 91) rfl (sub_cons (i := 92) rfl (sub_cons (i := 93) rfl (sub_cons (i := 94) rfl (sub_cons (i := 95) rfl (sub_cons (i := 96) rfl (sub_cons (i := 97) rfl (sub_cons (i := 98) rfl (sub_cons (i := 99) rfl (sub_cons (i := 100) rfl (sub_cons (i := 101) rfl (sub_cons (i := 102) rfl (sub_cons (i := 103) rfl (sub_cons (i := 104) rfl (sub_cons (i := 105) rfl (sub_cons (i := 106) rfl (sub_cons (i := 107) rfl (sub_cons (i := 108) rfl (sub_cons (i := 109) rfl (sub_cons (i := 110) rfl (sub_cons (i := 111) rfl (sub_cons (i := 112) rfl (sub_cons (i := 113) rfl (sub_cons (i := 114) rfl (sub_cons (i := 115) rfl (sub_cons (i := 116) rfl (sub_cons (i := 117) rfl (sub_cons (i := 118) rfl (sub_cons (i := 119) rfl (sub_cons (i := 120) rfl (sub_cons (i := 121) rfl (sub_cons (i := 122) rfl (sub_cons (i := 123) rfl (sub_cons (i := 124) rfl (sub_cons (i := 125) rfl (sub_cons (i := 126) rfl (sub_cons (i := 127) rfl (sub_cons (i := 128) rfl (sub_cons (i := 129) rfl (sub_cons (i := 130) rfl (sub_cons (i := 131) rfl sub_nil)))))))))))))))))))))))))))))))))))))))))))))))))))))))))))))))))))))))))))))))))))))))))))))))
            clear f152
            refine C.condT f153 rfl ?_
            refine C.region ?_
            refine L.val f153 wantedN rfl (by decide) (E.fieldAddr f153 Try.underlying28 rfl rfl wsz3) fun a154 f154 => ?_
            clear f153 a152
            refine L.val f154 wantedN rfl (by decide) (by first | exact E.load f154 Try.underlying3 rfl rfl ((Bg7).cell_ rfl) | exact E.load f154 Try.underlying3 rfl rfl ((Bg11).cell_ rfl) | exact E.load f154 Try.underlying3 rfl rfl ((Bg14).cell_ rfl)) fun a155 f155 => ?_
            clear f154 a154
            refine L.val f155 wantedN rfl (by decide) (E.assign f155 rfl) fun a156 f156 => ?_
            clear f155 a155
            refine wpList_nil (hK45 _ _ ?_)
            try clear hK45 K45
            have f157 := f156.sub (sub_cons (i := 14) rfl (sub_cons (i := 15) rfl (sub_cons (i := 16) rfl (sub_cons (i := 17) rfl (sub_cons (i := 18) rfl (sub_cons (i := 19) rfl (sub_cons (i := 20) rfl (sub_cons (i := 21) rfl (sub_cons (i := 45) rfl (sub_cons (i := 46) rfl (sub_cons (i := 47) rfl (sub_cons (i := 48) rfl (sub_cons (i := 49) rfl (sub_cons (i := 50) rfl (sub_cons (i := 51) rfl (sub_cons (i := 52) rfl (sub_cons (i := 53) rfl (sub_cons (i := 54) rfl (sub_cons (i := 55) rfl (sub_cons (i := 56) rfl (sub_cons (i := 57) rfl (sub_cons (i := 58) rfl (sub_cons (i := 59) rfl (sub_cons (i := 60) rfl (sub_cons (i := 61) rfl (sub_cons (i := 62) rfl (sub_cons (i := 63) rfl (sub_cons (i := 64) rfl (sub_cons (i := 65) rfl (sub_cons (i := 66) rfl (sub_cons (i := 67) rfl (sub_cons (i := 68) rfl (sub_cons (i := 69) rfl (sub_cons (i := 70) rfl (sub_cons (i := 71) rfl (sub_cons (i := 72) rfl (sub_cons (i := 73) rfl (sub_cons (i := 74) rfl (sub_cons (i := 75) rfl (sub_cons (i := 76) rfl (sub_cons (i := 77) rfl (sub_cons (i := 78) rfl (sub_cons (i := 79) rfl (sub_cons (i := 80) rfl (sub_cons (i := 81) rfl (sub_cons (i := 82) rfl (sub_cons (i := 83) rfl (sub_cons (i := 84) rfl (sub_cons (i := 85) rfl (sub_cons (i := 86) rfl (sub_cons (i := 87) rfl (sub_cons (i := 88) rfl (sub_cons (i := 89) rfl (sub_cons (i := 90) rfl (sub_cons (i := 91) rfl (sub_cons (i := 92) rfl (sub_cons (i := 93) rfl (sub_cons (i := 94) rfl (sub_cons (i := 95) rfl (sub_cons (i := 96) rfl (sub_cons (i := 97) rfl (sub_cons (i := 98) rfl (sub_cons (i := 99) rfl (sub_cons (i := 100) rfl (sub_cons (i := 101) rfl (sub_cons (i := 102) rfl (sub_cons (i := 103) rfl (sub_cons (i := 104) rfl (sub_cons (i := 105) rfl (sub_cons (i := 106) rfl (sub_cons (i := 107) rfl (sub_cons (i := 108) rfl (sub_cons (i := 109) rfl (sub_cons (i := 110) rfl (sub_cons (i := 111) rfl (sub_cons (i := 112) rfl (sub_cons (i := 113) rfl (sub_cons (i := 114) rfl (sub_cons (i := 115) rfl (sub_cons (i := 116) rfl (sub_cons (i := 117) rfl (sub_cons (i := 118) rfl (sub_cons (i := 119) rfl (sub_cons (i := 120) rfl (sub_cons (i := 121) rfl (sub_cons (i := 122) rfl (sub_cons (i := 123) rfl (sub_cons (i := 124) rfl (sub_cons (i := 125) rfl (sub_cons (i := 126) rfl (sub_cons (i := 127) rfl (sub_cons (i := 128) rfl (sub_cons (i := 129) rfl (sub_cons (i := 130) rfl (sub_cons (i := 131) rfl (sub_cons (i := 132) rfl (sub_cons (i := 133) rfl sub_nil)))))))))))))))))))))))))))))))))))))))))))))))))))))))))))))))))))))))))))))))))))))))))))))))))
            clear f156
            refine wp_seq_k fun K47 hK47 => ?_
            refine C.region ?_
            refine L.val f157 wantedN rfl (by decide) (E.move f157 rfl) fun a158 f158 => ?_
            clear f157 a156
            refine L.call f158 wantedN rfl (by decide) (run_call Try.call15 (args1 f158 rfl)) (id_of 3 (by decide) p s10 _) ?_
            rintro e w20 ⟨rfl, kb20⟩
            have kc20 := Kept.of_below kb20 []
            refine ⟨_, rfl, fun a159 f159 => ?_⟩
            clear f158 a158
            have szw20 := kc20.size
            replace HK := HK.trans kc20 (by simp)
            replace T := T.kept kc20 (by simp) (Same.of_kept kc20 (by simp))
            replace O := O.same (Same.of_kept kc20 (by simp))
            replace Bg7 := Bg7.kept kc20 (by simp)
            replace O10 := O10.same (Same.of_kept kc20 (by simp))
            replace O11 := O11.same (Same.of_kept kc20 (by simp))
            replace Bg11 := Bg11.kept kc20 (by simp)
            replace Bg14 := Bg14.kept kc20 (by simp)
            clear kc20
            clear kb20
            refine L.val f159 wantedN rfl (by decide) (E.move f159 rfl) fun a160 f160 => ?_
            clear f159 a159
            refine L.val f160 wantedN rfl (by decide) (E.neq f160 rfl rfl) fun a161 f161 => ?_
            clear f160 a160
            have f162 := f161.as (i := 137) (v' := .bool false) rfl (by simp [idOf])
            clear f161
            refine wpList_nil (hK47 _ _ ?_)
            try clear hK47 K47
            have f163 := f162.sub (sub_cons (i := 14) rfl (sub_cons (i := 15) rfl (sub_cons (i := 16) rfl (sub_cons (i := 17) rfl (sub_cons (i := 18) rfl (sub_cons (i := 19) rfl (sub_cons (i := 20) rfl (sub_cons (i := 21) rfl (sub_cons (i := 45) rfl (sub_cons (i := 46) rfl (sub_cons (i := 47) rfl (sub_cons (i := 48) rfl (sub_cons (i := 49) rfl (sub_cons (i := 50) rfl (sub_cons (i := 51) rfl (sub_cons (i := 52) rfl (sub_cons (i := 53) rfl (sub_cons (i := 54) rfl (sub_cons (i := 55) rfl (sub_cons (i := 56) rfl (sub_cons (i := 57) rfl (sub_cons (i := 58) rfl (sub_cons (i := 59) rfl (sub_cons (i := 60) rfl (sub_cons (i := 61) rfl (sub_cons (i := 62) rfl (sub_cons (i := 63) rfl (sub_cons (i := 64) rfl (sub_cons (i := 65) rfl (sub_cons (i := 66) rfl (sub_cons (i := 67) rfl (sub_cons (i := 68) rfl (sub_cons (i := 69) rfl (sub_cons (i := 70) rfl (sub_cons (i := 71) rfl (sub_cons (i := 72) rfl (sub_cons (i := 73) rfl (sub_cons (i := 74) rfl (sub_cons (i := 75) rfl (sub_cons (i := 76) rfl (sub_cons (i := 77) rfl (sub_cons (i := 78) rfl (sub_cons (i := 79) rfl (sub_cons (i := 80) rfl (sub_cons (i := 81) rfl (sub_cons (i := 82) rfl (sub_cons (i := 83) rfl (sub_cons (i := 84) rfl (sub_cons (i := 85) rfl (sub_cons (i := 86) rfl (sub_cons (i := 87) rfl (sub_cons (i := 88) rfl (sub_cons (i := 89) rfl (sub_cons (i := 90) rfl (sub_cons (i := 91) rfl (sub_cons (i := 92) rfl (sub_cons (i := 93) rfl (sub_cons (i := 94) rfl (sub_cons (i := 95) rfl (sub_cons (i := 96) rfl (sub_cons (i := 97) rfl (sub_cons (i := 98) rfl (sub_cons (i := 99) rfl (sub_cons (i := 100) rfl (sub_cons (i := 101) rfl (sub_cons (i := 102) rfl (sub_cons (i := 103) rfl (sub_cons (i := 104) rfl (sub_cons (i := 105) rfl (sub_cons (i := 106) rfl (sub_cons (i := 107) rfl (sub_cons (i := 108) rfl (sub_cons (i := 109) rfl (sub_cons (i := 110) rfl (sub_cons (i := 111) rfl (sub_cons (i := 112) rfl (sub_cons (i := 113) rfl (sub_cons (i := 114) rfl (sub_cons (i := 115) rfl (sub_cons (i := 116) rfl (sub_cons (i := 117) rfl (sub_cons (i := 118) rfl (sub_cons (i := 119) rfl (sub_cons (i := 120) rfl (sub_cons (i := 121) rfl (sub_cons (i := 122) rfl (sub_cons (i := 123) rfl (sub_cons (i := 124) rfl (sub_cons (i := 125) rfl (sub_cons (i := 126) rfl (sub_cons (i := 127) rfl (sub_cons (i := 128) rfl (sub_cons (i := 129) rfl (sub_cons (i := 130) rfl (sub_cons (i := 131) rfl (sub_cons (i := 132) rfl (sub_cons (i := 133) rfl (sub_cons (i := 134) rfl (sub_cons (i := 135) rfl (sub_cons (i := 136) rfl (sub_cons (i := 137) rfl sub_nil)))))))))))))))))))))))))))))))))))))))))))))))))))))))))))))))))))))))))))))))))))))))))))))))))))))
            clear f162
            refine C.condF f163 rfl ?_
            refine wp_skip (hK12 _ _ ?_)
            try clear hK12 K12
            have f164 := f163.sub (sub_cons (i := 14) rfl (sub_cons (i := 15) rfl (sub_cons (i := 16) rfl (sub_cons (i := 17) rfl (sub_cons (i := 18) rfl (sub_cons (i := 19) rfl (sub_cons (i := 20) rfl (sub_cons (i := 21) rfl (sub_cons (i := 45) rfl (sub_cons (i := 46) rfl (sub_cons (i := 47) rfl (sub_cons (i := 48) rfl (sub_cons (i := 49) rfl (sub_cons (i := 50) rfl (sub_cons (i := 51) rfl (sub_cons (i := 52) rfl (sub_cons (i := 53) rfl (sub_cons (i := 54) rfl (sub_cons (i := 55) rfl (sub_cons (i := 56) rfl (sub_cons (i := 57) rfl (sub_cons (i := 58) rfl (sub_cons (i := 59) rfl (sub_cons (i := 60) rfl (sub_cons (i := 61) rfl (sub_cons (i := 62) rfl (sub_cons (i := 63) rfl (sub_cons (i := 64) rfl (sub_cons (i := 65) rfl (sub_cons (i := 66) rfl (sub_cons (i := 67) rfl (sub_cons (i := 68) rfl (sub_cons (i := 69) rfl (sub_cons (i := 70) rfl (sub_cons (i := 71) rfl (sub_cons (i := 72) rfl (sub_cons (i := 73) rfl (sub_cons (i := 74) rfl (sub_cons (i := 75) rfl (sub_cons (i := 76) rfl (sub_cons (i := 77) rfl (sub_cons (i := 78) rfl (sub_cons (i := 79) rfl (sub_cons (i := 80) rfl (sub_cons (i := 81) rfl (sub_cons (i := 82) rfl (sub_cons (i := 83) rfl (sub_cons (i := 84) rfl (sub_cons (i := 85) rfl (sub_cons (i := 86) rfl (sub_cons (i := 87) rfl (sub_cons (i := 88) rfl (sub_cons (i := 89) rfl (sub_cons (i := 90) rfl (sub_cons (i := 91) rfl (sub_cons (i := 92) rfl (sub_cons (i := 93) rfl (sub_cons (i := 94) rfl (sub_cons (i := 95) rfl (sub_cons (i := 96) rfl (sub_cons (i := 97) rfl (sub_cons (i := 98) rfl (sub_cons (i := 99) rfl (sub_cons (i := 100) rfl (sub_cons (i := 101) rfl (sub_cons (i := 102) rfl (sub_cons (i := 103) rfl (sub_cons (i := 104) rfl (sub_cons (i := 105) rfl (sub_cons (i := 106) rfl (sub_cons (i := 107) rfl (sub_cons (i := 108) rfl (sub_cons (i := 109) rfl (sub_cons (i := 110) rfl (sub_cons (i := 111) rfl (sub_cons (i := 112) rfl (sub_cons (i := 113) rfl (sub_cons (i := 114) rfl (sub_cons (i := 115) rfl (sub_cons (i := 116) rfl (sub_cons (i := 117) rfl (sub_cons (i := 118) rfl (sub_cons (i := 119) rfl (sub_cons (i := 120) rfl (sub_cons (i := 121) rfl (sub_cons (i := 122) rfl (sub_cons (i := 123) rfl (sub_cons (i := 124) rfl (sub_cons (i := 125) rfl (sub_cons (i := 126) rfl (sub_cons (i := 127) rfl (sub_cons (i := 128) rfl (sub_cons (i := 129) rfl (sub_cons (i := 130) rfl (sub_cons (i := 131) rfl (sub_cons (i := 132) rfl (sub_cons (i := 133) rfl (sub_cons (i := 134) rfl (sub_cons (i := 135) rfl (sub_cons (i := 136) rfl (sub_cons (i := 137) rfl sub_nil)))))))))))))))))))))))))))))))))))))))))))))))))))))))))))))))))))))))))))))))))))))))))))))))))))))
            clear f163
            refine C.region ?_
            refine L.val f164 wantedN rfl (by decide) (E.add f164 rfl rfl (IntWalk.i64_in _ (by omega))) fun a165 f165 => ?_
            clear f164 a161
            refine L.val f165 wantedN rfl (by decide) (E.move f165 rfl) fun a166 f166 => ?_
            clear f165 a165
            refine wpList_nil (hKL9 _ _ (gk10 - 1) ?_ ?_)
            · omega
            · exact ⟨i + 1, by omega, HK, T, by omega, f166.sub (sub_cons rfl (sub_cons rfl (sub_cons rfl sub_nil)))⟩
          · have hkq := hkp
            refine C.region ?_
            refine L.val f51 wantedN rfl (by decide) (E.move f51 rfl) fun a52 f52 => ?_
            clear f51 a50
            refine L.call f52 wantedN rfl (by decide) (run_call Try.call10 (args1 f52 rfl)) (packet_of w.heap.size 4 (by decide) p s10 _ O10 hl.small HK.size) ?_
            rintro e w11 ⟨s11, rfl, O11, kb11⟩
            have kc11 := Kept.of_below kb11 []
            refine ⟨_, rfl, fun a53 f53 => ?_⟩
            clear f52 a52
            have szw11 := kc11.size
            replace HK := HK.trans kc11 (by simp)
            replace T := T.kept kc11 (by simp) (Same.of_kept kc11 (by simp))
            replace O := O.same (Same.of_kept kc11 (by simp))
            replace Bg7 := Bg7.kept kc11 (by simp)
            replace O10 := O10.same (Same.of_kept kc11 (by simp))
            clear kc11
            clear kb11
            refine L.val f53 wantedN rfl (by decide) (E.move f53 rfl) fun a54 f54 => ?_
            clear f53 a53
            refine L.val f54 wantedN rfl (by decide) (E.extract f54 rfl rfl) fun a55 f55 => ?_
            clear f54 a54
            refine L.val f55 wantedN rfl (by decide) (E.extract f55 rfl rfl) fun a56 f56 => ?_
            clear f55 a55
            refine L.alloc f56 wantedN (by decide) (z := (.agg #[(.int .i64 0), (.bool false), (.bool false), (.int .i64 0), (.int .i64 0), (.string ⟨#[]⟩), (.slice none 0 0), (.int .i64 0), (.string ⟨#[]⟩), (.bool false), (.int .i64 0), (.bool false), (.string ⟨#[]⟩), (.slice none 0 0), (.int .i64 0), (.bool false), (.bool false), (.bool false), (.string ⟨#[]⟩), (.slice none 0 0), (.bool false), (.int .i64 0), (.slice none 0 0), (.slice none 0 0)])) (fun _ => by kernel_rfl) rfl fun a57 w12 g11 N11 f57 => ?_
            have Bg11 := N11.blk
            have kg11 := N11.kept
            have log11 := N11.lo
            have ltg11 := Bg11.lt
            have szw12 := kg11.size
            have frg11 : w.heap.size ≤ g11 := Nat.le_trans HK.size log11
            have neg7_g11 : g7 ≠ g11 := by have := Bg7.lt; omega
            replace HK := HK.trans kg11 (by simp)
            replace T := T.kept kg11 (by simp) (Same.of_kept kg11 (by simp))
            replace O := O.same (Same.of_kept kg11 (by simp))
            replace Bg7 := Bg7.kept kg11 (by simp)
            replace O10 := O10.same (Same.of_kept kg11 (by simp))
            replace O11 := O11.same (Same.of_kept kg11 (by simp))
            clear N11 kg11
            clear f56 a56
            refine L.storeR f57 wantedN wsz28 rfl rfl rfl Bg11 rfl rfl fun a58 w13 f58 NB13 ks13 => ?_
            have szw13 := ks13.size
            replace HK := HK.trans ks13 (by intro x hx hlt; simp at hx; subst hx; first | (exfalso; omega) | simp)
            replace T := T.kept ks13 (by simp; omega) (Same.of_kept ks13 (by intro x hx hlt; simp at hx; subst hx; exact ⟨by omega, Bg11.not_typ (by decide)⟩))
            replace O := O.same (Same.of_kept ks13 (by intro x hx hlt; simp at hx; subst hx; exact ⟨by omega, Bg11.not_typ (by decide)⟩))
            replace Bg7 := Bg7.kept ks13 (by simp; omega)
            replace O10 := O10.same (Same.of_kept ks13 (by intro x hx hlt; simp at hx; subst hx; exact ⟨by omega, Bg11.not_typ (by decide)⟩))
            replace O11 := O11.same (Same.of_kept ks13 (by intro x hx hlt; simp at hx; subst hx; exact ⟨by omega, Bg11.not_typ (by decide)⟩))
            replace Bg11 := NB13
            clear ks13 f57 a57
            refine L.val f58 wantedN rfl (by decide) (E.assign f58 rfl) fun a59 f59 => ?_
            clear f58 a58
            refine wpList_nil (hK15 _ _ ?_)
            try clear hK15 K15
            have f60 := f59.sub (sub_cons (i := 14) rfl (sub_cons (i := 15) rfl (sub_cons (i := 16) rfl (sub_cons (i := 17) rfl (sub_cons (i := 45) rfl (sub_cons (i := 46) rfl (sub_cons (i := 47) rfl (sub_cons (i := 48) rfl (sub_cons (i := 49) rfl (sub_cons (i := 50) rfl (sub_cons (i := 51) rfl (sub_cons (i := 52) rfl (sub_cons (i := 53) rfl (sub_cons (i := 54) rfl (sub_cons (i := 55) rfl (sub_cons (i := 56) rfl (sub_cons (i := 57) rfl sub_nil)))))))))))))))))
            clear f59
            refine wp_seq_k fun K48 hK48 => ?_
            refine C.region ?_
            refine L.val f60 wantedN rfl (by decide) (E.move f60 rfl) fun a61 f61 => ?_
            clear f60 a59
            refine L.call f61 wantedN rfl (by decide) (run_call Try.call11 (args1 f61 rfl)) (try_other _ (.inr ⟨_, _, rfl, by decide⟩) _) ?_
            rintro e w14 ⟨rfl, kb14⟩
            have kc14 := Kept.of_below kb14 []
            refine ⟨_, rfl, fun a62 f62 => ?_⟩
            clear f61 a61
            have szw14 := kc14.size
            replace HK := HK.trans kc14 (by simp)
            replace T := T.kept kc14 (by simp) (Same.of_kept kc14 (by simp))
            replace O := O.same (Same.of_kept kc14 (by simp))
            replace Bg7 := Bg7.kept kc14 (by simp)
            replace O10 := O10.same (Same.of_kept kc14 (by simp))
            replace O11 := O11.same (Same.of_kept kc14 (by simp))
            replace Bg11 := Bg11.kept kc14 (by simp)
            clear kc14
            clear kb14
            refine L.val f62 wantedN rfl (by decide) (E.move f62 rfl) fun a63 f63 => ?_
            clear f62 a62
            refine L.val f63 wantedN rfl (by decide) (E.extract f63 rfl rfl) fun a64 f64 => ?_
            clear f63 a63
            refine L.val f64 wantedN rfl (by decide) (E.extract f64 rfl rfl) fun a65 f65 => ?_
            clear f64 a64
            refine L.alloc f65 wantedN (by decide) (z := (.agg #[(.int .i64 0), (.bool false), (.bool false), (.int .i64 0), (.int .i64 0), (.string ⟨#[]⟩), (.slice none 0 0), (.int .i64 0), (.string ⟨#[]⟩), (.bool false), (.int .i64 0), (.bool false), (.string ⟨#[]⟩), (.slice none 0 0), (.int .i64 0), (.bool false), (.bool false), (.bool false), (.string ⟨#[]⟩), (.slice none 0 0), (.bool false), (.int .i64 0), (.slice none 0 0), (.slice none 0 0)])) (fun _ => by kernel_rfl) rfl fun a66 w15 g14 N14 f66 => ?_
            have Bg14 := N14.blk
            have kg14 := N14.kept
            have log14 := N14.lo
            have ltg14 := Bg14.lt
            have szw15 := kg14.size
            have frg14 : w.heap.size ≤ g14 := Nat.le_trans HK.size log14
            have neg7_g14 : g7 ≠ g14 := by have := Bg7.lt; omega
            have neg11_g14 : g11 ≠ g14 := by have := Bg11.lt; omega
            replace HK := HK.trans kg14 (by simp)
            replace T := T.kept kg14 (by simp) (Same.of_kept kg14 (by simp))
            replace O := O.same (Same.of_kept kg14 (by simp))
            replace Bg7 := Bg7.kept kg14 (by simp)
            replace O10 := O10.same (Same.of_kept kg14 (by simp))
            replace O11 := O11.same (Same.of_kept kg14 (by simp))
            replace Bg11 := Bg11.kept kg14 (by simp)
            clear N14 kg14
            clear f65 a65
            refine L.storeR f66 wantedN wsz37 rfl rfl rfl Bg14 rfl rfl fun a67 w16 f67 NB16 ks16 => ?_
            have szw16 := ks16.size
            replace HK := HK.trans ks16 (by intro x hx hlt; simp at hx; subst hx; first | (exfalso; omega) | simp)
            replace T := T.kept ks16 (by simp; omega) (Same.of_kept ks16 (by intro x hx hlt; simp at hx; subst hx; exact ⟨by omega, Bg14.not_typ (by decide)⟩))
            replace O := O.same (Same.of_kept ks16 (by intro x hx hlt; simp at hx; subst hx; exact ⟨by omega, Bg14.not_typ (by decide)⟩))
            replace Bg7 := Bg7.kept ks16 (by simp; omega)
            replace O10 := O10.same (Same.of_kept ks16 (by intro x hx hlt; simp at hx; subst hx; exact ⟨by omega, Bg14.not_typ (by decide)⟩))
            replace O11 := O11.same (Same.of_kept ks16 (by intro x hx hlt; simp at hx; subst hx; exact ⟨by omega, Bg14.not_typ (by decide)⟩))
            replace Bg11 := Bg11.kept ks16 (by simp; omega)
            replace Bg14 := NB16
            clear ks16 f66 a66
            refine L.val f67 wantedN rfl (by decide) (E.assign f67 rfl) fun a68 f68 => ?_
            clear f67 a67
            refine wpList_nil (hK48 _ _ ?_)
            try clear hK48 K48
            have f69 := f68.sub (sub_cons (i := 14) rfl (sub_cons (i := 15) rfl (sub_cons (i := 16) rfl (sub_cons (i := 17) rfl (sub_cons (i := 18) rfl (sub_cons (i := 19) rfl (sub_cons (i := 45) rfl (sub_cons (i := 46) rfl (sub_cons (i := 47) rfl (sub_cons (i := 48) rfl (sub_cons (i := 49) rfl (sub_cons (i := 50) rfl (sub_cons (i := 51) rfl (sub_cons (i := 52) rfl (sub_cons (i := 53) rfl (sub_cons (i := 54) rfl (sub_cons (i := 55) rfl (sub_cons (i := 56) rfl (sub_cons (i := 57) rfl (sub_cons (i := 58) rfl (sub_cons (i := 59) rfl (sub_cons (i := 60) rfl (sub_cons (i := 61) rfl (sub_cons (i := 62) rfl sub_nil))))))))))))))))))))))))
            clear f68
            refine wp_seq_k fun K49 hK49 => ?_
            refine C.region ?_
            refine L.val f69 wantedN rfl (by decide) (E.fieldAddr f69 Try.underlying28 rfl rfl wsz3) fun a70 f70 => ?_
            clear f69 a68
            refine L.val f70 wantedN rfl (by decide) (by first | exact E.load f70 Try.underlying3 rfl rfl ((Bg7).cell_ rfl) | exact E.load f70 Try.underlying3 rfl rfl ((Bg11).cell_ rfl) | exact E.load f70 Try.underlying3 rfl rfl ((Bg14).cell_ rfl)) fun a71 f71 => ?_
            clear f70 a70
            refine L.call f71 wantedN rfl (by decide) (run_call Try.call12 (args1 f71 rfl)) (name_n hkp _) ?_
            rintro e w16x ⟨rfl, rfl⟩
            refine ⟨_, rfl, fun a72 f72 => ?_⟩
            clear f71 a71
            refine L.val f72 wantedN rfl (by decide) (E.assign f72 rfl) fun a73 f73 => ?_
            clear f72 a72
            refine wpList_nil (hK49 _ _ ?_)
            try clear hK49 K49
            have f74 := f73.sub (sub_cons (i := 14) rfl (sub_cons (i := 15) rfl (sub_cons (i := 16) rfl (sub_cons (i := 17) rfl (sub_cons (i := 18) rfl (sub_cons (i := 19) rfl (sub_cons (i := 20) rfl (sub_cons (i := 45) rfl (sub_cons (i := 46) rfl (sub_cons (i := 47) rfl (sub_cons (i := 48) rfl (sub_cons (i := 49) rfl (sub_cons (i := 50) rfl (sub_cons (i := 51) rfl (sub_cons (i := 52) rfl (sub_cons (i := 53) rfl (sub_cons (i := 54) rfl (sub_cons (i := 55) rfl (sub_cons (i := 56) rfl (sub_cons (i := 57) rfl (sub_cons (i := 58) rfl (sub_cons (i := 59) rfl (sub_cons (i := 60) rfl (sub_cons (i := 61) rfl (sub_cons (i := 62) rfl (sub_cons (i := 63) rfl (sub_cons (i := 64) rfl (sub_cons (i := 65) rfl sub_nil))))))))))))))))))))))))))))
            clear f73
            refine wp_seq_k fun K50 hK50 => ?_
            refine wp_seq_k fun K51 hK51 => ?_
            refine C.region ?_
            refine L.val f74 wantedN rfl (by decide) (E.move f74 rfl) fun a75 f75 => ?_
            clear f74 a73
            refine L.call f75 wantedN rfl (by decide) (run_call Try.call13 (args1 f75 rfl)) (name_of 4 (by decide) _ _) ?_
            rintro e w17 ⟨rfl, kb17⟩
            have kc17 := Kept.of_below kb17 []
            refine ⟨_, rfl, fun a76 f76 => ?_⟩
            clear f75 a75
            have szw17 := kc17.size
            replace HK := HK.trans kc17 (by simp)
            replace T := T.kept kc17 (by simp) (Same.of_kept kc17 (by simp))
            replace O := O.same (Same.of_kept kc17 (by simp))
            replace Bg7 := Bg7.kept kc17 (by simp)
            replace O10 := O10.same (Same.of_kept kc17 (by simp))
            replace O11 := O11.same (Same.of_kept kc17 (by simp))
            replace Bg11 := Bg11.kept kc17 (by simp)
            replace Bg14 := Bg14.kept kc17 (by simp)
            clear kc17
            clear kb17
            refine L.val f76 wantedN rfl (by decide) (E.move f76 rfl) fun a77 f77 => ?_
            clear f76 a76
            refine L.val f77 wantedN rfl (by decide) (E.neqS f77 rfl rfl) fun a78 f78 => ?_
            clear f77 a77
            have f79 := f78.as (i := 69) (v' := .bool false) rfl (by simp [nameS])
            clear f78
            refine L.val f79 wantedN rfl (by decide) (E.move f79 rfl) fun a80 f80 => ?_
            clear f79 a78
            refine L.val f80 (f80.yes rfl rfl) rfl (by decide) (E.move f80 rfl) fun a81 f81 => ?_
            clear f80 a80
            refine L.val f81 (f81.yes rfl rfl) rfl (by decide) (E.move f81 rfl) fun a82 f82 => ?_
            clear f81 a81
            refine L.val f82 (f82.yes rfl rfl) rfl (by decide) (E.neqS f82 rfl rfl) fun a83 f83 => ?_
            clear f82 a82
            have f84 := f83.as (i := 73) (v' := .bool true) rfl (by simp [nameS])
            clear f83
            refine L.val f84 (f84.yes rfl rfl) rfl (by decide) (E.neqB f84 Try.underlying4 rfl rfl) fun a85 f85 => ?_
            clear f84 a83
            have f86 := f85.as (i := 74) (v' := .bool false) rfl rfl
            clear f85
            refine L.val f86 wantedN rfl (by decide) (E.pickF f86 rfl rfl) fun a87 f87 => ?_
            clear f86 a85
            refine L.val f87 wantedN rfl (by decide) (E.move f87 rfl) fun a88 f88 => ?_
            clear f87 a87
            refine L.val f88 (f88.yes rfl rfl) rfl (by decide) (E.move f88 rfl) fun a89 f89 => ?_
            clear f88 a88
            refine L.val f89 (f89.yes rfl rfl) rfl (by decide) (E.move f89 rfl) fun a90 f90 => ?_
            clear f89 a89
            refine L.val f90 (f90.yes rfl rfl) rfl (by decide) (by first | exact E.loadB f90 Try.underlying28 rfl wsz28 rfl (Bg7) rfl | exact E.loadB f90 Try.underlying28 rfl wsz28 rfl (Bg11) rfl | exact E.loadB f90 Try.underlying28 rfl wsz28 rfl (Bg14) rfl | exact E.loadA f90 Try.underlying28 rfl wsz28 rfl (row24i hcs) rfl) fun a91 f91 => ?_
            clear f90 a90
            refine L.val f91 (f91.yes rfl rfl) rfl (by decide) (by first | exact E.loadB f91 Try.underlying28 rfl wsz28 rfl (Bg7) rfl | exact E.loadB f91 Try.underlying28 rfl wsz28 rfl (Bg11) rfl | exact E.loadB f91 Try.underlying28 rfl wsz28 rfl (Bg14) rfl | exact E.loadA f91 Try.underlying28 rfl wsz28 rfl (row24i hcs) rfl) fun a92 f92 => ?_
            clear f91 a91
            refine L.call f92 (f92.yes rfl rfl) rfl (by decide) (run_call Try.call14 (args2 f92 rfl rfl)) (same_any w.heap.size p s11 s _ O11 O hl.small) ?_
            rintro e w18 ⟨rfl, kb18⟩
            have kc18 := Kept.of_below kb18 []
            refine ⟨_, rfl, fun a93 f93 => ?_⟩
            clear f92 a92
            have szw18 := kc18.size
            replace HK := HK.trans kc18 (by simp)
            replace T := T.kept kc18 (by simp) (Same.of_kept kc18 (by simp))
            replace O := O.same (Same.of_kept kc18 (by simp))
            replace Bg7 := Bg7.kept kc18 (by simp)
            replace O10 := O10.same (Same.of_kept kc18 (by simp))
            replace O11 := O11.same (Same.of_kept kc18 (by simp))
            replace Bg11 := Bg11.kept kc18 (by simp)
            replace Bg14 := Bg14.kept kc18 (by simp)
            clear kc18
            clear kb18
            refine L.val f93 (f93.yes rfl rfl) rfl (by decide) (E.not f93 rfl) fun a94 f94 => ?_
            clear f93 a93
            refine L.val f94 (f94.yes rfl rfl) rfl (by decide) (E.pickT f94 rfl rfl) fun a95 f95 => ?_
            clear f94 a94
            refine L.val f95 wantedN rfl (by decide) (E.pickF f95 rfl rfl) fun a96 f96 => ?_
            clear f95 a95
            refine L.val f96 wantedN rfl (by decide) (E.move f96 rfl) fun a97 f97 => ?_
            clear f96 a96
            refine L.val f97 (f97.yes rfl rfl) rfl (by decide) (E.move f97 rfl) fun a98 f98 => ?_
            clear f97 a97
            refine L.val f98 (f98.yes rfl rfl) rfl (by decide) (E.not f98 rfl) fun a99 f99 => ?_
            clear f98 a98
            refine L.val f99 (f99.yes rfl rfl) rfl (by decide) (E.move f99 rfl) fun a100 f100 => ?_
            clear f99 a99
            refine L.skip f100 (f100.noT rfl rfl) rfl (by decide) fun a101 f101 => ?_
            clear f100 a100
            refine L.skip f101 (f101.noT rfl rfl) rfl (by decide) fun a102 f102 => ?_
            clear f101 a101
            refine L.skip f102 (f102.noT rfl rfl) rfl (by decide) fun a103 f103 => ?_
            clear f102 a102
            refine L.skip f103 (f103.noT rfl rfl) rfl (by decide) fun a104 f104 => ?_
            clear f103 a103
            refine L.val f104 (f104.yes rfl rfl) rfl (by decide) (E.pickF f104 rfl rfl) fun a105 f105 => ?_
            clear f104 a104
            refine L.val f105 wantedN rfl (by decide) (E.pickF f105 rfl rfl) fun a106 f106 => ?_
            clear f105 a105
            refine L.val f106 wantedN rfl (by decide) (E.move f106 rfl) fun a107 f107 => ?_
            clear f106 a106
            refine L.val f107 (f107.yes rfl rfl) rfl (by decide) (E.move f107 rfl) fun a108 f108 => ?_
            clear f107 a107
            refine L.val f108 (f108.yes rfl rfl) rfl (by decide) (E.move f108 rfl) fun a109 f109 => ?_
            clear f108 a108
            refine L.val f109 (f109.yes rfl rfl) rfl (by decide) (E.eqlS f109 rfl rfl) fun a110 f110 => ?_
            clear f109 a109
            have f111 := f110.as (i := 98) (v' := .bool false) rfl (by simp [nameS])
            clear f110
            refine L.val f111 (f111.yes rfl rfl) rfl (by decide) (E.neqB f111 Try.underlying4 rfl rfl) fun a112 f112 => ?_
            clear f111 a110
            have f113 := f112.as (i := 99) (v' := .bool false) rfl rfl
            clear f112
            refine L.val f113 wantedN rfl (by decide) (E.pickF f113 rfl rfl) fun a114 f114 => ?_
            clear f113 a112
            refine L.val f114 wantedN rfl (by decide) (E.move f114 rfl) fun a115 f115 => ?_
            clear f114 a114
            refine L.val f115 (f115.yes rfl rfl) rfl (by decide) (E.move f115 rfl) fun a116 f116 => ?_
            clear f115 a115
            refine L.val f116 (f116.yes rfl rfl) rfl (by decide) (E.move f116 rfl) fun a117 f117 => ?_
            clear f116 a116
            refine L.skip f117 (f117.noT rfl rfl) rfl (by decide) fun a118 f118 => ?_
            clear f117 a117
            refine L.skip f118 (f118.noT rfl rfl) rfl (by decide) fun a119 f119 => ?_
            clear f118 a118
            refine L.skip f119 (f119.noT rfl rfl) rfl (by decide) fun a120 f120 => ?_
            clear f119 a119
            refine L.skip f120 (f120.noT rfl rfl) rfl (by decide) fun a121 f121 => ?_
            clear f120 a120
            refine L.skip f121 (f121.noT rfl rfl) rfl (by decide) fun a122 f122 => ?_
            clear f121 a121
            refine L.val f122 (f122.yes rfl rfl) rfl (by decide) (E.pickF f122 rfl rfl) fun a123 f123 => ?_
            clear f122 a122
            refine L.val f123 wantedN rfl (by decide) (E.pickF f123 rfl rfl) fun a124 f124 => ?_
            clear f123 a123
            refine L.val f124 wantedN rfl (by decide) (E.move f124 rfl) fun a125 f125 => ?_
            clear f124 a124
            refine L.val f125 (f125.yes rfl rfl) rfl (by decide) (E.move f125 rfl) fun a126 f126 => ?_
            clear f125 a125
            refine L.val f126 (f126.yes rfl rfl) rfl (by decide) (E.not f126 rfl) fun a127 f127 => ?_
            clear f126 a126
            refine L.val f127 (f127.yes rfl rfl) rfl (by decide) (E.move f127 rfl) fun a128 f128 => ?_
            clear f127 a127
            refine L.val f128 (f128.yes rfl rfl) rfl (by decide) (E.fieldAddr f128 Try.underlying37 rfl rfl wsz28) fun a129 f129 => ?_
            clear f128 a128
            refine L.val f129 (f129.yes rfl rfl) rfl (by decide) (by first | exact E.loadB f129 Try.underlying28 rfl wsz28 rfl (Bg7) rfl | exact E.loadB f129 Try.underlying28 rfl wsz28 rfl (Bg11) rfl | exact E.loadB f129 Try.underlying28 rfl wsz28 rfl (Bg14) rfl | exact E.loadA f129 Try.underlying28 rfl wsz28 rfl (row24i hcs) rfl) fun a130 f130 => ?_
            clear f129 a129
            refine L.val f130 (f130.yes rfl rfl) rfl (by decide) (E.build f130 (parts0 f130) builtZ) fun a131 f131 => ?_
            clear f130 a130
            refine L.call f131 (f131.yes rfl rfl) rfl (by decide) (run_call Try.call14 (args2 f131 rfl rfl)) (same_zero _) ?_
            rintro e w19 ⟨rfl, kb19⟩
            have kc19 := Kept.of_below kb19 []
            refine ⟨_, rfl, fun a132 f132 => ?_⟩
            clear f131 a131
            have szw19 := kc19.size
            replace HK := HK.trans kc19 (by simp)
            replace T := T.kept kc19 (by simp) (Same.of_kept kc19 (by simp))
            replace O := O.same (Same.of_kept kc19 (by simp))
            replace Bg7 := Bg7.kept kc19 (by simp)
            replace O10 := O10.same (Same.of_kept kc19 (by simp))
            replace O11 := O11.same (Same.of_kept kc19 (by simp))
            replace Bg11 := Bg11.kept kc19 (by simp)
            replace Bg14 := Bg14.kept kc19 (by simp)
            clear kc19
            clear kb19
            refine L.val f132 (f132.yes rfl rfl) rfl (by decide) (E.not f132 rfl) fun a133 f133 => ?_
            clear f132 a132
            refine L.val f133 (f133.yes rfl rfl) rfl (by decide) (E.pickT f133 rfl rfl) fun a134 f134 => ?_
            clear f133 a133
            refine L.val f134 wantedN rfl (by decide) (E.pickF f134 rfl rfl) fun a135 f135 => ?_
            clear f134 a134
            refine wpList_nil (hK51 _ _ ?_)
            try clear hK51 K51
            have f136 := f135.sub (sub_cons (i := 14) rfl (sub_cons (i := 15) rfl (sub_cons (i := 16) rfl (sub_cons (i := 17) rfl (sub_cons (i := 18) rfl (sub_cons (i := 19) rfl (sub_cons (i := 20) rfl (sub_cons (i := 45) rfl (sub_cons (i := 46) rfl (sub_cons (i := 47) rfl (sub_cons (i := 48) rfl (sub_cons (i := 49) rfl (sub_cons (i := 50) rfl (sub_cons (i := 51) rfl (sub_cons (i := 52) rfl (sub_cons (i := 53) rfl (sub_cons (i := 54) rfl (sub_cons (i := 55) rfl (sub_cons (i := 56) rfl (sub_cons (i := 57) rfl (sub_cons (i := 58) rfl (sub_cons (i := 59) rfl (sub_cons (i := 60) rfl (sub_cons (i := 61) rfl (sub_cons (i := 62) rfl (sub_cons (i := 63) rfl (sub_cons (i := 64) rfl (sub_cons (i := 65) rfl (sub_cons (i := 66) rfl (sub_cons (i := 67) rfl (sub_cons (i := 68) rfl (sub_cons (i := 69) rfl (sub_cons (i := 70) rfl (sub_cons (i := 71) rfl (sub_cons (i := 72) rfl (sub_cons (i := 73) rfl (sub_cons (i := 74) rfl (sub_cons (i := 75) rfl (sub_cons (i := 76) rfl (sub_cons (i := 77) rfl (sub_cons (i := 78) rfl (sub_cons (i := 79) rfl (sub_cons (i := 80) rfl (sub_cons (i := 81) rfl (sub_cons (i := 82) rfl (sub_cons (i := 83) rfl (sub_cons (i := 84) rfl (sub_cons (i := 85) rfl (sub_cons (i := 86) rfl (sub_cons (i := 87) rfl (sub_cons (i := 88) rfl (sub_cons (i := 89) rfl (sub_cons (i := 90) rfl (sub_cons (i := 91) rfl (sub_cons (i := 92) rfl (sub_cons (i := 93) rfl (sub_cons (i := 94) rfl (sub_cons (i := 95) rfl (sub_cons (i := 96) rfl (sub_cons (i := 97) rfl (sub_cons (i := 98) rfl (sub_cons (i := 99) rfl (sub_cons (i := 100) rfl (sub_cons (i := 101) rfl (sub_cons (i := 102) rfl (sub_cons (i := 103) rfl (sub_cons (i := 104) rfl (sub_cons (i := 105) rfl (sub_cons (i := 106) rfl (sub_cons (i := 107) rfl (sub_cons (i := 108) rfl (sub_cons (i := 109) rfl (sub_cons (i := 110) rfl (sub_cons (i := 111) rfl (sub_cons (i := 112) rfl (sub_cons (i := 113) rfl (sub_cons (i := 114) rfl (sub_cons (i := 115) rfl (sub_cons (i := 116) rfl (sub_cons (i := 117) rfl (sub_cons (i := 118) rfl (sub_cons (i := 119) rfl (sub_cons (i := 120) rfl (sub_cons (i := 121) rfl sub_nil))))))))))))))))))))))))))))))))))))))))))))))))))))))))))))))))))))))))))))))))))))
            clear f135
            refine C.condF f136 rfl ?_
            refine wp_skip (hK50 _ _ ?_)
            try clear hK50 K50
            have f137 := f136.sub (sub_cons (i := 14) rfl (sub_cons (i := 15) rfl (sub_cons (i := 16) rfl (sub_cons (i := 17) rfl (sub_cons (i := 18) rfl (sub_cons (i := 19) rfl (sub_cons (i := 20) rfl (sub_cons (i := 45) rfl (sub_cons (i := 46) rfl (sub_cons (i := 47) rfl (sub_cons (i := 48) rfl (sub_cons (i := 49) rfl (sub_cons (i := 50) rfl (sub_cons (i := 51) rfl (sub_cons (i := 52) rfl (sub_cons (i := 53) rfl (sub_cons (i := 54) rfl (sub_cons (i := 55) rfl (sub_cons (i := 56) rfl (sub_cons (i := 57) rfl (sub_cons (i := 58) rfl (sub_cons (i := 59) rfl (sub_cons (i := 60) rfl (sub_cons (i := 61) rfl (sub_cons (i := 62) rfl (sub_cons (i := 63) rfl (sub_cons (i := 64) rfl (sub_cons (i := 65) rfl (sub_cons (i := 66) rfl (sub_cons (i := 67) rfl (sub_cons (i := 68) rfl (sub_cons (i := 69) rfl (sub_cons (i := 70) rfl (sub_cons (i := 71) rfl (sub_cons (i := 72) rfl (sub_cons (i := 73) rfl (sub_cons (i := 74) rfl (sub_cons (i := 75) rfl (sub_cons (i := 76) rfl (sub_cons (i := 77) rfl (sub_cons (i := 78) rfl (sub_cons (i := 79) rfl (sub_cons (i := 80) rfl (sub_cons (i := 81) rfl (sub_cons (i := 82) rfl (sub_cons (i := 83) rfl (sub_cons (i := 84) rfl (sub_cons (i := 85) rfl (sub_cons (i := 86) rfl (sub_cons (i := 87) rfl (sub_cons (i := 88) rfl (sub_cons (i := 89) rfl (sub_cons (i := 90) rfl (sub_cons (i := 91) rfl (sub_cons (i := 92) rfl (sub_cons (i := 93) rfl (sub_cons (i := 94) rfl (sub_cons (i := 95) rfl (sub_cons (i := 96) rfl (sub_cons (i := 97) rfl (sub_cons (i := 98) rfl (sub_cons (i := 99) rfl (sub_cons (i := 100) rfl (sub_cons (i := 101) rfl (sub_cons (i := 102) rfl (sub_cons (i := 103) rfl (sub_cons (i := 104) rfl (sub_cons (i := 105) rfl (sub_cons (i := 106) rfl (sub_cons (i := 107) rfl (sub_cons (i := 108) rfl (sub_cons (i := 109) rfl (sub_cons (i := 110) rfl (sub_cons (i := 111) rfl (sub_cons (i := 112) rfl (sub_cons (i := 113) rfl (sub_cons (i := 114) rfl (sub_cons (i := 115) rfl (sub_cons (i := 116) rfl (sub_cons (i := 117) rfl (sub_cons (i := 118) rfl (sub_cons (i := 119) rfl (sub_cons (i := 120) rfl (sub_cons (i := 121) rfl sub_nil))))))))))))))))))))))))))))))))))))))))))))))))))))))))))))))))))))))))))))))))))))
            clear f136
            refine wp_seq_k fun K52 hK52 => ?_
            refine C.region ?_
            refine L.val f137 wantedN rfl (by decide) (E.assign f137 rfl) fun a138 f138 => ?_
            clear f137 a135
            refine wpList_nil (hK52 _ _ ?_)
            try clear hK52 K52
            have f139 := f138.sub (sub_cons (i := 14) rfl (sub_cons (i := 15) rfl (sub_cons (i := 16) rfl (sub_cons (i := 17) rfl (sub_cons (i := 18) rfl (sub_cons (i := 19) rfl (sub_cons (i := 20) rfl (sub_cons (i := 21) rfl (sub_cons (i := 45) rfl (sub_cons (i := 46) rfl (sub_cons (i := 47) rfl (sub_cons (i := 48) rfl (sub_cons (i := 49) rfl (sub_cons (i := 50) rfl (sub_cons (i := 51) rfl (sub_cons (i := 52) rfl (sub_cons (i := 53) rfl (sub_cons (i := 54) rfl (sub_cons (i := 55) rfl (sub_cons (i := 56) rfl (sub_cons (i := 57) rfl (sub_cons (i := 58) rfl (sub_cons (i := 59) rfl (sub_cons (i := 60) rfl (sub_cons (i := 61) rfl (sub_cons (i := 62) rfl (sub_cons (i := 63) rfl (sub_cons (i := 64) rfl (sub_cons (i := 65) rfl (sub_cons (i := 66) rfl (sub_cons (i := 67) rfl (sub_cons (i := 68) rfl (sub_cons (i := 69) rfl (sub_cons (i := 70) rfl (sub_cons (i := 71) rfl (sub_cons (i := 72) rfl (sub_cons (i := 73) rfl (sub_cons (i := 74) rfl (sub_cons (i := 75) rfl (sub_cons (i := 76) rfl (sub_cons (i := 77) rfl (sub_cons (i := 78) rfl (sub_cons (i := 79) rfl (sub_cons (i := 80) rfl (sub_cons (i := 81) rfl (sub_cons (i := 82) rfl (sub_cons (i := 83) rfl (sub_cons (i := 84) rfl (sub_cons (i := 85) rfl (sub_cons (i := 86) rfl (sub_cons (i := 87) rfl (sub_cons (i := 88) rfl (sub_cons (i := 89) rfl (sub_cons (i := 90) rfl (sub_cons (i := 91) rfl (sub_cons (i := 92) rfl (sub_cons (i := 93) rfl (sub_cons (i := 94) rfl (sub_cons (i := 95) rfl (sub_cons (i := 96) rfl (sub_cons (i := 97) rfl (sub_cons (i := 98) rfl (sub_cons (i := 99) rfl (sub_cons (i := 100) rfl (sub_cons (i := 101) rfl (sub_cons (i := 102) rfl (sub_cons (i := 103) rfl (sub_cons (i := 104) rfl (sub_cons (i := 105) rfl (sub_cons (i := 106) rfl (sub_cons (i := 107) rfl (sub_cons (i := 108) rfl (sub_cons (i := 109) rfl (sub_cons (i := 110) rfl (sub_cons (i := 111) rfl (sub_cons (i := 112) rfl (sub_cons (i := 113) rfl (sub_cons (i := 114) rfl (sub_cons (i := 115) rfl (sub_cons (i := 116) rfl (sub_cons (i := 117) rfl (sub_cons (i := 118) rfl (sub_cons (i := 119) rfl (sub_cons (i := 120) rfl (sub_cons (i := 121) rfl sub_nil)))))))))))))))))))))))))))))))))))))))))))))))))))))))))))))))))))))))))))))))))))))
            clear f138
            refine wp_seq_k fun K53 hK53 => ?_
            refine wp_seq_k fun K54 hK54 => ?_
            refine C.region ?_
            refine L.val f139 wantedN rfl (by decide) (E.move f139 rfl) fun a140 f140 => ?_
            clear f139 a138
            refine L.val f140 wantedN rfl (by decide) (E.eqlS f140 rfl rfl) fun a141 f141 => ?_
            clear f140 a140
            have f142 := f141.as (i := 123) (v' := .bool false) rfl (by simp [nameS])
            clear f141
            refine L.val f142 wantedN rfl (by decide) (E.move f142 rfl) fun a143 f143 => ?_
            clear f142 a141
            refine L.val f143 (f143.yes rfl rfl) rfl (by decide) (E.move f143 rfl) fun a144 f144 => ?_
            clear f143 a143
            refine L.val f144 (f144.yes rfl rfl) rfl (by decide) (E.eqlS f144 rfl rfl) fun a145 f145 => ?_
            clear f144 a144
            have f146 := f145.as (i := 126) (v' := .bool false) rfl (by simp [nameS])
            clear f145
            refine L.val f146 wantedN rfl (by decide) (E.pickF f146 rfl rfl) fun a147 f147 => ?_
            clear f146 a145
            refine L.val f147 wantedN rfl (by decide) (E.move f147 rfl) fun a148 f148 => ?_
            clear f147 a147
            refine L.val f148 (f148.yes rfl rfl) rfl (by decide) (E.move f148 rfl) fun a149 f149 => ?_
            clear f148 a148
            refine L.val f149 (f149.yes rfl rfl) rfl (by decide) (E.eqlS f149 rfl rfl) fun a150 f150 => ?_
            clear f149 a149
            have f151 := f150.as (i := 130) (v' := .bool false) rfl (by simp [nameS])
            clear f150
            refine L.val f151 wantedN rfl (by decide) (E.pickF f151 rfl rfl) fun a152 f152 => ?_
            clear f151 a150
            refine wpList_nil (hK54 _ _ ?_)
            try clear hK54 K54
            have f153 := f152.sub (sub_cons (i := 14) rfl (sub_cons (i := 15) rfl (sub_cons (i := 16) rfl (sub_cons (i := 17) rfl (sub_cons (i := 18) rfl (sub_cons (i := 19) rfl (sub_cons (i := 20) rfl (sub_cons (i := 21) rfl (sub_cons (i := 45) rfl (sub_cons (i := 46) rfl (sub_cons (i := 47) rfl (sub_cons (i := 48) rfl (sub_cons (i := 49) rfl (sub_cons (i := 50) rfl (sub_cons (i := 51) rfl (sub_cons (i := 52) rfl (sub_cons (i := 53) rfl (sub_cons (i := 54) rfl (sub_cons (i := 55) rfl (sub_cons (i := 56) rfl (sub_cons (i := 57) rfl (sub_cons (i := 58) rfl (sub_cons (i := 59) rfl (sub_cons (i := 60) rfl (sub_cons (i := 61) rfl (sub_cons (i := 62) rfl (sub_cons (i := 63) rfl (sub_cons (i := 64) rfl (sub_cons (i := 65) rfl (sub_cons (i := 66) rfl (sub_cons (i := 67) rfl (sub_cons (i := 68) rfl (sub_cons (i := 69) rfl (sub_cons (i := 70) rfl (sub_cons (i := 71) rfl (sub_cons (i := 72) rfl (sub_cons (i := 73) rfl (sub_cons (i := 74) rfl (sub_cons (i := 75) rfl (sub_cons (i := 76) rfl (sub_cons (i := 77) rfl (sub_cons (i := 78) rfl (sub_cons (i := 79) rfl (sub_cons (i := 80) rfl (sub_cons (i := 81) rfl (sub_cons (i := 82) rfl (sub_cons (i := 83) rfl (sub_cons (i := 84) rfl (sub_cons (i := 85) rfl (sub_cons (i := 86) rfl (sub_cons (i := 87) rfl (sub_cons (i := 88) rfl (sub_cons (i := 89) rfl (sub_cons (i := 90) rfl (sub_cons (i := 91) rfl (sub_cons (i := 92) rfl (sub_cons (i := 93) rfl (sub_cons (i := 94) rfl (sub_cons (i := 95) rfl (sub_cons (i := 96) rfl (sub_cons (i := 97) rfl (sub_cons (i := 98) rfl (sub_cons (i := 99) rfl (sub_cons (i := 100) rfl (sub_cons (i := 101) rfl (sub_cons (i := 102) rfl (sub_cons (i := 103) rfl (sub_cons (i := 104) rfl (sub_cons (i := 105) rfl (sub_cons (i := 106) rfl (sub_cons (i := 107) rfl (sub_cons (i := 108) rfl (sub_cons (i := 109) rfl (sub_cons (i := 110) rfl (sub_cons (i := 111) rfl (sub_cons (i := 112) rfl (sub_cons (i := 113) rfl (sub_cons (i := 114) rfl (sub_cons (i := 115) rfl (sub_cons (i := 116) rfl (sub_cons (i := 117) rfl (sub_cons (i := 118) rfl (sub_cons (i := 119) rfl (sub_cons (i := 120) rfl (sub_cons (i := 121) rfl (sub_cons (i := 122) rfl (sub_cons (i := 123) rfl (sub_cons (i := 124) rfl (sub_cons (i := 125) rfl (sub_cons (i := 126) rfl (sub_cons (i := 127) rfl (sub_cons (i := 128) rfl (sub_cons (i := 129) rfl (sub_cons (i := 130) rfl (sub_cons (i := 131) rfl sub_nil)))))))))))))))))))))))))))))))))))))))))))))))))))))))))))))))))))))))))))))))))))))))))))))))
            clear f152
            refine C.condF f153 rfl ?_
            refine wp_skip (hK53 _ _ ?_)
            try clear hK53 K53
            have f154 := f153.sub (sub_cons (i := 14) rfl (sub_cons (i := 15) rfl (sub_cons (i := 16) rfl (sub_cons (i := 17) rfl (sub_cons (i := 18) rfl (sub_cons (i := 19) rfl (sub_cons (i := 20) rfl (sub_cons (i := 21) rfl (sub_cons (i := 45) rfl (sub_cons (i := 46) rfl (sub_cons (i := 47) rfl (sub_cons (i := 48) rfl (sub_cons (i := 49) rfl (sub_cons (i := 50) rfl (sub_cons (i := 51) rfl (sub_cons (i := 52) rfl (sub_cons (i := 53) rfl (sub_cons (i := 54) rfl (sub_cons (i := 55) rfl (sub_cons (i := 56) rfl (sub_cons (i := 57) rfl (sub_cons (i := 58) rfl (sub_cons (i := 59) rfl (sub_cons (i := 60) rfl (sub_cons (i := 61) rfl (sub_cons (i := 62) rfl (sub_cons (i := 63) rfl (sub_cons (i := 64) rfl (sub_cons (i := 65) rfl (sub_cons (i := 66) rfl (sub_cons (i := 67) rfl (sub_cons (i := 68) rfl (sub_cons (i := 69) rfl (sub_cons (i := 70) rfl (sub_cons (i := 71) rfl (sub_cons (i := 72) rfl (sub_cons (i := 73) rfl (sub_cons (i := 74) rfl (sub_cons (i := 75) rfl (sub_cons (i := 76) rfl (sub_cons (i := 77) rfl (sub_cons (i := 78) rfl (sub_cons (i := 79) rfl (sub_cons (i := 80) rfl (sub_cons (i := 81) rfl (sub_cons (i := 82) rfl (sub_cons (i := 83) rfl (sub_cons (i := 84) rfl (sub_cons (i := 85) rfl (sub_cons (i := 86) rfl (sub_cons (i := 87) rfl (sub_cons (i := 88) rfl (sub_cons (i := 89) rfl (sub_cons (i := 90) rfl (sub_cons (i := 91) rfl (sub_cons (i := 92) rfl (sub_cons (i := 93) rfl (sub_cons (i := 94) rfl (sub_cons (i := 95) rfl (sub_cons (i := 96) rfl (sub_cons (i := 97) rfl (sub_cons (i := 98) rfl (sub_cons (i := 99) rfl (sub_cons (i := 100) rfl (sub_cons (i := 101) rfl (sub_cons (i := 102) rfl (sub_cons (i := 103) rfl (sub_cons (i := 104) rfl (sub_cons (i := 105) rfl (sub_cons (i := 106) rfl (sub_cons (i := 107) rfl (sub_cons (i := 108) rfl (sub_cons (i := 109) rfl (sub_cons (i := 110) rfl (sub_cons (i := 111) rfl (sub_cons (i := 112) rfl (sub_cons (i := 113) rfl (sub_cons (i := 114) rfl (sub_cons (i := 115) rfl (sub_cons (i := 116) rfl (sub_cons (i := 117) rfl (sub_cons (i := 118) rfl (sub_cons (i := 119) rfl (sub_cons (i := 120) rfl (sub_cons (i := 121) rfl (sub_cons (i := 122) rfl (sub_cons (i := 123) rfl (sub_cons (i := 124) rfl (sub_cons (i := 125) rfl (sub_cons (i := 126) rfl (sub_cons (i := 127) rfl (sub_cons (i := 128) rfl (sub_cons (i := 129) rfl (sub_cons (i := 130) rfl (sub_cons (i := 131) rfl sub_nil)))))))))))))))))))))))))))))))))))))))))))))))))))))))))))))))))))))))))))))))))))))))))))))))
            clear f153
            refine wp_seq_k fun K55 hK55 => ?_
            refine C.region ?_
            refine L.val f154 wantedN rfl (by decide) (E.move f154 rfl) fun a155 f155 => ?_
            clear f154 a152
            refine L.call f155 wantedN rfl (by decide) (run_call Try.call15 (args1 f155 rfl)) (id_of 4 (by decide) p s10 _) ?_
            rintro e w20 ⟨rfl, kb20⟩
            have kc20 := Kept.of_below kb20 []
            refine ⟨_, rfl, fun a156 f156 => ?_⟩
            clear f155 a155
            have szw20 := kc20.size
            replace HK := HK.trans kc20 (by simp)
            replace T := T.kept kc20 (by simp) (Same.of_kept kc20 (by simp))
            replace O := O.same (Same.of_kept kc20 (by simp))
            replace Bg7 := Bg7.kept kc20 (by simp)
            replace O10 := O10.same (Same.of_kept kc20 (by simp))
            replace O11 := O11.same (Same.of_kept kc20 (by simp))
            replace Bg11 := Bg11.kept kc20 (by simp)
            replace Bg14 := Bg14.kept kc20 (by simp)
            clear kc20
            clear kb20
            refine L.val f156 wantedN rfl (by decide) (E.move f156 rfl) fun a157 f157 => ?_
            clear f156 a156
            refine L.val f157 wantedN rfl (by decide) (E.neq f157 rfl rfl) fun a158 f158 => ?_
            clear f157 a157
            have f159 := f158.as (i := 137) (v' := .bool false) rfl (by simp [idOf])
            clear f158
            refine wpList_nil (hK55 _ _ ?_)
            try clear hK55 K55
            have f160 := f159.sub (sub_cons (i := 14) rfl (sub_cons (i := 15) rfl (sub_cons (i := 16) rfl (sub_cons (i := 17) rfl (sub_cons (i := 18) rfl (sub_cons (i := 19) rfl (sub_cons (i := 20) rfl (sub_cons (i := 21) rfl (sub_cons (i := 45) rfl (sub_cons (i := 46) rfl (sub_cons (i := 47) rfl (sub_cons (i := 48) rfl (sub_cons (i := 49) rfl (sub_cons (i := 50) rfl (sub_cons (i := 51) rfl (sub_cons (i := 52) rfl (sub_cons (i := 53) rfl (sub_cons (i := 54) rfl (sub_cons (i := 55) rfl (sub_cons (i := 56) rfl (sub_cons (i := 57) rfl (sub_cons (i := 58) rfl (sub_cons (i := 59) rfl (sub_cons (i := 60) rfl (sub_cons (i := 61) rfl (sub_cons (i := 62) rfl (sub_cons (i := 63) rfl (sub_cons (i := 64) rfl (sub_cons (i := 65) rfl (sub_cons (i := 66) rfl (sub_cons (i := 67) rfl (sub_cons (i := 68) rfl (sub_cons (i := 69) rfl (sub_cons (i := 70) rfl (sub_cons (i := 71) rfl (sub_cons (i := 72) rfl (sub_cons (i := 73) rfl (sub_cons (i := 74) rfl (sub_cons (i := 75) rfl (sub_cons (i := 76) rfl (sub_cons (i := 77) rfl (sub_cons (i := 78) rfl (sub_cons (i := 79) rfl (sub_cons (i := 80) rfl (sub_cons (i := 81) rfl (sub_cons (i := 82) rfl (sub_cons (i := 83) rfl (sub_cons (i := 84) rfl (sub_cons (i := 85) rfl (sub_cons (i := 86) rfl (sub_cons (i := 87) rfl (sub_cons (i := 88) rfl (sub_cons (i := 89) rfl (sub_cons (i := 90) rfl (sub_cons (i := 91) rfl (sub_cons (i := 92) rfl (sub_cons (i := 93) rfl (sub_cons (i := 94) rfl (sub_cons (i := 95) rfl (sub_cons (i := 96) rfl (sub_cons (i := 97) rfl (sub_cons (i := 98) rfl (sub_cons (i := 99) rfl (sub_cons (i := 100) rfl (sub_cons (i := 101) rfl (sub_cons (i := 102) rfl (sub_cons (i := 103) rfl (sub_cons (i := 104) rfl (sub_cons (i := 105) rfl (sub_cons (i := 106) rfl (sub_cons (i := 107) rfl (sub_cons (i := 108) rfl (sub_cons (i := 109) rfl (sub_cons (i := 110) rfl (sub_cons (i := 111) rfl (sub_cons (i := 112) rfl (sub_cons (i := 113) rfl (sub_cons (i := 114) rfl (sub_cons (i := 115) rfl (sub_cons (i := 116) rfl (sub_cons (i := 117) rfl (sub_cons (i := 118) rfl (sub_cons (i := 119) rfl (sub_cons (i := 120) rfl (sub_cons (i := 121) rfl (sub_cons (i := 122) rfl (sub_cons (i := 123) rfl (sub_cons (i := 124) rfl (sub_cons (i := 125) rfl (sub_cons (i := 126) rfl (sub_cons (i := 127) rfl (sub_cons (i := 128) rfl (sub_cons (i := 129) rfl (sub_cons (i := 130) rfl (sub_cons (i := 131) rfl (sub_cons (i := 134) rfl (sub_cons (i := 135) rfl (sub_cons (i := 136) rfl (sub_cons (i := 137) rfl sub_nil)))))))))))))))))))))))))))))))))))))))))))))))))))))))))))))))))))))))))))))))))))))))))))))))))))
            clear f159
            refine C.condF f160 rfl ?_
            refine wp_skip (hK12 _ _ ?_)
            try clear hK12 K12
            have f161 := f160.sub (sub_cons (i := 14) rfl (sub_cons (i := 15) rfl (sub_cons (i := 16) rfl (sub_cons (i := 17) rfl (sub_cons (i := 18) rfl (sub_cons (i := 19) rfl (sub_cons (i := 20) rfl (sub_cons (i := 21) rfl (sub_cons (i := 45) rfl (sub_cons (i := 46) rfl (sub_cons (i := 47) rfl (sub_cons (i := 48) rfl (sub_cons (i := 49) rfl (sub_cons (i := 50) rfl (sub_cons (i := 51) rfl (sub_cons (i := 52) rfl (sub_cons (i := 53) rfl (sub_cons (i := 54) rfl (sub_cons (i := 55) rfl (sub_cons (i := 56) rfl (sub_cons (i := 57) rfl (sub_cons (i := 58) rfl (sub_cons (i := 59) rfl (sub_cons (i := 60) rfl (sub_cons (i := 61) rfl (sub_cons (i := 62) rfl (sub_cons (i := 63) rfl (sub_cons (i := 64) rfl (sub_cons (i := 65) rfl (sub_cons (i := 66) rfl (sub_cons (i := 67) rfl (sub_cons (i := 68) rfl (sub_cons (i := 69) rfl (sub_cons (i := 70) rfl (sub_cons (i := 71) rfl (sub_cons (i := 72) rfl (sub_cons (i := 73) rfl (sub_cons (i := 74) rfl (sub_cons (i := 75) rfl (sub_cons (i := 76) rfl (sub_cons (i := 77) rfl (sub_cons (i := 78) rfl (sub_cons (i := 79) rfl (sub_cons (i := 80) rfl (sub_cons (i := 81) rfl (sub_cons (i := 82) rfl (sub_cons (i := 83) rfl (sub_cons (i := 84) rfl (sub_cons (i := 85) rfl (sub_cons (i := 86) rfl (sub_cons (i := 87) rfl (sub_cons (i := 88) rfl (sub_cons (i := 89) rfl (sub_cons (i := 90) rfl (sub_cons (i := 91) rfl (sub_cons (i := 92) rfl (sub_cons (i := 93) rfl (sub_cons (i := 94) rfl (sub_cons (i := 95) rfl (sub_cons (i := 96) rfl (sub_cons (i := 97) rfl (sub_cons (i := 98) rfl (sub_cons (i := 99) rfl (sub_cons (i := 100) rfl (sub_cons (i := 101) rfl (sub_cons (i := 102) rfl (sub_cons (i := 103) rfl (sub_cons (i := 104) rfl (sub_cons (i := 105) rfl (sub_cons (i := 106) rfl (sub_cons (i := 107) rfl (sub_cons (i := 108) rfl (sub_cons (i := 109) rfl (sub_cons (i := 110) rfl (sub_cons (i := 111) rfl (sub_cons (i := 112) rfl (sub_cons (i := 113) rfl (sub_cons (i := 114) rfl (sub_cons (i := 115) rfl (sub_cons (i := 116) rfl (sub_cons (i := 117) rfl (sub_cons (i := 118) rfl (sub_cons (i := 119) rfl (sub_cons (i := 120) rfl (sub_cons (i := 121) rfl (sub_cons (i := 122) rfl (sub_cons (i := 123) rfl (sub_cons (i := 124) rfl (sub_cons (i := 125) rfl (sub_cons (i := 126) rfl (sub_cons (i := 127) rfl (sub_cons (i := 128) rfl (sub_cons (i := 129) rfl (sub_cons (i := 130) rfl (sub_cons (i := 131) rfl (sub_cons (i := 134) rfl (sub_cons (i := 135) rfl (sub_cons (i := 136) rfl (sub_cons (i := 137) rfl sub_nil)))))))))))))))))))))))))))))))))))))))))))))))))))))))))))))))))))))))))))))))))))))))))))))))))))
            clear f160
            refine C.region ?_
            refine L.val f161 wantedN rfl (by decide) (E.add f161 rfl rfl (IntWalk.i64_in _ (by omega))) fun a162 f162 => ?_
            clear f161 a158
            refine L.val f162 wantedN rfl (by decide) (E.move f162 rfl) fun a163 f163 => ?_
            clear f162 a162
            refine wpList_nil (hKL9 _ _ (gk10 - 1) ?_ ?_)
            · omega
            · exact ⟨i + 1, by omega, HK, T, by omega, f163.sub (sub_cons rfl (sub_cons rfl (sub_cons rfl sub_nil)))⟩
          · have hkq := hkp
            refine C.region ?_
            refine L.val f51 wantedN rfl (by decide) (E.move f51 rfl) fun a52 f52 => ?_
            clear f51 a50
            refine L.call f52 wantedN rfl (by decide) (run_call Try.call10 (args1 f52 rfl)) (packet_other _ (.inl rfl) _) ?_
            rintro e w11 ⟨rfl, kb11⟩
            have kc11 := Kept.of_below kb11 []
            refine ⟨_, rfl, fun a53 f53 => ?_⟩
            clear f52 a52
            have szw11 := kc11.size
            replace HK := HK.trans kc11 (by simp)
            replace T := T.kept kc11 (by simp) (Same.of_kept kc11 (by simp))
            replace O := O.same (Same.of_kept kc11 (by simp))
            replace Bg7 := Bg7.kept kc11 (by simp)
            replace O10 := O10.same (Same.of_kept kc11 (by simp))
            clear kc11
            clear kb11
            refine L.val f53 wantedN rfl (by decide) (E.move f53 rfl) fun a54 f54 => ?_
            clear f53 a53
            refine L.val f54 wantedN rfl (by decide) (E.extract f54 rfl rfl) fun a55 f55 => ?_
            clear f54 a54
            refine L.val f55 wantedN rfl (by decide) (E.extract f55 rfl rfl) fun a56 f56 => ?_
            clear f55 a55
            refine L.alloc f56 wantedN (by decide) (z := (.agg #[(.int .i64 0), (.bool false), (.bool false), (.int .i64 0), (.int .i64 0), (.string ⟨#[]⟩), (.slice none 0 0), (.int .i64 0), (.string ⟨#[]⟩), (.bool false), (.int .i64 0), (.bool false), (.string ⟨#[]⟩), (.slice none 0 0), (.int .i64 0), (.bool false), (.bool false), (.bool false), (.string ⟨#[]⟩), (.slice none 0 0), (.bool false), (.int .i64 0), (.slice none 0 0), (.slice none 0 0)])) (fun _ => by kernel_rfl) rfl fun a57 w12 g11 N11 f57 => ?_
            have Bg11 := N11.blk
            have kg11 := N11.kept
            have log11 := N11.lo
            have ltg11 := Bg11.lt
            have szw12 := kg11.size
            have frg11 : w.heap.size ≤ g11 := Nat.le_trans HK.size log11
            have neg7_g11 : g7 ≠ g11 := by have := Bg7.lt; omega
            replace HK := HK.trans kg11 (by simp)
            replace T := T.kept kg11 (by simp) (Same.of_kept kg11 (by simp))
            replace O := O.same (Same.of_kept kg11 (by simp))
            replace Bg7 := Bg7.kept kg11 (by simp)
            replace O10 := O10.same (Same.of_kept kg11 (by simp))
            clear N11 kg11
            clear f56 a56
            refine L.storeR f57 wantedN wsz28 rfl rfl rfl Bg11 rfl rfl fun a58 w13 f58 NB13 ks13 => ?_
            have szw13 := ks13.size
            replace HK := HK.trans ks13 (by intro x hx hlt; simp at hx; subst hx; first | (exfalso; omega) | simp)
            replace T := T.kept ks13 (by simp; omega) (Same.of_kept ks13 (by intro x hx hlt; simp at hx; subst hx; exact ⟨by omega, Bg11.not_typ (by decide)⟩))
            replace O := O.same (Same.of_kept ks13 (by intro x hx hlt; simp at hx; subst hx; exact ⟨by omega, Bg11.not_typ (by decide)⟩))
            replace Bg7 := Bg7.kept ks13 (by simp; omega)
            replace O10 := O10.same (Same.of_kept ks13 (by intro x hx hlt; simp at hx; subst hx; exact ⟨by omega, Bg11.not_typ (by decide)⟩))
            replace Bg11 := NB13
            clear ks13 f57 a57
            refine L.val f58 wantedN rfl (by decide) (E.assign f58 rfl) fun a59 f59 => ?_
            clear f58 a58
            refine wpList_nil (hK15 _ _ ?_)
            try clear hK15 K15
            have f60 := f59.sub (sub_cons (i := 14) rfl (sub_cons (i := 15) rfl (sub_cons (i := 16) rfl (sub_cons (i := 17) rfl (sub_cons (i := 45) rfl (sub_cons (i := 46) rfl (sub_cons (i := 47) rfl (sub_cons (i := 48) rfl (sub_cons (i := 49) rfl (sub_cons (i := 50) rfl (sub_cons (i := 51) rfl (sub_cons (i := 52) rfl (sub_cons (i := 53) rfl (sub_cons (i := 54) rfl (sub_cons (i := 55) rfl (sub_cons (i := 56) rfl (sub_cons (i := 57) rfl sub_nil)))))))))))))))))
            clear f59
            refine wp_seq_k fun K56 hK56 => ?_
            refine C.region ?_
            refine L.val f60 wantedN rfl (by decide) (E.move f60 rfl) fun a61 f61 => ?_
            clear f60 a59
            refine L.call f61 wantedN rfl (by decide) (run_call Try.call11 (args1 f61 rfl)) (try_other _ (.inl rfl) _) ?_
            rintro e w14 ⟨rfl, kb14⟩
            have kc14 := Kept.of_below kb14 []
            refine ⟨_, rfl, fun a62 f62 => ?_⟩
            clear f61 a61
            have szw14 := kc14.size
            replace HK := HK.trans kc14 (by simp)
            replace T := T.kept kc14 (by simp) (Same.of_kept kc14 (by simp))
            replace O := O.same (Same.of_kept kc14 (by simp))
            replace Bg7 := Bg7.kept kc14 (by simp)
            replace O10 := O10.same (Same.of_kept kc14 (by simp))
            replace Bg11 := Bg11.kept kc14 (by simp)
            clear kc14
            clear kb14
            refine L.val f62 wantedN rfl (by decide) (E.move f62 rfl) fun a63 f63 => ?_
            clear f62 a62
            refine L.val f63 wantedN rfl (by decide) (E.extract f63 rfl rfl) fun a64 f64 => ?_
            clear f63 a63
            refine L.val f64 wantedN rfl (by decide) (E.extract f64 rfl rfl) fun a65 f65 => ?_
            clear f64 a64
            refine L.alloc f65 wantedN (by decide) (z := (.agg #[(.int .i64 0), (.bool false), (.bool false), (.int .i64 0), (.int .i64 0), (.string ⟨#[]⟩), (.slice none 0 0), (.int .i64 0), (.string ⟨#[]⟩), (.bool false), (.int .i64 0), (.bool false), (.string ⟨#[]⟩), (.slice none 0 0), (.int .i64 0), (.bool false), (.bool false), (.bool false), (.string ⟨#[]⟩), (.slice none 0 0), (.bool false), (.int .i64 0), (.slice none 0 0), (.slice none 0 0)])) (fun _ => by kernel_rfl) rfl fun a66 w15 g14 N14 f66 => ?_
            have Bg14 := N14.blk
            have kg14 := N14.kept
            have log14 := N14.lo
            have ltg14 := Bg14.lt
            have szw15 := kg14.size
            have frg14 : w.heap.size ≤ g14 := Nat.le_trans HK.size log14
            have neg7_g14 : g7 ≠ g14 := by have := Bg7.lt; omega
            have neg11_g14 : g11 ≠ g14 := by have := Bg11.lt; omega
            replace HK := HK.trans kg14 (by simp)
            replace T := T.kept kg14 (by simp) (Same.of_kept kg14 (by simp))
            replace O := O.same (Same.of_kept kg14 (by simp))
            replace Bg7 := Bg7.kept kg14 (by simp)
            replace O10 := O10.same (Same.of_kept kg14 (by simp))
            replace Bg11 := Bg11.kept kg14 (by simp)
            clear N14 kg14
            clear f65 a65
            refine L.storeR f66 wantedN wsz37 rfl rfl rfl Bg14 rfl rfl fun a67 w16 f67 NB16 ks16 => ?_
            have szw16 := ks16.size
            replace HK := HK.trans ks16 (by intro x hx hlt; simp at hx; subst hx; first | (exfalso; omega) | simp)
            replace T := T.kept ks16 (by simp; omega) (Same.of_kept ks16 (by intro x hx hlt; simp at hx; subst hx; exact ⟨by omega, Bg14.not_typ (by decide)⟩))
            replace O := O.same (Same.of_kept ks16 (by intro x hx hlt; simp at hx; subst hx; exact ⟨by omega, Bg14.not_typ (by decide)⟩))
            replace Bg7 := Bg7.kept ks16 (by simp; omega)
            replace O10 := O10.same (Same.of_kept ks16 (by intro x hx hlt; simp at hx; subst hx; exact ⟨by omega, Bg14.not_typ (by decide)⟩))
            replace Bg11 := Bg11.kept ks16 (by simp; omega)
            replace Bg14 := NB16
            clear ks16 f66 a66
            refine L.val f67 wantedN rfl (by decide) (E.assign f67 rfl) fun a68 f68 => ?_
            clear f67 a67
            refine wpList_nil (hK56 _ _ ?_)
            try clear hK56 K56
            have f69 := f68.sub (sub_cons (i := 14) rfl (sub_cons (i := 15) rfl (sub_cons (i := 16) rfl (sub_cons (i := 17) rfl (sub_cons (i := 18) rfl (sub_cons (i := 19) rfl (sub_cons (i := 45) rfl (sub_cons (i := 46) rfl (sub_cons (i := 47) rfl (sub_cons (i := 48) rfl (sub_cons (i := 49) rfl (sub_cons (i := 50) rfl (sub_cons (i := 51) rfl (sub_cons (i := 52) rfl (sub_cons (i := 53) rfl (sub_cons (i := 54) rfl (sub_cons (i := 55) rfl (sub_cons (i := 56) rfl (sub_cons (i := 57) rfl (sub_cons (i := 58) rfl (sub_cons (i := 59) rfl (sub_cons (i := 60) rfl (sub_cons (i := 61) rfl (sub_cons (i := 62) rfl sub_nil))))))))))))))))))))))))
            clear f68
            refine wp_seq_k fun K57 hK57 => ?_
            refine C.region ?_
            refine L.val f69 wantedN rfl (by decide) (E.fieldAddr f69 Try.underlying28 rfl rfl wsz3) fun a70 f70 => ?_
            clear f69 a68
            refine L.val f70 wantedN rfl (by decide) (by first | exact E.load f70 Try.underlying3 rfl rfl ((Bg7).cell_ rfl) | exact E.load f70 Try.underlying3 rfl rfl ((Bg11).cell_ rfl) | exact E.load f70 Try.underlying3 rfl rfl ((Bg14).cell_ rfl)) fun a71 f71 => ?_
            clear f70 a70
            refine L.call f71 wantedN rfl (by decide) (run_call Try.call12 (args1 f71 rfl)) (name_n hkp _) ?_
            rintro e w16x ⟨rfl, rfl⟩
            refine ⟨_, rfl, fun a72 f72 => ?_⟩
            clear f71 a71
            refine L.val f72 wantedN rfl (by decide) (E.assign f72 rfl) fun a73 f73 => ?_
            clear f72 a72
            refine wpList_nil (hK57 _ _ ?_)
            try clear hK57 K57
            have f74 := f73.sub (sub_cons (i := 14) rfl (sub_cons (i := 15) rfl (sub_cons (i := 16) rfl (sub_cons (i := 17) rfl (sub_cons (i := 18) rfl (sub_cons (i := 19) rfl (sub_cons (i := 20) rfl (sub_cons (i := 45) rfl (sub_cons (i := 46) rfl (sub_cons (i := 47) rfl (sub_cons (i := 48) rfl (sub_cons (i := 49) rfl (sub_cons (i := 50) rfl (sub_cons (i := 51) rfl (sub_cons (i := 52) rfl (sub_cons (i := 53) rfl (sub_cons (i := 54) rfl (sub_cons (i := 55) rfl (sub_cons (i := 56) rfl (sub_cons (i := 57) rfl (sub_cons (i := 58) rfl (sub_cons (i := 59) rfl (sub_cons (i := 60) rfl (sub_cons (i := 61) rfl (sub_cons (i := 62) rfl (sub_cons (i := 63) rfl (sub_cons (i := 64) rfl (sub_cons (i := 65) rfl sub_nil))))))))))))))))))))))))))))
            clear f73
            refine wp_seq_k fun K58 hK58 => ?_
            refine wp_seq_k fun K59 hK59 => ?_
            refine C.region ?_
            refine L.val f74 wantedN rfl (by decide) (E.move f74 rfl) fun a75 f75 => ?_
            clear f74 a73
            refine L.call f75 wantedN rfl (by decide) (run_call Try.call13 (args1 f75 rfl)) (name_of 5 (by decide) _ _) ?_
            rintro e w17 ⟨rfl, kb17⟩
            have kc17 := Kept.of_below kb17 []
            refine ⟨_, rfl, fun a76 f76 => ?_⟩
            clear f75 a75
            have szw17 := kc17.size
            replace HK := HK.trans kc17 (by simp)
            replace T := T.kept kc17 (by simp) (Same.of_kept kc17 (by simp))
            replace O := O.same (Same.of_kept kc17 (by simp))
            replace Bg7 := Bg7.kept kc17 (by simp)
            replace O10 := O10.same (Same.of_kept kc17 (by simp))
            replace Bg11 := Bg11.kept kc17 (by simp)
            replace Bg14 := Bg14.kept kc17 (by simp)
            clear kc17
            clear kb17
            refine L.val f76 wantedN rfl (by decide) (E.move f76 rfl) fun a77 f77 => ?_
            clear f76 a76
            refine L.val f77 wantedN rfl (by decide) (E.neqS f77 rfl rfl) fun a78 f78 => ?_
            clear f77 a77
            have f79 := f78.as (i := 69) (v' := .bool false) rfl (by simp [nameS])
            clear f78
            refine L.val f79 wantedN rfl (by decide) (E.move f79 rfl) fun a80 f80 => ?_
            clear f79 a78
            refine L.val f80 (f80.yes rfl rfl) rfl (by decide) (E.move f80 rfl) fun a81 f81 => ?_
            clear f80 a80
            refine L.val f81 (f81.yes rfl rfl) rfl (by decide) (E.move f81 rfl) fun a82 f82 => ?_
            clear f81 a81
            refine L.val f82 (f82.yes rfl rfl) rfl (by decide) (E.neqS f82 rfl rfl) fun a83 f83 => ?_
            clear f82 a82
            have f84 := f83.as (i := 73) (v' := .bool false) rfl (by simp [nameS])
            clear f83
            refine L.val f84 (f84.yes rfl rfl) rfl (by decide) (E.neqB f84 Try.underlying4 rfl rfl) fun a85 f85 => ?_
            clear f84 a83
            have f86 := f85.as (i := 74) (v' := .bool false) rfl rfl
            clear f85
            refine L.val f86 wantedN rfl (by decide) (E.pickF f86 rfl rfl) fun a87 f87 => ?_
            clear f86 a85
            refine L.val f87 wantedN rfl (by decide) (E.move f87 rfl) fun a88 f88 => ?_
            clear f87 a87
            refine L.val f88 (f88.yes rfl rfl) rfl (by decide) (E.move f88 rfl) fun a89 f89 => ?_
            clear f88 a88
            refine L.val f89 (f89.yes rfl rfl) rfl (by decide) (E.move f89 rfl) fun a90 f90 => ?_
            clear f89 a89
            refine L.skip f90 (f90.noT rfl rfl) rfl (by decide) fun a91 f91 => ?_
            clear f90 a90
            refine L.skip f91 (f91.noT rfl rfl) rfl (by decide) fun a92 f92 => ?_
            clear f91 a91
            refine L.skip f92 (f92.noT rfl rfl) rfl (by decide) fun a93 f93 => ?_
            clear f92 a92
            refine L.skip f93 (f93.noT rfl rfl) rfl (by decide) fun a94 f94 => ?_
            clear f93 a93
            refine L.val f94 (f94.yes rfl rfl) rfl (by decide) (E.pickF f94 rfl rfl) fun a95 f95 => ?_
            clear f94 a94
            refine L.val f95 wantedN rfl (by decide) (E.pickF f95 rfl rfl) fun a96 f96 => ?_
            clear f95 a95
            refine L.val f96 wantedN rfl (by decide) (E.move f96 rfl) fun a97 f97 => ?_
            clear f96 a96
            refine L.val f97 (f97.yes rfl rfl) rfl (by decide) (E.move f97 rfl) fun a98 f98 => ?_
            clear f97 a97
            refine L.val f98 (f98.yes rfl rfl) rfl (by decide) (E.not f98 rfl) fun a99 f99 => ?_
            clear f98 a98
            refine L.val f99 (f99.yes rfl rfl) rfl (by decide) (E.move f99 rfl) fun a100 f100 => ?_
            clear f99 a99
            refine L.val f100 (f100.yes rfl rfl) rfl (by decide) (by first | exact E.loadB f100 Try.underlying28 rfl wsz28 rfl (Bg7) rfl | exact E.loadB f100 Try.underlying28 rfl wsz28 rfl (Bg11) rfl | exact E.loadB f100 Try.underlying28 rfl wsz28 rfl (Bg14) rfl | exact E.loadA f100 Try.underlying28 rfl wsz28 rfl (row24i hcs) rfl) fun a101 f101 => ?_
            clear f100 a100
            refine L.val f101 (f101.yes rfl rfl) rfl (by decide) (E.build f101 (parts0 f101) builtZ) fun a102 f102 => ?_
            clear f101 a101
            refine L.call f102 (f102.yes rfl rfl) rfl (by decide) (run_call Try.call14 (args2 f102 rfl rfl)) (same_zero _) ?_
            rintro e w18 ⟨rfl, kb18⟩
            have kc18 := Kept.of_below kb18 []
            refine ⟨_, rfl, fun a103 f103 => ?_⟩
            clear f102 a102
            have szw18 := kc18.size
            replace HK := HK.trans kc18 (by simp)
            replace T := T.kept kc18 (by simp) (Same.of_kept kc18 (by simp))
            replace O := O.same (Same.of_kept kc18 (by simp))
            replace Bg7 := Bg7.kept kc18 (by simp)
            replace O10 := O10.same (Same.of_kept kc18 (by simp))
            replace Bg11 := Bg11.kept kc18 (by simp)
            replace Bg14 := Bg14.kept kc18 (by simp)
            clear kc18
            clear kb18
            refine L.val f103 (f103.yes rfl rfl) rfl (by decide) (E.not f103 rfl) fun a104 f104 => ?_
            clear f103 a103
            refine L.val f104 (f104.yes rfl rfl) rfl (by decide) (E.pickT f104 rfl rfl) fun a105 f105 => ?_
            clear f104 a104
            refine L.val f105 wantedN rfl (by decide) (E.pickF f105 rfl rfl) fun a106 f106 => ?_
            clear f105 a105
            refine L.val f106 wantedN rfl (by decide) (E.move f106 rfl) fun a107 f107 => ?_
            clear f106 a106
            refine L.val f107 (f107.yes rfl rfl) rfl (by decide) (E.move f107 rfl) fun a108 f108 => ?_
            clear f107 a107
            refine L.val f108 (f108.yes rfl rfl) rfl (by decide) (E.move f108 rfl) fun a109 f109 => ?_
            clear f108 a108
            refine L.val f109 (f109.yes rfl rfl) rfl (by decide) (E.eqlS f109 rfl rfl) fun a110 f110 => ?_
            clear f109 a109
            have f111 := f110.as (i := 98) (v' := .bool false) rfl (by simp [nameS])
            clear f110
            refine L.val f111 (f111.yes rfl rfl) rfl (by decide) (E.neqB f111 Try.underlying4 rfl rfl) fun a112 f112 => ?_
            clear f111 a110
            have f113 := f112.as (i := 99) (v' := .bool false) rfl rfl
            clear f112
            refine L.val f113 wantedN rfl (by decide) (E.pickF f113 rfl rfl) fun a114 f114 => ?_
            clear f113 a112
            refine L.val f114 wantedN rfl (by decide) (E.move f114 rfl) fun a115 f115 => ?_
            clear f114 a114
            refine L.val f115 (f115.yes rfl rfl) rfl (by decide) (E.move f115 rfl) fun a116 f116 => ?_
            clear f115 a115
            refine L.val f116 (f116.yes rfl rfl) rfl (by decide) (E.move f116 rfl) fun a117 f117 => ?_
            clear f116 a116
            refine L.skip f117 (f117.noT rfl rfl) rfl (by decide) fun a118 f118 => ?_
            clear f117 a117
            refine L.skip f118 (f118.noT rfl rfl) rfl (by decide) fun a119 f119 => ?_
            clear f118 a118
            refine L.skip f119 (f119.noT rfl rfl) rfl (by decide) fun a120 f120 => ?_
            clear f119 a119
            refine L.skip f120 (f120.noT rfl rfl) rfl (by decide) fun a121 f121 => ?_
            clear f120 a120
            refine L.skip f121 (f121.noT rfl rfl) rfl (by decide) fun a122 f122 => ?_
            clear f121 a121
            refine L.val f122 (f122.yes rfl rfl) rfl (by decide) (E.pickF f122 rfl rfl) fun a123 f123 => ?_
            clear f122 a122
            refine L.val f123 wantedN rfl (by decide) (E.pickF f123 rfl rfl) fun a124 f124 => ?_
            clear f123 a123
            refine L.val f124 wantedN rfl (by decide) (E.move f124 rfl) fun a125 f125 => ?_
            clear f124 a124
            refine L.val f125 (f125.yes rfl rfl) rfl (by decide) (E.move f125 rfl) fun a126 f126 => ?_
            clear f125 a125
            refine L.val f126 (f126.yes rfl rfl) rfl (by decide) (E.not f126 rfl) fun a127 f127 => ?_
            clear f126 a126
            refine L.val f127 (f127.yes rfl rfl) rfl (by decide) (E.move f127 rfl) fun a128 f128 => ?_
            clear f127 a127
            refine L.val f128 (f128.yes rfl rfl) rfl (by decide) (E.fieldAddr f128 Try.underlying37 rfl rfl wsz28) fun a129 f129 => ?_
            clear f128 a128
            refine L.val f129 (f129.yes rfl rfl) rfl (by decide) (by first | exact E.loadB f129 Try.underlying28 rfl wsz28 rfl (Bg7) rfl | exact E.loadB f129 Try.underlying28 rfl wsz28 rfl (Bg11) rfl | exact E.loadB f129 Try.underlying28 rfl wsz28 rfl (Bg14) rfl | exact E.loadA f129 Try.underlying28 rfl wsz28 rfl (row24i hcs) rfl) fun a130 f130 => ?_
            clear f129 a129
            refine L.val f130 (f130.yes rfl rfl) rfl (by decide) (E.build f130 (parts0 f130) builtZ) fun a131 f131 => ?_
            clear f130 a130
            refine L.call f131 (f131.yes rfl rfl) rfl (by decide) (run_call Try.call14 (args2 f131 rfl rfl)) (same_zero _) ?_
            rintro e w19 ⟨rfl, kb19⟩
            have kc19 := Kept.of_below kb19 []
            refine ⟨_, rfl, fun a132 f132 => ?_⟩
            clear f131 a131
            have szw19 := kc19.size
            replace HK := HK.trans kc19 (by simp)
            replace T := T.kept kc19 (by simp) (Same.of_kept kc19 (by simp))
            replace O := O.same (Same.of_kept kc19 (by simp))
            replace Bg7 := Bg7.kept kc19 (by simp)
            replace O10 := O10.same (Same.of_kept kc19 (by simp))
            replace Bg11 := Bg11.kept kc19 (by simp)
            replace Bg14 := Bg14.kept kc19 (by simp)
            clear kc19
            clear kb19
            refine L.val f132 (f132.yes rfl rfl) rfl (by decide) (E.not f132 rfl) fun a133 f133 => ?_
            clear f132 a132
            refine L.val f133 (f133.yes rfl rfl) rfl (by decide) (E.pickT f133 rfl rfl) fun a134 f134 => ?_
            clear f133 a133
            refine L.val f134 wantedN rfl (by decide) (E.pickF f134 rfl rfl) fun a135 f135 => ?_
            clear f134 a134
            refine wpList_nil (hK59 _ _ ?_)
            try clear hK59 K59
            have f136 := f135.sub (sub_cons (i := 14) rfl (sub_cons (i := 15) rfl (sub_cons (i := 16) rfl (sub_cons (i := 17) rfl (sub_cons (i := 18) rfl (sub_cons (i := 19) rfl (sub_cons (i := 20) rfl (sub_cons (i := 45) rfl (sub_cons (i := 46) rfl (sub_cons (i := 47) rfl (sub_cons (i := 48) rfl (sub_cons (i := 49) rfl (sub_cons (i := 50) rfl (sub_cons (i := 51) rfl (sub_cons (i := 52) rfl (sub_cons (i := 53) rfl (sub_cons (i := 54) rfl (sub_cons (i := 55) rfl (sub_cons (i := 56) rfl (sub_cons (i := 57) rfl (sub_cons (i := 58) rfl (sub_cons (i := 59) rfl (sub_cons (i := 60) rfl (sub_cons (i := 61) rfl (sub_cons (i := 62) rfl (sub_cons (i := 63) rfl (sub_cons (i := 64) rfl (sub_cons (i := 65) rfl (sub_cons (i := 66) rfl (sub_cons (i := 67) rfl (sub_cons (i := 68) rfl (sub_cons (i := 69) rfl (sub_cons (i := 70) rfl (sub_cons (i := 71) rfl (sub_cons (i := 72) rfl (sub_cons (i := 73) rfl (sub_cons (i := 74) rfl (sub_cons (i := 75) rfl (sub_cons (i := 76) rfl (sub_cons (i := 77) rfl (sub_cons (i := 78) rfl (sub_cons (i := 79) rfl (sub_cons (i := 80) rfl (sub_cons (i := 81) rfl (sub_cons (i := 82) rfl (sub_cons (i := 83) rfl (sub_cons (i := 84) rfl (sub_cons (i := 85) rfl (sub_cons (i := 86) rfl (sub_cons (i := 87) rfl (sub_cons (i := 88) rfl (sub_cons (i := 89) rfl (sub_cons (i := 90) rfl (sub_cons (i := 91) rfl (sub_cons (i := 92) rfl (sub_cons (i := 93) rfl (sub_cons (i := 94) rfl (sub_cons (i := 95) rfl (sub_cons (i := 96) rfl (sub_cons (i := 97) rfl (sub_cons (i := 98) rfl (sub_cons (i := 99) rfl (sub_cons (i := 100) rfl (sub_cons (i := 101) rfl (sub_cons (i := 102) rfl (sub_cons (i := 103) rfl (sub_cons (i := 104) rfl (sub_cons (i := 105) rfl (sub_cons (i := 106) rfl (sub_cons (i := 107) rfl (sub_cons (i := 108) rfl (sub_cons (i := 109) rfl (sub_cons (i := 110) rfl (sub_cons (i := 111) rfl (sub_cons (i := 112) rfl (sub_cons (i := 113) rfl (sub_cons (i := 114) rfl (sub_cons (i := 115) rfl (sub_cons (i := 116) rfl (sub_cons (i := 117) rfl (sub_cons (i := 118) rfl (sub_cons (i := 119) rfl (sub_cons (i := 120) rfl (sub_cons (i := 121) rfl sub_nil))))))))))))))))))))))))))))))))))))))))))))))))))))))))))))))))))))))))))))))))))))
            clear f135
            refine C.condF f136 rfl ?_
            refine wp_skip (hK58 _ _ ?_)
            try clear hK58 K58
            have f137 := f136.sub (sub_cons (i := 14) rfl (sub_cons (i := 15) rfl (sub_cons (i := 16) rfl (sub_cons (i := 17) rfl (sub_cons (i := 18) rfl (sub_cons (i := 19) rfl (sub_cons (i := 20) rfl (sub_cons (i := 45) rfl (sub_cons (i := 46) rfl (sub_cons (i := 47) rfl (sub_cons (i := 48) rfl (sub_cons (i := 49) rfl (sub_cons (i := 50) rfl (sub_cons (i := 51) rfl (sub_cons (i := 52) rfl (sub_cons (i := 53) rfl (sub_cons (i := 54) rfl (sub_cons (i := 55) rfl (sub_cons (i := 56) rfl (sub_cons (i := 57) rfl (sub_cons (i := 58) rfl (sub_cons (i := 59) rfl (sub_cons (i := 60) rfl (sub_cons (i := 61) rfl (sub_cons (i := 62) rfl (sub_cons (i := 63) rfl (sub_cons (i := 64) rfl (sub_cons (i := 65) rfl (sub_cons (i := 66) rfl (sub_cons (i := 67) rfl (sub_cons (i := 68) rfl (sub_cons (i := 69) rfl (sub_cons (i := 70) rfl (sub_cons (i := 71) rfl (sub_cons (i := 72) rfl (sub_cons (i := 73) rfl (sub_cons (i := 74) rfl (sub_cons (i := 75) rfl (sub_cons (i := 76) rfl (sub_cons (i := 77) rfl (sub_cons (i := 78) rfl (sub_cons (i := 79) rfl (sub_cons (i := 80) rfl (sub_cons (i := 81) rfl (sub_cons (i := 82) rfl (sub_cons (i := 83) rfl (sub_cons (i := 84) rfl (sub_cons (i := 85) rfl (sub_cons (i := 86) rfl (sub_cons (i := 87) rfl (sub_cons (i := 88) rfl (sub_cons (i := 89) rfl (sub_cons (i := 90) rfl (sub_cons (i := 91) rfl (sub_cons (i := 92) rfl (sub_cons (i := 93) rfl (sub_cons (i := 94) rfl (sub_cons (i := 95) rfl (sub_cons (i := 96) rfl (sub_cons (i := 97) rfl (sub_cons (i := 98) rfl (sub_cons (i := 99) rfl (sub_cons (i := 100) rfl (sub_cons (i := 101) rfl (sub_cons (i := 102) rfl (sub_cons (i := 103) rfl (sub_cons (i := 104) rfl (sub_cons (i := 105) rfl (sub_cons (i := 106) rfl (sub_cons (i := 107) rfl (sub_cons (i := 108) rfl (sub_cons (i := 109) rfl (sub_cons (i := 110) rfl (sub_cons (i := 111) rfl (sub_cons (i := 112) rfl (sub_cons (i := 113) rfl (sub_cons (i := 114) rfl (sub_cons (i := 115) rfl (sub_cons (i := 116) rfl (sub_cons (i := 117) rfl (sub_cons (i := 118) rfl (sub_cons (i := 119) rfl (sub_cons (i := 120) rfl (sub_cons (i := 121) rfl sub_nil))))))))))))))))))))))))))))))))))))))))))))))))))))))))))))))))))))))))))))))))))))
            clear f136
            refine wp_seq_k fun K60 hK60 => ?_
            refine C.region ?_
            refine L.val f137 wantedN rfl (by decide) (E.assign f137 rfl) fun a138 f138 => ?_
            clear f137 a135
            refine wpList_nil (hK60 _ _ ?_)
            try clear hK60 K60
            have f139 := f138.sub (sub_cons (i := 14) rfl (sub_cons (i := 15) rfl (sub_cons (i := 16) rfl (sub_cons (i := 17) rfl (sub_cons (i := 18) rfl (sub_cons (i := 19) rfl (sub_cons (i := 20) rfl (sub_cons (i := 21) rfl (sub_cons (i := 45) rfl (sub_cons (i := 46) rfl (sub_cons (i := 47) rfl (sub_cons (i := 48) rfl (sub_cons (i := 49) rfl (sub_cons (i := 50) rfl (sub_cons (i := 51) rfl (sub_cons (i := 52) rfl (sub_cons (i := 53) rfl (sub_cons (i := 54) rfl (sub_cons (i := 55) rfl (sub_cons (i := 56) rfl (sub_cons (i := 57) rfl (sub_cons (i := 58) rfl (sub_cons (i := 59) rfl (sub_cons (i := 60) rfl (sub_cons (i := 61) rfl (sub_cons (i := 62) rfl (sub_cons (i := 63) rfl (sub_cons (i := 64) rfl (sub_cons (i := 65) rfl (sub_cons (i := 66) rfl (sub_cons (i := 67) rfl (sub_cons (i := 68) rfl (sub_cons (i := 69) rfl (sub_cons (i := 70) rfl (sub_cons (i := 71) rfl (sub_cons (i := 72) rfl (sub_cons (i := 73) rfl (sub_cons (i := 74) rfl (sub_cons (i := 75) rfl (sub_cons (i := 76) rfl (sub_cons (i := 77) rfl (sub_cons (i := 78) rfl (sub_cons (i := 79) rfl (sub_cons (i := 80) rfl (sub_cons (i := 81) rfl (sub_cons (i := 82) rfl (sub_cons (i := 83) rfl (sub_cons (i := 84) rfl (sub_cons (i := 85) rfl (sub_cons (i := 86) rfl (sub_cons (i := 87) rfl (sub_cons (i := 88) rfl (sub_cons (i := 89) rfl (sub_cons (i := 90) rfl (sub_cons (i := 91) rfl (sub_cons (i := 92) rfl (sub_cons (i := 93) rfl (sub_cons (i := 94) rfl (sub_cons (i := 95) rfl (sub_cons (i := 96) rfl (sub_cons (i := 97) rfl (sub_cons (i := 98) rfl (sub_cons (i := 99) rfl (sub_cons (i := 100) rfl (sub_cons (i := 101) rfl (sub_cons (i := 102) rfl (sub_cons (i := 103) rfl (sub_cons (i := 104) rfl (sub_cons (i := 105) rfl (sub_cons (i := 106) rfl (sub_cons (i := 107) rfl (sub_cons (i := 108) rfl (sub_cons (i := 109) rfl (sub_cons (i := 110) rfl (sub_cons (i := 111) rfl (sub_cons (i := 112) rfl (sub_cons (i := 113) rfl (sub_cons (i := 114) rfl (sub_cons (i := 115) rfl (sub_cons (i := 116) rfl (sub_cons (i := 117) rfl (sub_cons (i := 118) rfl (sub_cons (i := 119) rfl (sub_cons (i := 120) rfl (sub_cons (i := 121) rfl sub_nil)))))))))))))))))))))))))))))))))))))))))))))))))))))))))))))))))))))))))))))))))))))
            clear f138
            refine wp_seq_k fun K61 hK61 => ?_
            refine wp_seq_k fun K62 hK62 => ?_
            refine C.region ?_
            refine L.val f139 wantedN rfl (by decide) (E.move f139 rfl) fun a140 f140 => ?_
            clear f139 a138
            refine L.val f140 wantedN rfl (by decide) (E.eqlS f140 rfl rfl) fun a141 f141 => ?_
            clear f140 a140
            have f142 := f141.as (i := 123) (v' := .bool false) rfl (by simp [nameS])
            clear f141
            refine L.val f142 wantedN rfl (by decide) (E.move f142 rfl) fun a143 f143 => ?_
            clear f142 a141
            refine L.val f143 (f143.yes rfl rfl) rfl (by decide) (E.move f143 rfl) fun a144 f144 => ?_
            clear f143 a143
            refine L.val f144 (f144.yes rfl rfl) rfl (by decide) (E.eqlS f144 rfl rfl) fun a145 f145 => ?_
            clear f144 a144
            have f146 := f145.as (i := 126) (v' := .bool false) rfl (by simp [nameS])
            clear f145
            refine L.val f146 wantedN rfl (by decide) (E.pickF f146 rfl rfl) fun a147 f147 => ?_
            clear f146 a145
            refine L.val f147 wantedN rfl (by decide) (E.move f147 rfl) fun a148 f148 => ?_
            clear f147 a147
            refine L.val f148 (f148.yes rfl rfl) rfl (by decide) (E.move f148 rfl) fun a149 f149 => ?_
            clear f148 a148
            refine L.val f149 (f149.yes rfl rfl) rfl (by decide) (E.eqlS f149 rfl rfl) fun a150 f150 => ?_
            clear f149 a149
            have f151 := f150.as (i := 130) (v' := .bool false) rfl (by simp [nameS])
            clear f150
            refine L.val f151 wantedN rfl (by decide) (E.pickF f151 rfl rfl) fun a152 f152 => ?_
            clear f151 a150
            refine wpList_nil (hK62 _ _ ?_)
            try clear hK62 K62
            have f153 := f152.sub (sub_cons (i := 14) rfl (sub_cons (i := 15) rfl (sub_cons (i := 16) rfl (sub_cons (i := 17) rfl (sub_cons (i := 18) rfl (sub_cons (i := 19) rfl (sub_cons (i := 20) rfl (sub_cons (i := 21) rfl (sub_cons (i := 45) rfl (sub_cons (i := 46) rfl (sub_cons (i := 47) rfl (sub_cons (i := 48) rfl (sub_cons (i := 49) rfl (sub_cons (i := 50) rfl (sub_cons (i := 51) rfl (sub_cons (i := 52) rfl (sub_cons (i := 53) rfl (sub_cons (i := 54) rfl (sub_cons (i := 55) rfl (sub_cons (i := 56) rfl (sub_cons (i := 57) rfl (sub_cons (i := 58) rfl (sub_cons (i := 59) rfl (sub_cons (i := 60) rfl (sub_cons (i := 61) rfl (sub_cons (i := 62) rfl (sub_cons (i := 63) rfl (sub_cons (i := 64) rfl (sub_cons (i := 65) rfl (sub_cons (i := 66) rfl (sub_cons (i := 67) rfl (sub_cons (i := 68) rfl (sub_cons (i := 69) rfl (sub_cons (i := 70) rfl (sub_cons (i := 71) rfl (sub_cons (i := 72) rfl (sub_cons (i := 73) rfl (sub_cons (i := 74) rfl (sub_cons (i := 75) rfl (sub_cons (i := 76) rfl (sub_cons (i := 77) rfl (sub_cons (i := 78) rfl (sub_cons (i := 79) rfl (sub_cons (i := 80) rfl (sub_cons (i := 81) rfl (sub_cons (i := 82) rfl (sub_cons (i := 83) rfl (sub_cons (i := 84) rfl (sub_cons (i := 85) rfl (sub_cons (i := 86) rfl (sub_cons (i := 87) rfl (sub_cons (i := 88) rfl (sub_cons (i := 89) rfl (sub_cons (i := 90) rfl (sub_cons (i := 91) rfl (sub_cons (i := 92) rfl (sub_cons (i := 93) rfl (sub_cons (i := 94) rfl (sub_cons (i := 95) rfl (sub_cons (i := 96) rfl (sub_cons (i := 97) rfl (sub_cons (i := 98) rfl (sub_cons (i := 99) rfl (sub_cons (i := 100) rfl (sub_cons (i := 101) rfl (sub_cons (i := 102) rfl (sub_cons (i := 103) rfl (sub_cons (i := 104) rfl (sub_cons (i := 105) rfl (sub_cons (i := 106) rfl (sub_cons (i := 107) rfl (sub_cons (i := 108) rfl (sub_cons (i := 109) rfl (sub_cons (i := 110) rfl (sub_cons (i := 111) rfl (sub_cons (i := 112) rfl (sub_cons (i := 113) rfl (sub_cons (i := 114) rfl (sub_cons (i := 115) rfl (sub_cons (i := 116) rfl (sub_cons (i := 117) rfl (sub_cons (i := 118) rfl (sub_cons (i := 119) rfl (sub_cons (i := 120) rfl (sub_cons (i := 121) rfl (sub_cons (i := 122) rfl (sub_cons (i := 123) rfl (sub_cons (i := 124) rfl (sub_cons (i := 125) rfl (sub_cons (i := 126) rfl (sub_cons (i := 127) rfl (sub_cons (i := 128) rfl (sub_cons (i := 129) rfl (sub_cons (i := 130) rfl (sub_cons (i := 131) rfl sub_nil)))))))))))))))))))))))))))))))))))))))))))))))))))))))))))))))))))))))))))))))))))))))))))))))
            clear f152
            refine C.condF f153 rfl ?_
            refine wp_skip (hK61 _ _ ?_)
            try clear hK61 K61
            have f154 := f153.sub (sub_cons (i := 14) rfl (sub_cons (i := 15) rfl (sub_cons (i := 16) rfl (sub_cons (i := 17) rfl (sub_cons (i := 18) rfl (sub_cons (i := 19) rfl (sub_cons (i := 20) rfl (sub_cons (i := 21) rfl (sub_cons (i := 45) rfl (sub_cons (i := 46) rfl (sub_cons (i := 47) rfl (sub_cons (i := 48) rfl (sub_cons (i := 49) rfl (sub_cons (i := 50) rfl (sub_cons (i := 51) rfl (sub_cons (i := 52) rfl (sub_cons (i := 53) rfl (sub_cons (i := 54) rfl (sub_cons (i := 55) rfl (sub_cons (i := 56) rfl (sub_cons (i := 57) rfl (sub_cons (i := 58) rfl (sub_cons (i := 59) rfl (sub_cons (i := 60) rfl (sub_cons (i := 61) rfl (sub_cons (i := 62) rfl (sub_cons (i := 63) rfl (sub_cons (i := 64) rfl (sub_cons (i := 65) rfl (sub_cons (i := 66) rfl (sub_cons (i := 67) rfl (sub_cons (i := 68) rfl (sub_cons (i := 69) rfl (sub_cons (i := 70) rfl (sub_cons (i := 71) rfl (sub_cons (i := 72) rfl (sub_cons (i := 73) rfl (sub_cons (i := 74) rfl (sub_cons (i := 75) rfl (sub_cons (i := 76) rfl (sub_cons (i := 77) rfl (sub_cons (i := 78) rfl (sub_cons (i := 79) rfl (sub_cons (i := 80) rfl (sub_cons (i := 81) rfl (sub_cons (i := 82) rfl (sub_cons (i := 83) rfl (sub_cons (i := 84) rfl (sub_cons (i := 85) rfl (sub_cons (i := 86) rfl (sub_cons (i := 87) rfl (sub_cons (i := 88) rfl (sub_cons (i := 89) rfl (sub_cons (i := 90) rfl (sub_cons (i := 91) rfl (sub_cons (i := 92) rfl (sub_cons (i := 93) rfl (sub_cons (i := 94) rfl (sub_cons (i := 95) rfl (sub_cons (i := 96) rfl (sub_cons (i := 97) rfl (sub_cons (i := 98) rfl (sub_cons (i := 99) rfl (sub_cons (i := 100) rfl (sub_cons (i := 101) rfl (sub_cons (i := 102) rfl (sub_cons (i := 103) rfl (sub_cons (i := 104) rfl (sub_cons (i := 105) rfl (sub_cons (i := 106) rfl (sub_cons (i := 107) rfl (sub_cons (i := 108) rfl (sub_cons (i := 109) rfl (sub_cons (i := 110) rfl (sub_cons (i := 111) rfl (sub_cons (i := 112) rfl (sub_cons (i := 113) rfl (sub_cons (i := 114) rfl (sub_cons (i := 115) rfl (sub_cons (i := 116) rfl (sub_cons (i := 117) rfl (sub_cons (i := 118) rfl (sub_cons (i := 119) rfl (sub_cons (i := 120) rfl (sub_cons (i := 121) rfl (sub_cons (i := 122) rfl (sub_cons (i := 123) rfl (sub_cons (i := 124) rfl (sub_cons (i := 125) rfl (sub_cons (i := 126) rfl (sub_cons (i := 127) rfl (sub_cons (i := 128) rfl (sub_cons (i := 129) rfl (sub_cons (i := 130) rfl (sub_cons (i := 131) rfl sub_nil)))))))))))))))))))))))))))))))))))))))))))))))))))))))))))))))))))))))))))))))))))))))))))))))
            clear f153
            refine wp_seq_k fun K63 hK63 => ?_
            refine C.region ?_
            refine L.val f154 wantedN rfl (by decide) (E.move f154 rfl) fun a155 f155 => ?_
            clear f154 a152
            refine L.call f155 wantedN rfl (by decide) (run_call Try.call15 (args1 f155 rfl)) (id_of 5 (by decide) p s10 _) ?_
            rintro e w20 ⟨rfl, kb20⟩
            have kc20 := Kept.of_below kb20 []
            refine ⟨_, rfl, fun a156 f156 => ?_⟩
            clear f155 a155
            have szw20 := kc20.size
            replace HK := HK.trans kc20 (by simp)
            replace T := T.kept kc20 (by simp) (Same.of_kept kc20 (by simp))
            replace O := O.same (Same.of_kept kc20 (by simp))
            replace Bg7 := Bg7.kept kc20 (by simp)
            replace O10 := O10.same (Same.of_kept kc20 (by simp))
            replace Bg11 := Bg11.kept kc20 (by simp)
            replace Bg14 := Bg14.kept kc20 (by simp)
            clear kc20
            clear kb20
            refine L.val f156 wantedN rfl (by decide) (E.move f156 rfl) fun a157 f157 => ?_
            clear f156 a156
            refine L.val f157 wantedN rfl (by decide) (E.neq f157 rfl rfl) fun a158 f158 => ?_
            clear f157 a157
            have f159 := f158.as (i := 137) (v' := .bool false) rfl (by simp [idOf])
            clear f158
            refine wpList_nil (hK63 _ _ ?_)
            try clear hK63 K63
            have f160 := f159.sub (sub_cons (i := 14) rfl (sub_cons (i := 15) rfl (sub_cons (i := 16) rfl (sub_cons (i := 17) rfl (sub_cons (i := 18) rfl (sub_cons (i := 19) rfl (sub_cons (i := 20) rfl (sub_cons (i := 21) rfl (sub_cons (i := 45) rfl (sub_cons (i := 46) rfl (sub_cons (i := 47) rfl (sub_cons (i := 48) rfl (sub_cons (i := 49) rfl (sub_cons (i := 50) rfl (sub_cons (i := 51) rfl (sub_cons (i := 52) rfl (sub_cons (i := 53) rfl (sub_cons (i := 54) rfl (sub_cons (i := 55) rfl (sub_cons (i := 56) rfl (sub_cons (i := 57) rfl (sub_cons (i := 58) rfl (sub_cons (i := 59) rfl (sub_cons (i := 60) rfl (sub_cons (i := 61) rfl (sub_cons (i := 62) rfl (sub_cons (i := 63) rfl (sub_cons (i := 64) rfl (sub_cons (i := 65) rfl (sub_cons (i := 66) rfl (sub_cons (i := 67) rfl (sub_cons (i := 68) rfl (sub_cons (i := 69) rfl (sub_cons (i := 70) rfl (sub_cons (i := 71) rfl (sub_cons (i := 72) rfl (sub_cons (i := 73) rfl (sub_cons (i := 74) rfl (sub_cons (i := 75) rfl (sub_cons (i := 76) rfl (sub_cons (i := 77) rfl (sub_cons (i := 78) rfl (sub_cons (i := 79) rfl (sub_cons (i := 80) rfl (sub_cons (i := 81) rfl (sub_cons (i := 82) rfl (sub_cons (i := 83) rfl (sub_cons (i := 84) rfl (sub_cons (i := 85) rfl (sub_cons (i := 86) rfl (sub_cons (i := 87) rfl (sub_cons (i := 88) rfl (sub_cons (i := 89) rfl (sub_cons (i := 90) rfl (sub_cons (i := 91) rfl (sub_cons (i := 92) rfl (sub_cons (i := 93) rfl (sub_cons (i := 94) rfl (sub_cons (i := 95) rfl (sub_cons (i := 96) rfl (sub_cons (i := 97) rfl (sub_cons (i := 98) rfl (sub_cons (i := 99) rfl (sub_cons (i := 100) rfl (sub_cons (i := 101) rfl (sub_cons (i := 102) rfl (sub_cons (i := 103) rfl (sub_cons (i := 104) rfl (sub_cons (i := 105) rfl (sub_cons (i := 106) rfl (sub_cons (i := 107) rfl (sub_cons (i := 108) rfl (sub_cons (i := 109) rfl (sub_cons (i := 110) rfl (sub_cons (i := 111) rfl (sub_cons (i := 112) rfl (sub_cons (i := 113) rfl (sub_cons (i := 114) rfl (sub_cons (i := 115) rfl (sub_cons (i := 116) rfl (sub_cons (i := 117) rfl (sub_cons (i := 118) rfl (sub_cons (i := 119) rfl (sub_cons (i := 120) rfl (sub_cons (i := 121) rfl (sub_cons (i := 122) rfl (sub_cons (i := 123) rfl (sub_cons (i := 124) rfl (sub_cons (i := 125) rfl (sub_cons (i := 126) rfl (sub_cons (i := 127) rfl (sub_cons (i := 128) rfl (sub_cons (i := 129) rfl (sub_cons (i := 130) rfl (sub_cons (i := 131) rfl (sub_cons (i := 134) rfl (sub_cons (i := 135) rfl (sub_cons (i := 136) rfl (sub_cons (i := 137) rfl sub_nil)))))))))))))))))))))))))))))))))))))))))))))))))))))))))))))))))))))))))))))))))))))))))))))))))))
            clear f159
            refine C.condF f160 rfl ?_
            refine wp_skip (hK12 _ _ ?_)
            try clear hK12 K12
            have f161 := f160.sub (sub_cons (i := 14) rfl (sub_cons (i := 15) rfl (sub_cons (i := 16) rfl (sub_cons (i := 17) rfl (sub_cons (i := 18) rfl (sub_cons (i := 19) rfl (sub_cons (i := 20) rfl (sub_cons (i := 21) rfl (sub_cons (i := 45) rfl (sub_cons (i := 46) rfl (sub_cons (i := 47) rfl (sub_cons (i := 48) rfl (sub_cons (i := 49) rfl (sub_cons (i := 50) rfl (sub_cons (i := 51) rfl (sub_cons (i := 52) rfl (sub_cons (i := 53) rfl (sub_cons (i := 54) rfl (sub_cons (i := 55) rfl (sub_cons (i := 56) rfl (sub_cons (i := 57) rfl (sub_cons (i := 58) rfl (sub_cons (i := 59) rfl (sub_cons (i := 60) rfl (sub_cons (i := 61) rfl (sub_cons (i := 62) rfl (sub_cons (i := 63) rfl (sub_cons (i := 64) rfl (sub_cons (i := 65) rfl (sub_cons (i := 66) rfl (sub_cons (i := 67) rfl (sub_cons (i := 68) rfl (sub_cons (i := 69) rfl (sub_cons (i := 70) rfl (sub_cons (i := 71) rfl (sub_cons (i := 72) rfl (sub_cons (i := 73) rfl (sub_cons (i := 74) rfl (sub_cons (i := 75) rfl (sub_cons (i := 76) rfl (sub_cons (i := 77) rfl (sub_cons (i := 78) rfl (sub_cons (i := 79) rfl (sub_cons (i := 80) rfl (sub_cons (i := 81) rfl (sub_cons (i := 82) rfl (sub_cons (i := 83) rfl (sub_cons (i := 84) rfl (sub_cons (i := 85) rfl (sub_cons (i := 86) rfl (sub_cons (i := 87) rfl (sub_cons (i := 88) rfl (sub_cons (i := 89) rfl (sub_cons (i := 90) rfl (sub_cons (i := 91) rfl (sub_cons (i := 92) rfl (sub_cons (i := 93) rfl (sub_cons (i := 94) rfl (sub_cons (i := 95) rfl (sub_cons (i := 96) rfl (sub_cons (i := 97) rfl (sub_cons (i := 98) rfl (sub_cons (i := 99) rfl (sub_cons (i := 100) rfl (sub_cons (i := 101) rfl (sub_cons (i := 102) rfl (sub_cons (i := 103) rfl (sub_cons (i := 104) rfl (sub_cons (i := 105) rfl (sub_cons (i := 106) rfl (sub_cons (i := 107) rfl (sub_cons (i := 108) rfl (sub_cons (i := 109) rfl (sub_cons (i := 110) rfl (sub_cons (i := 111) rfl (sub_cons (i := 112) rfl (sub_cons (i := 113) rfl (sub_cons (i := 114) rfl (sub_cons (i := 115) rfl (sub_cons (i := 116) rfl (sub_cons (i := 117) rfl (sub_cons (i := 118) rfl (sub_cons (i := 119) rfl (sub_cons (i := 120) rfl (sub_cons (i := 121) rfl (sub_cons (i := 122) rfl (sub_cons (i := 123) rfl (sub_cons (i := 124) rfl (sub_cons (i := 125) rfl (sub_cons (i := 126) rfl (sub_cons (i := 127) rfl (sub_cons (i := 128) rfl (sub_cons (i := 129) rfl (sub_cons (i := 130) rfl (sub_cons (i := 131) rfl (sub_cons (i := 134) rfl (sub_cons (i := 135) rfl (sub_cons (i := 136) rfl (sub_cons (i := 137) rfl sub_nil)))))))))))))))))))))))))))))))))))))))))))))))))))))))))))))))))))))))))))))))))))))))))))))))))))
            clear f160
            refine C.region ?_
            refine L.val f161 wantedN rfl (by decide) (E.add f161 rfl rfl (IntWalk.i64_in _ (by omega))) fun a162 f162 => ?_
            clear f161 a158
            refine L.val f162 wantedN rfl (by decide) (E.move f162 rfl) fun a163 f163 => ?_
            clear f162 a162
            refine wpList_nil (hKL9 _ _ (gk10 - 1) ?_ ?_)
            · omega
            · exact ⟨i + 1, by omega, HK, T, by omega, f163.sub (sub_cons rfl (sub_cons rfl (sub_cons rfl sub_nil)))⟩
        · clear f40
          refine C.condF f41 rfl ?_
          refine wp_exit (hK7 _ _ ?_)
          try clear hK7 K7
          have f42 := f41.sub sub_nil
          clear f41
          refine wp_seq_k fun K64 hK64 => ?_
          refine C.region ?_
          refine L.val f42 wantedN rfl (by decide) (E.assign f42 rfl) fun a43 f43 => ?_
          clear f42 a39
          refine wpList_nil (hK64 _ _ ?_)
          try clear hK64 K64
          have f44 := f43.sub (sub_cons (i := 12) rfl sub_nil)
          clear f43
          refine wp_ret ?_
          try simp only [Exit.inBlock, Exit.then]
          refine C.ret (P := Try.prog) (fn := Try.f3) f44 rfl rfl ?_
          exact ⟨rfl, HK⟩

end Go.Proofs.Ytagcfmmbbcnkbaa
