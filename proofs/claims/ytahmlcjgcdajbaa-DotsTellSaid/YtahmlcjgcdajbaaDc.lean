/- Contracts: searching. -/
import Derived.Test.YtahmlcjgcdajbaaDb
import Derived.Test.YtahmlcjgcdajbaaDot2
set_option linter.all false
namespace Go.Proofs.Ytahmlcjgcdajbaa
open Go.RowKit Go.Hub
theorem wsz32_c : (Try.prog.info? 32).map (·.size) = some 3 := by kernel_rfl
theorem wsz3_c : (Try.prog.info? 3).map (·.size) = some 1 := by kernel_rfl
theorem wbl32_0_1_c (x0 : Int) (x1 : Int) : Try.prog.built 32 [(0, .int .i64 x0), (1, .int .i64 x1)] = some #[.int .i64 x0, .int .i64 x1, (.int .i64 0)] := by kernel_rfl

def IndexIs (l b : List Dt) (i : Int) : Prop := (0 ≤ i ∧ ∃ x ∈ l, topI b x.node x.epoch < x.n) ∨ (i < 0 ∧ ∀ x ∈ l, ¬ topI b x.node x.epoch < x.n)
def IndexPost (l b : List Dt) (w : World) (e : Ending) (w' : World) : Prop := Kept [] w w' ∧ ∃ i : Int, e = .returned (.int .i64 i) ∧ IndexIs l b i
theorem index_is {l b : List Dt} {i : Int} (h : IndexIs l b i) : decide (0 ≤ i) = (l.any fun x => decide (topI b x.node x.epoch < x.n)) := by
  rcases h with ⟨h1, x, h2, h3⟩ | ⟨h1, h2⟩
  · rw [decide_eq_true h1]
    symm
    rw [List.any_eq_true]
    exact ⟨x, h2, by simpa using h3⟩
  · rw [decide_eq_false (by omega)]
    symm
    rw [List.any_eq_false]
    intro x hx
    have := h2 x hx
    simpa using this
theorem take_all {l : List Dt} {P : Dt → Prop} {k : Nat} {d : Dt} (h : ∀ x ∈ l.take k, P x) (hd : l[k]? = some d) (hp : P d) : ∀ x ∈ l.take (k + 1), P x := by
  intro x hx
  rw [List.take_succ, hd] at hx
  simp at hx
  rcases hx with hx | rfl
  · exact h x hx
  · exact hp

def SearchPost (l : List Dt) (d : Dt) (w : World) (e : Ending) (w' : World) : Prop := Kept [] w w' ∧ ∃ (i : Nat) (b : Bool), e = .returned (.tuple #[.int .i64 i, .bool b]) ∧ Srch l d i b

set_option maxHeartbeats 1000000 in
theorem search_any (l : List Dt) (A : Option Addr) (c : Nat) (d : Dt) (w : World) (A1 : Ds w A l) (hm : l.length ≤ 1000000) (hr : Rises l) : Calls Try.prog 50 #[.slice A l.length c, .agg (dcell d).toArray, .func (.func 45) #[] #[]] w (SearchPost l d w) := by
  have HK : Kept [] w w := Kept.refl [] w
  refine C.enter Try.func50 rfl Try.ntmps50 rfl ?_
  intro a0 f0
  have f1 : Fr 49 a0 [(0, .slice A l.length c), (1, .agg (dcell d).toArray), (2, .func (.func 45) #[] #[])] := f0
  clear f0
  refine wp_seq_k fun K0 hK0 => ?_
  refine C.region ?_
  refine L.box f1 wantedN (by decide) rfl rfl fun a2 w1 g0 N0 f2 => ?_
  have Bg0 := N0.blk
  have kg0 := N0.kept
  have log0 := N0.lo
  have ltg0 := Bg0.lt
  have szw1 := kg0.size
  have frg0 : w.heap.size ≤ g0 := Nat.le_trans HK.size log0
  replace HK := HK.trans kg0 (by simp)
  clear N0 kg0
  clear f1 a0
  refine L.val f2 wantedN rfl (by decide) (E.assign f2 rfl) fun a3 f3 => ?_
  clear f2 a2
  refine L.val f3 wantedN rfl (by decide) (E.assign f3 rfl) fun a4 f4 => ?_
  clear f3 a3
  refine wpList_nil (hK0 _ _ ?_)
  try clear hK0 K0
  have f5 := f4.sub (sub_cons (i := 0) rfl (sub_cons (i := 2) rfl (sub_cons (i := 4) rfl (sub_cons (i := 6) rfl (sub_cons (i := 7) rfl sub_nil)))))
  clear f4
  refine wp_seq_k fun K1 hK1 => ?_
  refine C.region ?_
  refine L.val f5 wantedN rfl (by decide) (E.move f5 rfl) fun a6 f6 => ?_
  clear f5 a4
  refine L.val f6 wantedN rfl (by decide) (E.lenL f6 Try.underlying24 rfl) fun a7 f7 => ?_
  clear f6 a6
  refine L.val f7 wantedN rfl (by decide) (E.assign f7 rfl) fun a8 f8 => ?_
  clear f7 a7
  refine wpList_nil (hK1 _ _ ?_)
  try clear hK1 K1
  have f9 := f8.sub (sub_cons (i := 0) rfl (sub_cons (i := 2) rfl (sub_cons (i := 4) rfl (sub_cons (i := 6) rfl (sub_cons (i := 7) rfl (sub_cons (i := 8) rfl sub_nil))))))
  clear f8
  refine wp_seq_k fun K2 hK2 => ?_
  refine C.region ?_
  refine L.val f9 wantedN rfl (by decide) (E.move f9 rfl) fun a10 f10 => ?_
  clear f9 a8
  refine L.val f10 wantedN rfl (by decide) (E.assign f10 rfl) fun a11 f11 => ?_
  clear f10 a10
  refine L.val f11 wantedN rfl (by decide) (E.assign f11 rfl) fun a12 f12 => ?_
  clear f11 a11
  refine wpList_nil (hK2 _ _ ?_)
  try clear hK2 K2
  have f13 := f12.sub (sub_cons (i := 0) rfl (sub_cons (i := 2) rfl (sub_cons (i := 4) rfl (sub_cons (i := 6) rfl (sub_cons (i := 7) rfl (sub_cons (i := 8) rfl (sub_cons (i := 9) rfl (sub_cons (i := 10) rfl sub_nil))))))))
  clear f12
  refine wp_seq_k fun K3 hK3 => ?_
  refine wp_block ?_
  refine C.loop (fun gk a W => ∃ i j : Nat, j = i + gk ∧ Kept [] w W ∧ Half l d i j ∧ (∃ g, Blk W g 32 (dcell d).toArray ∧ Fr 49 a [(0, .slice A l.length c), (2, .func (.func 45) #[] #[]), (4, .pointer (some ⟨g, 0, none⟩)), (8, .int .i64 l.length), (9, .int .i64 i), (10, .int .i64 j)])) (l.length) ?_ ?_
  · exact ⟨0, l.length, by omega, HK, Half.start l d, _, Bg0, f13.sub (sub_cons rfl (sub_cons rfl (sub_cons rfl (sub_cons rfl (sub_cons rfl (sub_cons rfl sub_nil))))))⟩
  · intro gk5 a14 w2 hI KL4 hKL4
    obtain ⟨i, j, hij, HK, H, g, B, f14⟩ := hI
    try clear f13
    have hi := H.ij
    have hj := H.jn
    refine wp_seq_k fun K5 hK5 => ?_
    refine wp_seq_k fun K6 hK6 => ?_
    refine C.region ?_
    refine L.val f14 wantedN rfl (by decide) (E.move f14 rfl) fun a15 f15 => ?_
    clear f14 a14
    refine L.val f15 wantedN rfl (by decide) (E.move f15 rfl) fun a16 f16 => ?_
    clear f15 a15
    refine L.val f16 wantedN rfl (by decide) (E.lss f16 rfl rfl) fun a17 f17 => ?_
    clear f16 a16
    refine wpList_nil (hK6 _ _ ?_)
    try clear hK6 K6
    have f18 := f17.sub (sub_cons (i := 0) rfl (sub_cons (i := 2) rfl (sub_cons (i := 4) rfl (sub_cons (i := 8) rfl (sub_cons (i := 9) rfl (sub_cons (i := 10) rfl (sub_cons (i := 15) rfl (sub_cons (i := 16) rfl (sub_cons (i := 17) rfl sub_nil)))))))))
    clear f17
    first | refine f18.splitD 17 rfl (fun h0 f19 => ?_) (fun h0 f19 => ?_) | refine f18.splitN 17 rfl (fun h0 f19 => ?_) (fun h0 f19 => ?_) | refine f18.splitNB 17 rfl (fun h0 f19 => ?_) (fun h0 f19 => ?_) | refine f18.split 17 rfl (fun h0 f19 => ?_) (fun h0 f19 => ?_)
    · clear f18
      obtain ⟨m, hd'⟩ : ∃ m, l[(i + j) / 2]? = some m := ⟨l[(i + j) / 2]'(by omega), List.getElem?_eq_getElem _⟩
      have hd : l[Int.toNat (((i : Int) + j) / 2)]? = some m := by rw [show Int.toNat (((i : Int) + j) / 2) = (i + j) / 2 by omega]; exact hd'
      obtain ⟨b, off, hA⟩ := A1.addr (i := (i + j) / 2) (by omega)
      refine C.condT f19 rfl ?_
      refine wp_skip (hK5 _ _ ?_)
      try clear hK5 K5
      have f20 := f19.sub (sub_cons (i := 0) rfl (sub_cons (i := 2) rfl (sub_cons (i := 4) rfl (sub_cons (i := 8) rfl (sub_cons (i := 9) rfl (sub_cons (i := 10) rfl (sub_cons (i := 15) rfl (sub_cons (i := 16) rfl (sub_cons (i := 17) rfl sub_nil)))))))))
      clear f19
      refine wp_block ?_
      refine wp_seq_k fun K7 hK7 => ?_
      refine C.region ?_
      refine L.val f20 wantedN rfl (by decide) (E.move f20 rfl) fun a21 f21 => ?_
      clear f20 a17
      refine L.val f21 wantedN rfl (by decide) (E.move f21 rfl) fun a22 f22 => ?_
      clear f21 a21
      refine L.val f22 wantedN rfl (by decide) (E.add f22 rfl rfl (IntWalk.i64_in _ (by omega))) fun a23 f23 => ?_
      clear f22 a22
      refine L.val f23 wantedN rfl (by decide) (E.conv f23 Try.underlying3 Try.underlying84 rfl (IntWalk.u64_in _ (by omega))) fun a24 f24 => ?_
      clear f23 a23
      refine L.val f24 wantedN rfl (by decide) (E.shr f24 rfl rfl (by decide) (shr1 _)) fun a25 f25 => ?_
      clear f24 a24
      refine L.val f25 wantedN rfl (by decide) (E.conv f25 Try.underlying84 Try.underlying3 rfl (IntWalk.i64_in _ (by omega))) fun a26 f26 => ?_
      clear f25 a25
      refine L.val f26 wantedN rfl (by decide) (E.assign f26 rfl) fun a27 f27 => ?_
      clear f26 a26
      refine wpList_nil (hK7 _ _ ?_)
      try clear hK7 K7
      have f28 := f27.sub (sub_cons (i := 0) rfl (sub_cons (i := 2) rfl (sub_cons (i := 4) rfl (sub_cons (i := 8) rfl (sub_cons (i := 9) rfl (sub_cons (i := 10) rfl (sub_cons (i := 11) rfl (sub_cons (i := 15) rfl (sub_cons (i := 16) rfl (sub_cons (i := 17) rfl (sub_cons (i := 18) rfl (sub_cons (i := 19) rfl (sub_cons (i := 20) rfl (sub_cons (i := 21) rfl (sub_cons (i := 22) rfl (sub_cons (i := 23) rfl sub_nil))))))))))))))))
      clear f27
      refine wp_seq_k fun K8 hK8 => ?_
      refine R.begin (S := fun W => Kept [] w2 W) (by kernel_rfl) (by exact (Kept.refl _ _).drewN 1) ?_
      have hS5 : Kept [] w2 (w2.drewN 1) := (Kept.refl _ _).drewN 1
      obtain ⟨w3, hww3⟩ : ∃ W, W = w2.drewN 1 := ⟨_, rfl⟩
      rw [← hww3] at hS5 ⊢
      clear hww3
      refine R.take 0 f28 rfl rfl (by decide) (by kernel_rfl) (by kernel_rfl) (by kernel_rfl) (fun _ _ _ _ h => h) wantedN hS5 (fun W hW => (E.move f28 rfl)) fun a29 f29 => ?_
      clear f28 a27
      refine R.take 1 f29 rfl rfl (by decide) (by kernel_rfl) (by kernel_rfl) (by kernel_rfl) (fun _ _ _ _ h => h) wantedN hS5 (fun W hW => (E.move f29 rfl)) fun a30 f30 => ?_
      clear f29 a29
      refine R.take 2 f30 rfl rfl (by decide) (by kernel_rfl) (by kernel_rfl) (by kernel_rfl) (fun _ _ _ _ h => h) wantedN hS5 (fun W hW => (E.move f30 rfl)) fun a31 f31 => ?_
      clear f30 a30
      refine R.take 3 f31 rfl rfl (by decide) (by kernel_rfl) (by kernel_rfl) (by kernel_rfl) (fun _ _ _ _ h => h) wantedN hS5 (fun W hW => (E.indexA f31 (by first | rfl | assumption) Try.underlying24 wsz32_c rfl rfl (by omega) (by omega))) fun a32 f32 => ?_
      clear f31 a31
      refine R.take 4 f32 rfl rfl (by decide) (by kernel_rfl) (by kernel_rfl) (by kernel_rfl) (fun _ _ _ _ h => h) wantedN hS5 (fun W hW => (by first | exact E.loadB f32 Try.underlying32 rfl wsz32_c rfl (B.kept hW (by simp)) rfl | exact E.loadR f32 Try.underlying32 rfl wsz32_c rfl ((A1.kept (HK.trans hW (by simp))).row hA hd) rfl)) fun a33 f33 => ?_
      clear f32 a32
      refine R.take 5 f33 rfl rfl (by decide) (by kernel_rfl) (by kernel_rfl) (by kernel_rfl) (fun _ _ _ _ h => h) wantedN hS5 (fun W hW => (by first | exact E.loadB f33 Try.underlying32 rfl wsz32_c rfl (B.kept hW (by simp)) rfl | exact E.loadR f33 Try.underlying32 rfl wsz32_c rfl ((A1.kept (HK.trans hW (by simp))).row hA hd) rfl)) fun a34 f34 => ?_
      clear f33 a33
      refine R.call 6 f34 rfl rfl (by decide) (by kernel_rfl) wantedN (cv2_0 f34 rfl Try.call45 rfl rfl) (lives_any _ _ _) ?_
      rintro e w4 ⟨kc4, rfl⟩
      replace hS5 := hS5.trans kc4 (by simp)
      refine ⟨_, rfl, hS5, fun a35 f35 => ?_⟩
      clear f34 a34
      have szw4 := kc4.size
      clear kc4
      refine R.take 7 f35 rfl rfl (by decide) (by kernel_rfl) (by kernel_rfl) (by kernel_rfl) (fun _ _ _ _ h => h) wantedN hS5 (fun W hW => (E.lss f35 rfl rfl)) fun a36 f36 => ?_
      clear f35 a35
      have szw4r := hS5.size
      replace HK := HK.trans hS5 (by simp)
      replace B := B.kept hS5 (by simp)
      clear hS5
      refine R.done (by kernel_rfl) (hK8 _ _ ?_)
      try clear hK8 K8
      have f37 := f36.sub (sub_cons (i := 0) rfl (sub_cons (i := 2) rfl (sub_cons (i := 4) rfl (sub_cons (i := 8) rfl (sub_cons (i := 9) rfl (sub_cons (i := 10) rfl (sub_cons (i := 11) rfl (sub_cons (i := 15) rfl (sub_cons (i := 16) rfl (sub_cons (i := 17) rfl (sub_cons (i := 18) rfl (sub_cons (i := 19) rfl (sub_cons (i := 20) rfl (sub_cons (i := 21) rfl (sub_cons (i := 22) rfl (sub_cons (i := 23) rfl (sub_cons (i := 24) rfl (sub_cons (i := 25) rfl (sub_cons (i := 26) rfl (sub_cons (i := 27) rfl (sub_cons (i := 28) rfl (sub_cons (i := 29) rfl (sub_cons (i := 30) rfl (sub_cons (i := 31) rfl sub_nil))))))))))))))))))))))))
      clear f36
      first | refine f37.splitD 31 rfl (fun h1 f38 => ?_) (fun h1 f38 => ?_) | refine f37.splitN 31 rfl (fun h1 f38 => ?_) (fun h1 f38 => ?_) | refine f37.splitNB 31 rfl (fun h1 f38 => ?_) (fun h1 f38 => ?_) | refine f37.split 31 rfl (fun h1 f38 => ?_) (fun h1 f38 => ?_)
      · clear f37
        refine C.condT f38 rfl ?_
        refine C.region ?_
        refine L.val f38 wantedN rfl (by decide) (E.move f38 rfl) fun a39 f39 => ?_
        clear f38 a36
        refine L.val f39 wantedN rfl (by decide) (E.add f39 rfl rfl (IntWalk.i64_in _ (by omega))) fun a40 f40 => ?_
        clear f39 a39
        refine L.val f40 wantedN rfl (by decide) (E.assign f40 rfl) fun a41 f41 => ?_
        clear f40 a40
        refine wpList_nil (hKL4 _ _ (j - ((i + j) / 2 + 1)) ?_ ?_)
        · omega
        · exact ⟨(i + j) / 2 + 1, j, by omega, HK, by have := H.right hr (by omega) (by omega) hd' ((lives_lt _ _).1 h1); exact this, g, B, f41.sub (sub_cons rfl (sub_cons rfl (sub_cons rfl (sub_cons rfl (sub_cons rfl (sub_cons rfl sub_nil))))))⟩
      · clear f37
        refine C.condF f38 rfl ?_
        refine C.region ?_
        refine L.val f38 wantedN rfl (by decide) (E.move f38 rfl) fun a39 f39 => ?_
        clear f38 a36
        refine L.val f39 wantedN rfl (by decide) (E.assign f39 rfl) fun a40 f40 => ?_
        clear f39 a39
        refine wpList_nil (hKL4 _ _ ((i + j) / 2 - i) ?_ ?_)
        · omega
        · exact ⟨i, (i + j) / 2, by omega, HK, by have := H.left hr (by omega) (by omega) hd' ((lives_ge _ _).1 (by omega)); exact this, g, B, f40.sub (sub_cons rfl (sub_cons rfl (sub_cons rfl (sub_cons rfl (sub_cons rfl (sub_cons rfl sub_nil))))))⟩
    · clear f18
      obtain rfl : i = j := by omega
      refine C.condF f19 rfl ?_
      refine wp_exit (hK3 _ _ ?_)
      try clear hK3 K3
      have f20 := f19.sub (sub_cons (i := 0) rfl (sub_cons (i := 2) rfl (sub_cons (i := 4) rfl (sub_cons (i := 8) rfl (sub_cons (i := 9) rfl sub_nil)))))
      clear f19
      refine wp_seq_k fun K9 hK9 => ?_
      refine R.begin (S := fun W => Kept [] w2 W) (by kernel_rfl) (by exact (Kept.refl _ _).drewN 1) ?_
      have hS8 : Kept [] w2 (w2.drewN 1) := (Kept.refl _ _).drewN 1
      obtain ⟨w3, hww3⟩ : ∃ W, W = w2.drewN 1 := ⟨_, rfl⟩
      rw [← hww3] at hS8 ⊢
      clear hww3
      refine R.take 0 f20 rfl rfl (by decide) (by kernel_rfl) (by kernel_rfl) (by kernel_rfl) (fun _ _ _ _ h => h) wantedN hS8 (fun W hW => (E.move f20 rfl)) fun a21 f21 => ?_
      clear f20 a17
      refine R.take 1 f21 rfl rfl (by decide) (by kernel_rfl) (by kernel_rfl) (by kernel_rfl) (fun _ _ _ _ h => h) wantedN hS8 (fun W hW => (E.move f21 rfl)) fun a22 f22 => ?_
      clear f21 a21
      refine R.take 2 f22 rfl rfl (by decide) (by kernel_rfl) (by kernel_rfl) (by kernel_rfl) (fun _ _ _ _ h => h) wantedN hS8 (fun W hW => (E.move f22 rfl)) fun a23 f23 => ?_
      clear f22 a22
      refine R.take 3 f23 rfl rfl (by decide) (by kernel_rfl) (by kernel_rfl) (by kernel_rfl) (fun _ _ _ _ h => h) wantedN hS8 (fun W hW => (E.lss f23 rfl rfl)) fun a24 f24 => ?_
      clear f23 a23
      refine R.take 4 f24 rfl rfl (by decide) (by kernel_rfl) (by kernel_rfl) (by kernel_rfl) (fun _ _ _ _ h => h) wantedN hS8 (fun W hW => (E.move f24 rfl)) fun a25 f25 => ?_
      clear f24 a24
      first | refine f25.splitD 39 rfl (fun h2 f26 => ?_) (fun h2 f26 => ?_) | refine f25.splitN 39 rfl (fun h2 f26 => ?_) (fun h2 f26 => ?_) | refine f25.splitNB 39 rfl (fun h2 f26 => ?_) (fun h2 f26 => ?_) | refine f25.split 39 rfl (fun h2 f26 => ?_) (fun h2 f26 => ?_)
      · clear f25
        obtain ⟨m, hd⟩ : ∃ m, l[i]? = some m := ⟨l[i]'(by omega), List.getElem?_eq_getElem _⟩
        obtain ⟨b, off, hA⟩ := A1.addr (i := i) (by omega)
        refine R.take 5 f26 rfl rfl (by decide) (by kernel_rfl) (by kernel_rfl) (by kernel_rfl) (fun _ _ _ _ h => h) (f26.yes rfl rfl) hS8 (fun W hW => (E.move f26 rfl)) fun a27 f27 => ?_
        clear f26 a25
        refine R.take 6 f27 rfl rfl (by decide) (by kernel_rfl) (by kernel_rfl) (by kernel_rfl) (fun _ _ _ _ h => h) (f27.yes rfl rfl) hS8 (fun W hW => (E.move f27 rfl)) fun a28 f28 => ?_
        clear f27 a27
        refine R.take 7 f28 rfl rfl (by decide) (by kernel_rfl) (by kernel_rfl) (by kernel_rfl) (fun _ _ _ _ h => h) (f28.yes rfl rfl) hS8 (fun W hW => (E.move f28 rfl)) fun a29 f29 => ?_
        clear f28 a28
        refine R.take 8 f29 rfl rfl (by decide) (by kernel_rfl) (by kernel_rfl) (by kernel_rfl) (fun _ _ _ _ h => h) (f29.yes rfl rfl) hS8 (fun W hW => (E.indexA f29 (by first | rfl | assumption) Try.underlying24 wsz32_c rfl rfl (by omega) (by omega))) fun a30 f30 => ?_
        clear f29 a29
        refine R.take 9 f30 rfl rfl (by decide) (by kernel_rfl) (by kernel_rfl) (by kernel_rfl) (fun _ _ _ _ h => h) (f30.yes rfl rfl) hS8 (fun W hW => (by first | exact E.loadB f30 Try.underlying32 rfl wsz32_c rfl (B.kept hW (by simp)) rfl | exact E.loadR f30 Try.underlying32 rfl wsz32_c rfl ((A1.kept (HK.trans hW (by simp))).row hA hd) rfl)) fun a31 f31 => ?_
        clear f30 a30
        refine R.take 10 f31 rfl rfl (by decide) (by kernel_rfl) (by kernel_rfl) (by kernel_rfl) (fun _ _ _ _ h => h) (f31.yes rfl rfl) hS8 (fun W hW => (by first | exact E.loadB f31 Try.underlying32 rfl wsz32_c rfl (B.kept hW (by simp)) rfl | exact E.loadR f31 Try.underlying32 rfl wsz32_c rfl ((A1.kept (HK.trans hW (by simp))).row hA hd) rfl)) fun a32 f32 => ?_
        clear f31 a31
        refine R.call 11 f32 rfl rfl (by decide) (by kernel_rfl) (f32.yes rfl rfl) (cv2_0 f32 rfl Try.call45 rfl rfl) (lives_any _ _ _) ?_
        rintro e w4 ⟨kc4, rfl⟩
        replace hS8 := hS8.trans kc4 (by simp)
        refine ⟨_, rfl, hS8, fun a33 f33 => ?_⟩
        clear f32 a32
        have szw4 := kc4.size
        clear kc4
        refine R.take 12 f33 rfl rfl (by decide) (by kernel_rfl) (by kernel_rfl) (by kernel_rfl) (fun _ _ _ _ h => h) (f33.yes rfl rfl) hS8 (fun W hW => (E.eql f33 rfl rfl)) fun a34 f34 => ?_
        clear f33 a33
        refine R.take 13 f34 rfl rfl (by decide) (by kernel_rfl) (by kernel_rfl) (by kernel_rfl) (fun _ _ _ _ h => h) wantedN hS8 (fun W hW => (E.pickT f34 rfl rfl)) fun a35 f35 => ?_
        clear f34 a34
        refine R.take 14 f35 rfl rfl (by decide) (by kernel_rfl) (by kernel_rfl) (by kernel_rfl) (fun _ _ _ _ h => h) wantedN hS8 (fun W hW => (E.assign f35 rfl)) fun a36 f36 => ?_
        clear f35 a35
        refine R.take 15 f36 rfl rfl (by decide) (by kernel_rfl) (by kernel_rfl) (by kernel_rfl) (fun _ _ _ _ h => h) wantedN hS8 (fun W hW => (E.assign f36 rfl)) fun a37 f37 => ?_
        clear f36 a36
        have szw4r := hS8.size
        replace HK := HK.trans hS8 (by simp)
        replace B := B.kept hS8 (by simp)
        clear hS8
        refine R.done (by kernel_rfl) (hK9 _ _ ?_)
        try clear hK9 K9
        have f38 := f37.sub (sub_cons (i := 6) rfl (sub_cons (i := 7) rfl sub_nil))
        clear f37
        refine wp_ret ?_
        try simp only [Exit.inBlock, Exit.then]
        refine C.ret2 (P := Try.prog) (fn := Try.f50) f38 rfl rfl rfl ?_
        exact ⟨HK, _, _, rfl, H.found1 hd⟩
      · clear f25
        have hd : l[i]? = none := List.getElem?_eq_none (by omega)
        refine R.takeSkip 5 f26 rfl rfl (by decide) (by kernel_rfl) (by kernel_rfl) (by kernel_rfl) (fun _ _ _ _ h => h) (f26.noT rfl rfl) hS8 fun a27 f27 => ?_
        clear f26 a25
        refine R.takeSkip 6 f27 rfl rfl (by decide) (by kernel_rfl) (by kernel_rfl) (by kernel_rfl) (fun _ _ _ _ h => h) (f27.noT rfl rfl) hS8 fun a28 f28 => ?_
        clear f27 a27
        refine R.takeSkip 7 f28 rfl rfl (by decide) (by kernel_rfl) (by kernel_rfl) (by kernel_rfl) (fun _ _ _ _ h => h) (f28.noT rfl rfl) hS8 fun a29 f29 => ?_
        clear f28 a28
        refine R.takeSkip 8 f29 rfl rfl (by decide) (by kernel_rfl) (by kernel_rfl) (by kernel_rfl) (fun _ _ _ _ h => h) (f29.noT rfl rfl) hS8 fun a30 f30 => ?_
        clear f29 a29
        refine R.takeSkip 9 f30 rfl rfl (by decide) (by kernel_rfl) (by kernel_rfl) (by kernel_rfl) (fun _ _ _ _ h => h) (f30.noT rfl rfl) hS8 fun a31 f31 => ?_
        clear f30 a30
        refine R.takeSkip 10 f31 rfl rfl (by decide) (by kernel_rfl) (by kernel_rfl) (by kernel_rfl) (fun _ _ _ _ h => h) (f31.noT rfl rfl) hS8 fun a32 f32 => ?_
        clear f31 a31
        refine R.takeSkip 11 f32 rfl rfl (by decide) (by kernel_rfl) (by kernel_rfl) (by kernel_rfl) (fun _ _ _ _ h => h) (f32.noT rfl rfl) hS8 fun a33 f33 => ?_
        clear f32 a32
        refine R.takeSkip 12 f33 rfl rfl (by decide) (by kernel_rfl) (by kernel_rfl) (by kernel_rfl) (fun _ _ _ _ h => h) (f33.noT rfl rfl) hS8 fun a34 f34 => ?_
        clear f33 a33
        refine R.take 13 f34 rfl rfl (by decide) (by kernel_rfl) (by kernel_rfl) (by kernel_rfl) (fun _ _ _ _ h => h) wantedN hS8 (fun W hW => (E.pickF f34 rfl rfl)) fun a35 f35 => ?_
        clear f34 a34
        refine R.take 14 f35 rfl rfl (by decide) (by kernel_rfl) (by kernel_rfl) (by kernel_rfl) (fun _ _ _ _ h => h) wantedN hS8 (fun W hW => (E.assign f35 rfl)) fun a36 f36 => ?_
        clear f35 a35
        refine R.take 15 f36 rfl rfl (by decide) (by kernel_rfl) (by kernel_rfl) (by kernel_rfl) (fun _ _ _ _ h => h) wantedN hS8 (fun W hW => (E.assign f36 rfl)) fun a37 f37 => ?_
        clear f36 a36
        have szw3r := hS8.size
        replace HK := HK.trans hS8 (by simp)
        replace B := B.kept hS8 (by simp)
        clear hS8
        refine R.done (by kernel_rfl) (hK9 _ _ ?_)
        try clear hK9 K9
        have f38 := f37.sub (sub_cons (i := 6) rfl (sub_cons (i := 7) rfl sub_nil))
        clear f37
        refine wp_ret ?_
        try simp only [Exit.inBlock, Exit.then]
        refine C.ret2 (P := Try.prog) (fn := Try.f50) f38 rfl rfl rfl ?_
        exact ⟨HK, _, _, rfl, H.found0 hd⟩

set_option maxHeartbeats 1000000 in
theorem topf_any (l : List Dt) (A : Option Addr) (c : Nat) (d : Dt) (w : World) (A1 : Ds w A l) (hm : l.length ≤ 1000000) (hr : rightB l = true) : Calls Try.prog 43 #[.slice A l.length c, .agg (dcell d).toArray] w (fun e w' => Kept [] w w' ∧ e = .returned (.int .i64 (topI l d.node d.epoch))) := by
  have HK : Kept [] w w := Kept.refl [] w
  refine C.enter Try.func43 rfl Try.ntmps43 rfl ?_
  intro a0 f0
  have f1 : Fr 19 a0 [(0, .slice A l.length c), (1, .agg (dcell d).toArray)] := f0
  clear f0
  refine wp_seq_k fun K0 hK0 => ?_
  refine C.region ?_
  refine L.box f1 wantedN (by decide) rfl rfl fun a2 w1 g0 N0 f2 => ?_
  have Bg0 := N0.blk
  have kg0 := N0.kept
  have log0 := N0.lo
  have ltg0 := Bg0.lt
  have szw1 := kg0.size
  have frg0 : w.heap.size ≤ g0 := Nat.le_trans HK.size log0
  replace HK := HK.trans kg0 (by simp)
  clear N0 kg0
  clear f1 a0
  refine L.val f2 wantedN rfl (by decide) (E.assign f2 rfl) fun a3 f3 => ?_
  clear f2 a2
  refine wpList_nil (hK0 _ _ ?_)
  try clear hK0 K0
  have f4 := f3.sub (sub_cons (i := 0) rfl (sub_cons (i := 3) rfl (sub_cons (i := 4) rfl sub_nil)))
  clear f3
  refine wp_seq_k fun K1 hK1 => ?_
  refine wp_seq_k fun K2 hK2 => ?_
  refine C.region ?_
  refine L.val f4 wantedN rfl (by decide) (E.move f4 rfl) fun a5 f5 => ?_
  clear f4 a3
  refine L.val f5 wantedN rfl (by decide) (by first | exact E.loadB f5 Try.underlying32 rfl wsz32_c rfl (Bg0) rfl | exact E.loadR f5 Try.underlying32 rfl wsz32_c rfl ((A1.kept HK).row hA hd) rfl) fun a6 f6 => ?_
  clear f5 a5
  refine L.call f6 wantedN rfl (by decide) (run_call Try.call50 (args3 f6 rfl rfl rfl)) (search_any l _ _ d _ (A1.kept HK) hm (rises hr)) ?_
  rintro e w2 ⟨kc2, i, b, rfl, hfd⟩
  refine ⟨_, rfl, fun a7 f7 => ?_⟩
  clear f6 a6
  have szw2 := kc2.size
  replace HK := HK.trans kc2 (by simp)
  replace Bg0 := Bg0.kept kc2 (by simp)
  clear kc2
  refine L.val f7 wantedN rfl (by decide) (E.move f7 rfl) fun a8 f8 => ?_
  clear f7 a7
  refine L.val f8 wantedN rfl (by decide) (E.extract f8 rfl rfl) fun a9 f9 => ?_
  clear f8 a8
  refine L.val f9 wantedN rfl (by decide) (E.extract f9 rfl rfl) fun a10 f10 => ?_
  clear f9 a9
  refine L.val f10 wantedN rfl (by decide) (E.assign f10 rfl) fun a11 f11 => ?_
  clear f10 a10
  refine L.val f11 wantedN rfl (by decide) (E.assign f11 rfl) fun a12 f12 => ?_
  clear f11 a11
  refine wpList_nil (hK2 _ _ ?_)
  try clear hK2 K2
  have f13 := f12.sub (sub_cons (i := 0) rfl (sub_cons (i := 4) rfl (sub_cons (i := 5) rfl (sub_cons (i := 6) rfl sub_nil))))
  clear f12
  refine wp_seq_k fun K3 hK3 => ?_
  refine C.region ?_
  refine L.val f13 wantedN rfl (by decide) (E.move f13 rfl) fun a14 f14 => ?_
  clear f13 a12
  refine wpList_nil (hK3 _ _ ?_)
  try clear hK3 K3
  have f15 := f14.sub (sub_cons (i := 0) rfl (sub_cons (i := 4) rfl (sub_cons (i := 5) rfl (sub_cons (i := 13) rfl sub_nil))))
  clear f14
  first | refine f15.splitD 13 rfl (fun h0 f16 => ?_) (fun h0 f16 => ?_) | refine f15.splitN 13 rfl (fun h0 f16 => ?_) (fun h0 f16 => ?_) | refine f15.splitNB 13 rfl (fun h0 f16 => ?_) (fun h0 f16 => ?_) | refine f15.split 13 rfl (fun h0 f16 => ?_) (fun h0 f16 => ?_)
  · clear f15
    subst h0
    obtain ⟨m, hd, hn⟩ := hfd.is_top hr
    have hlt := (List.getElem?_eq_some_iff.1 hd).1
    obtain ⟨b, off, hA⟩ := A1.addr (i := i) hlt
    refine C.condT f16 rfl ?_
    refine wp_seq_k fun K4 hK4 => ?_
    refine C.region ?_
    refine L.val f16 wantedN rfl (by decide) (E.move f16 rfl) fun a17 f17 => ?_
    clear f16 a14
    refine L.val f17 wantedN rfl (by decide) (E.move f17 rfl) fun a18 f18 => ?_
    clear f17 a17
    refine L.val f18 wantedN rfl (by decide) (E.indexA f18 (by first | rfl | assumption) Try.underlying24 wsz32_c rfl rfl (by omega) (by omega)) fun a19 f19 => ?_
    clear f18 a18
    refine L.val f19 wantedN rfl (by decide) (E.fieldAddr f19 Try.underlying32 rfl rfl wsz3_c) fun a20 f20 => ?_
    clear f19 a19
    refine L.val f20 wantedN rfl (by decide) (by first | exact E.load f20 Try.underlying3 rfl rfl ((Bg0).cl rfl) | exact E.load f20 Try.underlying3 rfl rfl (by have := (A1.kept HK).row hA hd 2 _ rfl; simpa [Nat.add_assoc] using this)) fun a21 f21 => ?_
    clear f20 a20
    refine L.val f21 wantedN rfl (by decide) (E.assign f21 rfl) fun a22 f22 => ?_
    clear f21 a21
    refine wpList_nil (hK4 _ _ ?_)
    try clear hK4 K4
    have f23 := f22.sub (sub_cons (i := 4) rfl sub_nil)
    clear f22
    refine wp_ret ?_
    try simp only [Exit.inBlock, Exit.then]
    refine C.ret (P := Try.prog) (fn := Try.f43) f23 rfl rfl ?_
    exact ⟨HK, by rw [← hn]⟩
  · clear f15
    subst h0
    refine C.condF f16 rfl ?_
    refine wp_skip (hK1 _ _ ?_)
    try clear hK1 K1
    have f17 := f16.sub (sub_cons (i := 4) rfl sub_nil)
    clear f16
    refine wp_seq_k fun K5 hK5 => ?_
    refine C.region ?_
    refine L.val f17 wantedN rfl (by decide) (E.assign f17 rfl) fun a18 f18 => ?_
    clear f17 a14
    refine wpList_nil (hK5 _ _ ?_)
    try clear hK5 K5
    have f19 := f18.sub (sub_cons (i := 4) rfl sub_nil)
    clear f18
    refine wp_ret ?_
    try simp only [Exit.inBlock, Exit.then]
    refine C.ret (P := Try.prog) (fn := Try.f43) f19 rfl rfl ?_
    exact ⟨HK, by rw [hfd.top (rises hr)]⟩

set_option maxHeartbeats 1000000 in
theorem Top_any (l : List Dt) (A : Option Addr) (c : Nat) (x y : Int) (w : World) (A1 : Ds w A l) (hm : l.length ≤ 1000000) : Calls Try.prog 19 #[.slice A l.length c, .int .i64 x, .int .i64 y] w (fun e w' => Kept [] w w' ∧ e = .returned (.int .i64 (topR l x y))) := by
  have HK : Kept [] w w := Kept.refl [] w
  refine C.enter Try.func19 rfl Try.ntmps19 rfl ?_
  intro a0 f0
  have f1 : Fr 15 a0 [(0, .slice A l.length c), (1, .int .i64 x), (2, .int .i64 y)] := f0
  clear f0
  refine wp_seq_k fun K0 hK0 => ?_
  refine C.region ?_
  refine L.val f1 wantedN rfl (by decide) (E.assign f1 rfl) fun a2 f2 => ?_
  clear f1 a0
  refine wpList_nil (hK0 _ _ ?_)
  try clear hK0 K0
  have f3 := f2.sub (sub_cons (i := 0) rfl (sub_cons (i := 1) rfl (sub_cons (i := 2) rfl (sub_cons (i := 6) rfl sub_nil))))
  clear f2
  refine wp_seq_k fun K1 hK1 => ?_
  refine wp_seq_k fun K2 hK2 => ?_
  refine C.region ?_
  refine L.val f3 wantedN rfl (by decide) (E.move f3 rfl) fun a4 f4 => ?_
  clear f3 a2
  refine L.call f4 wantedN rfl (by decide) (run_call Try.call16 (args1 f4 rfl)) (right_any l _ _ _ (A1.kept HK) (by unfold maxLen; omega)) ?_
  rintro e w1 ⟨kc1, rfl⟩
  refine ⟨_, rfl, fun a5 f5 => ?_⟩
  clear f4 a4
  have szw1 := kc1.size
  replace HK := HK.trans kc1 (by simp)
  clear kc1
  refine L.val f5 wantedN rfl (by decide) (E.not f5 rfl) fun a6 f6 => ?_
  clear f5 a5
  refine wpList_nil (hK2 _ _ ?_)
  try clear hK2 K2
  have f7 := f6.sub (sub_cons (i := 0) rfl (sub_cons (i := 1) rfl (sub_cons (i := 2) rfl (sub_cons (i := 6) rfl (sub_cons (i := 9) rfl sub_nil)))))
  clear f6
  first | refine f7.splitD 9 rfl (fun h0 f8 => ?_) (fun h0 f8 => ?_) | refine f7.splitN 9 rfl (fun h0 f8 => ?_) (fun h0 f8 => ?_) | refine f7.splitNB 9 rfl (fun h0 f8 => ?_) (fun h0 f8 => ?_) | refine f7.split 9 rfl (fun h0 f8 => ?_) (fun h0 f8 => ?_)
  · clear f7
    refine C.condT f8 rfl ?_
    refine wp_seq_k fun K3 hK3 => ?_
    refine C.region ?_
    refine L.val f8 wantedN rfl (by decide) (E.assign f8 rfl) fun a9 f9 => ?_
    clear f8 a6
    refine wpList_nil (hK3 _ _ ?_)
    try clear hK3 K3
    have f10 := f9.sub (sub_cons (i := 0) rfl (sub_cons (i := 1) rfl (sub_cons (i := 2) rfl (sub_cons (i := 6) rfl sub_nil))))
    clear f9
    refine wp_ret ?_
    try simp only [Exit.inBlock, Exit.then]
    refine C.ret (P := Try.prog) (fn := Try.f19) f10 rfl rfl ?_
    exact ⟨HK, by simp [topR, *]⟩
  · clear f7
    have hrb := h0
    refine C.condF f8 rfl ?_
    refine wp_skip (hK1 _ _ ?_)
    try clear hK1 K1
    have f9 := f8.sub (sub_cons (i := 0) rfl (sub_cons (i := 1) rfl (sub_cons (i := 2) rfl (sub_cons (i := 6) rfl sub_nil))))
    clear f8
    refine wp_seq_k fun K4 hK4 => ?_
    refine C.region ?_
    refine L.val f9 wantedN rfl (by decide) (E.move f9 rfl) fun a10 f10 => ?_
    clear f9 a6
    refine L.val f10 wantedN rfl (by decide) (E.move f10 rfl) fun a11 f11 => ?_
    clear f10 a10
    refine L.val f11 wantedN rfl (by decide) (E.move f11 rfl) fun a12 f12 => ?_
    clear f11 a11
    refine L.val f12 wantedN rfl (by decide) (E.build f12 (parts2 f12 rfl rfl) (wbl32_0_1_c _ _)) fun a13 f13 => ?_
    clear f12 a12
    refine L.call f13 wantedN rfl (by decide) (run_call Try.call43 (args2 f13 rfl rfl)) (topf_any l _ _ ⟨x, y, 0⟩ _ (A1.kept HK) hm hrb) ?_
    rintro e w2 ⟨kc2, rfl⟩
    refine ⟨_, rfl, fun a14 f14 => ?_⟩
    clear f13 a13
    have szw2 := kc2.size
    replace HK := HK.trans kc2 (by simp)
    clear kc2
    refine L.val f14 wantedN rfl (by decide) (E.assign f14 rfl) fun a15 f15 => ?_
    clear f14 a14
    refine wpList_nil (hK4 _ _ ?_)
    try clear hK4 K4
    have f16 := f15.sub (sub_cons (i := 6) rfl sub_nil)
    clear f15
    refine wp_ret ?_
    try simp only [Exit.inBlock, Exit.then]
    refine C.ret (P := Try.prog) (fn := Try.f19) f16 rfl rfl ?_
    exact ⟨HK, by simp [topR, hrb]⟩

set_option maxHeartbeats 1000000 in
theorem Has_any (l : List Dt) (A : Option Addr) (c : Nat) (d : Dt) (w : World) (A1 : Ds w A l) (hm : l.length ≤ 1000000) : Calls Try.prog 18 #[.slice A l.length c, .agg (dcell d).toArray] w (fun e w' => Kept [] w w' ∧ e = .returned (.bool (hasB l d))) := by
  have HK : Kept [] w w := Kept.refl [] w
  refine C.enter Try.func18 rfl Try.ntmps18 rfl ?_
  intro a0 f0
  have f1 : Fr 19 a0 [(0, .slice A l.length c), (1, .agg (dcell d).toArray)] := f0
  clear f0
  refine wp_seq_k fun K0 hK0 => ?_
  refine C.region ?_
  refine L.box f1 wantedN (by decide) rfl rfl fun a2 w1 g0 N0 f2 => ?_
  have Bg0 := N0.blk
  have kg0 := N0.kept
  have log0 := N0.lo
  have ltg0 := Bg0.lt
  have szw1 := kg0.size
  have frg0 : w.heap.size ≤ g0 := Nat.le_trans HK.size log0
  replace HK := HK.trans kg0 (by simp)
  clear N0 kg0
  clear f1 a0
  refine L.val f2 wantedN rfl (by decide) (E.assign f2 rfl) fun a3 f3 => ?_
  clear f2 a2
  refine wpList_nil (hK0 _ _ ?_)
  try clear hK0 K0
  have f4 := f3.sub (sub_cons (i := 0) rfl (sub_cons (i := 3) rfl (sub_cons (i := 4) rfl sub_nil)))
  clear f3
  refine wp_seq_k fun K1 hK1 => ?_
  refine R.begin (S := fun W => Kept [] w1 W) (by kernel_rfl) (by exact (Kept.refl _ _).drewN 1) ?_
  have hS1 : Kept [] w1 (w1.drewN 1) := (Kept.refl _ _).drewN 1
  obtain ⟨w2, hww2⟩ : ∃ W, W = w1.drewN 1 := ⟨_, rfl⟩
  rw [← hww2] at hS1 ⊢
  clear hww2
  refine R.take 0 f4 rfl rfl (by decide) (by kernel_rfl) (by kernel_rfl) (by kernel_rfl) (fun _ _ _ _ h => h) wantedN hS1 (fun W hW => (E.fieldAddr f4 Try.underlying32 rfl rfl wsz3_c)) fun a5 f5 => ?_
  clear f4 a3
  refine R.take 1 f5 rfl rfl (by decide) (by kernel_rfl) (by kernel_rfl) (by kernel_rfl) (fun _ _ _ _ h => h) wantedN hS1 (fun W hW => (by exact E.load f5 Try.underlying3 rfl rfl ((Bg0.kept hW (by simp)).cl rfl))) fun a6 f6 => ?_
  clear f5 a5
  refine R.take 2 f6 rfl rfl (by decide) (by kernel_rfl) (by kernel_rfl) (by kernel_rfl) (fun _ _ _ _ h => h) wantedN hS1 (fun W hW => (E.geq f6 rfl rfl)) fun a7 f7 => ?_
  clear f6 a6
  refine R.take 3 f7 rfl rfl (by decide) (by kernel_rfl) (by kernel_rfl) (by kernel_rfl) (fun _ _ _ _ h => h) wantedN hS1 (fun W hW => (E.move f7 rfl)) fun a8 f8 => ?_
  clear f7 a7
  first | refine f8.splitD 8 rfl (fun h0 f9 => ?_) (fun h0 f9 => ?_) | refine f8.splitN 8 rfl (fun h0 f9 => ?_) (fun h0 f9 => ?_) | refine f8.splitNB 8 rfl (fun h0 f9 => ?_) (fun h0 f9 => ?_) | refine f8.split 8 rfl (fun h0 f9 => ?_) (fun h0 f9 => ?_)
  · clear f8
    refine R.take 4 f9 rfl rfl (by decide) (by kernel_rfl) (by kernel_rfl) (by kernel_rfl) (fun _ _ _ _ h => h) (f9.yes rfl rfl) hS1 (fun W hW => (E.fieldAddr f9 Try.underlying32 rfl rfl wsz3_c)) fun a10 f10 => ?_
    clear f9 a8
    refine R.take 5 f10 rfl rfl (by decide) (by kernel_rfl) (by kernel_rfl) (by kernel_rfl) (fun _ _ _ _ h => h) (f10.yes rfl rfl) hS1 (fun W hW => (by exact E.load f10 Try.underlying3 rfl rfl ((Bg0.kept hW (by simp)).cl rfl))) fun a11 f11 => ?_
    clear f10 a10
    refine R.take 6 f11 rfl rfl (by decide) (by kernel_rfl) (by kernel_rfl) (by kernel_rfl) (fun _ _ _ _ h => h) (f11.yes rfl rfl) hS1 (fun W hW => (E.move f11 rfl)) fun a12 f12 => ?_
    clear f11 a11
    refine R.take 7 f12 rfl rfl (by decide) (by kernel_rfl) (by kernel_rfl) (by kernel_rfl) (fun _ _ _ _ h => h) (f12.yes rfl rfl) hS1 (fun W hW => (E.fieldAddr f12 Try.underlying32 rfl rfl wsz3_c)) fun a13 f13 => ?_
    clear f12 a12
    refine R.take 8 f13 rfl rfl (by decide) (by kernel_rfl) (by kernel_rfl) (by kernel_rfl) (fun _ _ _ _ h => h) (f13.yes rfl rfl) hS1 (fun W hW => (by exact E.load f13 Try.underlying3 rfl rfl ((Bg0.kept hW (by simp)).cl rfl))) fun a14 f14 => ?_
    clear f13 a13
    refine R.take 9 f14 rfl rfl (by decide) (by kernel_rfl) (by kernel_rfl) (by kernel_rfl) (fun _ _ _ _ h => h) (f14.yes rfl rfl) hS1 (fun W hW => (E.fieldAddr f14 Try.underlying32 rfl rfl wsz3_c)) fun a15 f15 => ?_
    clear f14 a14
    refine R.take 10 f15 rfl rfl (by decide) (by kernel_rfl) (by kernel_rfl) (by kernel_rfl) (fun _ _ _ _ h => h) (f15.yes rfl rfl) hS1 (fun W hW => (by exact E.load f15 Try.underlying3 rfl rfl ((Bg0.kept hW (by simp)).cl rfl))) fun a16 f16 => ?_
    clear f15 a15
    refine R.call 11 f16 rfl rfl (by decide) (by kernel_rfl) (f16.yes rfl rfl) (run_call Try.call19 (args3 f16 rfl rfl rfl)) (Top_any l _ _ _ _ _ ((A1.kept HK).kept hS1) hm) ?_
    rintro e w3 ⟨kc3, rfl⟩
    replace hS1 := hS1.trans kc3 (by simp)
    refine ⟨_, rfl, hS1, fun a17 f17 => ?_⟩
    clear f16 a16
    have szw3 := kc3.size
    clear kc3
    refine R.take 12 f17 rfl rfl (by decide) (by kernel_rfl) (by kernel_rfl) (by kernel_rfl) (fun _ _ _ _ h => h) (f17.yes rfl rfl) hS1 (fun W hW => (E.leq f17 rfl rfl)) fun a18 f18 => ?_
    clear f17 a17
    refine R.take 13 f18 rfl rfl (by decide) (by kernel_rfl) (by kernel_rfl) (by kernel_rfl) (fun _ _ _ _ h => h) wantedN hS1 (fun W hW => (E.pickT f18 rfl rfl)) fun a19 f19 => ?_
    clear f18 a18
    refine R.take 14 f19 rfl rfl (by decide) (by kernel_rfl) (by kernel_rfl) (by kernel_rfl) (fun _ _ _ _ h => h) wantedN hS1 (fun W hW => (E.assign f19 rfl)) fun a20 f20 => ?_
    clear f19 a19
    have szw3r := hS1.size
    replace HK := HK.trans hS1 (by simp)
    replace Bg0 := Bg0.kept hS1 (by simp)
    clear hS1
    refine R.done (by kernel_rfl) (hK1 _ _ ?_)
    try clear hK1 K1
    have f21 := f20.sub (sub_cons (i := 4) rfl sub_nil)
    clear f20
    refine wp_ret ?_
    try simp only [Exit.inBlock, Exit.then]
    refine C.ret (P := Try.prog) (fn := Try.f18) f21 rfl rfl ?_
    exact ⟨HK, by simp [hasB, *]⟩
  · clear f8
    refine R.takeSkip 4 f9 rfl rfl (by decide) (by kernel_rfl) (by kernel_rfl) (by kernel_rfl) (fun _ _ _ _ h => h) (f9.noT rfl rfl) hS1 fun a10 f10 => ?_
    clear f9 a8
    refine R.takeSkip 5 f10 rfl rfl (by decide) (by kernel_rfl) (by kernel_rfl) (by kernel_rfl) (fun _ _ _ _ h => h) (f10.noT rfl rfl) hS1 fun a11 f11 => ?_
    clear f10 a10
    refine R.takeSkip 6 f11 rfl rfl (by decide) (by kernel_rfl) (by kernel_rfl) (by kernel_rfl) (fun _ _ _ _ h => h) (f11.noT rfl rfl) hS1 fun a12 f12 => ?_
    clear f11 a11
    refine R.takeSkip 7 f12 rfl rfl (by decide) (by kernel_rfl) (by kernel_rfl) (by kernel_rfl) (fun _ _ _ _ h => h) (f12.noT rfl rfl) hS1 fun a13 f13 => ?_
    clear f12 a12
    refine R.takeSkip 8 f13 rfl rfl (by decide) (by kernel_rfl) (by kernel_rfl) (by kernel_rfl) (fun _ _ _ _ h => h) (f13.noT rfl rfl) hS1 fun a14 f14 => ?_
    clear f13 a13
    refine R.takeSkip 9 f14 rfl rfl (by decide) (by kernel_rfl) (by kernel_rfl) (by kernel_rfl) (fun _ _ _ _ h => h) (f14.noT rfl rfl) hS1 fun a15 f15 => ?_
    clear f14 a14
    refine R.takeSkip 10 f15 rfl rfl (by decide) (by kernel_rfl) (by kernel_rfl) (by kernel_rfl) (fun _ _ _ _ h => h) (f15.noT rfl rfl) hS1 fun a16 f16 => ?_
    clear f15 a15
    refine R.takeSkip 11 f16 rfl rfl (by decide) (by kernel_rfl) (by kernel_rfl) (by kernel_rfl) (fun _ _ _ _ h => h) (f16.noT rfl rfl) hS1 fun a17 f17 => ?_
    clear f16 a16
    refine R.takeSkip 12 f17 rfl rfl (by decide) (by kernel_rfl) (by kernel_rfl) (by kernel_rfl) (fun _ _ _ _ h => h) (f17.noT rfl rfl) hS1 fun a18 f18 => ?_
    clear f17 a17
    refine R.take 13 f18 rfl rfl (by decide) (by kernel_rfl) (by kernel_rfl) (by kernel_rfl) (fun _ _ _ _ h => h) wantedN hS1 (fun W hW => (E.pickF f18 rfl rfl)) fun a19 f19 => ?_
    clear f18 a18
    refine R.take 14 f19 rfl rfl (by decide) (by kernel_rfl) (by kernel_rfl) (by kernel_rfl) (fun _ _ _ _ h => h) wantedN hS1 (fun W hW => (E.assign f19 rfl)) fun a20 f20 => ?_
    clear f19 a19
    have szw2r := hS1.size
    replace HK := HK.trans hS1 (by simp)
    replace Bg0 := Bg0.kept hS1 (by simp)
    clear hS1
    refine R.done (by kernel_rfl) (hK1 _ _ ?_)
    try clear hK1 K1
    have f21 := f20.sub (sub_cons (i := 4) rfl sub_nil)
    clear f20
    refine wp_ret ?_
    try simp only [Exit.inBlock, Exit.then]
    refine C.ret (P := Try.prog) (fn := Try.f18) f21 rfl rfl ?_
    exact ⟨HK, by simp [hasB, *]⟩

set_option maxHeartbeats 1000000 in
theorem clos_any (b : List Dt) (A : Option Addr) (c : Nat) (d : Dt) (g : Nat) (w : World) (B : Blk w g 24 #[.slice A b.length c]) (A1 : Ds w A b) (hm : b.length ≤ 1000000) (hr : rightB b = true) : Calls Try.prog 42 #[.agg (dcell d).toArray, .pointer (some ⟨g, 0, none⟩)] w (fun e w' => Kept [] w w' ∧ e = .returned (.bool (decide (topI b d.node d.epoch < d.n)))) := by
  have HK : Kept [] w w := Kept.refl [] w
  refine C.enter Try.func42 rfl Try.ntmps42 rfl ?_
  intro a0 f0
  have f1 : Fr 10 a0 [(0, .agg (dcell d).toArray), (1, .pointer (some ⟨g, 0, none⟩))] := f0
  clear f0
  refine wp_seq_k fun K0 hK0 => ?_
  refine C.region ?_
  refine L.box f1 wantedN (by decide) rfl rfl fun a2 w1 g0 N0 f2 => ?_
  have Bg0 := N0.blk
  have kg0 := N0.kept
  have log0 := N0.lo
  have ltg0 := Bg0.lt
  have szw1 := kg0.size
  have frg0 : w.heap.size ≤ g0 := Nat.le_trans HK.size log0
  have neg_g0 : g ≠ g0 := by have := B.lt; omega
  replace HK := HK.trans kg0 (by simp)
  replace B := B.kept kg0 (by simp)
  clear N0 kg0
  clear f1 a0
  refine L.val f2 wantedN rfl (by decide) (E.assign f2 rfl) fun a3 f3 => ?_
  clear f2 a2
  refine wpList_nil (hK0 _ _ ?_)
  try clear hK0 K0
  have f4 := f3.sub (sub_cons (i := 1) rfl (sub_cons (i := 2) rfl (sub_cons (i := 3) rfl sub_nil)))
  clear f3
  refine wp_seq_k fun K1 hK1 => ?_
  refine R.begin (S := fun W => Kept [] w1 W) (by kernel_rfl) (by exact (Kept.refl _ _).drewN 1) ?_
  have hS1 : Kept [] w1 (w1.drewN 1) := (Kept.refl _ _).drewN 1
  obtain ⟨w2, hww2⟩ : ∃ W, W = w1.drewN 1 := ⟨_, rfl⟩
  rw [← hww2] at hS1 ⊢
  clear hww2
  refine R.take 0 f4 rfl rfl (by decide) (by kernel_rfl) (by kernel_rfl) (by kernel_rfl) (fun _ _ _ _ h => h) wantedN hS1 (fun W hW => (by first | exact E.load f4 Try.underlying24 rfl rfl ((B.kept hW (by simp)).cl rfl) | exact E.load f4 Try.underlying24 rfl rfl ((Bg0.kept hW (by simp)).cl rfl))) fun a5 f5 => ?_
  clear f4 a3
  refine R.take 1 f5 rfl rfl (by decide) (by kernel_rfl) (by kernel_rfl) (by kernel_rfl) (fun _ _ _ _ h => h) wantedN hS1 (fun W hW => (by first | exact E.loadB f5 Try.underlying32 rfl wsz32_c rfl (B.kept hW (by simp)) rfl | exact E.loadB f5 Try.underlying32 rfl wsz32_c rfl (Bg0.kept hW (by simp)) rfl)) fun a6 f6 => ?_
  clear f5 a5
  refine R.take 3 f6 rfl rfl (by decide) (by kernel_rfl) (by kernel_rfl) (by kernel_rfl) (fun _ _ _ _ h => h) wantedN hS1 (fun W hW => (E.fieldAddr f6 Try.underlying32 rfl rfl wsz3_c)) fun a7 f7 => ?_
  clear f6 a6
  refine R.take 4 f7 rfl rfl (by decide) (by kernel_rfl) (by kernel_rfl) (by kernel_rfl) (fun _ _ _ _ h => h) wantedN hS1 (fun W hW => (by first | exact E.load f7 Try.underlying3 rfl rfl ((B.kept hW (by simp)).cl rfl) | exact E.load f7 Try.underlying3 rfl rfl ((Bg0.kept hW (by simp)).cl rfl))) fun a8 f8 => ?_
  clear f7 a7
  refine R.call 2 f8 rfl rfl (by decide) (by kernel_rfl) wantedN (run_call Try.call43 (args2 f8 rfl rfl)) (topf_any b _ _ _ _ ((A1.kept HK).kept hS1) hm hr) ?_
  rintro e w3 ⟨kc3, rfl⟩
  replace hS1 := hS1.trans kc3 (by simp)
  refine ⟨_, rfl, hS1, fun a9 f9 => ?_⟩
  clear f8 a8
  have szw3 := kc3.size
  clear kc3
  refine R.take 5 f9 rfl rfl (by decide) (by kernel_rfl) (by kernel_rfl) (by kernel_rfl) (fun _ _ _ _ h => h) wantedN hS1 (fun W hW => (E.lss f9 rfl rfl)) fun a10 f10 => ?_
  clear f9 a9
  refine R.take 6 f10 rfl rfl (by decide) (by kernel_rfl) (by kernel_rfl) (by kernel_rfl) (fun _ _ _ _ h => h) wantedN hS1 (fun W hW => (E.assign f10 rfl)) fun a11 f11 => ?_
  clear f10 a10
  have szw3r := hS1.size
  replace HK := HK.trans hS1 (by simp)
  replace B := B.kept hS1 (by simp)
  replace Bg0 := Bg0.kept hS1 (by simp)
  clear hS1
  refine R.done (by kernel_rfl) (hK1 _ _ ?_)
  try clear hK1 K1
  have f12 := f11.sub (sub_cons (i := 3) rfl sub_nil)
  clear f11
  refine wp_ret ?_
  try simp only [Exit.inBlock, Exit.then]
  refine C.ret (P := Try.prog) (fn := Try.f42) f12 rfl rfl ?_
  exact ⟨HK, rfl⟩

set_option maxHeartbeats 1000000 in
theorem index_any (l b : List Dt) (A A' : Option Addr) (c c' g : Nat) (w : World) (B : Blk w g 24 #[.slice A' b.length c']) (A1 : Ds w A l) (A2 : Ds w A' b) (hm : l.length ≤ 1000000) (hm' : b.length ≤ 1000000) (hr : rightB b = true) : Calls Try.prog 52 #[.slice A l.length c, .func (.func 42) #[] #[.pointer (some ⟨g, 0, none⟩)]] w (IndexPost l b w) := by
  have HK : Kept [] w w := Kept.refl [] w
  refine C.enter Try.func52 rfl Try.ntmps52 rfl ?_
  intro a0 f0
  have f1 : Fr 19 a0 [(0, .slice A l.length c), (1, .func (.func 42) #[] #[.pointer (some ⟨g, 0, none⟩)])] := f0
  clear f0
  refine wp_seq_k fun K0 hK0 => ?_
  refine C.region ?_
  refine L.val f1 wantedN rfl (by decide) (E.assign f1 rfl) fun a2 f2 => ?_
  clear f1 a0
  refine wpList_nil (hK0 _ _ ?_)
  try clear hK0 K0
  have f3 := f2.sub (sub_cons (i := 0) rfl (sub_cons (i := 1) rfl (sub_cons (i := 4) rfl sub_nil)))
  clear f2
  refine wp_seq_k fun K1 hK1 => ?_
  refine wp_seq_k fun K2 hK2 => ?_
  refine C.region ?_
  refine L.val f3 wantedN rfl (by decide) (E.move f3 rfl) fun a4 f4 => ?_
  clear f3 a2
  refine L.val f4 wantedN rfl (by decide) (E.lenL f4 Try.underlying24 rfl) fun a5 f5 => ?_
  clear f4 a4
  refine L.val f5 wantedN rfl (by decide) (E.move f5 rfl) fun a6 f6 => ?_
  clear f5 a5
  refine wpList_nil (hK2 _ _ ?_)
  try clear hK2 K2
  have f7 := f6.sub (sub_cons (i := 0) rfl (sub_cons (i := 1) rfl (sub_cons (i := 4) rfl (sub_cons (i := 7) rfl (sub_cons (i := 8) rfl sub_nil)))))
  clear f6
  refine wp_block ?_
  refine C.loop (fun gk a W => ∃ k : Nat, k + gk = l.length ∧ Kept [] w W ∧ (∀ x ∈ l.take k, ¬ topI b x.node x.epoch < x.n) ∧ Blk W g 24 #[.slice A' b.length c'] ∧ Fr 19 a [(0, .slice A l.length c), (1, .func (.func 42) #[] #[.pointer (some ⟨g, 0, none⟩)]), (7, .int .i64 l.length), (8, .int .i64 k)]) (l.length) ?_ ?_
  · exact ⟨0, by omega, HK, by simp, B, f7.sub (sub_cons rfl (sub_cons rfl (sub_cons rfl (sub_cons rfl sub_nil))))⟩
  · intro gk4 a8 w1 hI KL3 hKL3
    obtain ⟨k, hk, HK, hq, B, f8⟩ := hI
    try clear f7
    refine wp_seq_k fun K4 hK4 => ?_
    refine C.region ?_
    refine L.val f8 wantedN rfl (by decide) (E.lss f8 rfl rfl) fun a9 f9 => ?_
    clear f8 a8
    refine wpList_nil (hK4 _ _ ?_)
    try clear hK4 K4
    have f10 := f9.sub (sub_cons (i := 0) rfl (sub_cons (i := 1) rfl (sub_cons (i := 7) rfl (sub_cons (i := 8) rfl (sub_cons (i := 9) rfl sub_nil)))))
    clear f9
    refine wp_seq_k fun K5 hK5 => ?_
    first | refine f10.splitD 9 rfl (fun h0 f11 => ?_) (fun h0 f11 => ?_) | refine f10.splitN 9 rfl (fun h0 f11 => ?_) (fun h0 f11 => ?_) | refine f10.splitNB 9 rfl (fun h0 f11 => ?_) (fun h0 f11 => ?_) | refine f10.split 9 rfl (fun h0 f11 => ?_) (fun h0 f11 => ?_)
    · clear f10
      obtain ⟨d, hd⟩ : ∃ d, l[k]? = some d := ⟨l[k]'(by omega), List.getElem?_eq_getElem _⟩
      obtain ⟨b', off, hA⟩ := A1.addr (i := k) (by omega)
      refine C.condT f11 rfl ?_
      refine wp_skip (hK5 _ _ ?_)
      try clear hK5 K5
      have f12 := f11.sub (sub_cons (i := 0) rfl (sub_cons (i := 1) rfl (sub_cons (i := 7) rfl (sub_cons (i := 8) rfl (sub_cons (i := 9) rfl sub_nil)))))
      clear f11
      refine wp_seq_k fun K6 hK6 => ?_
      refine wp_block ?_
      refine wp_seq_k fun K7 hK7 => ?_
      refine C.region ?_
      refine L.val f12 wantedN rfl (by decide) (E.move f12 rfl) fun a13 f13 => ?_
      clear f12 a9
      refine L.val f13 wantedN rfl (by decide) (E.assign f13 rfl) fun a14 f14 => ?_
      clear f13 a13
      refine wpList_nil (hK7 _ _ ?_)
      try clear hK7 K7
      have f15 := f14.sub (sub_cons (i := 0) rfl (sub_cons (i := 1) rfl (sub_cons (i := 5) rfl (sub_cons (i := 7) rfl (sub_cons (i := 8) rfl (sub_cons (i := 9) rfl (sub_cons (i := 10) rfl sub_nil)))))))
      clear f14
      refine wp_seq_k fun K8 hK8 => ?_
      refine C.region ?_
      refine L.val f15 wantedN rfl (by decide) (E.move f15 rfl) fun a16 f16 => ?_
      clear f15 a14
      refine L.val f16 wantedN rfl (by decide) (E.move f16 rfl) fun a17 f17 => ?_
      clear f16 a16
      refine L.val f17 wantedN rfl (by decide) (E.move f17 rfl) fun a18 f18 => ?_
      clear f17 a17
      refine L.val f18 wantedN rfl (by decide) (E.indexA f18 (by first | rfl | assumption) Try.underlying24 wsz32_c rfl rfl (by omega) (by omega)) fun a19 f19 => ?_
      clear f18 a18
      refine L.val f19 wantedN rfl (by decide) (by first | exact E.loadB f19 Try.underlying32 rfl wsz32_c rfl (B) rfl | exact E.loadR f19 Try.underlying32 rfl wsz32_c rfl ((A1.kept HK).row hA hd) rfl) fun a20 f20 => ?_
      clear f19 a19
      refine L.call f20 wantedN rfl (by decide) (cv1_1 f20 rfl Try.call42 rfl) (clos_any b _ _ _ g _ B (A2.kept HK) hm' hr) ?_
      rintro e w2 ⟨kc2, rfl⟩
      refine ⟨_, rfl, fun a21 f21 => ?_⟩
      clear f20 a20
      have szw2 := kc2.size
      replace HK := HK.trans kc2 (by simp)
      replace B := B.kept kc2 (by simp)
      clear kc2
      refine wpList_nil (hK8 _ _ ?_)
      try clear hK8 K8
      have f22 := f21.sub (sub_cons (i := 0) rfl (sub_cons (i := 1) rfl (sub_cons (i := 5) rfl (sub_cons (i := 7) rfl (sub_cons (i := 8) rfl (sub_cons (i := 9) rfl (sub_cons (i := 10) rfl (sub_cons (i := 11) rfl (sub_cons (i := 12) rfl (sub_cons (i := 13) rfl (sub_cons (i := 14) rfl (sub_cons (i := 15) rfl (sub_cons (i := 16) rfl sub_nil)))))))))))))
      clear f21
      first | refine f22.splitD 16 rfl (fun h1 f23 => ?_) (fun h1 f23 => ?_) | refine f22.splitN 16 rfl (fun h1 f23 => ?_) (fun h1 f23 => ?_) | refine f22.splitNB 16 rfl (fun h1 f23 => ?_) (fun h1 f23 => ?_) | refine f22.split 16 rfl (fun h1 f23 => ?_) (fun h1 f23 => ?_)
      · clear f22
        refine C.condT f23 rfl ?_
        refine wp_seq_k fun K9 hK9 => ?_
        refine C.region ?_
        refine L.val f23 wantedN rfl (by decide) (E.move f23 rfl) fun a24 f24 => ?_
        clear f23 a21
        refine L.val f24 wantedN rfl (by decide) (E.assign f24 rfl) fun a25 f25 => ?_
        clear f24 a24
        refine wpList_nil (hK9 _ _ ?_)
        try clear hK9 K9
        have f26 := f25.sub (sub_cons (i := 0) rfl (sub_cons (i := 1) rfl (sub_cons (i := 4) rfl (sub_cons (i := 5) rfl (sub_cons (i := 7) rfl (sub_cons (i := 8) rfl (sub_cons (i := 9) rfl (sub_cons (i := 10) rfl (sub_cons (i := 11) rfl (sub_cons (i := 12) rfl (sub_cons (i := 13) rfl (sub_cons (i := 14) rfl (sub_cons (i := 15) rfl (sub_cons (i := 16) rfl (sub_cons (i := 17) rfl sub_nil)))))))))))))))
        clear f25
        refine wp_ret ?_
        try simp only [Exit.inBlock, Exit.then]
        refine C.ret (P := Try.prog) (fn := Try.f52) f26 rfl rfl ?_
        exact ⟨HK, _, rfl, .inl ⟨by omega, d, List.mem_of_getElem? hd, by omega⟩⟩
      · clear f22
        refine C.condF f23 rfl ?_
        refine wp_skip (hK6 _ _ ?_)
        try clear hK6 K6
        have f24 := f23.sub (sub_cons (i := 0) rfl (sub_cons (i := 1) rfl (sub_cons (i := 5) rfl (sub_cons (i := 7) rfl (sub_cons (i := 8) rfl (sub_cons (i := 9) rfl (sub_cons (i := 10) rfl (sub_cons (i := 11) rfl (sub_cons (i := 12) rfl (sub_cons (i := 13) rfl (sub_cons (i := 14) rfl (sub_cons (i := 15) rfl (sub_cons (i := 16) rfl sub_nil)))))))))))))
        clear f23
        refine C.region ?_
        refine L.val f24 wantedN rfl (by decide) (E.add f24 rfl rfl (IntWalk.i64_in _ (by omega))) fun a25 f25 => ?_
        clear f24 a21
        refine L.val f25 wantedN rfl (by decide) (E.move f25 rfl) fun a26 f26 => ?_
        clear f25 a25
        refine wpList_nil (hKL3 _ _ (gk4 - 1) ?_ ?_)
        · omega
        · exact ⟨k + 1, by omega, HK, take_all hq hd (by omega), B, f26.sub (sub_cons rfl (sub_cons rfl (sub_cons rfl (sub_cons rfl sub_nil))))⟩
    · clear f10
      refine C.condF f11 rfl ?_
      refine wp_exit (hK1 _ _ ?_)
      try clear hK1 K1
      have f12 := f11.sub sub_nil
      clear f11
      refine wp_seq_k fun K10 hK10 => ?_
      refine C.region ?_
      refine L.val f12 wantedN rfl (by decide) (E.assign f12 rfl) fun a13 f13 => ?_
      clear f12 a9
      refine wpList_nil (hK10 _ _ ?_)
      try clear hK10 K10
      have f14 := f13.sub (sub_cons (i := 4) rfl sub_nil)
      clear f13
      refine wp_ret ?_
      try simp only [Exit.inBlock, Exit.then]
      refine C.ret (P := Try.prog) (fn := Try.f52) f14 rfl rfl ?_
      exact ⟨HK, _, rfl, .inr ⟨by omega, by rw [List.take_of_length_le (by omega)] at hq; exact hq⟩⟩

set_option maxHeartbeats 1000000 in
theorem contains_any (l b : List Dt) (A A' : Option Addr) (c c' g : Nat) (w : World) (B : Blk w g 24 #[.slice A' b.length c']) (A1 : Ds w A l) (A2 : Ds w A' b) (hm : l.length ≤ 1000000) (hm' : b.length ≤ 1000000) (hr : rightB b = true) : Calls Try.prog 41 #[.slice A l.length c, .func (.func 42) #[] #[.pointer (some ⟨g, 0, none⟩)]] w (fun e w' => Kept [] w w' ∧ e = .returned (.bool (l.any fun x => decide (topI b x.node x.epoch < x.n)))) := by
  have HK : Kept [] w w := Kept.refl [] w
  refine C.enter Try.func41 rfl Try.ntmps41 rfl ?_
  intro a0 f0
  have f1 : Fr 9 a0 [(0, .slice A l.length c), (1, .func (.func 42) #[] #[.pointer (some ⟨g, 0, none⟩)])] := f0
  clear f0
  refine wp_seq_k fun K0 hK0 => ?_
  refine C.region ?_
  refine L.val f1 wantedN rfl (by decide) (E.assign f1 rfl) fun a2 f2 => ?_
  clear f1 a0
  refine wpList_nil (hK0 _ _ ?_)
  try clear hK0 K0
  have f3 := f2.sub (sub_cons (i := 0) rfl (sub_cons (i := 1) rfl (sub_cons (i := 4) rfl sub_nil)))
  clear f2
  refine wp_seq_k fun K1 hK1 => ?_
  refine C.region ?_
  refine L.val f3 wantedN rfl (by decide) (E.move f3 rfl) fun a4 f4 => ?_
  clear f3 a2
  refine L.val f4 wantedN rfl (by decide) (E.move f4 rfl) fun a5 f5 => ?_
  clear f4 a4
  refine L.call f5 wantedN rfl (by decide) (run_call Try.call52 (args2 f5 rfl rfl)) (index_any l b _ _ _ _ g _ B A1 A2 hm hm' hr) ?_
  rintro e w1 ⟨kc1, ix, rfl, hix⟩
  refine ⟨_, rfl, fun a6 f6 => ?_⟩
  clear f5 a5
  have szw1 := kc1.size
  replace HK := HK.trans kc1 (by simp)
  clear kc1
  refine L.val f6 wantedN rfl (by decide) (E.geq f6 rfl rfl) fun a7 f7 => ?_
  clear f6 a6
  refine L.val f7 wantedN rfl (by decide) (E.assign f7 rfl) fun a8 f8 => ?_
  clear f7 a7
  refine wpList_nil (hK1 _ _ ?_)
  try clear hK1 K1
  have f9 := f8.sub (sub_cons (i := 4) rfl sub_nil)
  clear f8
  refine wp_ret ?_
  try simp only [Exit.inBlock, Exit.then]
  refine C.ret (P := Try.prog) (fn := Try.f41) f9 rfl rfl ?_
  exact ⟨HK, by rw [index_is hix]⟩

set_option maxHeartbeats 1000000 in
theorem Within_any (l b : List Dt) (A A' : Option Addr) (c c' : Nat) (w : World) (A1 : Ds w A l) (A2 : Ds w A' b) (hm : l.length ≤ 1000000) (hm' : b.length ≤ 1000000) : Calls Try.prog 15 #[.slice A l.length c, .slice A' b.length c'] w (fun e w' => Kept [] w w' ∧ e = .returned (.bool (withinB l b))) := by
  have HK : Kept [] w w := Kept.refl [] w
  refine C.enter Try.func15 rfl Try.ntmps15 rfl ?_
  intro a0 f0
  have f1 : Fr 17 a0 [(0, .slice A l.length c), (1, .slice A' b.length c')] := f0
  clear f0
  refine wp_seq_k fun K0 hK0 => ?_
  refine C.region ?_
  refine L.box f1 wantedN (by decide) rfl rfl fun a2 w1 g0 N0 f2 => ?_
  have Bg0 := N0.blk
  have kg0 := N0.kept
  have log0 := N0.lo
  have ltg0 := Bg0.lt
  have szw1 := kg0.size
  have frg0 : w.heap.size ≤ g0 := Nat.le_trans HK.size log0
  replace HK := HK.trans kg0 (by simp)
  clear N0 kg0
  clear f1 a0
  refine L.val f2 wantedN rfl (by decide) (E.assign f2 rfl) fun a3 f3 => ?_
  clear f2 a2
  refine wpList_nil (hK0 _ _ ?_)
  try clear hK0 K0
  have f4 := f3.sub (sub_cons (i := 0) rfl (sub_cons (i := 3) rfl (sub_cons (i := 4) rfl sub_nil)))
  clear f3
  refine wp_seq_k fun K1 hK1 => ?_
  refine C.region ?_
  refine L.val f4 wantedN rfl (by decide) (E.move f4 rfl) fun a5 f5 => ?_
  clear f4 a3
  refine L.call f5 wantedN rfl (by decide) (run_call Try.call16 (args1 f5 rfl)) (right_any l _ _ _ (A1.kept HK) (by unfold maxLen; omega)) ?_
  rintro e w2 ⟨kc2, rfl⟩
  refine ⟨_, rfl, fun a6 f6 => ?_⟩
  clear f5 a5
  have szw2 := kc2.size
  replace HK := HK.trans kc2 (by simp)
  replace Bg0 := Bg0.kept kc2 (by simp)
  clear kc2
  refine L.val f6 wantedN rfl (by decide) (E.move f6 rfl) fun a7 f7 => ?_
  clear f6 a6
  first | refine f7.splitD 7 rfl (fun h0 f8 => ?_) (fun h0 f8 => ?_) | refine f7.splitN 7 rfl (fun h0 f8 => ?_) (fun h0 f8 => ?_) | refine f7.splitNB 7 rfl (fun h0 f8 => ?_) (fun h0 f8 => ?_) | refine f7.split 7 rfl (fun h0 f8 => ?_) (fun h0 f8 => ?_)
  · clear f7
    refine L.val f8 (f8.yes rfl rfl) rfl (by decide) (by exact E.load f8 Try.underlying24 rfl rfl ((Bg0).cl rfl)) fun a9 f9 => ?_
    clear f8 a7
    refine L.call f9 (f9.yes rfl rfl) rfl (by decide) (run_call Try.call16 (args1 f9 rfl)) (right_any b _ _ _ (A2.kept HK) (by unfold maxLen; omega)) ?_
    rintro e w3 ⟨kc3, rfl⟩
    refine ⟨_, rfl, fun a10 f10 => ?_⟩
    clear f9 a9
    have szw3 := kc3.size
    replace HK := HK.trans kc3 (by simp)
    replace Bg0 := Bg0.kept kc3 (by simp)
    clear kc3
    refine L.val f10 wantedN rfl (by decide) (E.pickT f10 rfl rfl) fun a11 f11 => ?_
    clear f10 a10
    refine L.val f11 wantedN rfl (by decide) (E.move f11 rfl) fun a12 f12 => ?_
    clear f11 a11
    first | refine f12.splitD 11 rfl (fun h1 f13 => ?_) (fun h1 f13 => ?_) | refine f12.splitN 11 rfl (fun h1 f13 => ?_) (fun h1 f13 => ?_) | refine f12.splitNB 11 rfl (fun h1 f13 => ?_) (fun h1 f13 => ?_) | refine f12.split 11 rfl (fun h1 f13 => ?_) (fun h1 f13 => ?_)
    · clear f12
      have hrb := h1
      refine L.val f13 (f13.yes rfl rfl) rfl (by decide) (E.move f13 rfl) fun a14 f14 => ?_
      clear f13 a12
      refine L.val f14 (f14.yes rfl rfl) rfl (by decide) (E.makeFunc1 f14 rfl) fun a15 f15 => ?_
      clear f14 a14
      refine L.call f15 (f15.yes rfl rfl) rfl (by decide) (run_call Try.call41 (args2 f15 rfl rfl)) (contains_any l b _ _ _ _ g0 _ Bg0 (A1.kept HK) (A2.kept HK) hm hm' hrb) ?_
      rintro e w4 ⟨kc4, rfl⟩
      refine ⟨_, rfl, fun a16 f16 => ?_⟩
      clear f15 a15
      have szw4 := kc4.size
      replace HK := HK.trans kc4 (by simp)
      replace Bg0 := Bg0.kept kc4 (by simp)
      clear kc4
      refine L.val f16 (f16.yes rfl rfl) rfl (by decide) (E.not f16 rfl) fun a17 f17 => ?_
      clear f16 a16
      refine L.val f17 wantedN rfl (by decide) (E.pickT f17 rfl rfl) fun a18 f18 => ?_
      clear f17 a17
      refine L.val f18 wantedN rfl (by decide) (E.assign f18 rfl) fun a19 f19 => ?_
      clear f18 a18
      refine wpList_nil (hK1 _ _ ?_)
      try clear hK1 K1
      have f20 := f19.sub (sub_cons (i := 4) rfl sub_nil)
      clear f19
      refine wp_ret ?_
      try simp only [Exit.inBlock, Exit.then]
      refine C.ret (P := Try.prog) (fn := Try.f15) f20 rfl rfl ?_
      exact ⟨HK, by simp [withinB, *]⟩
    · clear f12
      refine L.skip f13 (f13.noT rfl rfl) rfl (by decide) fun a14 f14 => ?_
      clear f13 a12
      refine L.skip f14 (f14.noT rfl rfl) rfl (by decide) fun a15 f15 => ?_
      clear f14 a14
      refine L.skip f15 (f15.noT rfl rfl) rfl (by decide) fun a16 f16 => ?_
      clear f15 a15
      refine L.skip f16 (f16.noT rfl rfl) rfl (by decide) fun a17 f17 => ?_
      clear f16 a16
      refine L.val f17 wantedN rfl (by decide) (E.pickF f17 rfl rfl) fun a18 f18 => ?_
      clear f17 a17
      refine L.val f18 wantedN rfl (by decide) (E.assign f18 rfl) fun a19 f19 => ?_
      clear f18 a18
      refine wpList_nil (hK1 _ _ ?_)
      try clear hK1 K1
      have f20 := f19.sub (sub_cons (i := 4) rfl sub_nil)
      clear f19
      refine wp_ret ?_
      try simp only [Exit.inBlock, Exit.then]
      refine C.ret (P := Try.prog) (fn := Try.f15) f20 rfl rfl ?_
      exact ⟨HK, by simp [withinB, *]⟩
  · clear f7
    refine L.skip f8 (f8.noT rfl rfl) rfl (by decide) fun a9 f9 => ?_
    clear f8 a7
    refine L.skip f9 (f9.noT rfl rfl) rfl (by decide) fun a10 f10 => ?_
    clear f9 a9
    refine L.val f10 wantedN rfl (by decide) (E.pickF f10 rfl rfl) fun a11 f11 => ?_
    clear f10 a10
    refine L.val f11 wantedN rfl (by decide) (E.move f11 rfl) fun a12 f12 => ?_
    clear f11 a11
    refine L.skip f12 (f12.noT rfl rfl) rfl (by decide) fun a13 f13 => ?_
    clear f12 a12
    refine L.skip f13 (f13.noT rfl rfl) rfl (by decide) fun a14 f14 => ?_
    clear f13 a13
    refine L.skip f14 (f14.noT rfl rfl) rfl (by decide) fun a15 f15 => ?_
    clear f14 a14
    refine L.skip f15 (f15.noT rfl rfl) rfl (by decide) fun a16 f16 => ?_
    clear f15 a15
    refine L.val f16 wantedN rfl (by decide) (E.pickF f16 rfl rfl) fun a17 f17 => ?_
    clear f16 a16
    refine L.val f17 wantedN rfl (by decide) (E.assign f17 rfl) fun a18 f18 => ?_
    clear f17 a17
    refine wpList_nil (hK1 _ _ ?_)
    try clear hK1 K1
    have f19 := f18.sub (sub_cons (i := 4) rfl sub_nil)
    clear f18
    refine wp_ret ?_
    try simp only [Exit.inBlock, Exit.then]
    refine C.ret (P := Try.prog) (fn := Try.f15) f19 rfl rfl ?_
    exact ⟨HK, by simp [withinB, *]⟩

end Go.Proofs.Ytahmlcjgcdajbaa
