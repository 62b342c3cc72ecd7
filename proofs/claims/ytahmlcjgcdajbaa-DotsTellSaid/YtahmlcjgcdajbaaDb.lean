/- Contracts: Right. -/
import Derived.Test.YtahmlcjgcdajbaaDa
set_option linter.all false
namespace Go.Proofs.Ytahmlcjgcdajbaa
open Go.RowKit Go.Hub
theorem wsz32_b : (Try.prog.info? 32).map (·.size) = some 3 := by kernel_rfl

set_option maxHeartbeats 1000000 in
theorem right_any (l : List Dt) (A : Option Addr) (c : Nat) (w : World) (A1 : Ds w A l) (hm : l.length ≤ maxLen) : Calls Try.prog 16 #[.slice A l.length c] w (fun e w' => Kept [] w w' ∧ e = .returned (.bool (rightB l))) := by
  have HK : Kept [] w w := Kept.refl [] w
  unfold maxLen at hm
  refine C.enter Try.func16 rfl Try.ntmps16 rfl ?_
  intro a0 f0
  have f1 : Fr 30 a0 [(0, .slice A l.length c)] := f0
  clear f0
  refine wp_seq_k fun K0 hK0 => ?_
  refine C.region ?_
  refine L.val f1 wantedN rfl (by decide) (E.assign f1 rfl) fun a2 f2 => ?_
  clear f1 a0
  refine wpList_nil (hK0 _ _ ?_)
  try clear hK0 K0
  have f3 := f2.sub (sub_cons (i := 0) rfl (sub_cons (i := 2) rfl sub_nil))
  clear f2
  refine wp_seq_k fun K1 hK1 => ?_
  refine wp_seq_k fun K2 hK2 => ?_
  refine C.region ?_
  refine L.val f3 wantedN rfl (by decide) (E.move f3 rfl) fun a4 f4 => ?_
  clear f3 a2
  refine L.val f4 wantedN rfl (by decide) (E.lenL f4 Try.underlying24 rfl) fun a5 f5 => ?_
  clear f4 a4
  refine L.val f5 wantedN rfl (by decide) (E.move f5 rfl) fun a6 f6 => ?_
  clear f5 a5
  refine wpList_nil (hK2 _ _ ?_)
  try clear hK2 K2
  have f7 := f6.sub (sub_cons (i := 0) rfl (sub_cons (i := 2) rfl (sub_cons (i := 5) rfl (sub_cons (i := 6) rfl (sub_cons (i := 7) rfl sub_nil)))))
  clear f6
  refine wp_block ?_
  refine C.loop (fun gk a W => ∃ k : Nat, k + gk = l.length ∧ Kept [] w W ∧ rightFrom none l = rightFrom (prevD l k) (l.drop k) ∧ Fr 30 a [(0, .slice A l.length c), (5, .slice A l.length c), (6, .int .i64 l.length), (7, .int .i64 k)]) (l.length) ?_ ?_
  · exact ⟨0, by omega, HK, rfl, f7.sub (sub_cons rfl (sub_cons rfl (sub_cons rfl (sub_cons rfl sub_nil))))⟩
  · intro gk4 a8 w1 hI KL3 hKL3
    obtain ⟨k, hk, HK, hr, f8⟩ := hI
    try clear f7
    refine wp_seq_k fun K4 hK4 => ?_
    refine C.region ?_
    refine L.val f8 wantedN rfl (by decide) (E.lss f8 rfl rfl) fun a9 f9 => ?_
    clear f8 a8
    refine wpList_nil (hK4 _ _ ?_)
    try clear hK4 K4
    have f10 := f9.sub (sub_cons (i := 0) rfl (sub_cons (i := 5) rfl (sub_cons (i := 6) rfl (sub_cons (i := 7) rfl (sub_cons (i := 8) rfl sub_nil)))))
    clear f9
    refine wp_seq_k fun K5 hK5 => ?_
    first | refine f10.splitD 8 rfl (fun h0 f11 => ?_) (fun h0 f11 => ?_) | refine f10.splitN 8 rfl (fun h0 f11 => ?_) (fun h0 f11 => ?_) | refine f10.splitNB 8 rfl (fun h0 f11 => ?_) (fun h0 f11 => ?_) | refine f10.split 8 rfl (fun h0 f11 => ?_) (fun h0 f11 => ?_)
    · clear f10
      obtain ⟨d, hd⟩ : ∃ d, l[k]? = some d := ⟨l[k]'(by omega), List.getElem?_eq_getElem _⟩
      obtain ⟨b, off, hA⟩ := A1.addr (i := k) (by omega)
      have hst := right_step l k d hd
      refine C.condT f11 rfl ?_
      refine wp_skip (hK5 _ _ ?_)
      try clear hK5 K5
      have f12 := f11.sub (sub_cons (i := 0) rfl (sub_cons (i := 5) rfl (sub_cons (i := 6) rfl (sub_cons (i := 7) rfl (sub_cons (i := 8) rfl sub_nil)))))
      clear f11
      refine wp_seq_k fun K6 hK6 => ?_
      refine wp_block ?_
      refine wp_seq_k fun K7 hK7 => ?_
      refine C.region ?_
      refine L.val f12 wantedN rfl (by decide) (E.move f12 rfl) fun a13 f13 => ?_
      clear f12 a9
      refine L.val f13 wantedN rfl (by decide) (E.indexA f13 (by first | rfl | assumption) Try.underlying24 wsz32_b rfl rfl (by omega) (by omega)) fun a14 f14 => ?_
      clear f13 a13
      refine L.val f14 wantedN rfl (by decide) (by first | exact E.loadR f14 Try.underlying32 rfl wsz32_b rfl ((A1.kept HK).row hA hd) rfl | exact E.loadR f14 Try.underlying32 rfl wsz32_b rfl ((A1.kept HK).row hA hq) rfl) fun a15 f15 => ?_
      clear f14 a14
      refine L.alloc f15 wantedN (by decide) (z := (.agg #[(.int .i64 0), (.int .i64 0), (.int .i64 0)])) (fun _ => by kernel_rfl) rfl fun a16 w2 g1 N1 f16 => ?_
      have Bg1 := N1.blk
      have kg1 := N1.kept
      have log1 := N1.lo
      have ltg1 := Bg1.lt
      have szw2 := kg1.size
      have frg1 : w.heap.size ≤ g1 := Nat.le_trans HK.size log1
      replace HK := HK.trans kg1 (by simp)
      clear N1 kg1
      clear f15 a15
      refine L.val f16 wantedN rfl (by decide) (E.assign f16 rfl) fun a17 f17 => ?_
      clear f16 a16
      refine L.storeR f17 wantedN wsz32_b rfl rfl rfl Bg1 rfl rfl fun a18 w3 f18 NB3 ks3 => ?_
      have szw3 := ks3.size
      replace HK := HK.trans ks3 (by intro x hx hlt; simp at hx; subst hx; first | (exfalso; omega) | simp)
      replace Bg1 := NB3
      clear ks3 f17 a17
      refine wpList_nil (hK7 _ _ ?_)
      try clear hK7 K7
      have f19 := f18.sub (sub_cons (i := 0) rfl (sub_cons (i := 3) rfl (sub_cons (i := 4) rfl (sub_cons (i := 5) rfl (sub_cons (i := 6) rfl (sub_cons (i := 7) rfl (sub_cons (i := 8) rfl (sub_cons (i := 9) rfl (sub_cons (i := 10) rfl (sub_cons (i := 11) rfl sub_nil))))))))))
      clear f18
      refine wp_seq_k fun K8 hK8 => ?_
      refine R.begin (S := fun W => Kept [] w3 W) (by kernel_rfl) (by exact (Kept.refl _ _).drewN 1) ?_
      have hS4 : Kept [] w3 (w3.drewN 1) := (Kept.refl _ _).drewN 1
      have hd4 : Kept [] w3 (w3.drewN 1) := (Kept.refl _ _).drewN 1
      obtain ⟨w4, hww4⟩ : ∃ W, W = w3.drewN 1 := ⟨_, rfl⟩
      rw [← hww4] at hS4 hd4 ⊢
      clear hww4
      have szw4 := hS4.size
      refine R.take 0 f19 rfl rfl (by decide) (by kernel_rfl) (by kernel_rfl) (by kernel_rfl) (fun _ _ _ _ h => h) wantedN hS4 (fun W hW => (by first | exact E.loadB f19 Try.underlying32 rfl wsz32_b rfl (Bg1.kept hW (by simp)) rfl | exact E.loadR f19 Try.underlying32 rfl wsz32_b rfl ((A1.kept (HK.trans hW (by simp))).row hA hd) rfl | exact E.loadR f19 Try.underlying32 rfl wsz32_b rfl ((A1.kept (HK.trans hW (by simp))).row hA hq) rfl)) fun a20 f20 => ?_
      clear f19 a18
      refine R.call 1 f20 rfl rfl (by decide) (by kernel_rfl) wantedN (run_call Try.call44 (args1 f20 rfl)) (may_any _ _) ?_
      rintro e w5 ⟨kc5, rfl⟩
      replace hS4 := hS4.trans kc5 (by simp)
      refine ⟨_, rfl, hS4, fun a21 f21 => ?_⟩
      clear f20 a20
      have szw5 := kc5.size
      clear kc5
      refine R.take 2 f21 rfl rfl (by decide) (by kernel_rfl) (by kernel_rfl) (by kernel_rfl) (fun _ _ _ _ h => h) wantedN hS4 (fun W hW => (E.not f21 rfl)) fun a22 f22 => ?_
      clear f21 a21
      refine R.take 3 f22 rfl rfl (by decide) (by kernel_rfl) (by kernel_rfl) (by kernel_rfl) (fun _ _ _ _ h => h) wantedN hS4 (fun W hW => (E.move f22 rfl)) fun a23 f23 => ?_
      clear f22 a22
      first | refine f23.splitD 15 rfl (fun h1 f24 => ?_) (fun h1 f24 => ?_) | refine f23.splitN 15 rfl (fun h1 f24 => ?_) (fun h1 f24 => ?_) | refine f23.splitNB 15 rfl (fun h1 f24 => ?_) (fun h1 f24 => ?_) | refine f23.split 15 rfl (fun h1 f24 => ?_) (fun h1 f24 => ?_)
      · clear f23
        refine R.takeSkip 4 f24 rfl rfl (by decide) (by kernel_rfl) (by kernel_rfl) (by kernel_rfl) (fun _ _ _ _ h => h) (f24.noF rfl rfl) hS4 fun a25 f25 => ?_
        clear f24 a23
        refine R.takeSkip 5 f25 rfl rfl (by decide) (by kernel_rfl) (by kernel_rfl) (by kernel_rfl) (fun _ _ _ _ h => h) (f25.noF rfl rfl) hS4 fun a26 f26 => ?_
        clear f25 a25
        refine R.takeSkip 6 f26 rfl rfl (by decide) (by kernel_rfl) (by kernel_rfl) (by kernel_rfl) (fun _ _ _ _ h => h) (f26.noF rfl rfl) hS4 fun a27 f27 => ?_
        clear f26 a26
        refine R.takeSkip 7 f27 rfl rfl (by decide) (by kernel_rfl) (by kernel_rfl) (by kernel_rfl) (fun _ _ _ _ h => h) (f27.noU rfl rfl) hS4 fun a28 f28 => ?_
        clear f27 a27
        refine R.takeSkip 8 f28 rfl rfl (by decide) (by kernel_rfl) (by kernel_rfl) (by kernel_rfl) (fun _ _ _ _ h => h) (f28.noU rfl rfl) hS4 fun a29 f29 => ?_
        clear f28 a28
        refine R.takeSkip 9 f29 rfl rfl (by decide) (by kernel_rfl) (by kernel_rfl) (by kernel_rfl) (fun _ _ _ _ h => h) (f29.noU rfl rfl) hS4 fun a30 f30 => ?_
        clear f29 a29
        refine R.takeSkip 10 f30 rfl rfl (by decide) (by kernel_rfl) (by kernel_rfl) (by kernel_rfl) (fun _ _ _ _ h => h) (f30.noU rfl rfl) hS4 fun a31 f31 => ?_
        clear f30 a30
        refine R.takeSkip 11 f31 rfl rfl (by decide) (by kernel_rfl) (by kernel_rfl) (by kernel_rfl) (fun _ _ _ _ h => h) (f31.noU rfl rfl) hS4 fun a32 f32 => ?_
        clear f31 a31
        refine R.takeSkip 12 f32 rfl rfl (by decide) (by kernel_rfl) (by kernel_rfl) (by kernel_rfl) (fun _ _ _ _ h => h) (f32.noU rfl rfl) hS4 fun a33 f33 => ?_
        clear f32 a32
        refine R.takeSkip 13 f33 rfl rfl (by decide) (by kernel_rfl) (by kernel_rfl) (by kernel_rfl) (fun _ _ _ _ h => h) (f33.noU rfl rfl) hS4 fun a34 f34 => ?_
        clear f33 a33
        refine R.takeSkip 14 f34 rfl rfl (by decide) (by kernel_rfl) (by kernel_rfl) (by kernel_rfl) (fun _ _ _ _ h => h) (f34.noU rfl rfl) hS4 fun a35 f35 => ?_
        clear f34 a34
        refine R.takeSkip 15 f35 rfl rfl (by decide) (by kernel_rfl) (by kernel_rfl) (by kernel_rfl) (fun _ _ _ _ h => h) (f35.noF rfl rfl) hS4 fun a36 f36 => ?_
        clear f35 a35
        refine R.take 16 f36 rfl rfl (by decide) (by kernel_rfl) (by kernel_rfl) (by kernel_rfl) (fun _ _ _ _ h => h) wantedN hS4 (fun W hW => (E.pickT f36 rfl rfl)) fun a37 f37 => ?_
        clear f36 a36
        have szw5r := hS4.size
        replace HK := HK.trans hS4 (by simp)
        replace Bg1 := Bg1.kept hS4 (by simp)
        clear hS4
        refine R.done (by kernel_rfl) (hK8 _ _ ?_)
        try clear hK8 K8
        have f38 := f37.sub (sub_cons (i := 0) rfl (sub_cons (i := 3) rfl (sub_cons (i := 4) rfl (sub_cons (i := 5) rfl (sub_cons (i := 6) rfl (sub_cons (i := 7) rfl (sub_cons (i := 8) rfl (sub_cons (i := 9) rfl (sub_cons (i := 10) rfl (sub_cons (i := 11) rfl (sub_cons (i := 12) rfl (sub_cons (i := 13) rfl (sub_cons (i := 14) rfl (sub_cons (i := 15) rfl (sub_cons (i := 16) rfl (sub_cons (i := 17) rfl (sub_cons (i := 18) rfl (sub_cons (i := 19) rfl (sub_cons (i := 20) rfl (sub_cons (i := 21) rfl (sub_cons (i := 22) rfl (sub_cons (i := 23) rfl (sub_cons (i := 24) rfl (sub_cons (i := 25) rfl (sub_cons (i := 26) rfl (sub_cons (i := 27) rfl (sub_cons (i := 28) rfl sub_nil)))))))))))))))))))))))))))
        clear f37
        refine C.condT f38 rfl ?_
        refine wp_seq_k fun K9 hK9 => ?_
        refine C.region ?_
        refine L.val f38 wantedN rfl (by decide) (E.assign f38 rfl) fun a39 f39 => ?_
        clear f38 a37
        refine wpList_nil (hK9 _ _ ?_)
        try clear hK9 K9
        have f40 := f39.sub (sub_cons (i := 0) rfl (sub_cons (i := 2) rfl (sub_cons (i := 3) rfl (sub_cons (i := 4) rfl (sub_cons (i := 5) rfl (sub_cons (i := 6) rfl (sub_cons (i := 7) rfl (sub_cons (i := 8) rfl (sub_cons (i := 9) rfl (sub_cons (i := 10) rfl (sub_cons (i := 11) rfl (sub_cons (i := 12) rfl (sub_cons (i := 13) rfl (sub_cons (i := 14) rfl (sub_cons (i := 15) rfl (sub_cons (i := 16) rfl (sub_cons (i := 17) rfl (sub_cons (i := 18) rfl (sub_cons (i := 19) rfl (sub_cons (i := 20) rfl (sub_cons (i := 21) rfl (sub_cons (i := 22) rfl (sub_cons (i := 23) rfl (sub_cons (i := 24) rfl (sub_cons (i := 25) rfl (sub_cons (i := 26) rfl (sub_cons (i := 27) rfl (sub_cons (i := 28) rfl sub_nil))))))))))))))))))))))))))))
        clear f39
        refine wp_ret ?_
        try simp only [Exit.inBlock, Exit.then]
        refine C.ret (P := Try.prog) (fn := Try.f16) f40 rfl rfl ?_
        exact ⟨HK, by unfold rightB; rw [hr, hst]; simp [*] <;> (intros; omega)⟩
      · clear f23
        refine R.take 4 f24 rfl rfl (by decide) (by kernel_rfl) (by kernel_rfl) (by kernel_rfl) (fun _ _ _ _ h => h) (f24.yes rfl rfl) hS4 (fun W hW => (E.move f24 rfl)) fun a25 f25 => ?_
        clear f24 a23
        refine R.take 5 f25 rfl rfl (by decide) (by kernel_rfl) (by kernel_rfl) (by kernel_rfl) (fun _ _ _ _ h => h) (f25.yes rfl rfl) hS4 (fun W hW => (E.gtr f25 rfl rfl)) fun a26 f26 => ?_
        clear f25 a25
        refine R.take 6 f26 rfl rfl (by decide) (by kernel_rfl) (by kernel_rfl) (by kernel_rfl) (fun _ _ _ _ h => h) (f26.yes rfl rfl) hS4 (fun W hW => (E.move f26 rfl)) fun a27 f27 => ?_
        clear f26 a26
        first | refine f27.splitD 18 rfl (fun h2 f28 => ?_) (fun h2 f28 => ?_) | refine f27.splitN 18 rfl (fun h2 f28 => ?_) (fun h2 f28 => ?_) | refine f27.splitNB 18 rfl (fun h2 f28 => ?_) (fun h2 f28 => ?_) | refine f27.split 18 rfl (fun h2 f28 => ?_) (fun h2 f28 => ?_)
        · clear f27
          obtain ⟨q, hq⟩ : ∃ q, l[Int.toNat ((k : Int) - 1)]? = some q := ⟨l[Int.toNat ((k : Int) - 1)]'(by omega), List.getElem?_eq_getElem _⟩
          rw [prev_some d (by omega) hq] at hst
          refine R.take 7 f28 rfl rfl (by decide) (by kernel_rfl) (by kernel_rfl) (by kernel_rfl) (fun _ _ _ _ h => h) (f28.yes rfl rfl) hS4 (fun W hW => (E.move f28 rfl)) fun a29 f29 => ?_
          clear f28 a27
          refine R.take 8 f29 rfl rfl (by decide) (by kernel_rfl) (by kernel_rfl) (by kernel_rfl) (fun _ _ _ _ h => h) (f29.yes rfl rfl) hS4 (fun W hW => (E.move f29 rfl)) fun a30 f30 => ?_
          clear f29 a29
          refine R.take 9 f30 rfl rfl (by decide) (by kernel_rfl) (by kernel_rfl) (by kernel_rfl) (fun _ _ _ _ h => h) (f30.yes rfl rfl) hS4 (fun W hW => (E.sub f30 rfl rfl (IntWalk.i64_in _ (by omega)))) fun a31 f31 => ?_
          clear f30 a30
          refine R.take 10 f31 rfl rfl (by decide) (by kernel_rfl) (by kernel_rfl) (by kernel_rfl) (fun _ _ _ _ h => h) (f31.yes rfl rfl) hS4 (fun W hW => (E.indexA f31 (by first | rfl | assumption) Try.underlying24 wsz32_b rfl rfl (by omega) (by omega))) fun a32 f32 => ?_
          clear f31 a31
          refine R.take 11 f32 rfl rfl (by decide) (by kernel_rfl) (by kernel_rfl) (by kernel_rfl) (fun _ _ _ _ h => h) (f32.yes rfl rfl) hS4 (fun W hW => (by first | exact E.loadB f32 Try.underlying32 rfl wsz32_b rfl (Bg1.kept hW (by simp)) rfl | exact E.loadR f32 Try.underlying32 rfl wsz32_b rfl ((A1.kept (HK.trans hW (by simp))).row hA hd) rfl | exact E.loadR f32 Try.underlying32 rfl wsz32_b rfl ((A1.kept (HK.trans hW (by simp))).row hA hq) rfl)) fun a33 f33 => ?_
          clear f32 a32
          refine R.take 12 f33 rfl rfl (by decide) (by kernel_rfl) (by kernel_rfl) (by kernel_rfl) (fun _ _ _ _ h => h) (f33.yes rfl rfl) hS4 (fun W hW => (by first | exact E.loadB f33 Try.underlying32 rfl wsz32_b rfl (Bg1.kept hW (by simp)) rfl | exact E.loadR f33 Try.underlying32 rfl wsz32_b rfl ((A1.kept (HK.trans hW (by simp))).row hA hd) rfl | exact E.loadR f33 Try.underlying32 rfl wsz32_b rfl ((A1.kept (HK.trans hW (by simp))).row hA hq) rfl)) fun a34 f34 => ?_
          clear f33 a33
          refine R.call 13 f34 rfl rfl (by decide) (by kernel_rfl) (f34.yes rfl rfl) (run_call Try.call45 (args2 f34 rfl rfl)) (lives_any _ _ _) ?_
          rintro e w6 ⟨kc6, rfl⟩
          replace hS4 := hS4.trans kc6 (by simp)
          refine ⟨_, rfl, hS4, fun a35 f35 => ?_⟩
          clear f34 a34
          have szw6 := kc6.size
          clear kc6
          refine R.take 14 f35 rfl rfl (by decide) (by kernel_rfl) (by kernel_rfl) (by kernel_rfl) (fun _ _ _ _ h => h) (f35.yes rfl rfl) hS4 (fun W hW => (E.geq f35 rfl rfl)) fun a36 f36 => ?_
          clear f35 a35
          refine R.take 15 f36 rfl rfl (by decide) (by kernel_rfl) (by kernel_rfl) (by kernel_rfl) (fun _ _ _ _ h => h) (f36.yes rfl rfl) hS4 (fun W hW => (E.pickT f36 rfl rfl)) fun a37 f37 => ?_
          clear f36 a36
          refine R.take 16 f37 rfl rfl (by decide) (by kernel_rfl) (by kernel_rfl) (by kernel_rfl) (fun _ _ _ _ h => h) wantedN hS4 (fun W hW => (E.pickF f37 rfl rfl)) fun a38 f38 => ?_
          clear f37 a37
          have szw6r := hS4.size
          replace HK := HK.trans hS4 (by simp)
          replace Bg1 := Bg1.kept hS4 (by simp)
          clear hS4
          refine R.done (by kernel_rfl) (hK8 _ _ ?_)
          try clear hK8 K8
          have f39 := f38.sub (sub_cons (i := 0) rfl (sub_cons (i := 3) rfl (sub_cons (i := 4) rfl (sub_cons (i := 5) rfl (sub_cons (i := 6) rfl (sub_cons (i := 7) rfl (sub_cons (i := 8) rfl (sub_cons (i := 9) rfl (sub_cons (i := 10) rfl (sub_cons (i := 11) rfl (sub_cons (i := 12) rfl (sub_cons (i := 13) rfl (sub_cons (i := 14) rfl (sub_cons (i := 15) rfl (sub_cons (i := 16) rfl (sub_cons (i := 17) rfl (sub_cons (i := 18) rfl (sub_cons (i := 19) rfl (sub_cons (i := 20) rfl (sub_cons (i := 21) rfl (sub_cons (i := 22) rfl (sub_cons (i := 23) rfl (sub_cons (i := 24) rfl (sub_cons (i := 25) rfl (sub_cons (i := 26) rfl (sub_cons (i := 27) rfl (sub_cons (i := 28) rfl sub_nil)))))))))))))))))))))))))))
          clear f38
          first | refine f39.splitD 28 rfl (fun h3 f40 => ?_) (fun h3 f40 => ?_) | refine f39.splitN 28 rfl (fun h3 f40 => ?_) (fun h3 f40 => ?_) | refine f39.splitNB 28 rfl (fun h3 f40 => ?_) (fun h3 f40 => ?_) | refine f39.split 28 rfl (fun h3 f40 => ?_) (fun h3 f40 => ?_)
          · clear f39
            refine C.condT f40 rfl ?_
            refine wp_seq_k fun K10 hK10 => ?_
            refine C.region ?_
            refine L.val f40 wantedN rfl (by decide) (E.assign f40 rfl) fun a41 f41 => ?_
            clear f40 a38
            refine wpList_nil (hK10 _ _ ?_)
            try clear hK10 K10
            have f42 := f41.sub (sub_cons (i := 0) rfl (sub_cons (i := 2) rfl (sub_cons (i := 3) rfl (sub_cons (i := 4) rfl (sub_cons (i := 5) rfl (sub_cons (i := 6) rfl (sub_cons (i := 7) rfl (sub_cons (i := 8) rfl (sub_cons (i := 9) rfl (sub_cons (i := 10) rfl (sub_cons (i := 11) rfl (sub_cons (i := 12) rfl (sub_cons (i := 13) rfl (sub_cons (i := 14) rfl (sub_cons (i := 15) rfl (sub_cons (i := 16) rfl (sub_cons (i := 17) rfl (sub_cons (i := 18) rfl (sub_cons (i := 19) rfl (sub_cons (i := 20) rfl (sub_cons (i := 21) rfl (sub_cons (i := 22) rfl (sub_cons (i := 23) rfl (sub_cons (i := 24) rfl (sub_cons (i := 25) rfl (sub_cons (i := 26) rfl (sub_cons (i := 27) rfl (sub_cons (i := 28) rfl sub_nil))))))))))))))))))))))))))))
            clear f41
            refine wp_ret ?_
            try simp only [Exit.inBlock, Exit.then]
            refine C.ret (P := Try.prog) (fn := Try.f16) f42 rfl rfl ?_
            exact ⟨HK, by unfold rightB; rw [hr, hst]; simp [*] <;> (intros; omega)⟩
          · clear f39
            refine C.condF f40 rfl ?_
            refine wp_skip (hK6 _ _ ?_)
            try clear hK6 K6
            have f41 := f40.sub (sub_cons (i := 0) rfl (sub_cons (i := 3) rfl (sub_cons (i := 4) rfl (sub_cons (i := 5) rfl (sub_cons (i := 6) rfl (sub_cons (i := 7) rfl (sub_cons (i := 8) rfl (sub_cons (i := 9) rfl (sub_cons (i := 10) rfl (sub_cons (i := 11) rfl (sub_cons (i := 12) rfl (sub_cons (i := 13) rfl (sub_cons (i := 14) rfl (sub_cons (i := 15) rfl (sub_cons (i := 16) rfl (sub_cons (i := 17) rfl (sub_cons (i := 18) rfl (sub_cons (i := 19) rfl (sub_cons (i := 20) rfl (sub_cons (i := 21) rfl (sub_cons (i := 22) rfl (sub_cons (i := 23) rfl (sub_cons (i := 24) rfl (sub_cons (i := 25) rfl (sub_cons (i := 26) rfl (sub_cons (i := 27) rfl (sub_cons (i := 28) rfl sub_nil)))))))))))))))))))))))))))
            clear f40
            refine C.region ?_
            refine L.val f41 wantedN rfl (by decide) (E.add f41 rfl rfl (IntWalk.i64_in _ (by omega))) fun a42 f42 => ?_
            clear f41 a38
            refine L.val f42 wantedN rfl (by decide) (E.move f42 rfl) fun a43 f43 => ?_
            clear f42 a42
            refine wpList_nil (hKL3 _ _ (gk4 - 1) ?_ ?_)
            · omega
            · exact ⟨k + 1, by omega, HK, by rw [hr, hst]; simp [*] <;> (intros; omega), f43.sub (sub_cons rfl (sub_cons rfl (sub_cons rfl (sub_cons rfl sub_nil))))⟩
        · clear f27
          rw [prev_none d (by omega)] at hst
          refine R.takeSkip 7 f28 rfl rfl (by decide) (by kernel_rfl) (by kernel_rfl) (by kernel_rfl) (fun _ _ _ _ h => h) (f28.noT rfl rfl) hS4 fun a29 f29 => ?_
          clear f28 a27
          refine R.takeSkip 8 f29 rfl rfl (by decide) (by kernel_rfl) (by kernel_rfl) (by kernel_rfl) (fun _ _ _ _ h => h) (f29.noT rfl rfl) hS4 fun a30 f30 => ?_
          clear f29 a29
          refine R.takeSkip 9 f30 rfl rfl (by decide) (by kernel_rfl) (by kernel_rfl) (by kernel_rfl) (fun _ _ _ _ h => h) (f30.noT rfl rfl) hS4 fun a31 f31 => ?_
          clear f30 a30
          refine R.takeSkip 10 f31 rfl rfl (by decide) (by kernel_rfl) (by kernel_rfl) (by kernel_rfl) (fun _ _ _ _ h => h) (f31.noT rfl rfl) hS4 fun a32 f32 => ?_
          clear f31 a31
          refine R.takeSkip 11 f32 rfl rfl (by decide) (by kernel_rfl) (by kernel_rfl) (by kernel_rfl) (fun _ _ _ _ h => h) (f32.noT rfl rfl) hS4 fun a33 f33 => ?_
          clear f32 a32
          refine R.takeSkip 12 f33 rfl rfl (by decide) (by kernel_rfl) (by kernel_rfl) (by kernel_rfl) (fun _ _ _ _ h => h) (f33.noT rfl rfl) hS4 fun a34 f34 => ?_
          clear f33 a33
          refine R.takeSkip 13 f34 rfl rfl (by decide) (by kernel_rfl) (by kernel_rfl) (by kernel_rfl) (fun _ _ _ _ h => h) (f34.noT rfl rfl) hS4 fun a35 f35 => ?_
          clear f34 a34
          refine R.takeSkip 14 f35 rfl rfl (by decide) (by kernel_rfl) (by kernel_rfl) (by kernel_rfl) (fun _ _ _ _ h => h) (f35.noT rfl rfl) hS4 fun a36 f36 => ?_
          clear f35 a35
          refine R.take 15 f36 rfl rfl (by decide) (by kernel_rfl) (by kernel_rfl) (by kernel_rfl) (fun _ _ _ _ h => h) (f36.yes rfl rfl) hS4 (fun W hW => (E.pickF f36 rfl rfl)) fun a37 f37 => ?_
          clear f36 a36
          refine R.take 16 f37 rfl rfl (by decide) (by kernel_rfl) (by kernel_rfl) (by kernel_rfl) (fun _ _ _ _ h => h) wantedN hS4 (fun W hW => (E.pickF f37 rfl rfl)) fun a38 f38 => ?_
          clear f37 a37
          have szw5r := hS4.size
          replace HK := HK.trans hS4 (by simp)
          replace Bg1 := Bg1.kept hS4 (by simp)
          clear hS4
          refine R.done (by kernel_rfl) (hK8 _ _ ?_)
          try clear hK8 K8
          have f39 := f38.sub (sub_cons (i := 0) rfl (sub_cons (i := 3) rfl (sub_cons (i := 4) rfl (sub_cons (i := 5) rfl (sub_cons (i := 6) rfl (sub_cons (i := 7) rfl (sub_cons (i := 8) rfl (sub_cons (i := 9) rfl (sub_cons (i := 10) rfl (sub_cons (i := 11) rfl (sub_cons (i := 12) rfl (sub_cons (i := 13) rfl (sub_cons (i := 14) rfl (sub_cons (i := 15) rfl (sub_cons (i := 16) rfl (sub_cons (i := 17) rfl (sub_cons (i := 18) rfl (sub_cons (i := 19) rfl (sub_cons (i := 20) rfl (sub_cons (i := 21) rfl (sub_cons (i := 22) rfl (sub_cons (i := 23) rfl (sub_cons (i := 24) rfl (sub_cons (i := 25) rfl (sub_cons (i := 26) rfl (sub_cons (i := 27) rfl (sub_cons (i := 28) rfl sub_nil)))))))))))))))))))))))))))
          clear f38
          refine C.condF f39 rfl ?_
          refine wp_skip (hK6 _ _ ?_)
          try clear hK6 K6
          have f40 := f39.sub (sub_cons (i := 0) rfl (sub_cons (i := 3) rfl (sub_cons (i := 4) rfl (sub_cons (i := 5) rfl (sub_cons (i := 6) rfl (sub_cons (i := 7) rfl (sub_cons (i := 8) rfl (sub_cons (i := 9) rfl (sub_cons (i := 10) rfl (sub_cons (i := 11) rfl (sub_cons (i := 12) rfl (sub_cons (i := 13) rfl (sub_cons (i := 14) rfl (sub_cons (i := 15) rfl (sub_cons (i := 16) rfl (sub_cons (i := 17) rfl (sub_cons (i := 18) rfl (sub_cons (i := 19) rfl (sub_cons (i := 20) rfl (sub_cons (i := 21) rfl (sub_cons (i := 22) rfl (sub_cons (i := 23) rfl (sub_cons (i := 24) rfl (sub_cons (i := 25) rfl (sub_cons (i := 26) rfl (sub_cons (i := 27) rfl (sub_cons (i := 28) rfl sub_nil)))))))))))))))))))))))))))
          clear f39
          refine C.region ?_
          refine L.val f40 wantedN rfl (by decide) (E.add f40 rfl rfl (IntWalk.i64_in _ (by omega))) fun a41 f41 => ?_
          clear f40 a38
          refine L.val f41 wantedN rfl (by decide) (E.move f41 rfl) fun a42 f42 => ?_
          clear f41 a41
          refine wpList_nil (hKL3 _ _ (gk4 - 1) ?_ ?_)
          · omega
          · exact ⟨k + 1, by omega, HK, by rw [hr, hst]; simp [*] <;> (intros; omega), f42.sub (sub_cons rfl (sub_cons rfl (sub_cons rfl (sub_cons rfl sub_nil))))⟩
    · clear f10
      refine C.condF f11 rfl ?_
      refine wp_exit (hK1 _ _ ?_)
      try clear hK1 K1
      have f12 := f11.sub sub_nil
      clear f11
      refine wp_seq_k fun K11 hK11 => ?_
      refine C.region ?_
      refine L.val f12 wantedN rfl (by decide) (E.assign f12 rfl) fun a13 f13 => ?_
      clear f12 a9
      refine wpList_nil (hK11 _ _ ?_)
      try clear hK11 K11
      have f14 := f13.sub (sub_cons (i := 2) rfl sub_nil)
      clear f13
      refine wp_ret ?_
      try simp only [Exit.inBlock, Exit.then]
      refine C.ret (P := Try.prog) (fn := Try.f16) f14 rfl rfl ?_
      exact ⟨HK, by unfold rightB; rw [hr, List.drop_eq_nil_of_le (by omega)]; rfl⟩

end Go.Proofs.Ytahmlcjgcdajbaa
