/- Contracts: lists of texts compared. -/
import Derived.Test.YtpdacegpjofdeaaDoorTh
set_option linter.all false
namespace Go.Proofs.YtpdacegpjofdeaaDoor
open Go.RowKit Go.Hub Go.Lib
theorem wsz9_ti : (Tryd.prog.info? 9).map (·.size) = some 1 := by kernel_rfl

theorem strs_next {us vs : List ByteArray} {k : Nat} {x y : ByteArray} (hq : ∀ j, j < k → us[j]? = vs[j]?) (hx : us[k]? = some x) (hy : vs[k]? = some y) (h : x = y) : ∀ j, j < k + 1 → us[j]? = vs[j]? := by
  intro j hj
  by_cases e : j = k
  · rw [e, hx, hy, h]
  · exact hq j (by omega)
theorem strs_end {us vs : List ByteArray} {k : Nat} (hq : ∀ j, j < k → us[j]? = vs[j]?) (h1 : us.length ≤ k) (h2 : us.length = vs.length) : us = vs := by
  apply List.ext_getElem?
  intro j
  by_cases e : j < k
  · exact hq j e
  · rw [List.getElem?_eq_none (by omega), List.getElem?_eq_none (by omega)]

set_option maxHeartbeats 1000000 in
theorem strs_any (us vs : List ByteArray) (A A' : Option Addr) (c c' : Nat) (w : World) (A1 : Ss w A us) (A2 : Ss w A' vs) (hl : us.length ≤ 1000000) (hl' : vs.length ≤ 1000000) : Calls Tryd.prog 16 #[.slice A us.length c, .slice A' vs.length c'] w (fun e w' => Kept [] w w' ∧ e = .returned (.bool (decide (us = vs)))) := by
  have HK : Kept [] w w := Kept.refl [] w
  refine C.enter Tryd.func16 rfl Tryd.ntmps16 rfl ?_
  intro a0 f0
  have f1 : Fr 26 a0 [(0, .slice A us.length c), (1, .slice A' vs.length c')] := f0
  clear f0
  refine wp_seq_k fun K0 hK0 => ?_
  refine C.region ?_
  refine L.val f1 wantedN rfl (by decide) (E.assign f1 rfl) fun a2 f2 => ?_
  clear f1 a0
  refine wpList_nil (hK0 _ _ ?_)
  try clear hK0 K0
  have f3 := f2.sub (sub_cons (i := 0) rfl (sub_cons (i := 1) rfl (sub_cons (i := 4) rfl sub_nil)))
  clear f2
  refine wp_seq_k fun K1 hK1 => ?_
  refine wp_seq_k fun K2 hK2 => ?_
  refine C.region ?_
  refine L.val f3 wantedN rfl (by decide) (E.move f3 rfl) fun a4 f4 => ?_
  clear f3 a2
  refine L.val f4 wantedN rfl (by decide) (E.lenL f4 Tryd.underlying26 rfl) fun a5 f5 => ?_
  clear f4 a4
  refine L.val f5 wantedN rfl (by decide) (E.move f5 rfl) fun a6 f6 => ?_
  clear f5 a5
  refine L.val f6 wantedN rfl (by decide) (E.lenL f6 Tryd.underlying26 rfl) fun a7 f7 => ?_
  clear f6 a6
  refine L.val f7 wantedN rfl (by decide) (E.neq f7 rfl rfl) fun a8 f8 => ?_
  clear f7 a7
  refine wpList_nil (hK2 _ _ ?_)
  try clear hK2 K2
  have f9 := f8.sub (sub_cons (i := 0) rfl (sub_cons (i := 1) rfl (sub_cons (i := 4) rfl (sub_cons (i := 10) rfl sub_nil))))
  clear f8
  first | refine f9.splitD 10 rfl (fun h0 f10 => ?_) (fun h0 f10 => ?_) | refine f9.splitN 10 rfl (fun h0 f10 => ?_) (fun h0 f10 => ?_) | refine f9.splitNB 10 rfl (fun h0 f10 => ?_) (fun h0 f10 => ?_) | refine f9.split 10 rfl (fun h0 f10 => ?_) (fun h0 f10 => ?_)
  · clear f9
    have h10 := h0
    refine C.condT f10 rfl ?_
    refine wp_seq_k fun K3 hK3 => ?_
    refine C.region ?_
    refine L.val f10 wantedN rfl (by decide) (E.assign f10 rfl) fun a11 f11 => ?_
    clear f10 a8
    refine wpList_nil (hK3 _ _ ?_)
    try clear hK3 K3
    have f12 := f11.sub (sub_cons (i := 0) rfl (sub_cons (i := 1) rfl (sub_cons (i := 4) rfl sub_nil)))
    clear f11
    refine wp_ret ?_
    try simp only [Exit.inBlock, Exit.then]
    refine C.ret (P := Tryd.prog) (fn := Tryd.f16) f12 rfl rfl ?_
    exact ⟨HK, by rw [decide_eq_false (fun e : us = vs => h10 (by rw [e]))]⟩
  · clear f9
    have h10 := h0
    refine C.condF f10 rfl ?_
    refine wp_skip (hK1 _ _ ?_)
    try clear hK1 K1
    have f11 := f10.sub (sub_cons (i := 0) rfl (sub_cons (i := 1) rfl (sub_cons (i := 4) rfl sub_nil)))
    clear f10
    refine wp_seq_k fun K4 hK4 => ?_
    refine wp_seq_k fun K5 hK5 => ?_
    refine C.region ?_
    refine L.val f11 wantedN rfl (by decide) (E.assign f11 rfl) fun a12 f12 => ?_
    clear f11 a8
    refine wpList_nil (hK5 _ _ ?_)
    try clear hK5 K5
    have f13 := f12.sub (sub_cons (i := 0) rfl (sub_cons (i := 1) rfl (sub_cons (i := 4) rfl (sub_cons (i := 5) rfl sub_nil))))
    clear f12
    refine wp_block ?_
    refine C.loop (fun gk a W => ∃ k : Nat, k + gk = us.length ∧ (∀ j, j < k → us[j]? = vs[j]?) ∧ Kept [] w W ∧ Fr 26 a [(0, .slice A us.length c), (1, .slice A' vs.length c'), (5, .int .i64 k)]) (us.length) ?_ ?_
    · exact ⟨0, by omega, by omega, HK, f13.sub (sub_cons rfl (sub_cons rfl (sub_cons rfl sub_nil)))⟩
    · intro gk7 a14 w1 hI KL6 hKL6
      obtain ⟨k, hk, hq, HK, f14⟩ := hI
      try clear f13
      refine wp_seq_k fun K7 hK7 => ?_
      refine wp_seq_k fun K8 hK8 => ?_
      refine C.region ?_
      refine L.val f14 wantedN rfl (by decide) (E.move f14 rfl) fun a15 f15 => ?_
      clear f14 a14
      refine L.val f15 wantedN rfl (by decide) (E.move f15 rfl) fun a16 f16 => ?_
      clear f15 a15
      refine L.val f16 wantedN rfl (by decide) (E.lenL f16 Tryd.underlying26 rfl) fun a17 f17 => ?_
      clear f16 a16
      refine L.val f17 wantedN rfl (by decide) (E.lss f17 rfl rfl) fun a18 f18 => ?_
      clear f17 a17
      refine wpList_nil (hK8 _ _ ?_)
      try clear hK8 K8
      have f19 := f18.sub (sub_cons (i := 0) rfl (sub_cons (i := 1) rfl (sub_cons (i := 5) rfl (sub_cons (i := 11) rfl (sub_cons (i := 12) rfl (sub_cons (i := 13) rfl (sub_cons (i := 14) rfl sub_nil)))))))
      clear f18
      first | refine f19.splitD 14 rfl (fun h1 f20 => ?_) (fun h1 f20 => ?_) | refine f19.splitN 14 rfl (fun h1 f20 => ?_) (fun h1 f20 => ?_) | refine f19.splitNB 14 rfl (fun h1 f20 => ?_) (fun h1 f20 => ?_) | refine f19.split 14 rfl (fun h1 f20 => ?_) (fun h1 f20 => ?_)
      · clear f19
        obtain ⟨x, hx⟩ : ∃ x, us[k]? = some x := ⟨us[k]'(by omega), List.getElem?_eq_getElem _⟩
        obtain ⟨y, hy⟩ : ∃ y, vs[k]? = some y := ⟨vs[k]'(by omega), List.getElem?_eq_getElem _⟩
        obtain ⟨b1, o1, hA⟩ := A1.addr (k := k) (by omega)
        obtain ⟨b2, o2, hA'⟩ := A2.addr (k := k) (by omega)
        refine C.condT f20 rfl ?_
        refine wp_skip (hK7 _ _ ?_)
        try clear hK7 K7
        have f21 := f20.sub (sub_cons (i := 0) rfl (sub_cons (i := 1) rfl (sub_cons (i := 5) rfl (sub_cons (i := 11) rfl (sub_cons (i := 12) rfl (sub_cons (i := 13) rfl (sub_cons (i := 14) rfl sub_nil)))))))
        clear f20
        refine wp_seq_k fun K9 hK9 => ?_
        refine wp_block ?_
        refine wp_seq_k fun K10 hK10 => ?_
        refine R.begin (S := fun W => Kept [] w1 W) (by kernel_rfl) (by exact (Kept.refl _ _).drewN 1) ?_
        have hS6 : Kept [] w1 (w1.drewN 1) := (Kept.refl _ _).drewN 1
        have hd6 : Kept [] w1 (w1.drewN 1) := (Kept.refl _ _).drewN 1
        obtain ⟨w2, hww2⟩ : ∃ W, W = w1.drewN 1 := ⟨_, rfl⟩
        rw [← hww2] at hS6 hd6 ⊢
        clear hww2
        have szw2 := hS6.size
        refine R.take 0 f21 rfl rfl (by decide) (by kernel_rfl) (by kernel_rfl) (by kernel_rfl) (fun _ _ _ _ h => h) wantedN hS6 (fun W hW => (E.move f21 rfl)) fun a22 f22 => ?_
        clear f21 a18
        refine R.take 1 f22 rfl rfl (by decide) (by kernel_rfl) (by kernel_rfl) (by kernel_rfl) (fun _ _ _ _ h => h) wantedN hS6 (fun W hW => (E.move f22 rfl)) fun a23 f23 => ?_
        clear f22 a22
        refine R.take 2 f23 rfl rfl (by decide) (by kernel_rfl) (by kernel_rfl) (by kernel_rfl) (fun _ _ _ _ h => h) wantedN hS6 (fun W hW => (E.indexA f23 (by first | rfl | assumption) Tryd.underlying26 wsz9_ti rfl rfl (by omega) (by omega))) fun a24 f24 => ?_
        clear f23 a23
        refine R.take 3 f24 rfl rfl (by decide) (by kernel_rfl) (by kernel_rfl) (by kernel_rfl) (fun _ _ _ _ h => h) wantedN hS6 (fun W hW => (by first | exact E.load f24 Tryd.underlying9 rfl rfl (ss_cell (A1.kept (HK.trans hW (by simp))) hA hx) | exact E.load f24 Tryd.underlying9 rfl rfl (ss_cell (A2.kept (HK.trans hW (by simp))) hA' hy))) fun a25 f25 => ?_
        clear f24 a24
        refine R.take 4 f25 rfl rfl (by decide) (by kernel_rfl) (by kernel_rfl) (by kernel_rfl) (fun _ _ _ _ h => h) wantedN hS6 (fun W hW => (E.move f25 rfl)) fun a26 f26 => ?_
        clear f25 a25
        refine R.take 5 f26 rfl rfl (by decide) (by kernel_rfl) (by kernel_rfl) (by kernel_rfl) (fun _ _ _ _ h => h) wantedN hS6 (fun W hW => (E.move f26 rfl)) fun a27 f27 => ?_
        clear f26 a26
        refine R.take 6 f27 rfl rfl (by decide) (by kernel_rfl) (by kernel_rfl) (by kernel_rfl) (fun _ _ _ _ h => h) wantedN hS6 (fun W hW => (E.indexA f27 (by first | rfl | assumption) Tryd.underlying26 wsz9_ti rfl rfl (by omega) (by omega))) fun a28 f28 => ?_
        clear f27 a27
        refine R.take 7 f28 rfl rfl (by decide) (by kernel_rfl) (by kernel_rfl) (by kernel_rfl) (fun _ _ _ _ h => h) wantedN hS6 (fun W hW => (by first | exact E.load f28 Tryd.underlying9 rfl rfl (ss_cell (A1.kept (HK.trans hW (by simp))) hA hx) | exact E.load f28 Tryd.underlying9 rfl rfl (ss_cell (A2.kept (HK.trans hW (by simp))) hA' hy))) fun a29 f29 => ?_
        clear f28 a28
        refine R.take 8 f29 rfl rfl (by decide) (by kernel_rfl) (by kernel_rfl) (by kernel_rfl) (fun _ _ _ _ h => h) wantedN hS6 (fun W hW => (E.neqS f29 rfl rfl)) fun a30 f30 => ?_
        clear f29 a29
        have szw2r := hS6.size
        replace HK := HK.trans hS6 (by simp)
        clear hS6
        refine R.done (by kernel_rfl) (hK10 _ _ ?_)
        try clear hK10 K10
        have f31 := f30.sub (sub_cons (i := 0) rfl (sub_cons (i := 1) rfl (sub_cons (i := 5) rfl (sub_cons (i := 11) rfl (sub_cons (i := 12) rfl (sub_cons (i := 13) rfl (sub_cons (i := 14) rfl (sub_cons (i := 17) rfl (sub_cons (i := 18) rfl (sub_cons (i := 19) rfl (sub_cons (i := 20) rfl (sub_cons (i := 21) rfl (sub_cons (i := 22) rfl (sub_cons (i := 23) rfl (sub_cons (i := 24) rfl (sub_cons (i := 25) rfl sub_nil))))))))))))))))
        clear f30
        first | refine f31.splitD 25 rfl (fun h2 f32 => ?_) (fun h2 f32 => ?_) | refine f31.splitN 25 rfl (fun h2 f32 => ?_) (fun h2 f32 => ?_) | refine f31.splitNB 25 rfl (fun h2 f32 => ?_) (fun h2 f32 => ?_) | refine f31.split 25 rfl (fun h2 f32 => ?_) (fun h2 f32 => ?_)
        · clear f31
          have h25 := h2
          refine C.condT f32 rfl ?_
          refine wp_seq_k fun K11 hK11 => ?_
          refine C.region ?_
          refine L.val f32 wantedN rfl (by decide) (E.assign f32 rfl) fun a33 f33 => ?_
          clear f32 a30
          refine wpList_nil (hK11 _ _ ?_)
          try clear hK11 K11
          have f34 := f33.sub (sub_cons (i := 0) rfl (sub_cons (i := 1) rfl (sub_cons (i := 4) rfl (sub_cons (i := 5) rfl (sub_cons (i := 11) rfl (sub_cons (i := 12) rfl (sub_cons (i := 13) rfl (sub_cons (i := 14) rfl (sub_cons (i := 17) rfl (sub_cons (i := 18) rfl (sub_cons (i := 19) rfl (sub_cons (i := 20) rfl (sub_cons (i := 21) rfl (sub_cons (i := 22) rfl (sub_cons (i := 23) rfl (sub_cons (i := 24) rfl (sub_cons (i := 25) rfl sub_nil)))))))))))))))))
          clear f33
          refine wp_ret ?_
          try simp only [Exit.inBlock, Exit.then]
          refine C.ret (P := Tryd.prog) (fn := Tryd.f16) f34 rfl rfl ?_
          exact ⟨HK, by rw [decide_eq_false (fun e : us = vs => h25 (by rw [e, hy] at hx; injection hx with hx; exact hx.symm))]⟩
        · clear f31
          have h25 := h2
          refine C.condF f32 rfl ?_
          refine wp_skip (hK9 _ _ ?_)
          try clear hK9 K9
          have f33 := f32.sub (sub_cons (i := 0) rfl (sub_cons (i := 1) rfl (sub_cons (i := 5) rfl (sub_cons (i := 11) rfl (sub_cons (i := 12) rfl (sub_cons (i := 13) rfl (sub_cons (i := 14) rfl (sub_cons (i := 17) rfl (sub_cons (i := 18) rfl (sub_cons (i := 19) rfl (sub_cons (i := 20) rfl (sub_cons (i := 21) rfl (sub_cons (i := 22) rfl (sub_cons (i := 23) rfl (sub_cons (i := 24) rfl (sub_cons (i := 25) rfl sub_nil))))))))))))))))
          clear f32
          refine C.region ?_
          refine L.val f33 wantedN rfl (by decide) (E.move f33 rfl) fun a34 f34 => ?_
          clear f33 a30
          refine L.val f34 wantedN rfl (by decide) (E.add f34 rfl rfl (IntWalk.i64_in _ (by omega))) fun a35 f35 => ?_
          clear f34 a34
          refine L.val f35 wantedN rfl (by decide) (E.assign f35 rfl) fun a36 f36 => ?_
          clear f35 a35
          refine wpList_nil (hKL6 _ _ (gk7 - 1) ?_ ?_)
          · omega
          · exact ⟨k + 1, by omega, strs_next hq hx hy h25, HK, f36.sub (sub_cons rfl (sub_cons rfl (sub_cons rfl sub_nil)))⟩
      · clear f19
        have hend := h1
        refine C.condF f20 rfl ?_
        refine wp_exit (hK4 _ _ ?_)
        try clear hK4 K4
        have f21 := f20.sub sub_nil
        clear f20
        refine wp_seq_k fun K12 hK12 => ?_
        refine C.region ?_
        refine L.val f21 wantedN rfl (by decide) (E.assign f21 rfl) fun a22 f22 => ?_
        clear f21 a18
        refine wpList_nil (hK12 _ _ ?_)
        try clear hK12 K12
        have f23 := f22.sub (sub_cons (i := 4) rfl sub_nil)
        clear f22
        refine wp_ret ?_
        try simp only [Exit.inBlock, Exit.then]
        refine C.ret (P := Tryd.prog) (fn := Tryd.f16) f23 rfl rfl ?_
        exact ⟨HK, by rw [decide_eq_true (strs_end hq (by omega) (by omega))]⟩

end Go.Proofs.YtpdacegpjofdeaaDoor
