/- Contracts: put, Add. -/
import Derived.Test.YtahmlcjgcdajbaaDf
set_option linter.all false
namespace Go.Proofs.Ytahmlcjgcdajbaa
open Go.RowKit Go.Hub
theorem wzi32_g7 : (Try.prog.info? 32).map (fun i => (i.zero, i.size)) = some (some (.agg #[(.int .i64 0), (.int .i64 0), (.int .i64 0)]), 3) := by kernel_rfl
theorem wbs24_1_g7 (x0_0 x0_1 x0_2 : Value) : Instr.fill (fun i => some (i * 3, 3)) ((Array.range (1 * 3)).map fun j => (Value.cells (.agg #[(.int .i64 0), (.int .i64 0), (.int .i64 0)]))[j % (Value.cells (.agg #[(.int .i64 0), (.int .i64 0), (.int .i64 0)])).size]!) [(0, .agg #[x0_0, x0_1, x0_2])] = some #[x0_0, x0_1, x0_2] := by kernel_rfl
theorem wsz3_g7 : (Try.prog.info? 3).map (·.size) = some 1 := by kernel_rfl
theorem wsz32_g7 : (Try.prog.info? 32).map (·.size) = some 3 := by kernel_rfl

section
variable {l : List Dt} {A : Option Addr} {c i : Nat} {d x : Dt} {w0 W : World}
theorem add_no (h : rightB l = true) (hd : mayB d = false) : addD l d = l := by unfold addD; rw [if_neg (by simp [h]), if_pos (.inl hd)]
theorem add_yes (h : rightB l = true) (hd : mayB d = true) : addD l d = if d.n ≤ topI l d.node d.epoch then l else insD l d := by
  have hn := may_of hd
  unfold addD
  rw [if_neg (by simp [h])]
  by_cases ht : d.n ≤ topI l d.node d.epoch
  · rw [if_pos ht, if_pos (.inr (by simp only [hasB, topR, h, if_true, Bool.and_eq_true, decide_eq_true_eq]; omega))]
  · rw [if_neg ht, if_neg ?_]
    rintro (h1 | h1)
    · rw [hd] at h1; cases h1
    · simp only [hasB, topR, h, if_true, Bool.and_eq_true, decide_eq_true_eq] at h1
      omega
theorem put_ins {A' : Option Addr} {c' : Nat} (h : rightB l = true) (hd : mayB d = true) (hs : Srch l d i false) (_ : True) (HK : Kept [] w0 W) (F : Fresh w0 W 32 3 A' (l.length + 1) c' (dcells (l.take i ++ d :: l.drop i))) : DotsPost (addD l d) w0 (.returned (.slice A' (l.length + 1) c')) W := by
  have hn := may_of hd
  have ht := hs.top (rises h)
  have he : addD l d = l.take i ++ d :: l.drop i := by
    rw [add_yes h hd, ht, if_neg (by omega), insD_at l d i (fun y hy => by
      obtain ⟨k, hk⟩ := List.getElem?_of_mem hy
      rw [List.getElem?_take] at hk
      split at hk
      · exact hs.lo k y (by assumption) hk
      · cases hk) (fun y hy => hs.hi i y (Nat.le_refl _) hy) hs.le]
    cases hq : l[i]? with
    | none =>
      have hi : l.length ≤ i := List.getElem?_eq_none_iff.1 hq
      simp only []
      rw [List.take_of_length_le hi, List.drop_eq_nil_of_le hi]
    | some y =>
      simp only []
      rw [if_pos]
      have h1 := hs.hi i y (Nat.le_refl _) hq
      have h2 : ¬ (y.node = d.node ∧ y.epoch = d.epoch) := fun hc => by have := hs.is.2 ⟨y, hq, hc.1, hc.2⟩; cases this
      unfold lt2 at *
      omega
  have hl : (l.take i ++ d :: l.drop i).length = l.length + 1 := by
    have := hs.le
    simp
    omega
  refine ⟨HK, A', c', by rw [he, hl], ?_⟩
  rw [he, hl]
  exact F
theorem put_set (h : rightB l = true) (hd : mayB d = true) (hx : l[i]? = some x) (hn : x.node = d.node) (he : x.epoch = d.epoch) (hlt : x.n < d.n) (HK : Kept [] w0 W) (F : Fresh w0 W 32 3 A l.length c (dcells (l.set i { x with n := d.n }))) : DotsPost (addD l d) w0 (.returned (.slice A l.length c)) W := by
  have ht := topI_some h hx
  rw [hn, he] at ht
  have hr := rises h
  have h2 : addD l d = l.set i { x with n := d.n } := by
    rw [add_yes h hd, ht, if_neg (by omega), insD_at l d i (fun y hy => by
      obtain ⟨k, hk⟩ := List.getElem?_of_mem hy
      rw [List.getElem?_take] at hk
      split at hk
      · have := hr.1 k i y x (by assumption) hk hx
        unfold lt2 at *
        omega
      · cases hk) (fun y hy => by rw [hx] at hy; injection hy with hy; subst hy; unfold lt2; omega) (by have := (List.getElem?_eq_some_iff.1 hx).1; omega), hx]
    simp only []
    rw [if_neg (by unfold lt2; omega)]
  refine ⟨HK, A, c, by rw [h2, List.length_set], ?_⟩
  rw [h2, List.length_set]
  exact F
theorem put_same (h : rightB l = true) (hd : mayB d = true) (hx : l[i]? = some x) (hn : x.node = d.node) (he : x.epoch = d.epoch) (hlt : ¬ x.n < d.n) (HK : Kept [] w0 W) (F : Fresh w0 W 32 3 A l.length c (dcells l)) : DotsPost (addD l d) w0 (.returned (.slice A l.length c)) W := by
  have ht := topI_some h hx
  rw [hn, he] at ht
  have h2 : addD l d = l := by rw [add_yes h hd, ht, if_pos (by omega)]
  exact ⟨HK, A, c, by rw [h2], by rw [h2]; exact F⟩
end

set_option maxHeartbeats 1000000 in
theorem put_any (l : List Dt) (A : Option Addr) (c : Nat) (d : Dt) (w0 w : World) (F : Fresh w0 w 32 3 A l.length c (dcells l)) (HK : Kept [] w0 w) (hr : rightB l = true) (hd : mayB d = true) (hm : l.length ≤ 1000000) : Calls Try.prog 40 #[.slice A l.length c, .agg (dcell d).toArray] w (fun e w' => DotsPost (addD l d) w0 e w') := by
  have szw0 := HK.size
  have hAb : ∀ a, A = some a → a.block < w.heap.size := fun a ha => (F.own.blk a.block (by rw [ha]; rfl)).1
  refine C.enter Try.func40 rfl Try.ntmps40 rfl ?_
  intro a0 f0
  have f1 : Fr 37 a0 [(0, .slice A l.length c), (1, .agg (dcell d).toArray)] := f0
  clear f0
  refine wp_seq_k fun K0 hK0 => ?_
  refine C.region ?_
  refine L.box f1 wantedN (by decide) rfl rfl fun a2 w1 g0 N0 f2 => ?_
  have Bg0 := N0.blk
  have kg0 := N0.kept
  have log0 := N0.lo
  have ltg0 := Bg0.lt
  have szw1 := kg0.size
  replace HK := HK.trans kg0 (by simp)
  replace F := F.kept0 kg0
  clear N0 kg0
  clear f1 a0
  refine L.val f2 wantedN rfl (by decide) (E.assign f2 rfl) fun a3 f3 => ?_
  clear f2 a2
  refine wpList_nil (hK0 _ _ ?_)
  try clear hK0 K0
  have f4 := f3.sub (sub_cons (i := 0) rfl (sub_cons (i := 3) rfl (sub_cons (i := 4) rfl sub_nil)))
  clear f3
  refine wp_seq_k fun K1 hK1 => ?_
  refine C.region ?_
  refine L.val f4 wantedN rfl (by decide) (E.move f4 rfl) fun a5 f5 => ?_
  clear f4 a3
  refine L.val f5 wantedN rfl (by decide) (by first | exact E.loadB f5 Try.underlying32 rfl wsz32_g7 rfl (Bg0) rfl | exact E.loadR f5 Try.underlying32 rfl wsz32_g7 rfl ((F.sl).row (by omega) hA (dcells_at l i x hx)) rfl) fun a6 f6 => ?_
  clear f5 a5
  refine L.call f6 wantedN rfl (by decide) (run_call Try.call50 (args3 f6 rfl rfl rfl)) (search_any l _ _ d _ F.sl hm (rises hr)) ?_
  rintro e w2 ⟨kc2, i, bb, rfl, hs⟩
  refine ⟨_, rfl, fun a7 f7 => ?_⟩
  clear f6 a6
  have szw2 := kc2.size
  replace HK := HK.trans kc2 (by simp)
  replace F := F.kept0 kc2
  replace Bg0 := Bg0.kept kc2 (by simp)
  clear kc2
  refine L.val f7 wantedN rfl (by decide) (E.move f7 rfl) fun a8 f8 => ?_
  clear f7 a7
  refine L.val f8 wantedN rfl (by decide) (E.extract f8 rfl rfl) fun a9 f9 => ?_
  clear f8 a8
  refine L.val f9 wantedN rfl (by decide) (E.extract f9 rfl rfl) fun a10 f10 => ?_
  clear f9 a9
  refine L.val f10 wantedN rfl (by decide) (E.assign f10 rfl) fun a11 f11 => ?_
  clear f10 a10
  refine L.val f11 wantedN rfl (by decide) (E.assign f11 rfl) fun a12 f12 => ?_
  clear f11 a11
  refine wpList_nil (hK1 _ _ ?_)
  try clear hK1 K1
  have f13 := f12.sub (sub_cons (i := 0) rfl (sub_cons (i := 3) rfl (sub_cons (i := 4) rfl (sub_cons (i := 5) rfl (sub_cons (i := 6) rfl sub_nil)))))
  clear f12
  refine wp_seq_k fun K2 hK2 => ?_
  refine wp_block ?_
  refine wp_seq_k fun K3 hK3 => ?_
  refine C.region ?_
  refine L.val f13 wantedN rfl (by decide) (E.move f13 rfl) fun a14 f14 => ?_
  clear f13 a12
  refine L.val f14 wantedN rfl (by decide) (E.not f14 rfl) fun a15 f15 => ?_
  clear f14 a14
  refine L.val f15 wantedN rfl (by decide) (E.assign f15 rfl) fun a16 f16 => ?_
  clear f15 a15
  refine wpList_nil (hK3 _ _ ?_)
  try clear hK3 K3
  have f17 := f16.sub (sub_cons (i := 0) rfl (sub_cons (i := 3) rfl (sub_cons (i := 4) rfl (sub_cons (i := 5) rfl (sub_cons (i := 13) rfl sub_nil)))))
  clear f16
  first | refine f17.splitD 13 rfl (fun h0 f18 => ?_) (fun h0 f18 => ?_) | refine f17.splitN 13 rfl (fun h0 f18 => ?_) (fun h0 f18 => ?_) | refine f17.splitNB 13 rfl (fun h0 f18 => ?_) (fun h0 f18 => ?_) | refine f17.split 13 rfl (fun h0 f18 => ?_) (fun h0 f18 => ?_)
  · clear f17
    have hb0 := h0
    obtain rfl : bb = false := by simpa using hb0
    refine C.condT f18 rfl ?_
    refine wp_seq_k fun K4 hK4 => ?_
    refine C.region ?_
    refine L.val f18 wantedN rfl (by decide) (E.move f18 rfl) fun a19 f19 => ?_
    clear f18 a16
    refine L.val f19 wantedN rfl (by decide) (E.move f19 rfl) fun a20 f20 => ?_
    clear f19 a19
    refine L.val f20 wantedN rfl (by decide) (by first | exact E.loadB f20 Try.underlying32 rfl wsz32_g7 rfl (Bg0) rfl | exact E.loadR f20 Try.underlying32 rfl wsz32_g7 rfl ((F.sl).row (by omega) hA (dcells_at l i x hx)) rfl) fun a21 f21 => ?_
    clear f20 a20
    refine L.buildSlice f21 wantedN (by decide) (parts1 f21 rfl) Try.underlying24 wzi32_g7 rfl rfl (wbs24_1_g7 _ _ _) fun a22 w3 g2 N2 f22 => ?_
    have Bg2 := N2.blk
    have kg2 := N2.kept
    have log2 := N2.lo
    have ltg2 := Bg2.lt
    have szw3 := kg2.size
    have neg0_g2 : g0 ≠ g2 := by have := Bg0.lt; omega
    replace HK := HK.trans kg2 (by simp)
    replace F := F.kept0 kg2
    replace Bg0 := Bg0.kept kg2 (by simp)
    clear N2 kg2
    clear f21 a21
    refine L.call f22 wantedN rfl (by decide) (run_call Try.call51 (args3 f22 rfl rfl rfl)) (insert_any l A c i g2 d w3 F.own Bg2 hs.le hm (fun a ha e => by have := hAb a ha; omega)) ?_
    rintro e w4 ⟨A', c', rfl, OI, kc4, hwh⟩
    have FI : Fresh w0 w4 32 3 A' (l.length + 1) c' (dcells (l.take i ++ d :: l.drop i)) := ⟨OI, fun b hb => (hwh b hb).elim (F.lo b) (fun h => by have := HK.size; omega)⟩
    replace HK := HK.trans kc4 (by intro x hx hlt; have := F.lo x ((own_block A l.length c x).1 (by simpa using hx)); omega)
    refine ⟨_, rfl, fun a23 f23 => ?_⟩
    clear f22 a22
    have szw4 := kc4.size
    clear kc4
    refine L.val f23 wantedN rfl (by decide) (E.assign f23 rfl) fun a24 f24 => ?_
    clear f23 a23
    refine wpList_nil (hK4 _ _ ?_)
    try clear hK4 K4
    have f25 := f24.sub (sub_cons (i := 0) rfl (sub_cons (i := 4) rfl sub_nil))
    clear f24
    refine wp_ret ?_
    try simp only [Exit.inBlock, Exit.then]
    refine C.ret (P := Try.prog) (fn := Try.f40) f25 rfl rfl ?_
    exact put_ins hr hd hs trivial HK FI
  · clear f17
    have hb0 := h0
    obtain ⟨x, hx, hxn, hxe⟩ := hs.is.1 (by simpa using hb0)
    have hil := (List.getElem?_eq_some_iff.1 hx).1
    obtain ⟨b, off, hA⟩ := F.sl.addr (by omega)
    refine C.condF f18 rfl ?_
    refine wp_seq_k fun K5 hK5 => ?_
    refine R.begin (S := fun W => Kept [] w2 W) (by kernel_rfl) (by exact (Kept.refl _ _).drewN 1) ?_
    have hS4 : Kept [] w2 (w2.drewN 1) := (Kept.refl _ _).drewN 1
    have hd4 : Kept [] w2 (w2.drewN 1) := (Kept.refl _ _).drewN 1
    obtain ⟨w3, hww3⟩ : ∃ W, W = w2.drewN 1 := ⟨_, rfl⟩
    rw [← hww3] at hS4 hd4 ⊢
    clear hww3
    have szw3 := hS4.size
    refine R.take 0 f18 rfl rfl (by decide) (by kernel_rfl) (by kernel_rfl) (by kernel_rfl) (fun _ _ _ _ h => h) wantedN hS4 (fun W hW => (E.move f18 rfl)) fun a19 f19 => ?_
    clear f18 a16
    refine R.take 1 f19 rfl rfl (by decide) (by kernel_rfl) (by kernel_rfl) (by kernel_rfl) (fun _ _ _ _ h => h) wantedN hS4 (fun W hW => (E.move f19 rfl)) fun a20 f20 => ?_
    clear f19 a19
    refine R.take 2 f20 rfl rfl (by decide) (by kernel_rfl) (by kernel_rfl) (by kernel_rfl) (fun _ _ _ _ h => h) wantedN hS4 (fun W hW => (E.indexA f20 (by first | rfl | assumption) Try.underlying24 wsz32_g7 rfl rfl (by omega) (by omega))) fun a21 f21 => ?_
    clear f20 a20
    refine R.take 3 f21 rfl rfl (by decide) (by kernel_rfl) (by kernel_rfl) (by kernel_rfl) (fun _ _ _ _ h => h) wantedN hS4 (fun W hW => (E.fieldAddr f21 Try.underlying32 rfl rfl wsz3_g7)) fun a22 f22 => ?_
    clear f21 a21
    refine R.take 4 f22 rfl rfl (by decide) (by kernel_rfl) (by kernel_rfl) (by kernel_rfl) (fun _ _ _ _ h => h) wantedN hS4 (fun W hW => (E.load f22 Try.underlying3 rfl rfl ((F.kept0 hW).sl.row (by omega) hA (dcells_at l i x hx) 2 _ rfl))) fun a23 f23 => ?_
    clear f22 a22
    refine R.take 5 f23 rfl rfl (by decide) (by kernel_rfl) (by kernel_rfl) (by kernel_rfl) (fun _ _ _ _ h => h) wantedN hS4 (fun W hW => (E.fieldAddr f23 Try.underlying32 rfl rfl wsz3_g7)) fun a24 f24 => ?_
    clear f23 a23
    refine R.take 6 f24 rfl rfl (by decide) (by kernel_rfl) (by kernel_rfl) (by kernel_rfl) (fun _ _ _ _ h => h) wantedN hS4 (fun W hW => (by exact E.load f24 Try.underlying3 rfl rfl ((Bg0.kept hW (by simp)).cl rfl))) fun a25 f25 => ?_
    clear f24 a24
    refine R.take 7 f25 rfl rfl (by decide) (by kernel_rfl) (by kernel_rfl) (by kernel_rfl) (fun _ _ _ _ h => h) wantedN hS4 (fun W hW => (E.lss f25 rfl rfl)) fun a26 f26 => ?_
    clear f25 a25
    refine R.take 8 f26 rfl rfl (by decide) (by kernel_rfl) (by kernel_rfl) (by kernel_rfl) (fun _ _ _ _ h => h) wantedN hS4 (fun W hW => (E.assign f26 rfl)) fun a27 f27 => ?_
    clear f26 a26
    have szw3r := hS4.size
    replace HK := HK.trans hS4 (by simp)
    replace F := F.kept0 hS4
    replace Bg0 := Bg0.kept hS4 (by simp)
    clear hS4
    refine R.done (by kernel_rfl) (hK5 _ _ ?_)
    try clear hK5 K5
    have f28 := f27.sub (sub_cons (i := 0) rfl (sub_cons (i := 3) rfl (sub_cons (i := 4) rfl (sub_cons (i := 5) rfl (sub_cons (i := 21) rfl sub_nil)))))
    clear f27
    first | refine f28.splitD 21 rfl (fun h1 f29 => ?_) (fun h1 f29 => ?_) | refine f28.splitN 21 rfl (fun h1 f29 => ?_) (fun h1 f29 => ?_) | refine f28.splitNB 21 rfl (fun h1 f29 => ?_) (fun h1 f29 => ?_) | refine f28.split 21 rfl (fun h1 f29 => ?_) (fun h1 f29 => ?_)
    · clear f28
      have hlt := h1
      refine C.condT f29 rfl ?_
      refine C.region ?_
      refine L.val f29 wantedN rfl (by decide) (E.move f29 rfl) fun a30 f30 => ?_
      clear f29 a27
      refine L.val f30 wantedN rfl (by decide) (E.move f30 rfl) fun a31 f31 => ?_
      clear f30 a30
      refine L.val f31 wantedN rfl (by decide) (E.fieldAddr f31 Try.underlying32 rfl rfl wsz3_g7) fun a32 f32 => ?_
      clear f31 a31
      refine L.val f32 wantedN rfl (by decide) (by exact E.load f32 Try.underlying3 rfl rfl ((Bg0).cl rfl)) fun a33 f33 => ?_
      clear f32 a32
      refine L.val f33 wantedN rfl (by decide) (E.indexA f33 (by first | rfl | assumption) Try.underlying24 wsz32_g7 rfl rfl (by omega) (by omega)) fun a34 f34 => ?_
      clear f33 a33
      refine L.val f34 wantedN rfl (by decide) (E.fieldAddr f34 Try.underlying32 rfl rfl wsz3_g7) fun a35 f35 => ?_
      clear f34 a34
      refine L.storeO f35 wantedN wsz3_g7 (j := i * 3 + 2) hA F.own rfl (show off + i * 3 + 2 = _ by omega) (by rw [dcells_len]; omega) rfl rfl fun a36 w4 f36 OW2 ks => ?_
      have szw4 := ks.size
      have FS : Fresh w0 w4 32 3 A l.length c ((dcells l).set (i * 3 + 2) (.int .i64 d.n)) := ⟨OW2, F.lo⟩
      have hbw := F.lo b (by rw [hA]; rfl)
      replace HK := HK.trans ks (by intro x hx hlt; simp at hx; subst hx; omega)
      clear f35 a35 ks
      refine wpList_nil (hK2 _ _ ?_)
      try clear hK2 K2
      have f37 := f36.sub (sub_cons (i := 0) rfl (sub_cons (i := 4) rfl sub_nil))
      clear f36
      refine wp_seq_k fun K6 hK6 => ?_
      refine C.region ?_
      refine L.val f37 wantedN rfl (by decide) (E.move f37 rfl) fun a38 f38 => ?_
      clear f37 a36
      refine L.val f38 wantedN rfl (by decide) (E.assign f38 rfl) fun a39 f39 => ?_
      clear f38 a38
      refine wpList_nil (hK6 _ _ ?_)
      try clear hK6 K6
      have f40 := f39.sub (sub_cons (i := 4) rfl sub_nil)
      clear f39
      refine wp_ret ?_
      try simp only [Exit.inBlock, Exit.then]
      refine C.ret (P := Try.prog) (fn := Try.f40) f40 rfl rfl ?_
      exact put_set hr hd hx hxn hxe hlt HK (by rw [dcells_set l i x d.n hx] at FS; exact FS)
    · clear f28
      have hlt := h1
      refine C.condF f29 rfl ?_
      refine wp_skip (hK2 _ _ ?_)
      try clear hK2 K2
      have f30 := f29.sub (sub_cons (i := 0) rfl (sub_cons (i := 4) rfl sub_nil))
      clear f29
      refine wp_seq_k fun K7 hK7 => ?_
      refine C.region ?_
      refine L.val f30 wantedN rfl (by decide) (E.move f30 rfl) fun a31 f31 => ?_
      clear f30 a27
      refine L.val f31 wantedN rfl (by decide) (E.assign f31 rfl) fun a32 f32 => ?_
      clear f31 a31
      refine wpList_nil (hK7 _ _ ?_)
      try clear hK7 K7
      have f33 := f32.sub (sub_cons (i := 4) rfl sub_nil)
      clear f32
      refine wp_ret ?_
      try simp only [Exit.inBlock, Exit.then]
      refine C.ret (P := Try.prog) (fn := Try.f40) f33 rfl rfl ?_
      exact put_same hr hd hx hxn hxe hlt HK F

set_option maxHeartbeats 1000000 in
theorem Add_any (l : List Dt) (A : Option Addr) (c : Nat) (d : Dt) (w : World) (A1 : Ds w A l) (hm : l.length ≤ 1000000) : Calls Try.prog 17 #[.slice A l.length c, .agg (dcell d).toArray] w (DotsPost (addD l d) w) := by
  have HK : Kept [] w w := Kept.refl [] w
  refine C.enter Try.func17 rfl Try.ntmps17 rfl ?_
  intro a0 f0
  have f1 : Fr 17 a0 [(0, .slice A l.length c), (1, .agg (dcell d).toArray)] := f0
  clear f0
  refine wp_seq_k fun K0 hK0 => ?_
  refine C.region ?_
  refine L.box f1 wantedN (by decide) rfl rfl fun a2 w1 g0 N0 f2 => ?_
  have Bg0 := N0.blk
  have kg0 := N0.kept
  have log0 := N0.lo
  have ltg0 := Bg0.lt
  have szw1 := kg0.size
  have frg0 : w.heap.size ≤ g0 := Nat.le_trans HK.size log0
  replace HK := HK.trans kg0 (by simp)
  clear N0 kg0
  clear f1 a0
  refine L.val f2 wantedN rfl (by decide) (E.assign f2 rfl) fun a3 f3 => ?_
  clear f2 a2
  refine wpList_nil (hK0 _ _ ?_)
  try clear hK0 K0
  have f4 := f3.sub (sub_cons (i := 0) rfl (sub_cons (i := 3) rfl (sub_cons (i := 4) rfl sub_nil)))
  clear f3
  refine wp_seq_k fun K1 hK1 => ?_
  refine wp_seq_k fun K2 hK2 => ?_
  refine C.region ?_
  refine L.val f4 wantedN rfl (by decide) (E.move f4 rfl) fun a5 f5 => ?_
  clear f4 a3
  refine L.call f5 wantedN rfl (by decide) (run_call Try.call16 (args1 f5 rfl)) (right_any l _ _ _ (A1.kept HK) (by unfold maxLen; omega)) ?_
  rintro e w2 ⟨kc2, rfl⟩
  refine ⟨_, rfl, fun a6 f6 => ?_⟩
  clear f5 a5
  have szw2 := kc2.size
  replace HK := HK.trans kc2 (by simp)
  replace Bg0 := Bg0.kept kc2 (by simp)
  clear kc2
  refine L.val f6 wantedN rfl (by decide) (E.not f6 rfl) fun a7 f7 => ?_
  clear f6 a6
  refine wpList_nil (hK2 _ _ ?_)
  try clear hK2 K2
  have f8 := f7.sub (sub_cons (i := 0) rfl (sub_cons (i := 3) rfl (sub_cons (i := 4) rfl (sub_cons (i := 7) rfl sub_nil))))
  clear f7
  first | refine f8.splitD 7 rfl (fun h0 f9 => ?_) (fun h0 f9 => ?_) | refine f8.splitN 7 rfl (fun h0 f9 => ?_) (fun h0 f9 => ?_) | refine f8.splitNB 7 rfl (fun h0 f9 => ?_) (fun h0 f9 => ?_) | refine f8.split 7 rfl (fun h0 f9 => ?_) (fun h0 f9 => ?_)
  · clear f8
    have hrb := h0
    refine C.condT f9 rfl ?_
    refine wp_seq_k fun K3 hK3 => ?_
    refine C.region ?_
    refine L.val f9 wantedN rfl (by decide) (E.assign f9 rfl) fun a10 f10 => ?_
    clear f9 a7
    refine wpList_nil (hK3 _ _ ?_)
    try clear hK3 K3
    have f11 := f10.sub (sub_cons (i := 0) rfl (sub_cons (i := 3) rfl (sub_cons (i := 4) rfl sub_nil)))
    clear f10
    refine wp_ret ?_
    try simp only [Exit.inBlock, Exit.then]
    refine C.ret (P := Try.prog) (fn := Try.f17) f11 rfl rfl ?_
    exact ⟨HK, none, 0, by simp [addD, hrb], by rw [show addD l d = [] by simp [addD, hrb]]; exact Fresh.nil _ _ _ _⟩
  · clear f8
    have hrb := h0
    refine C.condF f9 rfl ?_
    refine wp_skip (hK1 _ _ ?_)
    try clear hK1 K1
    have f10 := f9.sub (sub_cons (i := 0) rfl (sub_cons (i := 3) rfl (sub_cons (i := 4) rfl sub_nil)))
    clear f9
    refine wp_seq_k fun K4 hK4 => ?_
    refine C.region ?_
    refine L.val f10 wantedN rfl (by decide) (E.move f10 rfl) fun a11 f11 => ?_
    clear f10 a7
    refine L.call f11 wantedN rfl (by decide) (run_call Try.call39 (args1 f11 rfl)) (clone_any l _ _ _ (A1.kept HK) hm) ?_
    rintro e w3 ⟨kc3, Ac, cc, rfl, FC⟩
    have FC := FC.lower (w0 := w) (by have := HK.size; omega)
    refine ⟨_, rfl, fun a12 f12 => ?_⟩
    clear f11 a11
    have szw3 := kc3.size
    replace HK := HK.trans kc3 (by simp)
    replace Bg0 := Bg0.kept kc3 (by simp)
    clear kc3
    refine L.val f12 wantedN rfl (by decide) (E.assign f12 rfl) fun a13 f13 => ?_
    clear f12 a12
    refine wpList_nil (hK4 _ _ ?_)
    try clear hK4 K4
    have f14 := f13.sub (sub_cons (i := 0) rfl (sub_cons (i := 3) rfl (sub_cons (i := 4) rfl sub_nil)))
    clear f13
    refine wp_seq_k fun K5 hK5 => ?_
    refine wp_seq_k fun K6 hK6 => ?_
    refine C.region ?_
    refine L.val f14 wantedN rfl (by decide) (by exact E.loadB f14 Try.underlying32 rfl wsz32_g7 rfl (Bg0) rfl) fun a15 f15 => ?_
    clear f14 a13
    refine L.call f15 wantedN rfl (by decide) (run_call Try.call44 (args1 f15 rfl)) (may_any d _) ?_
    rintro e w4 ⟨kc4, rfl⟩
    refine ⟨_, rfl, fun a16 f16 => ?_⟩
    clear f15 a15
    have szw4 := kc4.size
    replace HK := HK.trans kc4 (by simp)
    replace Bg0 := Bg0.kept kc4 (by simp)
    replace FC := FC.kept0 kc4
    clear kc4
    refine L.val f16 wantedN rfl (by decide) (E.not f16 rfl) fun a17 f17 => ?_
    clear f16 a16
    refine wpList_nil (hK6 _ _ ?_)
    try clear hK6 K6
    have f18 := f17.sub (sub_cons (i := 0) rfl (sub_cons (i := 3) rfl (sub_cons (i := 4) rfl (sub_cons (i := 12) rfl sub_nil))))
    clear f17
    first | refine f18.splitD 12 rfl (fun h1 f19 => ?_) (fun h1 f19 => ?_) | refine f18.splitN 12 rfl (fun h1 f19 => ?_) (fun h1 f19 => ?_) | refine f18.splitNB 12 rfl (fun h1 f19 => ?_) (fun h1 f19 => ?_) | refine f18.split 12 rfl (fun h1 f19 => ?_) (fun h1 f19 => ?_)
    · clear f18
      have hmy := h1
      refine C.condT f19 rfl ?_
      refine wp_seq_k fun K7 hK7 => ?_
      refine C.region ?_
      refine L.val f19 wantedN rfl (by decide) (E.move f19 rfl) fun a20 f20 => ?_
      clear f19 a17
      refine L.val f20 wantedN rfl (by decide) (E.assign f20 rfl) fun a21 f21 => ?_
      clear f20 a20
      refine wpList_nil (hK7 _ _ ?_)
      try clear hK7 K7
      have f22 := f21.sub (sub_cons (i := 0) rfl (sub_cons (i := 3) rfl (sub_cons (i := 4) rfl sub_nil)))
      clear f21
      refine wp_ret ?_
      try simp only [Exit.inBlock, Exit.then]
      refine C.ret (P := Try.prog) (fn := Try.f17) f22 rfl rfl ?_
      exact ⟨HK, Ac, cc, by rw [add_no hrb hmy], by rw [add_no hrb hmy]; exact FC⟩
    · clear f18
      have hmy := h1
      refine C.condF f19 rfl ?_
      refine wp_skip (hK5 _ _ ?_)
      try clear hK5 K5
      have f20 := f19.sub (sub_cons (i := 0) rfl (sub_cons (i := 3) rfl (sub_cons (i := 4) rfl sub_nil)))
      clear f19
      refine wp_seq_k fun K8 hK8 => ?_
      refine C.region ?_
      refine L.val f20 wantedN rfl (by decide) (E.move f20 rfl) fun a21 f21 => ?_
      clear f20 a17
      refine L.val f21 wantedN rfl (by decide) (by exact E.loadB f21 Try.underlying32 rfl wsz32_g7 rfl (Bg0) rfl) fun a22 f22 => ?_
      clear f21 a21
      refine L.call f22 wantedN rfl (by decide) (run_call Try.call40 (args2 f22 rfl rfl)) (put_any l Ac cc d w w4 FC HK hrb hmy hm) ?_
      rintro e w5 ⟨kc5, A2, c2, rfl, F2⟩
      have kput := kc5
      refine ⟨_, rfl, fun a23 f23 => ?_⟩
      clear f22 a22
      have szw5 := kc5.size
      clear kc5
      refine L.val f23 wantedN rfl (by decide) (E.assign f23 rfl) fun a24 f24 => ?_
      clear f23 a23
      refine wpList_nil (hK8 _ _ ?_)
      try clear hK8 K8
      have f25 := f24.sub (sub_cons (i := 4) rfl sub_nil)
      clear f24
      refine wp_ret ?_
      try simp only [Exit.inBlock, Exit.then]
      refine C.ret (P := Try.prog) (fn := Try.f17) f25 rfl rfl ?_
      exact ⟨kput, A2, c2, rfl, F2⟩

end Go.Proofs.Ytahmlcjgcdajbaa
