/- Contracts: the document's Add. -/
import Derived.Test.YtahmlcjgcdajbaaDd
set_option linter.all false
namespace Go.Proofs.Ytahmlcjgcdajbaa
open Go.RowKit Go.Hub
theorem wzib32_e : (Try.prog.info? 32).map (fun i => (i.zero, i.size, i.bytes)) = some (some (.agg #[(.int .i64 0), (.int .i64 0), (.int .i64 0)]), 3, 24) := by kernel_rfl
theorem wzi32_e : (Try.prog.info? 32).map (fun i => (i.zero, i.size)) = some (some (.agg #[(.int .i64 0), (.int .i64 0), (.int .i64 0)]), 3) := by kernel_rfl
theorem wbs24_1_e (x0_0 x0_1 x0_2 : Value) : Instr.fill (fun i => some (i * 3, 3)) ((Array.range (1 * 3)).map fun j => (Value.cells (.agg #[(.int .i64 0), (.int .i64 0), (.int .i64 0)]))[j % (Value.cells (.agg #[(.int .i64 0), (.int .i64 0), (.int .i64 0)])).size]!) [(0, .agg #[x0_0, x0_1, x0_2])] = some #[x0_0, x0_1, x0_2] := by kernel_rfl
theorem wsz3_e : (Try.prog.info? 3).map (·.size) = some 1 := by kernel_rfl
theorem wsz32_e : (Try.prog.info? 32).map (·.size) = some 3 := by kernel_rfl

theorem sl_one (w : World) (g : Nat) (d : Dt) (B : Blk w g 32 #[.int .i64 d.node, .int .i64 d.epoch, .int .i64 d.n]) : Ds w (some ⟨g, 0, none⟩) [d] :=
  ⟨rfl, fun _ => ⟨g, 0, rfl, B.lt, fun j u hu => by rw [Nat.zero_add]; exact B.cell_ (by simpa [dcells] using hu)⟩⟩
theorem rightB_one (d : Dt) : rightB [d] = mayB d := by simp [rightB, rightFrom, nextOk]

set_option maxHeartbeats 1000000 in
theorem AddR_any (l : List Dt) (A : Option Addr) (c : Nat) (d : Dt) (w : World) (A1 : Ds w A l) (hm : l.length ≤ 1000000) : Calls Try.prog 25 #[.slice A l.length c, .agg (dcell d).toArray] w (DotsPost (addD l d) w) := by
  have HK : Kept [] w w := Kept.refl [] w
  refine C.enter Try.func25 rfl Try.ntmps25 rfl ?_
  intro a0 f0
  have f1 : Fr 67 a0 [(0, .slice A l.length c), (1, .agg (dcell d).toArray)] := f0
  clear f0
  refine wp_seq_k fun K0 hK0 => ?_
  refine C.region ?_
  refine L.box f1 wantedN (by decide) rfl rfl fun a2 w1 g0 N0 f2 => ?_
  have Bg0 := N0.blk
  have kg0 := N0.kept
  have log0 := N0.lo
  have ltg0 := Bg0.lt
  have szw1 := kg0.size
  have frg0 : w.heap.size ≤ g0 := Nat.le_trans HK.size log0
  replace HK := HK.trans kg0 (by simp)
  clear N0 kg0
  clear f1 a0
  refine L.val f2 wantedN rfl (by decide) (E.assign f2 rfl) fun a3 f3 => ?_
  clear f2 a2
  refine wpList_nil (hK0 _ _ ?_)
  try clear hK0 K0
  have f4 := f3.sub (sub_cons (i := 0) rfl (sub_cons (i := 3) rfl (sub_cons (i := 4) rfl sub_nil)))
  clear f3
  refine wp_seq_k fun K1 hK1 => ?_
  refine wp_seq_k fun K2 hK2 => ?_
  refine C.region ?_
  refine L.val f4 wantedN rfl (by decide) (E.move f4 rfl) fun a5 f5 => ?_
  clear f4 a3
  refine L.call f5 wantedN rfl (by decide) (run_call Try.call21 (args1 f5 rfl)) (rightR_any l _ _ _ (A1.kept HK) (by unfold maxLen; omega)) ?_
  rintro e w2 ⟨kc2, rfl⟩
  refine ⟨_, rfl, fun a6 f6 => ?_⟩
  clear f5 a5
  have szw2 := kc2.size
  replace HK := HK.trans kc2 (by simp)
  replace Bg0 := Bg0.kept kc2 (by simp)
  clear kc2
  refine L.val f6 wantedN rfl (by decide) (E.not f6 rfl) fun a7 f7 => ?_
  clear f6 a6
  refine wpList_nil (hK2 _ _ ?_)
  try clear hK2 K2
  have f8 := f7.sub (sub_cons (i := 0) rfl (sub_cons (i := 3) rfl (sub_cons (i := 4) rfl (sub_cons (i := 9) rfl sub_nil))))
  clear f7
  first | refine f8.splitD 9 rfl (fun h0 f9 => ?_) (fun h0 f9 => ?_) | refine f8.splitN 9 rfl (fun h0 f9 => ?_) (fun h0 f9 => ?_) | refine f8.splitNB 9 rfl (fun h0 f9 => ?_) (fun h0 f9 => ?_) | refine f8.split 9 rfl (fun h0 f9 => ?_) (fun h0 f9 => ?_)
  · clear f8
    have hrb := h0
    refine C.condT f9 rfl ?_
    refine wp_seq_k fun K3 hK3 => ?_
    refine C.region ?_
    refine L.val f9 wantedN rfl (by decide) (E.assign f9 rfl) fun a10 f10 => ?_
    clear f9 a7
    refine wpList_nil (hK3 _ _ ?_)
    try clear hK3 K3
    have f11 := f10.sub (sub_cons (i := 0) rfl (sub_cons (i := 3) rfl (sub_cons (i := 4) rfl sub_nil)))
    clear f10
    refine wp_ret ?_
    try simp only [Exit.inBlock, Exit.then]
    refine C.ret (P := Try.prog) (fn := Try.f25) f11 rfl rfl ?_
    exact ⟨HK, none, 0, by simp [addD, hrb], by simpa [addD, hrb, dcells] using Fresh.nil w w2 32 3⟩
  · clear f8
    have hrb := h0
    refine C.condF f9 rfl ?_
    refine wp_skip (hK1 _ _ ?_)
    try clear hK1 K1
    have f10 := f9.sub (sub_cons (i := 0) rfl (sub_cons (i := 3) rfl (sub_cons (i := 4) rfl sub_nil)))
    clear f9
    refine wp_seq_k fun K4 hK4 => ?_
    refine C.region ?_
    refine L.val f10 wantedN rfl (by decide) (E.move f10 rfl) fun a11 f11 => ?_
    clear f10 a7
    refine L.append f11 wantedN (by decide) Try.underlying24 wzib32_e rfl rfl rfl rfl (Own.nil _ _ _) (A1.kept HK) (dcells_one l) (by unfold maxLen; omega) (by omega) fun a12 w3 Ao co AP3 f12 => ?_
    clear f11 a11
    have kap3 : Kept [] w2 w3 := by simpa [Value.ownBlock] using AP3.kept
    have FR : Fresh w w3 32 3 Ao l.length co (dcells l) := by simpa using AP3.next (Fresh.nil w w2 32 3) HK.size
    replace f12 := f12.as (i := 11) (v' := .slice Ao l.length co) rfl (by rw [Nat.zero_add])
    have szw3 := kap3.size
    replace HK := HK.trans kap3 (by simp)
    replace Bg0 := Bg0.kept kap3 (by simp)
    clear kap3
    refine L.val f12 wantedN rfl (by decide) (E.assign f12 rfl) fun a13 f13 => ?_
    clear f12 a12
    refine wpList_nil (hK4 _ _ ?_)
    try clear hK4 K4
    have f14 := f13.sub (sub_cons (i := 0) rfl (sub_cons (i := 3) rfl (sub_cons (i := 4) rfl (sub_cons (i := 5) rfl sub_nil))))
    clear f13
    refine wp_seq_k fun K5 hK5 => ?_
    refine wp_seq_k fun K6 hK6 => ?_
    refine C.region ?_
    refine L.val f14 wantedN rfl (by decide) (by first | exact E.loadB f14 Try.underlying32 rfl wsz32_e rfl (Bg0) rfl | exact E.loadR f14 Try.underlying32 rfl wsz32_e rfl ((FR.kept0 hW).sl.row (by omega) hAo (dcells_at l k x hx)) rfl) fun a15 f15 => ?_
    clear f14 a13
    refine L.buildSlice f15 wantedN (by decide) (parts1 f15 rfl) Try.underlying24 wzi32_e rfl rfl (wbs24_1_e _ _ _) fun a16 w4 g3 N3 f16 => ?_
    have Bg3 := N3.blk
    have kg3 := N3.kept
    have log3 := N3.lo
    have ltg3 := Bg3.lt
    have szw4 := kg3.size
    have frg3 : w.heap.size ≤ g3 := Nat.le_trans HK.size log3
    have neg0_g3 : g0 ≠ g3 := by have := Bg0.lt; omega
    replace HK := HK.trans kg3 (by simp)
    replace Bg0 := Bg0.kept kg3 (by simp)
    replace FR := FR.kept0 kg3
    clear N3 kg3
    clear f15 a15
    refine L.call f16 wantedN rfl (by decide) (run_call Try.call21 (args1 f16 rfl)) (rightR_any [d] (some ⟨g3, 0, none⟩) 1 w4 (sl_one _ _ d Bg3) (by simp [maxLen])) ?_
    rintro e w5 ⟨kc5, rfl⟩
    refine ⟨_, rfl, fun a17 f17 => ?_⟩
    clear f16 a16
    have szw5 := kc5.size
    replace HK := HK.trans kc5 (by simp)
    replace Bg0 := Bg0.kept kc5 (by simp)
    replace FR := FR.kept0 kc5
    replace Bg3 := Bg3.kept kc5 (by simp)
    clear kc5
    refine L.val f17 wantedN rfl (by decide) (E.not f17 rfl) fun a18 f18 => ?_
    clear f17 a17
    refine L.val f18 wantedN rfl (by decide) (E.move f18 rfl) fun a19 f19 => ?_
    clear f18 a18
    first | refine f19.splitD 16 rfl (fun h1 f20 => ?_) (fun h1 f20 => ?_) | refine f19.splitN 16 rfl (fun h1 f20 => ?_) (fun h1 f20 => ?_) | refine f19.splitNB 16 rfl (fun h1 f20 => ?_) (fun h1 f20 => ?_) | refine f19.split 16 rfl (fun h1 f20 => ?_) (fun h1 f20 => ?_)
    · clear f19
      have hmy := h1
      refine L.skip f20 (f20.noF rfl rfl) rfl (by decide) fun a21 f21 => ?_
      clear f20 a19
      refine L.skip f21 (f21.noF rfl rfl) rfl (by decide) fun a22 f22 => ?_
      clear f21 a21
      refine L.skip f22 (f22.noF rfl rfl) rfl (by decide) fun a23 f23 => ?_
      clear f22 a22
      refine L.val f23 wantedN rfl (by decide) (E.pickT f23 rfl rfl) fun a24 f24 => ?_
      clear f23 a23
      refine wpList_nil (hK6 _ _ ?_)
      try clear hK6 K6
      have f25 := f24.sub (sub_cons (i := 3) rfl (sub_cons (i := 4) rfl (sub_cons (i := 5) rfl (sub_cons (i := 20) rfl sub_nil))))
      clear f24
      refine C.condT f25 rfl ?_
      refine wp_seq_k fun K7 hK7 => ?_
      refine C.region ?_
      refine L.val f25 wantedN rfl (by decide) (E.move f25 rfl) fun a26 f26 => ?_
      clear f25 a24
      refine L.val f26 wantedN rfl (by decide) (E.assign f26 rfl) fun a27 f27 => ?_
      clear f26 a26
      refine wpList_nil (hK7 _ _ ?_)
      try clear hK7 K7
      have f28 := f27.sub (sub_cons (i := 3) rfl (sub_cons (i := 4) rfl (sub_cons (i := 5) rfl sub_nil)))
      clear f27
      refine wp_ret ?_
      try simp only [Exit.inBlock, Exit.then]
      refine C.ret (P := Try.prog) (fn := Try.f25) f28 rfl rfl ?_
      have e : addD l d = l := by unfold addD; rw [if_neg (by simp [hrb]), if_pos (by left; rw [rightB_one] at hmy; exact hmy)]
      rw [e]
      exact ⟨HK, Ao, co, rfl, FR⟩
    · clear f19
      have hmy := h1
      refine L.val f20 (f20.yes rfl rfl) rfl (by decide) (E.move f20 rfl) fun a21 f21 => ?_
      clear f20 a19
      refine L.val f21 (f21.yes rfl rfl) rfl (by decide) (by first | exact E.loadB f21 Try.underlying32 rfl wsz32_e rfl (Bg0) rfl | exact E.loadB f21 Try.underlying32 rfl wsz32_e rfl (Bg3) rfl | exact E.loadR f21 Try.underlying32 rfl wsz32_e rfl ((FR.kept0 hW).sl.row (by omega) hAo (dcells_at l k x hx)) rfl) fun a22 f22 => ?_
      clear f21 a21
      refine L.call f22 (f22.yes rfl rfl) rfl (by decide) (run_call Try.call24 (args2 f22 rfl rfl)) (HasR_any l _ _ _ _ (A1.kept HK) hm) ?_
      rintro e w6 ⟨kc6, rfl⟩
      refine ⟨_, rfl, fun a23 f23 => ?_⟩
      clear f22 a22
      have szw6 := kc6.size
      replace HK := HK.trans kc6 (by simp)
      replace Bg0 := Bg0.kept kc6 (by simp)
      replace FR := FR.kept0 kc6
      replace Bg3 := Bg3.kept kc6 (by simp)
      clear kc6
      refine L.val f23 wantedN rfl (by decide) (E.pickF f23 rfl rfl) fun a24 f24 => ?_
      clear f23 a23
      refine wpList_nil (hK6 _ _ ?_)
      try clear hK6 K6
      have f25 := f24.sub (sub_cons (i := 3) rfl (sub_cons (i := 4) rfl (sub_cons (i := 5) rfl (sub_cons (i := 20) rfl sub_nil))))
      clear f24
      first | refine f25.splitD 20 rfl (fun h2 f26 => ?_) (fun h2 f26 => ?_) | refine f25.splitN 20 rfl (fun h2 f26 => ?_) (fun h2 f26 => ?_) | refine f25.splitNB 20 rfl (fun h2 f26 => ?_) (fun h2 f26 => ?_) | refine f25.split 20 rfl (fun h2 f26 => ?_) (fun h2 f26 => ?_)
      · clear f25
        have hhs := h2
        refine C.condT f26 rfl ?_
        refine wp_seq_k fun K8 hK8 => ?_
        refine C.region ?_
        refine L.val f26 wantedN rfl (by decide) (E.move f26 rfl) fun a27 f27 => ?_
        clear f26 a24
        refine L.val f27 wantedN rfl (by decide) (E.assign f27 rfl) fun a28 f28 => ?_
        clear f27 a27
        refine wpList_nil (hK8 _ _ ?_)
        try clear hK8 K8
        have f29 := f28.sub (sub_cons (i := 3) rfl (sub_cons (i := 4) rfl (sub_cons (i := 5) rfl sub_nil)))
        clear f28
        refine wp_ret ?_
        try simp only [Exit.inBlock, Exit.then]
        refine C.ret (P := Try.prog) (fn := Try.f25) f29 rfl rfl ?_
        have e : addD l d = l := by unfold addD; rw [if_neg (by simp [hrb]), if_pos (by right; exact hhs)]
        rw [e]
        exact ⟨HK, Ao, co, rfl, FR⟩
      · clear f25
        have hhs := h2
        refine C.condF f26 rfl ?_
        refine wp_skip (hK5 _ _ ?_)
        try clear hK5 K5
        have f27 := f26.sub (sub_cons (i := 3) rfl (sub_cons (i := 4) rfl (sub_cons (i := 5) rfl sub_nil)))
        clear f26
        refine wp_seq_k fun K9 hK9 => ?_
        refine C.region ?_
        refine L.val f27 wantedN rfl (by decide) (E.assign f27 rfl) fun a28 f28 => ?_
        clear f27 a24
        refine wpList_nil (hK9 _ _ ?_)
        try clear hK9 K9
        have f29 := f28.sub (sub_cons (i := 3) rfl (sub_cons (i := 4) rfl (sub_cons (i := 5) rfl (sub_cons (i := 6) rfl sub_nil))))
        clear f28
        refine wp_seq_k fun K10 hK10 => ?_
        refine wp_block ?_
        obtain ⟨Ax0, cx0, hov, hov2, hov3⟩ := FR.own.form
        have hco : l.length ≤ co := by injection hov with e1 e2 e3; omega
        refine C.loop (fun gk a W => ∃ k : Nat, k + gk = l.length ∧ Kept [] w W ∧ (∀ x ∈ l.take k, lt2 x d) ∧ Blk W g0 32 (dcell d).toArray ∧ Fresh w W 32 3 Ao l.length co (dcells l) ∧ Fr 67 a [(3, .pointer (some ⟨g0, 0, none⟩)), (5, .slice Ao l.length co), (6, .int .i64 k)]) (l.length) ?_ ?_
        · exact ⟨0, by omega, HK, by simp, Bg0, FR, f29.sub (sub_cons rfl (sub_cons rfl (sub_cons rfl sub_nil)))⟩
        · intro gk12 a30 w7 hI KL11 hKL11
          obtain ⟨k, hk, HK, hq, Bg0, FR, f30⟩ := hI
          try clear f29
          refine wp_seq_k fun K12 hK12 => ?_
          refine wp_seq_k fun K13 hK13 => ?_
          refine R.begin (S := fun W => Kept [] w7 W) (by kernel_rfl) (by exact (Kept.refl _ _).drewN 1) ?_
          have hS7 : Kept [] w7 (w7.drewN 1) := (Kept.refl _ _).drewN 1
          obtain ⟨w8, hww8⟩ : ∃ W, W = w7.drewN 1 := ⟨_, rfl⟩
          rw [← hww8] at hS7 ⊢
          clear hww8
          refine R.take 0 f30 rfl rfl (by decide) (by kernel_rfl) (by kernel_rfl) (by kernel_rfl) (fun _ _ _ _ h => h) wantedN hS7 (fun W hW => (E.move f30 rfl)) fun a31 f31 => ?_
          clear f30 a30
          refine R.take 1 f31 rfl rfl (by decide) (by kernel_rfl) (by kernel_rfl) (by kernel_rfl) (fun _ _ _ _ h => h) wantedN hS7 (fun W hW => (E.move f31 rfl)) fun a32 f32 => ?_
          clear f31 a31
          refine R.take 2 f32 rfl rfl (by decide) (by kernel_rfl) (by kernel_rfl) (by kernel_rfl) (fun _ _ _ _ h => h) wantedN hS7 (fun W hW => (E.lenL f32 Try.underlying24 rfl)) fun a33 f33 => ?_
          clear f32 a32
          refine R.take 3 f33 rfl rfl (by decide) (by kernel_rfl) (by kernel_rfl) (by kernel_rfl) (fun _ _ _ _ h => h) wantedN hS7 (fun W hW => (E.lss f33 rfl rfl)) fun a34 f34 => ?_
          clear f33 a33
          refine R.take 4 f34 rfl rfl (by decide) (by kernel_rfl) (by kernel_rfl) (by kernel_rfl) (fun _ _ _ _ h => h) wantedN hS7 (fun W hW => (E.move f34 rfl)) fun a35 f35 => ?_
          clear f34 a34
          first | refine f35.splitD 26 rfl (fun h3 f36 => ?_) (fun h3 f36 => ?_) | refine f35.splitN 26 rfl (fun h3 f36 => ?_) (fun h3 f36 => ?_) | refine f35.splitNB 26 rfl (fun h3 f36 => ?_) (fun h3 f36 => ?_) | refine f35.split 26 rfl (fun h3 f36 => ?_) (fun h3 f36 => ?_)
          · clear f35
            obtain ⟨x, hx⟩ : ∃ x, l[k]? = some x := ⟨l[k]'(by omega), List.getElem?_eq_getElem _⟩
            obtain ⟨bk, off, hAo⟩ := FR.sl.addr (by omega)
            refine R.take 5 f36 rfl rfl (by decide) (by kernel_rfl) (by kernel_rfl) (by kernel_rfl) (fun _ _ _ _ h => h) (f36.yes rfl rfl) hS7 (fun W hW => (E.move f36 rfl)) fun a37 f37 => ?_
            clear f36 a35
            refine R.take 6 f37 rfl rfl (by decide) (by kernel_rfl) (by kernel_rfl) (by kernel_rfl) (fun _ _ _ _ h => h) (f37.yes rfl rfl) hS7 (fun W hW => (E.move f37 rfl)) fun a38 f38 => ?_
            clear f37 a37
            refine R.take 7 f38 rfl rfl (by decide) (by kernel_rfl) (by kernel_rfl) (by kernel_rfl) (fun _ _ _ _ h => h) (f38.yes rfl rfl) hS7 (fun W hW => (E.indexA f38 (by first | rfl | assumption) Try.underlying24 wsz32_e rfl rfl (by omega) (by omega))) fun a39 f39 => ?_
            clear f38 a38
            refine R.take 8 f39 rfl rfl (by decide) (by kernel_rfl) (by kernel_rfl) (by kernel_rfl) (fun _ _ _ _ h => h) (f39.yes rfl rfl) hS7 (fun W hW => (by first | exact E.loadB f39 Try.underlying32 rfl wsz32_e rfl (Bg0.kept hW (by simp)) rfl | exact E.loadR f39 Try.underlying32 rfl wsz32_e rfl ((FR.kept0 hW).sl.row (by omega) hAo (dcells_at l k x hx)) rfl)) fun a40 f40 => ?_
            clear f39 a39
            refine R.take 9 f40 rfl rfl (by decide) (by kernel_rfl) (by kernel_rfl) (by kernel_rfl) (fun _ _ _ _ h => h) (f40.yes rfl rfl) hS7 (fun W hW => (by first | exact E.loadB f40 Try.underlying32 rfl wsz32_e rfl (Bg0.kept hW (by simp)) rfl | exact E.loadR f40 Try.underlying32 rfl wsz32_e rfl ((FR.kept0 hW).sl.row (by omega) hAo (dcells_at l k x hx)) rfl)) fun a41 f41 => ?_
            clear f40 a40
            refine R.call 10 f41 rfl rfl (by decide) (by kernel_rfl) (f41.yes rfl rfl) (run_call Try.call47 (args2 f41 rfl rfl)) (ahead_any _ _ _) ?_
            rintro e w9 ⟨kc9, rfl⟩
            replace hS7 := hS7.trans kc9 (by simp)
            refine ⟨_, rfl, hS7, fun a42 f42 => ?_⟩
            clear f41 a41
            have szw9 := kc9.size
            clear kc9
            refine R.take 11 f42 rfl rfl (by decide) (by kernel_rfl) (by kernel_rfl) (by kernel_rfl) (fun _ _ _ _ h => h) wantedN hS7 (fun W hW => (E.pickT f42 rfl rfl)) fun a43 f43 => ?_
            clear f42 a42
            have szw9r := hS7.size
            replace HK := HK.trans hS7 (by simp)
            replace Bg0 := Bg0.kept hS7 (by simp)
            replace FR := FR.kept0 hS7
            clear hS7
            refine R.done (by kernel_rfl) (hK13 _ _ ?_)
            try clear hK13 K13
            have f44 := f43.sub (sub_cons (i := 3) rfl (sub_cons (i := 5) rfl (sub_cons (i := 6) rfl (sub_cons (i := 22) rfl (sub_cons (i := 23) rfl (sub_cons (i := 24) rfl (sub_cons (i := 25) rfl (sub_cons (i := 26) rfl (sub_cons (i := 27) rfl (sub_cons (i := 28) rfl (sub_cons (i := 29) rfl (sub_cons (i := 30) rfl (sub_cons (i := 31) rfl (sub_cons (i := 32) rfl (sub_cons (i := 33) rfl sub_nil)))))))))))))))
            clear f43
            first | refine f44.splitD 33 rfl (fun h4 f45 => ?_) (fun h4 f45 => ?_) | refine f44.splitN 33 rfl (fun h4 f45 => ?_) (fun h4 f45 => ?_) | refine f44.splitNB 33 rfl (fun h4 f45 => ?_) (fun h4 f45 => ?_) | refine f44.split 33 rfl (fun h4 f45 => ?_) (fun h4 f45 => ?_)
            · clear f44
              have hlx := h4
              refine C.condT f45 rfl ?_
              refine wp_skip (hK12 _ _ ?_)
              try clear hK12 K12
              have f46 := f45.sub (sub_cons (i := 3) rfl (sub_cons (i := 5) rfl (sub_cons (i := 6) rfl (sub_cons (i := 22) rfl (sub_cons (i := 23) rfl (sub_cons (i := 24) rfl (sub_cons (i := 25) rfl (sub_cons (i := 26) rfl (sub_cons (i := 27) rfl (sub_cons (i := 28) rfl (sub_cons (i := 29) rfl (sub_cons (i := 30) rfl (sub_cons (i := 31) rfl (sub_cons (i := 32) rfl (sub_cons (i := 33) rfl sub_nil)))))))))))))))
              clear f45
              refine wp_block ?_
              refine C.region ?_
              refine L.val f46 wantedN rfl (by decide) (E.move f46 rfl) fun a47 f47 => ?_
              clear f46 a43
              refine L.val f47 wantedN rfl (by decide) (E.add f47 rfl rfl (IntWalk.i64_in _ (by omega))) fun a48 f48 => ?_
              clear f47 a47
              refine L.val f48 wantedN rfl (by decide) (E.assign f48 rfl) fun a49 f49 => ?_
              clear f48 a48
              refine wpList_nil (hKL11 _ _ (gk12 - 1) ?_ ?_)
              · omega
              · exact ⟨k + 1, by omega, HK, in_take hq hx (by simpa using hlx), Bg0, FR, f49.sub (sub_cons rfl (sub_cons rfl (sub_cons rfl sub_nil)))⟩
            · clear f44
              have hlx := h4
              refine C.condF f45 rfl ?_
              refine wp_exit (hK10 _ _ ?_)
              try clear hK10 K10
              have f46 := f45.sub (sub_cons (i := 3) rfl (sub_cons (i := 5) rfl (sub_cons (i := 6) rfl sub_nil)))
              clear f45
              refine wp_seq_k fun K14 hK14 => ?_
              refine wp_seq_k fun K15 hK15 => ?_
              have hend : ∀ y, l[k]? = some y → ¬ lt2 y d := fun y hy => by rw [hx] at hy; cases hy; simpa using hlx
              refine R.begin (S := fun W => Kept [] w9 W) (by kernel_rfl) (by exact (Kept.refl _ _).drewN 1) ?_
              have hS9 : Kept [] w9 (w9.drewN 1) := (Kept.refl _ _).drewN 1
              obtain ⟨w10, hww10⟩ : ∃ W, W = w9.drewN 1 := ⟨_, rfl⟩
              rw [← hww10] at hS9 ⊢
              clear hww10
              refine R.take 0 f46 rfl rfl (by decide) (by kernel_rfl) (by kernel_rfl) (by kernel_rfl) (fun _ _ _ _ h => h) wantedN hS9 (fun W hW => (E.move f46 rfl)) fun a47 f47 => ?_
              clear f46 a43
              refine R.take 1 f47 rfl rfl (by decide) (by kernel_rfl) (by kernel_rfl) (by kernel_rfl) (fun _ _ _ _ h => h) wantedN hS9 (fun W hW => (E.move f47 rfl)) fun a48 f48 => ?_
              clear f47 a47
              refine R.take 2 f48 rfl rfl (by decide) (by kernel_rfl) (by kernel_rfl) (by kernel_rfl) (fun _ _ _ _ h => h) wantedN hS9 (fun W hW => (E.lenL f48 Try.underlying24 rfl)) fun a49 f49 => ?_
              clear f48 a48
              refine R.take 3 f49 rfl rfl (by decide) (by kernel_rfl) (by kernel_rfl) (by kernel_rfl) (fun _ _ _ _ h => h) wantedN hS9 (fun W hW => (E.lss f49 rfl rfl)) fun a50 f50 => ?_
              clear f49 a49
              refine R.take 4 f50 rfl rfl (by decide) (by kernel_rfl) (by kernel_rfl) (by kernel_rfl) (fun _ _ _ _ h => h) wantedN hS9 (fun W hW => (E.move f50 rfl)) fun a51 f51 => ?_
              clear f50 a50
              first | refine f51.splitD 40 rfl (fun h5 f52 => ?_) (fun h5 f52 => ?_) | refine f51.splitN 40 rfl (fun h5 f52 => ?_) (fun h5 f52 => ?_) | refine f51.splitNB 40 rfl (fun h5 f52 => ?_) (fun h5 f52 => ?_) | refine f51.split 40 rfl (fun h5 f52 => ?_) (fun h5 f52 => ?_)
              · clear f51
                obtain ⟨x, hx⟩ : ∃ x, l[k]? = some x := ⟨l[k]'(by omega), List.getElem?_eq_getElem _⟩
                obtain ⟨bk, off, hAo⟩ := FR.sl.addr (by omega)
                have hnx := hend x hx
                refine R.take 5 f52 rfl rfl (by decide) (by kernel_rfl) (by kernel_rfl) (by kernel_rfl) (fun _ _ _ _ h => h) (f52.yes rfl rfl) hS9 (fun W hW => (by first | exact E.loadB f52 Try.underlying32 rfl wsz32_e rfl (Bg0.kept hW (by simp)) rfl | exact E.loadR f52 Try.underlying32 rfl wsz32_e rfl ((FR.kept0 hW).sl.row (by omega) hAo (dcells_at l k x hx)) rfl)) fun a53 f53 => ?_
                clear f52 a51
                refine R.take 6 f53 rfl rfl (by decide) (by kernel_rfl) (by kernel_rfl) (by kernel_rfl) (fun _ _ _ _ h => h) (f53.yes rfl rfl) hS9 (fun W hW => (E.move f53 rfl)) fun a54 f54 => ?_
                clear f53 a53
                refine R.take 7 f54 rfl rfl (by decide) (by kernel_rfl) (by kernel_rfl) (by kernel_rfl) (fun _ _ _ _ h => h) (f54.yes rfl rfl) hS9 (fun W hW => (E.move f54 rfl)) fun a55 f55 => ?_
                clear f54 a54
                refine R.take 8 f55 rfl rfl (by decide) (by kernel_rfl) (by kernel_rfl) (by kernel_rfl) (fun _ _ _ _ h => h) (f55.yes rfl rfl) hS9 (fun W hW => (E.indexA f55 (by first | rfl | assumption) Try.underlying24 wsz32_e rfl rfl (by omega) (by omega))) fun a56 f56 => ?_
                clear f55 a55
                refine R.take 9 f56 rfl rfl (by decide) (by kernel_rfl) (by kernel_rfl) (by kernel_rfl) (fun _ _ _ _ h => h) (f56.yes rfl rfl) hS9 (fun W hW => (by first | exact E.loadB f56 Try.underlying32 rfl wsz32_e rfl (Bg0.kept hW (by simp)) rfl | exact E.loadR f56 Try.underlying32 rfl wsz32_e rfl ((FR.kept0 hW).sl.row (by omega) hAo (dcells_at l k x hx)) rfl)) fun a57 f57 => ?_
                clear f56 a56
                refine R.call 10 f57 rfl rfl (by decide) (by kernel_rfl) (f57.yes rfl rfl) (run_call Try.call47 (args2 f57 rfl rfl)) (ahead_any _ _ _) ?_
                rintro e w11 ⟨kc11, rfl⟩
                replace hS9 := hS9.trans kc11 (by simp)
                refine ⟨_, rfl, hS9, fun a58 f58 => ?_⟩
                clear f57 a57
                have szw11 := kc11.size
                clear kc11
                refine R.take 11 f58 rfl rfl (by decide) (by kernel_rfl) (by kernel_rfl) (by kernel_rfl) (fun _ _ _ _ h => h) (f58.yes rfl rfl) hS9 (fun W hW => (E.not f58 rfl)) fun a59 f59 => ?_
                clear f58 a58
                refine R.take 12 f59 rfl rfl (by decide) (by kernel_rfl) (by kernel_rfl) (by kernel_rfl) (fun _ _ _ _ h => h) wantedN hS9 (fun W hW => (E.pickT f59 rfl rfl)) fun a60 f60 => ?_
                clear f59 a59
                have szw11r := hS9.size
                replace HK := HK.trans hS9 (by simp)
                replace Bg0 := Bg0.kept hS9 (by simp)
                replace FR := FR.kept0 hS9
                clear hS9
                refine R.done (by kernel_rfl) (hK15 _ _ ?_)
                try clear hK15 K15
                have f61 := f60.sub (sub_cons (i := 3) rfl (sub_cons (i := 5) rfl (sub_cons (i := 6) rfl (sub_cons (i := 48) rfl sub_nil))))
                clear f60
                first | refine f61.splitD 48 rfl (fun h6 f62 => ?_) (fun h6 f62 => ?_) | refine f61.splitN 48 rfl (fun h6 f62 => ?_) (fun h6 f62 => ?_) | refine f61.splitNB 48 rfl (fun h6 f62 => ?_) (fun h6 f62 => ?_) | refine f61.split 48 rfl (fun h6 f62 => ?_) (fun h6 f62 => ?_)
                · clear f61
                  have hdx := h6
                  refine C.condT f62 rfl ?_
                  refine wp_seq_k fun K16 hK16 => ?_
                  refine C.region ?_
                  refine L.val f62 wantedN rfl (by decide) (E.move f62 rfl) fun a63 f63 => ?_
                  clear f62 a60
                  refine L.val f63 wantedN rfl (by decide) (E.move f63 rfl) fun a64 f64 => ?_
                  clear f63 a63
                  refine L.val f64 wantedN rfl (by decide) (E.fieldAddr f64 Try.underlying32 rfl rfl wsz3_e) fun a65 f65 => ?_
                  clear f64 a64
                  refine L.val f65 wantedN rfl (by decide) (by exact E.load f65 Try.underlying3 rfl rfl ((Bg0).cl rfl)) fun a66 f66 => ?_
                  clear f65 a65
                  refine L.val f66 wantedN rfl (by decide) (E.indexA f66 (by first | rfl | assumption) Try.underlying24 wsz32_e rfl rfl (by omega) (by omega)) fun a67 f67 => ?_
                  clear f66 a66
                  refine L.val f67 wantedN rfl (by decide) (E.fieldAddr f67 Try.underlying32 rfl rfl wsz3_e) fun a68 f68 => ?_
                  clear f67 a67
                  refine L.storeF f68 wantedN wsz3_e hAo FR (j := k * 3 + 2) rfl (by rw [dcells_len]; omega) rfl rfl fun a69 w12 f69 FS ks loS => ?_
                  clear f68 a68
                  have FS2 : Fresh w w12 32 3 Ao l.length co ((dcells l).set (k * 3 + 2) (.int .i64 d.n)) := FS
                  rw [dcells_set l k x d.n hx] at FS2
                  replace HK := HK.trans ks (by intro x hx hlt; simp at hx; subst hx; exfalso; omega)
                  refine wpList_nil (hK16 _ _ ?_)
                  try clear hK16 K16
                  have f70 := f69.sub (sub_cons (i := 3) rfl (sub_cons (i := 5) rfl (sub_cons (i := 6) rfl sub_nil)))
                  clear f69
                  refine wp_seq_k fun K17 hK17 => ?_
                  refine C.region ?_
                  refine L.val f70 wantedN rfl (by decide) (E.move f70 rfl) fun a71 f71 => ?_
                  clear f70 a69
                  refine L.val f71 wantedN rfl (by decide) (E.assign f71 rfl) fun a72 f72 => ?_
                  clear f71 a71
                  refine wpList_nil (hK17 _ _ ?_)
                  try clear hK17 K17
                  have f73 := f72.sub (sub_cons (i := 3) rfl (sub_cons (i := 4) rfl (sub_cons (i := 5) rfl (sub_cons (i := 6) rfl sub_nil))))
                  clear f72
                  refine wp_ret ?_
                  try simp only [Exit.inBlock, Exit.then]
                  refine C.ret (P := Try.prog) (fn := Try.f25) f73 rfl rfl ?_
                  have hnm : ¬ (mayB d = false ∨ hasB l d = true) := by rw [rightB_one] at hmy; simp [hmy, hhs]
                  have e0 : addD l d = insD l d := by unfold addD; rw [if_neg (by simp [hrb]), if_neg hnm]
                  have e1 := insD_at l d k hq hend (by omega)
                  have e : addD l d = l.set k { x with n := d.n } := by rw [e0, e1, hx]; simp only; rw [if_neg (by simpa using hdx)]
                  have el : (l.set k { x with n := d.n }).length = l.length := List.length_set
                  refine ⟨HK, Ao, co, by rw [e, el], ?_⟩
                  rw [e, el]
                  exact FS2
                · clear f61
                  have hdx := h6
                  refine C.condF f62 rfl ?_
                  refine wp_skip (hK14 _ _ ?_)
                  try clear hK14 K14
                  have f63 := f62.sub (sub_cons (i := 3) rfl (sub_cons (i := 5) rfl (sub_cons (i := 6) rfl sub_nil)))
                  clear f62
                  refine wp_seq_k fun K18 hK18 => ?_
                  refine R.begin (S := fun W => Kept [] w11 W) (by kernel_rfl) (by exact (Kept.refl _ _).drewN 1) ?_
                  have hS12 : Kept [] w11 (w11.drewN 1) := (Kept.refl _ _).drewN 1
                  obtain ⟨w12, hww12⟩ : ∃ W, W = w11.drewN 1 := ⟨_, rfl⟩
                  rw [← hww12] at hS12 ⊢
                  clear hww12
                  refine R.take 0 f63 rfl rfl (by decide) (by kernel_rfl) (by kernel_rfl) (by kernel_rfl) (fun _ _ _ _ h => h) wantedN hS12 (fun W hW => (E.move f63 rfl)) fun a64 f64 => ?_
                  clear f63 a60
                  refine R.take 1 f64 rfl rfl (by decide) (by kernel_rfl) (by kernel_rfl) (by kernel_rfl) (fun _ _ _ _ h => h) wantedN hS12 (fun W hW => (E.move f64 rfl)) fun a65 f65 => ?_
                  clear f64 a64
                  refine R.take 2 f65 rfl rfl (by decide) (by kernel_rfl) (by kernel_rfl) (by kernel_rfl) (fun _ _ _ _ h => h) wantedN hS12 (fun W hW => (E.slLhi f65 Try.underlying24 wsz32_e rfl rfl (by omega) (by omega) )) fun a66 f66 => ?_
                  clear f65 a65
                  refine R.take 4 f66 rfl rfl (by decide) (by kernel_rfl) (by kernel_rfl) (by kernel_rfl) (fun _ _ _ _ h => h) wantedN hS12 (fun W hW => (by first | exact E.loadB f66 Try.underlying32 rfl wsz32_e rfl (Bg0.kept hW (by simp)) rfl | exact E.loadR f66 Try.underlying32 rfl wsz32_e rfl ((FR.kept0 hW).sl.row (by omega) hAo (dcells_at l k x hx)) rfl)) fun a67 f67 => ?_
                  clear f66 a66
                  refine R.take 7 f67 rfl rfl (by decide) (by kernel_rfl) (by kernel_rfl) (by kernel_rfl) (fun _ _ _ _ h => h) wantedN hS12 (fun W hW => (E.move f67 rfl)) fun a68 f68 => ?_
                  clear f67 a67
                  refine R.take 8 f68 rfl rfl (by decide) (by kernel_rfl) (by kernel_rfl) (by kernel_rfl) (fun _ _ _ _ h => h) wantedN hS12 (fun W hW => (E.move f68 rfl)) fun a69 f69 => ?_
                  clear f68 a68
                  refine R.take 9 f69 rfl rfl (by decide) (by kernel_rfl) (by kernel_rfl) (by kernel_rfl) (fun _ _ _ _ h => h) wantedN hS12 (fun W hW => (E.slLlo f69 Try.underlying24 wsz32_e rfl rfl (by omega) (by omega) )) fun a70 f70 => ?_
                  clear f69 a69
                  refine R.two 3 5 (by kernel_rfl) ?_ ?_
                  · skip
                    refine O.append f70 rfl wantedN (by decide) Try.underlying24 wzib32_e rfl rfl rfl rfl (Own.nil _ _ _) (Sl.of_own ((FR.kept0 hS12).own.head (k := k) (by omega))) (fun u hu => dcells_one l u (List.mem_of_mem_take hu)) (by unfold maxLen; omega) (by omega) fun a71 w13 Ax cx AP13 => ?_
                    have kap13 : Kept [] w12 w13 := by simpa [Value.ownBlock] using AP13.kept
                    have FX : Fresh w w13 32 3 Ax (0 + k) cx ([] ++ (dcells l).take (k * 3)) := AP13.next (Fresh.nil w w12 32 3) (Nat.le_trans HK.size hS12.size)
                    have FXr : Fresh w11 w13 32 3 Ax (0 + k) cx ([] ++ (dcells l).take (k * 3)) := AP13.next (Fresh.nil w11 w12 32 3) hS12.size
                    have hSn := hS12.trans kap13 (by simp)
                    refine ⟨hSn, fun f71 => ?_⟩
                    clear f70
                    have szw13 := kap13.size
                    clear kap13
                    replace hS12 := hSn
                    clear hSn
                    refine R.one 5 (by kernel_rfl) ?_
                    refine O.buildSlice f71 rfl wantedN (by decide) (parts1 f71 rfl) Try.underlying24 wzi32_e rfl rfl (wbs24_1_e _ _ _) (fun _ hk => hS12.trans hk (by simp)) fun a72 w14 g13 N13 hSn f72 => ?_
                    clear f71 a71
                    have Bg13 := N13.blk
                    have kg13 := N13.kept
                    have log13 := N13.lo
                    have ltg13 := Bg13.lt
                    have szw14 := kg13.size
                    have szSw14 := hS12.size
                    replace FX := FX.kept0 kg13
                    replace FXr := FXr.kept0 kg13
                    clear N13 kg13
                    replace hS12 := hSn
                    clear hSn
                    refine R.one 6 (by kernel_rfl) ?_
                    refine O.append f72 rfl wantedN (by decide) Try.underlying24 wzib32_e rfl rfl rfl rfl (FX.own) (sl_one w14 g13 d Bg13) (fun u hu => dcells_one [d] u hu) (by unfold maxLen; omega) (by omega) fun a73 w15 Ay cy AP15 => ?_
                    have hSn := AP15.grow FXr hS12
                    have FY := AP15.next FX (Nat.le_trans HK.size hS12.size)
                    have FYr := AP15.next FXr hS12.size
                    refine ⟨hSn, fun f73 => ?_⟩
                    clear f72
                    have szw15 := AP15.kept.size
                    replace hS12 := hSn
                    clear hSn
                    refine R.one 10 (by kernel_rfl) ?_
                    refine O.append f73 rfl wantedN (by decide) Try.underlying24 wzib32_e rfl rfl rfl rfl (FY.own) (Sl.of_own ((FR.kept0 hS12).own.cut (k := k) (by omega))) (fun u hu => dcells_one l u (List.mem_of_mem_drop hu)) (by unfold maxLen; omega) (by omega) fun a74 w16 Az cz AP16 => ?_
                    have hSn := AP16.grow FYr hS12
                    have FZ := AP16.next FY (Nat.le_trans HK.size hS12.size)
                    refine ⟨hSn, fun f74 => ?_⟩
                    clear f73
                    have szw16 := AP16.kept.size
                    replace hS12 := hSn
                    clear hSn
                    refine R.take 11 f74 rfl rfl (by decide) (by kernel_rfl) (by kernel_rfl) (by kernel_rfl) (fun _ _ _ _ h => h) wantedN hS12 (fun W hW => (E.assign f74 rfl)) fun a75 f75 => ?_
                    clear f74 a74
                    have szw16r := hS12.size
                    replace HK := HK.trans hS12 (by simp)
                    replace Bg0 := Bg0.kept hS12 (by simp)
                    replace FR := FR.kept0 hS12
                    clear hS12
                    refine R.done (by kernel_rfl) (hK18 _ _ ?_)
                    try clear hK18 K18
                    have f76 := f75.sub (sub_cons (i := 4) rfl sub_nil)
                    clear f75
                    refine wp_ret ?_
                    try simp only [Exit.inBlock, Exit.then]
                    refine C.ret (P := Try.prog) (fn := Try.f25) f76 rfl rfl ?_
                    have hnm : ¬ (mayB d = false ∨ hasB l d = true) := by rw [rightB_one] at hmy; simp [hmy, hhs]
                    have e0 : addD l d = insD l d := by unfold addD; rw [if_neg (by simp [hrb]), if_neg hnm]
                    have e1 := insD_at l d k hq hend (by omega)
                    have e : addD l d = l.take k ++ d :: l.drop k := by rw [e0, e1, hx]; simp only; rw [if_pos (by simpa using hdx)]
                    have el : (addD l d).length = 0 + k + 1 + (l.length - k) := by rw [e]; simp; omega
                    refine ⟨HK, Az, cz, by rw [el]; rfl, ?_⟩
                    rw [el, e]
                    have ed : dcells (l.take k ++ d :: l.drop k) = [] ++ (dcells l).take (k * 3) ++ dcells [d] ++ (dcells l).drop (k * 3) := by rw [dcells_take, dcells_drop]; simp [dcells]
                    rw [ed]
                    exact FZ
                  · skip
                    refine O.buildSlice f70 rfl wantedN (by decide) (parts1 f70 rfl) Try.underlying24 wzi32_e rfl rfl (wbs24_1_e _ _ _) (fun _ hk => hS12.trans hk (by simp)) fun a71 w13 g12 N12 hSn f71 => ?_
                    clear f70 a70
                    have Bg12 := N12.blk
                    have kg12 := N12.kept
                    have log12 := N12.lo
                    have ltg12 := Bg12.lt
                    have szw13 := kg12.size
                    have szSw13 := hS12.size
                    clear N12 kg12
                    replace hS12 := hSn
                    clear hSn
                    refine R.one 3 (by kernel_rfl) ?_
                    refine O.append f71 rfl wantedN (by decide) Try.underlying24 wzib32_e rfl rfl rfl rfl (Own.nil _ _ _) (Sl.of_own ((FR.kept0 hS12).own.head (k := k) (by omega))) (fun u hu => dcells_one l u (List.mem_of_mem_take hu)) (by unfold maxLen; omega) (by omega) fun a72 w14 Ax cx AP14 => ?_
                    have kap14 : Kept [] w13 w14 := by simpa [Value.ownBlock] using AP14.kept
                    have FX : Fresh w w14 32 3 Ax (0 + k) cx ([] ++ (dcells l).take (k * 3)) := AP14.next (Fresh.nil w w13 32 3) (Nat.le_trans HK.size hS12.size)
                    have FXr : Fresh w11 w14 32 3 Ax (0 + k) cx ([] ++ (dcells l).take (k * 3)) := AP14.next (Fresh.nil w11 w13 32 3) hS12.size
                    have hSn := hS12.trans kap14 (by simp)
                    refine ⟨hSn, fun f72 => ?_⟩
                    clear f71
                    have szw14 := kap14.size
                    replace Bg12 := Bg12.kept kap14 (by simp)
                    clear kap14
                    replace hS12 := hSn
                    clear hSn
                    refine R.one 6 (by kernel_rfl) ?_
                    refine O.append f72 rfl wantedN (by decide) Try.underlying24 wzib32_e rfl rfl rfl rfl (FX.own) (sl_one w14 g12 d Bg12) (fun u hu => dcells_one [d] u hu) (by unfold maxLen; omega) (by omega) fun a73 w15 Ay cy AP15 => ?_
                    have hSn := AP15.grow FXr hS12
                    have FY := AP15.next FX (Nat.le_trans HK.size hS12.size)
                    have FYr := AP15.next FXr hS12.size
                    refine ⟨hSn, fun f73 => ?_⟩
                    clear f72
                    have szw15 := AP15.kept.size
                    replace hS12 := hSn
                    clear hSn
                    refine R.one 10 (by kernel_rfl) ?_
                    refine O.append f73 rfl wantedN (by decide) Try.underlying24 wzib32_e rfl rfl rfl rfl (FY.own) (Sl.of_own ((FR.kept0 hS12).own.cut (k := k) (by omega))) (fun u hu => dcells_one l u (List.mem_of_mem_drop hu)) (by unfold maxLen; omega) (by omega) fun a74 w16 Az cz AP16 => ?_
                    have hSn := AP16.grow FYr hS12
                    have FZ := AP16.next FY (Nat.le_trans HK.size hS12.size)
                    refine ⟨hSn, fun f74 => ?_⟩
                    clear f73
                    have szw16 := AP16.kept.size
                    replace hS12 := hSn
                    clear hSn
                    refine R.take 11 f74 rfl rfl (by decide) (by kernel_rfl) (by kernel_rfl) (by kernel_rfl) (fun _ _ _ _ h => h) wantedN hS12 (fun W hW => (E.assign f74 rfl)) fun a75 f75 => ?_
                    clear f74 a74
                    have szw16r := hS12.size
                    replace HK := HK.trans hS12 (by simp)
                    replace Bg0 := Bg0.kept hS12 (by simp)
                    replace FR := FR.kept0 hS12
                    clear hS12
                    refine R.done (by kernel_rfl) (hK18 _ _ ?_)
                    try clear hK18 K18
                    have f76 := f75.sub (sub_cons (i := 4) rfl sub_nil)
                    clear f75
                    refine wp_ret ?_
                    try simp only [Exit.inBlock, Exit.then]
                    refine C.ret (P := Try.prog) (fn := Try.f25) f76 rfl rfl ?_
                    have hnm : ¬ (mayB d = false ∨ hasB l d = true) := by rw [rightB_one] at hmy; simp [hmy, hhs]
                    have e0 : addD l d = insD l d := by unfold addD; rw [if_neg (by simp [hrb]), if_neg hnm]
                    have e1 := insD_at l d k hq hend (by omega)
                    have e : addD l d = l.take k ++ d :: l.drop k := by rw [e0, e1, hx]; simp only; rw [if_pos (by simpa using hdx)]
                    have el : (addD l d).length = 0 + k + 1 + (l.length - k) := by rw [e]; simp; omega
                    refine ⟨HK, Az, cz, by rw [el]; rfl, ?_⟩
                    rw [el, e]
                    have ed : dcells (l.take k ++ d :: l.drop k) = [] ++ (dcells l).take (k * 3) ++ dcells [d] ++ (dcells l).drop (k * 3) := by rw [dcells_take, dcells_drop]; simp [dcells]
                    rw [ed]
                    exact FZ
              · clear f51
                have hx : l[k]? = none := List.getElem?_eq_none (by omega)
                refine R.takeSkip 5 f52 rfl rfl (by decide) (by kernel_rfl) (by kernel_rfl) (by kernel_rfl) (fun _ _ _ _ h => h) (f52.noT rfl rfl) hS9 fun a53 f53 => ?_
                clear f52 a51
                refine R.takeSkip 6 f53 rfl rfl (by decide) (by kernel_rfl) (by kernel_rfl) (by kernel_rfl) (fun _ _ _ _ h => h) (f53.noT rfl rfl) hS9 fun a54 f54 => ?_
                clear f53 a53
                refine R.takeSkip 7 f54 rfl rfl (by decide) (by kernel_rfl) (by kernel_rfl) (by kernel_rfl) (fun _ _ _ _ h => h) (f54.noT rfl rfl) hS9 fun a55 f55 => ?_
                clear f54 a54
                refine R.takeSkip 8 f55 rfl rfl (by decide) (by kernel_rfl) (by kernel_rfl) (by kernel_rfl) (fun _ _ _ _ h => h) (f55.noT rfl rfl) hS9 fun a56 f56 => ?_
                clear f55 a55
                refine R.takeSkip 9 f56 rfl rfl (by decide) (by kernel_rfl) (by kernel_rfl) (by kernel_rfl) (fun _ _ _ _ h => h) (f56.noT rfl rfl) hS9 fun a57 f57 => ?_
                clear f56 a56
                refine R.takeSkip 10 f57 rfl rfl (by decide) (by kernel_rfl) (by kernel_rfl) (by kernel_rfl) (fun _ _ _ _ h => h) (f57.noT rfl rfl) hS9 fun a58 f58 => ?_
                clear f57 a57
                refine R.takeSkip 11 f58 rfl rfl (by decide) (by kernel_rfl) (by kernel_rfl) (by kernel_rfl) (fun _ _ _ _ h => h) (f58.noT rfl rfl) hS9 fun a59 f59 => ?_
                clear f58 a58
                refine R.take 12 f59 rfl rfl (by decide) (by kernel_rfl) (by kernel_rfl) (by kernel_rfl) (fun _ _ _ _ h => h) wantedN hS9 (fun W hW => (E.pickF f59 rfl rfl)) fun a60 f60 => ?_
                clear f59 a59
                have szw10r := hS9.size
                replace HK := HK.trans hS9 (by simp)
                replace Bg0 := Bg0.kept hS9 (by simp)
                replace FR := FR.kept0 hS9
                clear hS9
                refine R.done (by kernel_rfl) (hK15 _ _ ?_)
                try clear hK15 K15
                have f61 := f60.sub (sub_cons (i := 3) rfl (sub_cons (i := 5) rfl (sub_cons (i := 6) rfl (sub_cons (i := 48) rfl sub_nil))))
                clear f60
                refine C.condF f61 rfl ?_
                refine wp_skip (hK14 _ _ ?_)
                try clear hK14 K14
                have f62 := f61.sub (sub_cons (i := 3) rfl (sub_cons (i := 5) rfl (sub_cons (i := 6) rfl sub_nil)))
                clear f61
                refine wp_seq_k fun K19 hK19 => ?_
                refine R.begin (S := fun W => Kept [] w10 W) (by kernel_rfl) (by exact (Kept.refl _ _).drewN 1) ?_
                have hS12 : Kept [] w10 (w10.drewN 1) := (Kept.refl _ _).drewN 1
                obtain ⟨w11, hww11⟩ : ∃ W, W = w10.drewN 1 := ⟨_, rfl⟩
                rw [← hww11] at hS12 ⊢
                clear hww11
                refine R.take 0 f62 rfl rfl (by decide) (by kernel_rfl) (by kernel_rfl) (by kernel_rfl) (fun _ _ _ _ h => h) wantedN hS12 (fun W hW => (E.move f62 rfl)) fun a63 f63 => ?_
                clear f62 a60
                refine R.take 1 f63 rfl rfl (by decide) (by kernel_rfl) (by kernel_rfl) (by kernel_rfl) (fun _ _ _ _ h => h) wantedN hS12 (fun W hW => (E.move f63 rfl)) fun a64 f64 => ?_
                clear f63 a63
                refine R.take 2 f64 rfl rfl (by decide) (by kernel_rfl) (by kernel_rfl) (by kernel_rfl) (fun _ _ _ _ h => h) wantedN hS12 (fun W hW => (E.slLhi f64 Try.underlying24 wsz32_e rfl rfl (by omega) (by omega) )) fun a65 f65 => ?_
                clear f64 a64
                refine R.take 4 f65 rfl rfl (by decide) (by kernel_rfl) (by kernel_rfl) (by kernel_rfl) (fun _ _ _ _ h => h) wantedN hS12 (fun W hW => (by first | exact E.loadB f65 Try.underlying32 rfl wsz32_e rfl (Bg0.kept hW (by simp)) rfl | exact E.loadR f65 Try.underlying32 rfl wsz32_e rfl ((FR.kept0 hW).sl.row (by omega) hAo (dcells_at l k x hx)) rfl)) fun a66 f66 => ?_
                clear f65 a65
                refine R.take 7 f66 rfl rfl (by decide) (by kernel_rfl) (by kernel_rfl) (by kernel_rfl) (fun _ _ _ _ h => h) wantedN hS12 (fun W hW => (E.move f66 rfl)) fun a67 f67 => ?_
                clear f66 a66
                refine R.take 8 f67 rfl rfl (by decide) (by kernel_rfl) (by kernel_rfl) (by kernel_rfl) (fun _ _ _ _ h => h) wantedN hS12 (fun W hW => (E.move f67 rfl)) fun a68 f68 => ?_
                clear f67 a67
                refine R.take 9 f68 rfl rfl (by decide) (by kernel_rfl) (by kernel_rfl) (by kernel_rfl) (fun _ _ _ _ h => h) wantedN hS12 (fun W hW => (E.slLlo f68 Try.underlying24 wsz32_e rfl rfl (by omega) (by omega) )) fun a69 f69 => ?_
                clear f68 a68
                refine R.two 3 5 (by kernel_rfl) ?_ ?_
                · skip
                  refine O.append f69 rfl wantedN (by decide) Try.underlying24 wzib32_e rfl rfl rfl rfl (Own.nil _ _ _) (Sl.of_own ((FR.kept0 hS12).own.head (k := k) (by omega))) (fun u hu => dcells_one l u (List.mem_of_mem_take hu)) (by unfold maxLen; omega) (by omega) fun a70 w12 Ax cx AP12 => ?_
                  have kap12 : Kept [] w11 w12 := by simpa [Value.ownBlock] using AP12.kept
                  have FX : Fresh w w12 32 3 Ax (0 + k) cx ([] ++ (dcells l).take (k * 3)) := AP12.next (Fresh.nil w w11 32 3) (Nat.le_trans HK.size hS12.size)
                  have FXr : Fresh w10 w12 32 3 Ax (0 + k) cx ([] ++ (dcells l).take (k * 3)) := AP12.next (Fresh.nil w10 w11 32 3) hS12.size
                  have hSn := hS12.trans kap12 (by simp)
                  refine ⟨hSn, fun f70 => ?_⟩
                  clear f69
                  have szw12 := kap12.size
                  clear kap12
                  replace hS12 := hSn
                  clear hSn
                  refine R.one 5 (by kernel_rfl) ?_
                  refine O.buildSlice f70 rfl wantedN (by decide) (parts1 f70 rfl) Try.underlying24 wzi32_e rfl rfl (wbs24_1_e _ _ _) (fun _ hk => hS12.trans hk (by simp)) fun a71 w13 g12 N12 hSn f71 => ?_
                  clear f70 a70
                  have Bg12 := N12.blk
                  have kg12 := N12.kept
                  have log12 := N12.lo
                  have ltg12 := Bg12.lt
                  have szw13 := kg12.size
                  have szSw13 := hS12.size
                  replace FX := FX.kept0 kg12
                  replace FXr := FXr.kept0 kg12
                  clear N12 kg12
                  replace hS12 := hSn
                  clear hSn
                  refine R.one 6 (by kernel_rfl) ?_
                  refine O.append f71 rfl wantedN (by decide) Try.underlying24 wzib32_e rfl rfl rfl rfl (FX.own) (sl_one w13 g12 d Bg12) (fun u hu => dcells_one [d] u hu) (by unfold maxLen; omega) (by omega) fun a72 w14 Ay cy AP14 => ?_
                  have hSn := AP14.grow FXr hS12
                  have FY := AP14.next FX (Nat.le_trans HK.size hS12.size)
                  have FYr := AP14.next FXr hS12.size
                  refine ⟨hSn, fun f72 => ?_⟩
                  clear f71
                  have szw14 := AP14.kept.size
                  replace hS12 := hSn
                  clear hSn
                  refine R.one 10 (by kernel_rfl) ?_
                  refine O.append f72 rfl wantedN (by decide) Try.underlying24 wzib32_e rfl rfl rfl rfl (FY.own) (Sl.of_own ((FR.kept0 hS12).own.cut (k := k) (by omega))) (fun u hu => dcells_one l u (List.mem_of_mem_drop hu)) (by unfold maxLen; omega) (by omega) fun a73 w15 Az cz AP15 => ?_
                  have hSn := AP15.grow FYr hS12
                  have FZ := AP15.next FY (Nat.le_trans HK.size hS12.size)
                  refine ⟨hSn, fun f73 => ?_⟩
                  clear f72
                  have szw15 := AP15.kept.size
                  replace hS12 := hSn
                  clear hSn
                  refine R.take 11 f73 rfl rfl (by decide) (by kernel_rfl) (by kernel_rfl) (by kernel_rfl) (fun _ _ _ _ h => h) wantedN hS12 (fun W hW => (E.assign f73 rfl)) fun a74 f74 => ?_
                  clear f73 a73
                  have szw15r := hS12.size
                  replace HK := HK.trans hS12 (by simp)
                  replace Bg0 := Bg0.kept hS12 (by simp)
                  replace FR := FR.kept0 hS12
                  clear hS12
                  refine R.done (by kernel_rfl) (hK19 _ _ ?_)
                  try clear hK19 K19
                  have f75 := f74.sub (sub_cons (i := 4) rfl sub_nil)
                  clear f74
                  refine wp_ret ?_
                  try simp only [Exit.inBlock, Exit.then]
                  refine C.ret (P := Try.prog) (fn := Try.f25) f75 rfl rfl ?_
                  have hnm : ¬ (mayB d = false ∨ hasB l d = true) := by rw [rightB_one] at hmy; simp [hmy, hhs]
                  have e0 : addD l d = insD l d := by unfold addD; rw [if_neg (by simp [hrb]), if_neg hnm]
                  have e1 := insD_at l d k hq hend (by omega)
                  have e : addD l d = l.take k ++ d :: l.drop k := by rw [e0, e1, hx]; simp only; rw [List.take_of_length_le (by omega), List.drop_eq_nil_of_le (by omega)]
                  have el : (addD l d).length = 0 + k + 1 + (l.length - k) := by rw [e]; simp; omega
                  refine ⟨HK, Az, cz, by rw [el]; rfl, ?_⟩
                  rw [el, e]
                  have ed : dcells (l.take k ++ d :: l.drop k) = [] ++ (dcells l).take (k * 3) ++ dcells [d] ++ (dcells l).drop (k * 3) := by rw [dcells_take, dcells_drop]; simp [dcells]
                  rw [ed]
                  exact FZ
                · skip
                  refine O.buildSlice f69 rfl wantedN (by decide) (parts1 f69 rfl) Try.underlying24 wzi32_e rfl rfl (wbs24_1_e _ _ _) (fun _ hk => hS12.trans hk (by simp)) fun a70 w12 g11 N11 hSn f70 => ?_
                  clear f69 a69
                  have Bg11 := N11.blk
                  have kg11 := N11.kept
                  have log11 := N11.lo
                  have ltg11 := Bg11.lt
                  have szw12 := kg11.size
                  have szSw12 := hS12.size
                  clear N11 kg11
                  replace hS12 := hSn
                  clear hSn
                  refine R.one 3 (by kernel_rfl) ?_
                  refine O.append f70 rfl wantedN (by decide) Try.underlying24 wzib32_e rfl rfl rfl rfl (Own.nil _ _ _) (Sl.of_own ((FR.kept0 hS12).own.head (k := k) (by omega))) (fun u hu => dcells_one l u (List.mem_of_mem_take hu)) (by unfold maxLen; omega) (by omega) fun a71 w13 Ax cx AP13 => ?_
                  have kap13 : Kept [] w12 w13 := by simpa [Value.ownBlock] using AP13.kept
                  have FX : Fresh w w13 32 3 Ax (0 + k) cx ([] ++ (dcells l).take (k * 3)) := AP13.next (Fresh.nil w w12 32 3) (Nat.le_trans HK.size hS12.size)
                  have FXr : Fresh w10 w13 32 3 Ax (0 + k) cx ([] ++ (dcells l).take (k * 3)) := AP13.next (Fresh.nil w10 w12 32 3) hS12.size
                  have hSn := hS12.trans kap13 (by simp)
                  refine ⟨hSn, fun f71 => ?_⟩
                  clear f70
                  have szw13 := kap13.size
                  replace Bg11 := Bg11.kept kap13 (by simp)
                  clear kap13
                  replace hS12 := hSn
                  clear hSn
                  refine R.one 6 (by kernel_rfl) ?_
                  refine O.append f71 rfl wantedN (by decide) Try.underlying24 wzib32_e rfl rfl rfl rfl (FX.own) (sl_one w13 g11 d Bg11) (fun u hu => dcells_one [d] u hu) (by unfold maxLen; omega) (by omega) fun a72 w14 Ay cy AP14 => ?_
                  have hSn := AP14.grow FXr hS12
                  have FY := AP14.next FX (Nat.le_trans HK.size hS12.size)
                  have FYr := AP14.next FXr hS12.size
                  refine ⟨hSn, fun f72 => ?_⟩
                  clear f71
                  have szw14 := AP14.kept.size
                  replace hS12 := hSn
                  clear hSn
                  refine R.one 10 (by kernel_rfl) ?_
                  refine O.append f72 rfl wantedN (by decide) Try.underlying24 wzib32_e rfl rfl rfl rfl (FY.own) (Sl.of_own ((FR.kept0 hS12).own.cut (k := k) (by omega))) (fun u hu => dcells_one l u (List.mem_of_mem_drop hu)) (by unfold maxLen; omega) (by omega) fun a73 w15 Az cz AP15 => ?_
                  have hSn := AP15.grow FYr hS12
                  have FZ := AP15.next FY (Nat.le_trans HK.size hS12.size)
                  refine ⟨hSn, fun f73 => ?_⟩
                  clear f72
                  have szw15 := AP15.kept.size
                  replace hS12 := hSn
                  clear hSn
                  refine R.take 11 f73 rfl rfl (by decide) (by kernel_rfl) (by kernel_rfl) (by kernel_rfl) (fun _ _ _ _ h => h) wantedN hS12 (fun W hW => (E.assign f73 rfl)) fun a74 f74 => ?_
                  clear f73 a73
                  have szw15r := hS12.size
                  replace HK := HK.trans hS12 (by simp)
                  replace Bg0 := Bg0.kept hS12 (by simp)
                  replace FR := FR.kept0 hS12
                  clear hS12
                  refine R.done (by kernel_rfl) (hK19 _ _ ?_)
                  try clear hK19 K19
                  have f75 := f74.sub (sub_cons (i := 4) rfl sub_nil)
                  clear f74
                  refine wp_ret ?_
                  try simp only [Exit.inBlock, Exit.then]
                  refine C.ret (P := Try.prog) (fn := Try.f25) f75 rfl rfl ?_
                  have hnm : ¬ (mayB d = false ∨ hasB l d = true) := by rw [rightB_one] at hmy; simp [hmy, hhs]
                  have e0 : addD l d = insD l d := by unfold addD; rw [if_neg (by simp [hrb]), if_neg hnm]
                  have e1 := insD_at l d k hq hend (by omega)
                  have e : addD l d = l.take k ++ d :: l.drop k := by rw [e0, e1, hx]; simp only; rw [List.take_of_length_le (by omega), List.drop_eq_nil_of_le (by omega)]
                  have el : (addD l d).length = 0 + k + 1 + (l.length - k) := by rw [e]; simp; omega
                  refine ⟨HK, Az, cz, by rw [el]; rfl, ?_⟩
                  rw [el, e]
                  have ed : dcells (l.take k ++ d :: l.drop k) = [] ++ (dcells l).take (k * 3) ++ dcells [d] ++ (dcells l).drop (k * 3) := by rw [dcells_take, dcells_drop]; simp [dcells]
                  rw [ed]
                  exact FZ
          · clear f35
            have hx : l[k]? = none := List.getElem?_eq_none (by omega)
            refine R.takeSkip 5 f36 rfl rfl (by decide) (by kernel_rfl) (by kernel_rfl) (by kernel_rfl) (fun _ _ _ _ h => h) (f36.noT rfl rfl) hS7 fun a37 f37 => ?_
            clear f36 a35
            refine R.takeSkip 6 f37 rfl rfl (by decide) (by kernel_rfl) (by kernel_rfl) (by kernel_rfl) (fun _ _ _ _ h => h) (f37.noT rfl rfl) hS7 fun a38 f38 => ?_
            clear f37 a37
            refine R.takeSkip 7 f38 rfl rfl (by decide) (by kernel_rfl) (by kernel_rfl) (by kernel_rfl) (fun _ _ _ _ h => h) (f38.noT rfl rfl) hS7 fun a39 f39 => ?_
            clear f38 a38
            refine R.takeSkip 8 f39 rfl rfl (by decide) (by kernel_rfl) (by kernel_rfl) (by kernel_rfl) (fun _ _ _ _ h => h) (f39.noT rfl rfl) hS7 fun a40 f40 => ?_
            clear f39 a39
            refine R.takeSkip 9 f40 rfl rfl (by decide) (by kernel_rfl) (by kernel_rfl) (by kernel_rfl) (fun _ _ _ _ h => h) (f40.noT rfl rfl) hS7 fun a41 f41 => ?_
            clear f40 a40
            refine R.takeSkip 10 f41 rfl rfl (by decide) (by kernel_rfl) (by kernel_rfl) (by kernel_rfl) (fun _ _ _ _ h => h) (f41.noT rfl rfl) hS7 fun a42 f42 => ?_
            clear f41 a41
            refine R.take 11 f42 rfl rfl (by decide) (by kernel_rfl) (by kernel_rfl) (by kernel_rfl) (fun _ _ _ _ h => h) wantedN hS7 (fun W hW => (E.pickF f42 rfl rfl)) fun a43 f43 => ?_
            clear f42 a42
            have szw8r := hS7.size
            replace HK := HK.trans hS7 (by simp)
            replace Bg0 := Bg0.kept hS7 (by simp)
            replace FR := FR.kept0 hS7
            clear hS7
            refine R.done (by kernel_rfl) (hK13 _ _ ?_)
            try clear hK13 K13
            have f44 := f43.sub (sub_cons (i := 3) rfl (sub_cons (i := 5) rfl (sub_cons (i := 6) rfl (sub_cons (i := 22) rfl (sub_cons (i := 23) rfl (sub_cons (i := 24) rfl (sub_cons (i := 25) rfl (sub_cons (i := 26) rfl (sub_cons (i := 27) rfl (sub_cons (i := 28) rfl (sub_cons (i := 29) rfl (sub_cons (i := 30) rfl (sub_cons (i := 31) rfl (sub_cons (i := 32) rfl (sub_cons (i := 33) rfl sub_nil)))))))))))))))
            clear f43
            refine C.condF f44 rfl ?_
            refine wp_exit (hK10 _ _ ?_)
            try clear hK10 K10
            have f45 := f44.sub (sub_cons (i := 3) rfl (sub_cons (i := 5) rfl (sub_cons (i := 6) rfl sub_nil)))
            clear f44
            refine wp_seq_k fun K20 hK20 => ?_
            refine wp_seq_k fun K21 hK21 => ?_
            have hend : ∀ y, l[k]? = some y → ¬ lt2 y d := fun y hy => by rw [hx] at hy; cases hy
            refine R.begin (S := fun W => Kept [] w8 W) (by kernel_rfl) (by exact (Kept.refl _ _).drewN 1) ?_
            have hS9 : Kept [] w8 (w8.drewN 1) := (Kept.refl _ _).drewN 1
            obtain ⟨w9, hww9⟩ : ∃ W, W = w8.drewN 1 := ⟨_, rfl⟩
            rw [← hww9] at hS9 ⊢
            clear hww9
            refine R.take 0 f45 rfl rfl (by decide) (by kernel_rfl) (by kernel_rfl) (by kernel_rfl) (fun _ _ _ _ h => h) wantedN hS9 (fun W hW => (E.move f45 rfl)) fun a46 f46 => ?_
            clear f45 a43
            refine R.take 1 f46 rfl rfl (by decide) (by kernel_rfl) (by kernel_rfl) (by kernel_rfl) (fun _ _ _ _ h => h) wantedN hS9 (fun W hW => (E.move f46 rfl)) fun a47 f47 => ?_
            clear f46 a46
            refine R.take 2 f47 rfl rfl (by decide) (by kernel_rfl) (by kernel_rfl) (by kernel_rfl) (fun _ _ _ _ h => h) wantedN hS9 (fun W hW => (E.lenL f47 Try.underlying24 rfl)) fun a48 f48 => ?_
            clear f47 a47
            refine R.take 3 f48 rfl rfl (by decide) (by kernel_rfl) (by kernel_rfl) (by kernel_rfl) (fun _ _ _ _ h => h) wantedN hS9 (fun W hW => (E.lss f48 rfl rfl)) fun a49 f49 => ?_
            clear f48 a48
            refine R.take 4 f49 rfl rfl (by decide) (by kernel_rfl) (by kernel_rfl) (by kernel_rfl) (fun _ _ _ _ h => h) wantedN hS9 (fun W hW => (E.move f49 rfl)) fun a50 f50 => ?_
            clear f49 a49
            first | refine f50.splitD 40 rfl (fun h7 f51 => ?_) (fun h7 f51 => ?_) | refine f50.splitN 40 rfl (fun h7 f51 => ?_) (fun h7 f51 => ?_) | refine f50.splitNB 40 rfl (fun h7 f51 => ?_) (fun h7 f51 => ?_) | refine f50.split 40 rfl (fun h7 f51 => ?_) (fun h7 f51 => ?_)
            · clear f50
              obtain ⟨x, hx⟩ : ∃ x, l[k]? = some x := ⟨l[k]'(by omega), List.getElem?_eq_getElem _⟩
              obtain ⟨bk, off, hAo⟩ := FR.sl.addr (by omega)
              have hnx := hend x hx
              refine R.take 5 f51 rfl rfl (by decide) (by kernel_rfl) (by kernel_rfl) (by kernel_rfl) (fun _ _ _ _ h => h) (f51.yes rfl rfl) hS9 (fun W hW => (by first | exact E.loadB f51 Try.underlying32 rfl wsz32_e rfl (Bg0.kept hW (by simp)) rfl | exact E.loadR f51 Try.underlying32 rfl wsz32_e rfl ((FR.kept0 hW).sl.row (by omega) hAo (dcells_at l k x hx)) rfl)) fun a52 f52 => ?_
              clear f51 a50
              refine R.take 6 f52 rfl rfl (by decide) (by kernel_rfl) (by kernel_rfl) (by kernel_rfl) (fun _ _ _ _ h => h) (f52.yes rfl rfl) hS9 (fun W hW => (E.move f52 rfl)) fun a53 f53 => ?_
              clear f52 a52
              refine R.take 7 f53 rfl rfl (by decide) (by kernel_rfl) (by kernel_rfl) (by kernel_rfl) (fun _ _ _ _ h => h) (f53.yes rfl rfl) hS9 (fun W hW => (E.move f53 rfl)) fun a54 f54 => ?_
              clear f53 a53
              refine R.take 8 f54 rfl rfl (by decide) (by kernel_rfl) (by kernel_rfl) (by kernel_rfl) (fun _ _ _ _ h => h) (f54.yes rfl rfl) hS9 (fun W hW => (E.indexA f54 (by first | rfl | assumption) Try.underlying24 wsz32_e rfl rfl (by omega) (by omega))) fun a55 f55 => ?_
              clear f54 a54
              refine R.take 9 f55 rfl rfl (by decide) (by kernel_rfl) (by kernel_rfl) (by kernel_rfl) (fun _ _ _ _ h => h) (f55.yes rfl rfl) hS9 (fun W hW => (by first | exact E.loadB f55 Try.underlying32 rfl wsz32_e rfl (Bg0.kept hW (by simp)) rfl | exact E.loadR f55 Try.underlying32 rfl wsz32_e rfl ((FR.kept0 hW).sl.row (by omega) hAo (dcells_at l k x hx)) rfl)) fun a56 f56 => ?_
              clear f55 a55
              refine R.call 10 f56 rfl rfl (by decide) (by kernel_rfl) (f56.yes rfl rfl) (run_call Try.call47 (args2 f56 rfl rfl)) (ahead_any _ _ _) ?_
              rintro e w10 ⟨kc10, rfl⟩
              replace hS9 := hS9.trans kc10 (by simp)
              refine ⟨_, rfl, hS9, fun a57 f57 => ?_⟩
              clear f56 a56
              have szw10 := kc10.size
              clear kc10
              refine R.take 11 f57 rfl rfl (by decide) (by kernel_rfl) (by kernel_rfl) (by kernel_rfl) (fun _ _ _ _ h => h) (f57.yes rfl rfl) hS9 (fun W hW => (E.not f57 rfl)) fun a58 f58 => ?_
              clear f57 a57
              refine R.take 12 f58 rfl rfl (by decide) (by kernel_rfl) (by kernel_rfl) (by kernel_rfl) (fun _ _ _ _ h => h) wantedN hS9 (fun W hW => (E.pickT f58 rfl rfl)) fun a59 f59 => ?_
              clear f58 a58
              have szw10r := hS9.size
              replace HK := HK.trans hS9 (by simp)
              replace Bg0 := Bg0.kept hS9 (by simp)
              replace FR := FR.kept0 hS9
              clear hS9
              refine R.done (by kernel_rfl) (hK21 _ _ ?_)
              try clear hK21 K21
              have f60 := f59.sub (sub_cons (i := 3) rfl (sub_cons (i := 5) rfl (sub_cons (i := 6) rfl (sub_cons (i := 48) rfl sub_nil))))
              clear f59
              first | refine f60.splitD 48 rfl (fun h8 f61 => ?_) (fun h8 f61 => ?_) | refine f60.splitN 48 rfl (fun h8 f61 => ?_) (fun h8 f61 => ?_) | refine f60.splitNB 48 rfl (fun h8 f61 => ?_) (fun h8 f61 => ?_) | refine f60.split 48 rfl (fun h8 f61 => ?_) (fun h8 f61 => ?_)
              · clear f60
                have hdx := h8
                refine C.condT f61 rfl ?_
                refine wp_seq_k fun K22 hK22 => ?_
                refine C.region ?_
                refine L.val f61 wantedN rfl (by decide) (E.move f61 rfl) fun a62 f62 => ?_
                clear f61 a59
                refine L.val f62 wantedN rfl (by decide) (E.move f62 rfl) fun a63 f63 => ?_
                clear f62 a62
                refine L.val f63 wantedN rfl (by decide) (E.fieldAddr f63 Try.underlying32 rfl rfl wsz3_e) fun a64 f64 => ?_
                clear f63 a63
                refine L.val f64 wantedN rfl (by decide) (by exact E.load f64 Try.underlying3 rfl rfl ((Bg0).cl rfl)) fun a65 f65 => ?_
                clear f64 a64
                refine L.val f65 wantedN rfl (by decide) (E.indexA f65 (by first | rfl | assumption) Try.underlying24 wsz32_e rfl rfl (by omega) (by omega)) fun a66 f66 => ?_
                clear f65 a65
                refine L.val f66 wantedN rfl (by decide) (E.fieldAddr f66 Try.underlying32 rfl rfl wsz3_e) fun a67 f67 => ?_
                clear f66 a66
                refine L.storeF f67 wantedN wsz3_e hAo FR (j := k * 3 + 2) rfl (by rw [dcells_len]; omega) rfl rfl fun a68 w11 f68 FS ks loS => ?_
                clear f67 a67
                have FS2 : Fresh w w11 32 3 Ao l.length co ((dcells l).set (k * 3 + 2) (.int .i64 d.n)) := FS
                rw [dcells_set l k x d.n hx] at FS2
                replace HK := HK.trans ks (by intro x hx hlt; simp at hx; subst hx; exfalso; omega)
                refine wpList_nil (hK22 _ _ ?_)
                try clear hK22 K22
                have f69 := f68.sub (sub_cons (i := 3) rfl (sub_cons (i := 5) rfl (sub_cons (i := 6) rfl sub_nil)))
                clear f68
                refine wp_seq_k fun K23 hK23 => ?_
                refine C.region ?_
                refine L.val f69 wantedN rfl (by decide) (E.move f69 rfl) fun a70 f70 => ?_
                clear f69 a68
                refine L.val f70 wantedN rfl (by decide) (E.assign f70 rfl) fun a71 f71 => ?_
                clear f70 a70
                refine wpList_nil (hK23 _ _ ?_)
                try clear hK23 K23
                have f72 := f71.sub (sub_cons (i := 3) rfl (sub_cons (i := 4) rfl (sub_cons (i := 5) rfl (sub_cons (i := 6) rfl sub_nil))))
                clear f71
                refine wp_ret ?_
                try simp only [Exit.inBlock, Exit.then]
                refine C.ret (P := Try.prog) (fn := Try.f25) f72 rfl rfl ?_
                have hnm : ¬ (mayB d = false ∨ hasB l d = true) := by rw [rightB_one] at hmy; simp [hmy, hhs]
                have e0 : addD l d = insD l d := by unfold addD; rw [if_neg (by simp [hrb]), if_neg hnm]
                have e1 := insD_at l d k hq hend (by omega)
                have e : addD l d = l.set k { x with n := d.n } := by rw [e0, e1, hx]; simp only; rw [if_neg (by simpa using hdx)]
                have el : (l.set k { x with n := d.n }).length = l.length := List.length_set
                refine ⟨HK, Ao, co, by rw [e, el], ?_⟩
                rw [e, el]
                exact FS2
              · clear f60
                have hdx := h8
                refine C.condF f61 rfl ?_
                refine wp_skip (hK20 _ _ ?_)
                try clear hK20 K20
                have f62 := f61.sub (sub_cons (i := 3) rfl (sub_cons (i := 5) rfl (sub_cons (i := 6) rfl sub_nil)))
                clear f61
                refine wp_seq_k fun K24 hK24 => ?_
                refine R.begin (S := fun W => Kept [] w10 W) (by kernel_rfl) (by exact (Kept.refl _ _).drewN 1) ?_
                have hS12 : Kept [] w10 (w10.drewN 1) := (Kept.refl _ _).drewN 1
                obtain ⟨w11, hww11⟩ : ∃ W, W = w10.drewN 1 := ⟨_, rfl⟩
                rw [← hww11] at hS12 ⊢
                clear hww11
                refine R.take 0 f62 rfl rfl (by decide) (by kernel_rfl) (by kernel_rfl) (by kernel_rfl) (fun _ _ _ _ h => h) wantedN hS12 (fun W hW => (E.move f62 rfl)) fun a63 f63 => ?_
                clear f62 a59
                refine R.take 1 f63 rfl rfl (by decide) (by kernel_rfl) (by kernel_rfl) (by kernel_rfl) (fun _ _ _ _ h => h) wantedN hS12 (fun W hW => (E.move f63 rfl)) fun a64 f64 => ?_
                clear f63 a63
                refine R.take 2 f64 rfl rfl (by decide) (by kernel_rfl) (by kernel_rfl) (by kernel_rfl) (fun _ _ _ _ h => h) wantedN hS12 (fun W hW => (E.slLhi f64 Try.underlying24 wsz32_e rfl rfl (by omega) (by omega) )) fun a65 f65 => ?_
                clear f64 a64
                refine R.take 4 f65 rfl rfl (by decide) (by kernel_rfl) (by kernel_rfl) (by kernel_rfl) (fun _ _ _ _ h => h) wantedN hS12 (fun W hW => (by first | exact E.loadB f65 Try.underlying32 rfl wsz32_e rfl (Bg0.kept hW (by simp)) rfl | exact E.loadR f65 Try.underlying32 rfl wsz32_e rfl ((FR.kept0 hW).sl.row (by omega) hAo (dcells_at l k x hx)) rfl)) fun a66 f66 => ?_
                clear f65 a65
                refine R.take 7 f66 rfl rfl (by decide) (by kernel_rfl) (by kernel_rfl) (by kernel_rfl) (fun _ _ _ _ h => h) wantedN hS12 (fun W hW => (E.move f66 rfl)) fun a67 f67 => ?_
                clear f66 a66
                refine R.take 8 f67 rfl rfl (by decide) (by kernel_rfl) (by kernel_rfl) (by kernel_rfl) (fun _ _ _ _ h => h) wantedN hS12 (fun W hW => (E.move f67 rfl)) fun a68 f68 => ?_
                clear f67 a67
                refine R.take 9 f68 rfl rfl (by decide) (by kernel_rfl) (by kernel_rfl) (by kernel_rfl) (fun _ _ _ _ h => h) wantedN hS12 (fun W hW => (E.slLlo f68 Try.underlying24 wsz32_e rfl rfl (by omega) (by omega) )) fun a69 f69 => ?_
                clear f68 a68
                refine R.two 3 5 (by kernel_rfl) ?_ ?_
                · skip
                  refine O.append f69 rfl wantedN (by decide) Try.underlying24 wzib32_e rfl rfl rfl rfl (Own.nil _ _ _) (Sl.of_own ((FR.kept0 hS12).own.head (k := k) (by omega))) (fun u hu => dcells_one l u (List.mem_of_mem_take hu)) (by unfold maxLen; omega) (by omega) fun a70 w12 Ax cx AP12 => ?_
                  have kap12 : Kept [] w11 w12 := by simpa [Value.ownBlock] using AP12.kept
                  have FX : Fresh w w12 32 3 Ax (0 + k) cx ([] ++ (dcells l).take (k * 3)) := AP12.next (Fresh.nil w w11 32 3) (Nat.le_trans HK.size hS12.size)
                  have FXr : Fresh w10 w12 32 3 Ax (0 + k) cx ([] ++ (dcells l).take (k * 3)) := AP12.next (Fresh.nil w10 w11 32 3) hS12.size
                  have hSn := hS12.trans kap12 (by simp)
                  refine ⟨hSn, fun f70 => ?_⟩
                  clear f69
                  have szw12 := kap12.size
                  clear kap12
                  replace hS12 := hSn
                  clear hSn
                  refine R.one 5 (by kernel_rfl) ?_
                  refine O.buildSlice f70 rfl wantedN (by decide) (parts1 f70 rfl) Try.underlying24 wzi32_e rfl rfl (wbs24_1_e _ _ _) (fun _ hk => hS12.trans hk (by simp)) fun a71 w13 g12 N12 hSn f71 => ?_
                  clear f70 a70
                  have Bg12 := N12.blk
                  have kg12 := N12.kept
                  have log12 := N12.lo
                  have ltg12 := Bg12.lt
                  have szw13 := kg12.size
                  have szSw13 := hS12.size
                  replace FX := FX.kept0 kg12
                  replace FXr := FXr.kept0 kg12
                  clear N12 kg12
                  replace hS12 := hSn
                  clear hSn
                  refine R.one 6 (by kernel_rfl) ?_
                  refine O.append f71 rfl wantedN (by decide) Try.underlying24 wzib32_e rfl rfl rfl rfl (FX.own) (sl_one w13 g12 d Bg12) (fun u hu => dcells_one [d] u hu) (by unfold maxLen; omega) (by omega) fun a72 w14 Ay cy AP14 => ?_
                  have hSn := AP14.grow FXr hS12
                  have FY := AP14.next FX (Nat.le_trans HK.size hS12.size)
                  have FYr := AP14.next FXr hS12.size
                  refine ⟨hSn, fun f72 => ?_⟩
                  clear f71
                  have szw14 := AP14.kept.size
                  replace hS12 := hSn
                  clear hSn
                  refine R.one 10 (by kernel_rfl) ?_
                  refine O.append f72 rfl wantedN (by decide) Try.underlying24 wzib32_e rfl rfl rfl rfl (FY.own) (Sl.of_own ((FR.kept0 hS12).own.cut (k := k) (by omega))) (fun u hu => dcells_one l u (List.mem_of_mem_drop hu)) (by unfold maxLen; omega) (by omega) fun a73 w15 Az cz AP15 => ?_
                  have hSn := AP15.grow FYr hS12
                  have FZ := AP15.next FY (Nat.le_trans HK.size hS12.size)
                  refine ⟨hSn, fun f73 => ?_⟩
                  clear f72
                  have szw15 := AP15.kept.size
                  replace hS12 := hSn
                  clear hSn
                  refine R.take 11 f73 rfl rfl (by decide) (by kernel_rfl) (by kernel_rfl) (by kernel_rfl) (fun _ _ _ _ h => h) wantedN hS12 (fun W hW => (E.assign f73 rfl)) fun a74 f74 => ?_
                  clear f73 a73
                  have szw15r := hS12.size
                  replace HK := HK.trans hS12 (by simp)
                  replace Bg0 := Bg0.kept hS12 (by simp)
                  replace FR := FR.kept0 hS12
                  clear hS12
                  refine R.done (by kernel_rfl) (hK24 _ _ ?_)
                  try clear hK24 K24
                  have f75 := f74.sub (sub_cons (i := 4) rfl sub_nil)
                  clear f74
                  refine wp_ret ?_
                  try simp only [Exit.inBlock, Exit.then]
                  refine C.ret (P := Try.prog) (fn := Try.f25) f75 rfl rfl ?_
                  have hnm : ¬ (mayB d = false ∨ hasB l d = true) := by rw [rightB_one] at hmy; simp [hmy, hhs]
                  have e0 : addD l d = insD l d := by unfold addD; rw [if_neg (by simp [hrb]), if_neg hnm]
                  have e1 := insD_at l d k hq hend (by omega)
                  have e : addD l d = l.take k ++ d :: l.drop k := by rw [e0, e1, hx]; simp only; rw [if_pos (by simpa using hdx)]
                  have el : (addD l d).length = 0 + k + 1 + (l.length - k) := by rw [e]; simp; omega
                  refine ⟨HK, Az, cz, by rw [el]; rfl, ?_⟩
                  rw [el, e]
                  have ed : dcells (l.take k ++ d :: l.drop k) = [] ++ (dcells l).take (k * 3) ++ dcells [d] ++ (dcells l).drop (k * 3) := by rw [dcells_take, dcells_drop]; simp [dcells]
                  rw [ed]
                  exact FZ
                · skip
                  refine O.buildSlice f69 rfl wantedN (by decide) (parts1 f69 rfl) Try.underlying24 wzi32_e rfl rfl (wbs24_1_e _ _ _) (fun _ hk => hS12.trans hk (by simp)) fun a70 w12 g11 N11 hSn f70 => ?_
                  clear f69 a69
                  have Bg11 := N11.blk
                  have kg11 := N11.kept
                  have log11 := N11.lo
                  have ltg11 := Bg11.lt
                  have szw12 := kg11.size
                  have szSw12 := hS12.size
                  clear N11 kg11
                  replace hS12 := hSn
                  clear hSn
                  refine R.one 3 (by kernel_rfl) ?_
                  refine O.append f70 rfl wantedN (by decide) Try.underlying24 wzib32_e rfl rfl rfl rfl (Own.nil _ _ _) (Sl.of_own ((FR.kept0 hS12).own.head (k := k) (by omega))) (fun u hu => dcells_one l u (List.mem_of_mem_take hu)) (by unfold maxLen; omega) (by omega) fun a71 w13 Ax cx AP13 => ?_
                  have kap13 : Kept [] w12 w13 := by simpa [Value.ownBlock] using AP13.kept
                  have FX : Fresh w w13 32 3 Ax (0 + k) cx ([] ++ (dcells l).take (k * 3)) := AP13.next (Fresh.nil w w12 32 3) (Nat.le_trans HK.size hS12.size)
                  have FXr : Fresh w10 w13 32 3 Ax (0 + k) cx ([] ++ (dcells l).take (k * 3)) := AP13.next (Fresh.nil w10 w12 32 3) hS12.size
                  have hSn := hS12.trans kap13 (by simp)
                  refine ⟨hSn, fun f71 => ?_⟩
                  clear f70
                  have szw13 := kap13.size
                  replace Bg11 := Bg11.kept kap13 (by simp)
                  clear kap13
                  replace hS12 := hSn
                  clear hSn
                  refine R.one 6 (by kernel_rfl) ?_
                  refine O.append f71 rfl wantedN (by decide) Try.underlying24 wzib32_e rfl rfl rfl rfl (FX.own) (sl_one w13 g11 d Bg11) (fun u hu => dcells_one [d] u hu) (by unfold maxLen; omega) (by omega) fun a72 w14 Ay cy AP14 => ?_
                  have hSn := AP14.grow FXr hS12
                  have FY := AP14.next FX (Nat.le_trans HK.size hS12.size)
                  have FYr := AP14.next FXr hS12.size
                  refine ⟨hSn, fun f72 => ?_⟩
                  clear f71
                  have szw14 := AP14.kept.size
                  replace hS12 := hSn
                  clear hSn
                  refine R.one 10 (by kernel_rfl) ?_
                  refine O.append f72 rfl wantedN (by decide) Try.underlying24 wzib32_e rfl rfl rfl rfl (FY.own) (Sl.of_own ((FR.kept0 hS12).own.cut (k := k) (by omega))) (fun u hu => dcells_one l u (List.mem_of_mem_drop hu)) (by unfold maxLen; omega) (by omega) fun a73 w15 Az cz AP15 => ?_
                  have hSn := AP15.grow FYr hS12
                  have FZ := AP15.next FY (Nat.le_trans HK.size hS12.size)
                  refine ⟨hSn, fun f73 => ?_⟩
                  clear f72
                  have szw15 := AP15.kept.size
                  replace hS12 := hSn
                  clear hSn
                  refine R.take 11 f73 rfl rfl (by decide) (by kernel_rfl) (by kernel_rfl) (by kernel_rfl) (fun _ _ _ _ h => h) wantedN hS12 (fun W hW => (E.assign f73 rfl)) fun a74 f74 => ?_
                  clear f73 a73
                  have szw15r := hS12.size
                  replace HK := HK.trans hS12 (by simp)
                  replace Bg0 := Bg0.kept hS12 (by simp)
                  replace FR := FR.kept0 hS12
                  clear hS12
                  refine R.done (by kernel_rfl) (hK24 _ _ ?_)
                  try clear hK24 K24
                  have f75 := f74.sub (sub_cons (i := 4) rfl sub_nil)
                  clear f74
                  refine wp_ret ?_
                  try simp only [Exit.inBlock, Exit.then]
                  refine C.ret (P := Try.prog) (fn := Try.f25) f75 rfl rfl ?_
                  have hnm : ¬ (mayB d = false ∨ hasB l d = true) := by rw [rightB_one] at hmy; simp [hmy, hhs]
                  have e0 : addD l d = insD l d := by unfold addD; rw [if_neg (by simp [hrb]), if_neg hnm]
                  have e1 := insD_at l d k hq hend (by omega)
                  have e : addD l d = l.take k ++ d :: l.drop k := by rw [e0, e1, hx]; simp only; rw [if_pos (by simpa using hdx)]
                  have el : (addD l d).length = 0 + k + 1 + (l.length - k) := by rw [e]; simp; omega
                  refine ⟨HK, Az, cz, by rw [el]; rfl, ?_⟩
                  rw [el, e]
                  have ed : dcells (l.take k ++ d :: l.drop k) = [] ++ (dcells l).take (k * 3) ++ dcells [d] ++ (dcells l).drop (k * 3) := by rw [dcells_take, dcells_drop]; simp [dcells]
                  rw [ed]
                  exact FZ
            · clear f50
              have hx : l[k]? = none := List.getElem?_eq_none (by omega)
              refine R.takeSkip 5 f51 rfl rfl (by decide) (by kernel_rfl) (by kernel_rfl) (by kernel_rfl) (fun _ _ _ _ h => h) (f51.noT rfl rfl) hS9 fun a52 f52 => ?_
              clear f51 a50
              refine R.takeSkip 6 f52 rfl rfl (by decide) (by kernel_rfl) (by kernel_rfl) (by kernel_rfl) (fun _ _ _ _ h => h) (f52.noT rfl rfl) hS9 fun a53 f53 => ?_
              clear f52 a52
              refine R.takeSkip 7 f53 rfl rfl (by decide) (by kernel_rfl) (by kernel_rfl) (by kernel_rfl) (fun _ _ _ _ h => h) (f53.noT rfl rfl) hS9 fun a54 f54 => ?_
              clear f53 a53
              refine R.takeSkip 8 f54 rfl rfl (by decide) (by kernel_rfl) (by kernel_rfl) (by kernel_rfl) (fun _ _ _ _ h => h) (f54.noT rfl rfl) hS9 fun a55 f55 => ?_
              clear f54 a54
              refine R.takeSkip 9 f55 rfl rfl (by decide) (by kernel_rfl) (by kernel_rfl) (by kernel_rfl) (fun _ _ _ _ h => h) (f55.noT rfl rfl) hS9 fun a56 f56 => ?_
              clear f55 a55
              refine R.takeSkip 10 f56 rfl rfl (by decide) (by kernel_rfl) (by kernel_rfl) (by kernel_rfl) (fun _ _ _ _ h => h) (f56.noT rfl rfl) hS9 fun a57 f57 => ?_
              clear f56 a56
              refine R.takeSkip 11 f57 rfl rfl (by decide) (by kernel_rfl) (by kernel_rfl) (by kernel_rfl) (fun _ _ _ _ h => h) (f57.noT rfl rfl) hS9 fun a58 f58 => ?_
              clear f57 a57
              refine R.take 12 f58 rfl rfl (by decide) (by kernel_rfl) (by kernel_rfl) (by kernel_rfl) (fun _ _ _ _ h => h) wantedN hS9 (fun W hW => (E.pickF f58 rfl rfl)) fun a59 f59 => ?_
              clear f58 a58
              have szw9r := hS9.size
              replace HK := HK.trans hS9 (by simp)
              replace Bg0 := Bg0.kept hS9 (by simp)
              replace FR := FR.kept0 hS9
              clear hS9
              refine R.done (by kernel_rfl) (hK21 _ _ ?_)
              try clear hK21 K21
              have f60 := f59.sub (sub_cons (i := 3) rfl (sub_cons (i := 5) rfl (sub_cons (i := 6) rfl (sub_cons (i := 48) rfl sub_nil))))
              clear f59
              refine C.condF f60 rfl ?_
              refine wp_skip (hK20 _ _ ?_)
              try clear hK20 K20
              have f61 := f60.sub (sub_cons (i := 3) rfl (sub_cons (i := 5) rfl (sub_cons (i := 6) rfl sub_nil)))
              clear f60
              refine wp_seq_k fun K25 hK25 => ?_
              refine R.begin (S := fun W => Kept [] w9 W) (by kernel_rfl) (by exact (Kept.refl _ _).drewN 1) ?_
              have hS12 : Kept [] w9 (w9.drewN 1) := (Kept.refl _ _).drewN 1
              obtain ⟨w10, hww10⟩ : ∃ W, W = w9.drewN 1 := ⟨_, rfl⟩
              rw [← hww10] at hS12 ⊢
              clear hww10
              refine R.take 0 f61 rfl rfl (by decide) (by kernel_rfl) (by kernel_rfl) (by kernel_rfl) (fun _ _ _ _ h => h) wantedN hS12 (fun W hW => (E.move f61 rfl)) fun a62 f62 => ?_
              clear f61 a59
              refine R.take 1 f62 rfl rfl (by decide) (by kernel_rfl) (by kernel_rfl) (by kernel_rfl) (fun _ _ _ _ h => h) wantedN hS12 (fun W hW => (E.move f62 rfl)) fun a63 f63 => ?_
              clear f62 a62
              refine R.take 2 f63 rfl rfl (by decide) (by kernel_rfl) (by kernel_rfl) (by kernel_rfl) (fun _ _ _ _ h => h) wantedN hS12 (fun W hW => (E.slLhi f63 Try.underlying24 wsz32_e rfl rfl (by omega) (by omega) )) fun a64 f64 => ?_
              clear f63 a63
              refine R.take 4 f64 rfl rfl (by decide) (by kernel_rfl) (by kernel_rfl) (by kernel_rfl) (fun _ _ _ _ h => h) wantedN hS12 (fun W hW => (by first | exact E.loadB f64 Try.underlying32 rfl wsz32_e rfl (Bg0.kept hW (by simp)) rfl | exact E.loadR f64 Try.underlying32 rfl wsz32_e rfl ((FR.kept0 hW).sl.row (by omega) hAo (dcells_at l k x hx)) rfl)) fun a65 f65 => ?_
              clear f64 a64
              refine R.take 7 f65 rfl rfl (by decide) (by kernel_rfl) (by kernel_rfl) (by kernel_rfl) (fun _ _ _ _ h => h) wantedN hS12 (fun W hW => (E.move f65 rfl)) fun a66 f66 => ?_
              clear f65 a65
              refine R.take 8 f66 rfl rfl (by decide) (by kernel_rfl) (by kernel_rfl) (by kernel_rfl) (fun _ _ _ _ h => h) wantedN hS12 (fun W hW => (E.move f66 rfl)) fun a67 f67 => ?_
              clear f66 a66
              refine R.take 9 f67 rfl rfl (by decide) (by kernel_rfl) (by kernel_rfl) (by kernel_rfl) (fun _ _ _ _ h => h) wantedN hS12 (fun W hW => (E.slLlo f67 Try.underlying24 wsz32_e rfl rfl (by omega) (by omega) )) fun a68 f68 => ?_
              clear f67 a67
              refine R.two 3 5 (by kernel_rfl) ?_ ?_
              · skip
                refine O.append f68 rfl wantedN (by decide) Try.underlying24 wzib32_e rfl rfl rfl rfl (Own.nil _ _ _) (Sl.of_own ((FR.kept0 hS12).own.head (k := k) (by omega))) (fun u hu => dcells_one l u (List.mem_of_mem_take hu)) (by unfold maxLen; omega) (by omega) fun a69 w11 Ax cx AP11 => ?_
                have kap11 : Kept [] w10 w11 := by simpa [Value.ownBlock] using AP11.kept
                have FX : Fresh w w11 32 3 Ax (0 + k) cx ([] ++ (dcells l).take (k * 3)) := AP11.next (Fresh.nil w w10 32 3) (Nat.le_trans HK.size hS12.size)
                have FXr : Fresh w9 w11 32 3 Ax (0 + k) cx ([] ++ (dcells l).take (k * 3)) := AP11.next (Fresh.nil w9 w10 32 3) hS12.size
                have hSn := hS12.trans kap11 (by simp)
                refine ⟨hSn, fun f69 => ?_⟩
                clear f68
                have szw11 := kap11.size
                clear kap11
                replace hS12 := hSn
                clear hSn
                refine R.one 5 (by kernel_rfl) ?_
                refine O.buildSlice f69 rfl wantedN (by decide) (parts1 f69 rfl) Try.underlying24 wzi32_e rfl rfl (wbs24_1_e _ _ _) (fun _ hk => hS12.trans hk (by simp)) fun a70 w12 g11 N11 hSn f70 => ?_
                clear f69 a69
                have Bg11 := N11.blk
                have kg11 := N11.kept
                have log11 := N11.lo
                have ltg11 := Bg11.lt
                have szw12 := kg11.size
                have szSw12 := hS12.size
                replace FX := FX.kept0 kg11
                replace FXr := FXr.kept0 kg11
                clear N11 kg11
                replace hS12 := hSn
                clear hSn
                refine R.one 6 (by kernel_rfl) ?_
                refine O.append f70 rfl wantedN (by decide) Try.underlying24 wzib32_e rfl rfl rfl rfl (FX.own) (sl_one w12 g11 d Bg11) (fun u hu => dcells_one [d] u hu) (by unfold maxLen; omega) (by omega) fun a71 w13 Ay cy AP13 => ?_
                have hSn := AP13.grow FXr hS12
                have FY := AP13.next FX (Nat.le_trans HK.size hS12.size)
                have FYr := AP13.next FXr hS12.size
                refine ⟨hSn, fun f71 => ?_⟩
                clear f70
                have szw13 := AP13.kept.size
                replace hS12 := hSn
                clear hSn
                refine R.one 10 (by kernel_rfl) ?_
                refine O.append f71 rfl wantedN (by decide) Try.underlying24 wzib32_e rfl rfl rfl rfl (FY.own) (Sl.of_own ((FR.kept0 hS12).own.cut (k := k) (by omega))) (fun u hu => dcells_one l u (List.mem_of_mem_drop hu)) (by unfold maxLen; omega) (by omega) fun a72 w14 Az cz AP14 => ?_
                have hSn := AP14.grow FYr hS12
                have FZ := AP14.next FY (Nat.le_trans HK.size hS12.size)
                refine ⟨hSn, fun f72 => ?_⟩
                clear f71
                have szw14 := AP14.kept.size
                replace hS12 := hSn
                clear hSn
                refine R.take 11 f72 rfl rfl (by decide) (by kernel_rfl) (by kernel_rfl) (by kernel_rfl) (fun _ _ _ _ h => h) wantedN hS12 (fun W hW => (E.assign f72 rfl)) fun a73 f73 => ?_
                clear f72 a72
                have szw14r := hS12.size
                replace HK := HK.trans hS12 (by simp)
                replace Bg0 := Bg0.kept hS12 (by simp)
                replace FR := FR.kept0 hS12
                clear hS12
                refine R.done (by kernel_rfl) (hK25 _ _ ?_)
                try clear hK25 K25
                have f74 := f73.sub (sub_cons (i := 4) rfl sub_nil)
                clear f73
                refine wp_ret ?_
                try simp only [Exit.inBlock, Exit.then]
                refine C.ret (P := Try.prog) (fn := Try.f25) f74 rfl rfl ?_
                have hnm : ¬ (mayB d = false ∨ hasB l d = true) := by rw [rightB_one] at hmy; simp [hmy, hhs]
                have e0 : addD l d = insD l d := by unfold addD; rw [if_neg (by simp [hrb]), if_neg hnm]
                have e1 := insD_at l d k hq hend (by omega)
                have e : addD l d = l.take k ++ d :: l.drop k := by rw [e0, e1, hx]; simp only; rw [List.take_of_length_le (by omega), List.drop_eq_nil_of_le (by omega)]
                have el : (addD l d).length = 0 + k + 1 + (l.length - k) := by rw [e]; simp; omega
                refine ⟨HK, Az, cz, by rw [el]; rfl, ?_⟩
                rw [el, e]
                have ed : dcells (l.take k ++ d :: l.drop k) = [] ++ (dcells l).take (k * 3) ++ dcells [d] ++ (dcells l).drop (k * 3) := by rw [dcells_take, dcells_drop]; simp [dcells]
                rw [ed]
                exact FZ
              · skip
                refine O.buildSlice f68 rfl wantedN (by decide) (parts1 f68 rfl) Try.underlying24 wzi32_e rfl rfl (wbs24_1_e _ _ _) (fun _ hk => hS12.trans hk (by simp)) fun a69 w11 g10 N10 hSn f69 => ?_
                clear f68 a68
                have Bg10 := N10.blk
                have kg10 := N10.kept
                have log10 := N10.lo
                have ltg10 := Bg10.lt
                have szw11 := kg10.size
                have szSw11 := hS12.size
                clear N10 kg10
                replace hS12 := hSn
                clear hSn
                refine R.one 3 (by kernel_rfl) ?_
                refine O.append f69 rfl wantedN (by decide) Try.underlying24 wzib32_e rfl rfl rfl rfl (Own.nil _ _ _) (Sl.of_own ((FR.kept0 hS12).own.head (k := k) (by omega))) (fun u hu => dcells_one l u (List.mem_of_mem_take hu)) (by unfold maxLen; omega) (by omega) fun a70 w12 Ax cx AP12 => ?_
                have kap12 : Kept [] w11 w12 := by simpa [Value.ownBlock] using AP12.kept
                have FX : Fresh w w12 32 3 Ax (0 + k) cx ([] ++ (dcells l).take (k * 3)) := AP12.next (Fresh.nil w w11 32 3) (Nat.le_trans HK.size hS12.size)
                have FXr : Fresh w9 w12 32 3 Ax (0 + k) cx ([] ++ (dcells l).take (k * 3)) := AP12.next (Fresh.nil w9 w11 32 3) hS12.size
                have hSn := hS12.trans kap12 (by simp)
                refine ⟨hSn, fun f70 => ?_⟩
                clear f69
                have szw12 := kap12.size
                replace Bg10 := Bg10.kept kap12 (by simp)
                clear kap12
                replace hS12 := hSn
                clear hSn
                refine R.one 6 (by kernel_rfl) ?_
                refine O.append f70 rfl wantedN (by decide) Try.underlying24 wzib32_e rfl rfl rfl rfl (FX.own) (sl_one w12 g10 d Bg10) (fun u hu => dcells_one [d] u hu) (by unfold maxLen; omega) (by omega) fun a71 w13 Ay cy AP13 => ?_
                have hSn := AP13.grow FXr hS12
                have FY := AP13.next FX (Nat.le_trans HK.size hS12.size)
                have FYr := AP13.next FXr hS12.size
                refine ⟨hSn, fun f71 => ?_⟩
                clear f70
                have szw13 := AP13.kept.size
                replace hS12 := hSn
                clear hSn
                refine R.one 10 (by kernel_rfl) ?_
                refine O.append f71 rfl wantedN (by decide) Try.underlying24 wzib32_e rfl rfl rfl rfl (FY.own) (Sl.of_own ((FR.kept0 hS12).own.cut (k := k) (by omega))) (fun u hu => dcells_one l u (List.mem_of_mem_drop hu)) (by unfold maxLen; omega) (by omega) fun a72 w14 Az cz AP14 => ?_
                have hSn := AP14.grow FYr hS12
                have FZ := AP14.next FY (Nat.le_trans HK.size hS12.size)
                refine ⟨hSn, fun f72 => ?_⟩
                clear f71
                have szw14 := AP14.kept.size
                replace hS12 := hSn
                clear hSn
                refine R.take 11 f72 rfl rfl (by decide) (by kernel_rfl) (by kernel_rfl) (by kernel_rfl) (fun _ _ _ _ h => h) wantedN hS12 (fun W hW => (E.assign f72 rfl)) fun a73 f73 => ?_
                clear f72 a72
                have szw14r := hS12.size
                replace HK := HK.trans hS12 (by simp)
                replace Bg0 := Bg0.kept hS12 (by simp)
                replace FR := FR.kept0 hS12
                clear hS12
                refine R.done (by kernel_rfl) (hK25 _ _ ?_)
                try clear hK25 K25
                have f74 := f73.sub (sub_cons (i := 4) rfl sub_nil)
                clear f73
                refine wp_ret ?_
                try simp only [Exit.inBlock, Exit.then]
                refine C.ret (P := Try.prog) (fn := Try.f25) f74 rfl rfl ?_
                have hnm : ¬ (mayB d = false ∨ hasB l d = true) := by rw [rightB_one] at hmy; simp [hmy, hhs]
                have e0 : addD l d = insD l d := by unfold addD; rw [if_neg (by simp [hrb]), if_neg hnm]
                have e1 := insD_at l d k hq hend (by omega)
                have e : addD l d = l.take k ++ d :: l.drop k := by rw [e0, e1, hx]; simp only; rw [List.take_of_length_le (by omega), List.drop_eq_nil_of_le (by omega)]
                have el : (addD l d).length = 0 + k + 1 + (l.length - k) := by rw [e]; simp; omega
                refine ⟨HK, Az, cz, by rw [el]; rfl, ?_⟩
                rw [el, e]
                have ed : dcells (l.take k ++ d :: l.drop k) = [] ++ (dcells l).take (k * 3) ++ dcells [d] ++ (dcells l).drop (k * 3) := by rw [dcells_take, dcells_drop]; simp [dcells]
                rw [ed]
                exact FZ

end Go.Proofs.Ytahmlcjgcdajbaa
