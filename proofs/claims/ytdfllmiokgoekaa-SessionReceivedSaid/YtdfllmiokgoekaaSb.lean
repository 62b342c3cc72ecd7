/- Contracts: ids.Take. -/
import Derived.Test.YtdfllmiokgoekaaSa
import Derived.Test.YtdfllmiokgoekaaPlain
set_option linter.all false
namespace Go.Proofs.Ytdfllmiokgoekaa
open Go.RowKit Go.Hub
theorem wsz3_b : (Try.prog.info? 3).map (·.size) = some 1 := by kernel_rfl
theorem wsz54_b : (Try.prog.info? 54).map (·.size) = some 1 := by kernel_rfl

def TakePost (S : List Int) (most taken : Int) (p im : Nat) (w : World) (e : Ending) (w' : World) : Prop :=
  Kept [p, im] w w' ∧ if most ≤ S.length then e = .returned (.tuple #[.int .i64 0, .bool false]) ∧ IdsAt w' p im S most taken else e = .returned (.tuple #[.int .i64 (Go.Ids.nxt S taken), .bool true]) ∧ IdsAt w' p im (insS (Go.Ids.nxt S taken) S) most (Go.Ids.nxt S taken)
theorem nx_pos {k : Nat} {S : List Int} {u r : Int} (h : Go.Ids.nxtG k S u = some r) : 0 < k := by
  cases k with
  | zero => cases h
  | succ k => omega
theorem nx_step {k : Nat} {S : List Int} {u r : Int} (h : Go.Ids.nxtG k S u = some r) (hm : u ∈ S) : Go.Ids.nxtG (k - 1) S (Go.Ids.stp u) = some r := by
  cases k with
  | zero => cases h
  | succ k => simpa [Go.Ids.nxtG, hm] using h
theorem nx_done {k : Nat} {S : List Int} {u r : Int} (h : Go.Ids.nxtG k S u = some r) (hm : u ∉ S) : u = r := by
  cases k with
  | zero => cases h
  | succ k => simpa [Go.Ids.nxtG, hm] using h
theorem take_full {S : List Int} {most taken : Int} {p im : Nat} {w w' : World} (h : most ≤ S.length) (hk : Kept [p, im] w w') (A : IdsAt w' p im S most taken) : TakePost S most taken p im w (.returned (.tuple #[.int .i64 0, .bool false])) w' := by
  refine ⟨hk, ?_⟩
  rw [if_pos h]
  exact ⟨rfl, A⟩
theorem take_got {S : List Int} {most taken : Int} {p im : Nat} {w w' : World} (h : ¬ most ≤ S.length) (hk : Kept [p, im] w w') (A : IdsAt w' p im (insS (Go.Ids.nxt S taken) S) most (Go.Ids.nxt S taken)) : TakePost S most taken p im w (.returned (.tuple #[.int .i64 (Go.Ids.nxt S taken), .bool true])) w' := by
  refine ⟨hk, ?_⟩
  rw [if_neg h]
  exact ⟨rfl, A⟩

set_option maxHeartbeats 1000000 in
theorem take_any (p im : Nat) (S : List Int) (most taken : Int) (w : World) (A : IdsAt w p im S most taken) (ht : 0 ≤ taken) (hm : most ≤ 65535) : Calls Try.prog 38 #[.pointer (some ⟨p, 0, none⟩)] w (TakePost S most taken p im w) := by
  have BP := A.top
  have IS := A.set
  have hne := A.ne
  have hne2 : p ≠ im := fun h => hne h.symm
  have HK : Kept [p, im] w w := Kept.refl _ w
  refine C.enter Try.func38 rfl Try.ntmps38 rfl ?_
  intro a0 f0
  have f1 : Fr 53 a0 [(0, .pointer (some ⟨p, 0, none⟩))] := f0
  clear f0
  refine wp_seq_k fun K0 hK0 => ?_
  refine C.region ?_
  refine L.val f1 wantedN rfl (by decide) (E.assign f1 rfl) fun a2 f2 => ?_
  clear f1 a0
  refine L.val f2 wantedN rfl (by decide) (E.assign f2 rfl) fun a3 f3 => ?_
  clear f2 a2
  refine wpList_nil (hK0 _ _ ?_)
  try clear hK0 K0
  have f4 := f3.sub (sub_cons (i := 0) rfl (sub_cons (i := 2) rfl (sub_cons (i := 3) rfl sub_nil)))
  clear f3
  refine wp_seq_k fun K1 hK1 => ?_
  refine wp_seq_k fun K2 hK2 => ?_
  refine R.begin (S := fun W => Kept [] w W) (by kernel_rfl) (by exact (Kept.refl _ _).drewN 1) ?_
  have hS1 : Kept [] w (w.drewN 1) := (Kept.refl _ _).drewN 1
  have hd1 : Kept [] w (w.drewN 1) := (Kept.refl _ _).drewN 1
  obtain ⟨w1, hww1⟩ : ∃ W, W = w.drewN 1 := ⟨_, rfl⟩
  rw [← hww1] at hS1 hd1 ⊢
  clear hww1
  have szw1 := hS1.size
  refine R.take 0 f4 rfl rfl (by decide) (by kernel_rfl) (by kernel_rfl) (by kernel_rfl) (fun _ _ _ _ h => h) wantedN hS1 (fun W hW => (E.move f4 rfl)) fun a5 f5 => ?_
  clear f4 a3
  refine R.take 1 f5 rfl rfl (by decide) (by kernel_rfl) (by kernel_rfl) (by kernel_rfl) (fun _ _ _ _ h => h) wantedN hS1 (fun W hW => (E.nilCheck f5 rfl)) fun a6 f6 => ?_
  clear f5 a5
  refine R.take 2 f6 rfl rfl (by decide) (by kernel_rfl) (by kernel_rfl) (by kernel_rfl) (fun _ _ _ _ h => h) wantedN hS1 (fun W hW => (E.fieldAddr f6 Try.underlying69 rfl rfl wsz54_b)) fun a7 f7 => ?_
  clear f6 a6
  refine R.take 3 f7 rfl rfl (by decide) (by kernel_rfl) (by kernel_rfl) (by kernel_rfl) (fun _ _ _ _ h => h) wantedN hS1 (fun W hW => (by exact E.load f7 Try.underlying54 rfl rfl ((BP.kept hW (by simp)).cl rfl))) fun a8 f8 => ?_
  clear f7 a7
  refine R.take 4 f8 rfl rfl (by decide) (by kernel_rfl) (by kernel_rfl) (by kernel_rfl) (fun _ _ _ _ h => h) wantedN hS1 (fun W hW => (E.lenM f8 (IS.kept hW (by simp)) Try.underlying54 rfl)) fun a9 f9 => ?_
  clear f8 a8
  refine R.take 5 f9 rfl rfl (by decide) (by kernel_rfl) (by kernel_rfl) (by kernel_rfl) (fun _ _ _ _ h => h) wantedN hS1 (fun W hW => (E.move f9 rfl)) fun a10 f10 => ?_
  clear f9 a9
  refine R.take 6 f10 rfl rfl (by decide) (by kernel_rfl) (by kernel_rfl) (by kernel_rfl) (fun _ _ _ _ h => h) wantedN hS1 (fun W hW => (E.nilCheck f10 rfl)) fun a11 f11 => ?_
  clear f10 a10
  refine R.take 7 f11 rfl rfl (by decide) (by kernel_rfl) (by kernel_rfl) (by kernel_rfl) (fun _ _ _ _ h => h) wantedN hS1 (fun W hW => (E.fieldAddr f11 Try.underlying69 rfl rfl wsz3_b)) fun a12 f12 => ?_
  clear f11 a11
  refine R.take 8 f12 rfl rfl (by decide) (by kernel_rfl) (by kernel_rfl) (by kernel_rfl) (fun _ _ _ _ h => h) wantedN hS1 (fun W hW => (by exact E.load f12 Try.underlying3 rfl rfl ((BP.kept hW (by simp)).cl rfl))) fun a13 f13 => ?_
  clear f12 a12
  refine R.take 9 f13 rfl rfl (by decide) (by kernel_rfl) (by kernel_rfl) (by kernel_rfl) (fun _ _ _ _ h => h) wantedN hS1 (fun W hW => (E.geq f13 rfl rfl)) fun a14 f14 => ?_
  clear f13 a13
  have szw1r := hS1.size
  replace HK := HK.trans hS1 (by simp)
  replace BP := BP.kept hS1 (by simp)
  replace IS := IS.kept hS1 (by simp)
  clear hS1
  refine R.done (by kernel_rfl) (hK2 _ _ ?_)
  try clear hK2 K2
  have f15 := f14.sub (sub_cons (i := 0) rfl (sub_cons (i := 2) rfl (sub_cons (i := 3) rfl (sub_cons (i := 13) rfl sub_nil))))
  clear f14
  first | refine f15.splitD 13 rfl (fun h0 f16 => ?_) (fun h0 f16 => ?_) | refine f15.splitN 13 rfl (fun h0 f16 => ?_) (fun h0 f16 => ?_) | refine f15.splitNB 13 rfl (fun h0 f16 => ?_) (fun h0 f16 => ?_) | refine f15.split 13 rfl (fun h0 f16 => ?_) (fun h0 f16 => ?_)
  · clear f15
    have hfull := h0
    refine C.condT f16 rfl ?_
    refine wp_seq_k fun K3 hK3 => ?_
    refine C.region ?_
    refine L.val f16 wantedN rfl (by decide) (E.assign f16 rfl) fun a17 f17 => ?_
    clear f16 a14
    refine L.val f17 wantedN rfl (by decide) (E.assign f17 rfl) fun a18 f18 => ?_
    clear f17 a17
    refine wpList_nil (hK3 _ _ ?_)
    try clear hK3 K3
    have f19 := f18.sub (sub_cons (i := 0) rfl (sub_cons (i := 2) rfl (sub_cons (i := 3) rfl sub_nil)))
    clear f18
    refine wp_ret ?_
    try simp only [Exit.inBlock, Exit.then]
    refine C.ret2 (P := Try.prog) (fn := Try.f38) f19 rfl rfl rfl ?_
    exact take_full hfull HK ⟨BP, IS, hne⟩
  · clear f15
    have hroom := h0
    have hr := Go.Ids.nxtG_some S taken ht (by omega)
    have hb := Go.Ids.stp_bd taken ht
    refine C.condF f16 rfl ?_
    refine wp_skip (hK1 _ _ ?_)
    try clear hK1 K1
    have f17 := f16.sub (sub_cons (i := 0) rfl (sub_cons (i := 2) rfl (sub_cons (i := 3) rfl sub_nil)))
    clear f16
    refine wp_seq_k fun K4 hK4 => ?_
    refine C.region ?_
    refine L.val f17 wantedN rfl (by decide) (E.move f17 rfl) fun a18 f18 => ?_
    clear f17 a14
    refine L.val f18 wantedN rfl (by decide) (E.move f18 rfl) fun a19 f19 => ?_
    clear f18 a18
    refine L.val f19 wantedN rfl (by decide) (E.nilCheck f19 rfl) fun a20 f20 => ?_
    clear f19 a19
    refine L.val f20 wantedN rfl (by decide) (E.fieldAddr f20 Try.underlying69 rfl rfl wsz3_b) fun a21 f21 => ?_
    clear f20 a20
    refine L.val f21 wantedN rfl (by decide) (by exact E.load f21 Try.underlying3 rfl rfl ((BP).cl rfl)) fun a22 f22 => ?_
    clear f21 a21
    refine L.val f22 wantedN rfl (by decide) (E.rem f22 rfl rfl (by omega) (Int.tmod_eq_emod_of_nonneg (by omega))) fun a23 f23 => ?_
    clear f22 a22
    refine L.val f23 wantedN rfl (by decide) (E.add f23 rfl rfl (IntWalk.i64_in _ (by omega))) fun a24 f24 => ?_
    clear f23 a23
    refine L.val f24 wantedN rfl (by decide) (E.nilCheck f24 rfl) fun a25 f25 => ?_
    clear f24 a24
    refine L.val f25 wantedN rfl (by decide) (E.fieldAddr f25 Try.underlying69 rfl rfl wsz3_b) fun a26 f26 => ?_
    clear f25 a25
    refine L.store f26 wantedN wsz3_b rfl rfl rfl BP (by first | decide | simp) fun a27 w2 f27 NB2 ks2 => ?_
    have szw2 := ks2.size
    replace HK := HK.trans ks2 (by simp)
    replace IS := IS.kept ks2 (by simp; omega)
    replace BP := NB2
    simp only [List.setIfInBounds_toArray, List.set_cons_zero, List.set_cons_succ, Nat.reduceAdd, Nat.zero_add] at BP
    clear ks2 f26 a26
    refine wpList_nil (hK4 _ _ ?_)
    try clear hK4 K4
    have f28 := f27.sub (sub_cons (i := 0) rfl (sub_cons (i := 2) rfl (sub_cons (i := 3) rfl sub_nil)))
    clear f27
    refine wp_seq_k fun K5 hK5 => ?_
    refine wp_block ?_
    refine C.loop (fun gk a W => ∃ u : Int, Go.Ids.nxtG gk S u = some (Go.Ids.nxt S taken) ∧ 1 ≤ u ∧ u ≤ 65535 ∧ Blk W p 69 #[.map (some im), .int .i64 most, .int .i64 u] ∧ IsSet Try.prog 3 4 W im S ∧ Kept [p, im] w W ∧ Fr 53 a [(0, .pointer (some ⟨p, 0, none⟩))]) (65535) ?_ ?_
    · exact ⟨Go.Ids.stp taken, hr, hb.1, hb.2, BP, IS, HK, f28.sub (sub_cons rfl sub_nil)⟩
    · intro gk7 a29 w3 hI KL6 hKL6
      obtain ⟨u, hq, hu1, hu2, BP, IS, HK, f29⟩ := hI
      try clear f28
      have hg := nx_pos hq
      refine wp_seq_k fun K7 hK7 => ?_
      refine wp_seq_k fun K8 hK8 => ?_
      refine R.begin (S := fun W => Kept [] w3 W) (by kernel_rfl) (by exact (Kept.refl _ _).drewN 1) ?_
      have hS4 : Kept [] w3 (w3.drewN 1) := (Kept.refl _ _).drewN 1
      have hd4 : Kept [] w3 (w3.drewN 1) := (Kept.refl _ _).drewN 1
      obtain ⟨w4, hww4⟩ : ∃ W, W = w3.drewN 1 := ⟨_, rfl⟩
      rw [← hww4] at hS4 hd4 ⊢
      clear hww4
      have szw4 := hS4.size
      refine R.take 0 f29 rfl rfl (by decide) (by kernel_rfl) (by kernel_rfl) (by kernel_rfl) (fun _ _ _ _ h => h) wantedN hS4 (fun W hW => (E.move f29 rfl)) fun a30 f30 => ?_
      clear f29 a29
      refine R.take 1 f30 rfl rfl (by decide) (by kernel_rfl) (by kernel_rfl) (by kernel_rfl) (fun _ _ _ _ h => h) wantedN hS4 (fun W hW => (E.nilCheck f30 rfl)) fun a31 f31 => ?_
      clear f30 a30
      refine R.take 2 f31 rfl rfl (by decide) (by kernel_rfl) (by kernel_rfl) (by kernel_rfl) (fun _ _ _ _ h => h) wantedN hS4 (fun W hW => (E.fieldAddr f31 Try.underlying69 rfl rfl wsz54_b)) fun a32 f32 => ?_
      clear f31 a31
      refine R.take 3 f32 rfl rfl (by decide) (by kernel_rfl) (by kernel_rfl) (by kernel_rfl) (fun _ _ _ _ h => h) wantedN hS4 (fun W hW => (by exact E.load f32 Try.underlying54 rfl rfl ((BP.kept hW (by simp)).cl rfl))) fun a33 f33 => ?_
      clear f32 a32
      refine R.take 4 f33 rfl rfl (by decide) (by kernel_rfl) (by kernel_rfl) (by kernel_rfl) (fun _ _ _ _ h => h) wantedN hS4 (fun W hW => (E.move f33 rfl)) fun a34 f34 => ?_
      clear f33 a33
      refine R.take 5 f34 rfl rfl (by decide) (by kernel_rfl) (by kernel_rfl) (by kernel_rfl) (fun _ _ _ _ h => h) wantedN hS4 (fun W hW => (E.nilCheck f34 rfl)) fun a35 f35 => ?_
      clear f34 a34
      refine R.take 6 f35 rfl rfl (by decide) (by kernel_rfl) (by kernel_rfl) (by kernel_rfl) (fun _ _ _ _ h => h) wantedN hS4 (fun W hW => (E.fieldAddr f35 Try.underlying69 rfl rfl wsz3_b)) fun a36 f36 => ?_
      clear f35 a35
      refine R.take 7 f36 rfl rfl (by decide) (by kernel_rfl) (by kernel_rfl) (by kernel_rfl) (fun _ _ _ _ h => h) wantedN hS4 (fun W hW => (by exact E.load f36 Try.underlying3 rfl rfl ((BP.kept hW (by simp)).cl rfl))) fun a37 f37 => ?_
      clear f36 a36
      refine R.take 8 f37 rfl rfl (by decide) (by kernel_rfl) (by kernel_rfl) (by kernel_rfl) (fun _ _ _ _ h => h) wantedN hS4 (fun W hW => (E.look f37 (IS.kept hW (by simp)) Try.underlying3 Try.underlying4 Try.underlying54 (fun _ => by kernel_rfl) rfl rfl (wf64 (by omega)))) fun a38 f38 => ?_
      clear f37 a37
      have szw4r := hS4.size
      replace HK := HK.trans hS4 (by simp)
      replace BP := BP.kept hS4 (by simp)
      replace IS := IS.kept hS4 (by simp)
      clear hS4
      refine R.done (by kernel_rfl) (hK8 _ _ ?_)
      try clear hK8 K8
      have f39 := f38.sub (sub_cons (i := 0) rfl (sub_cons (i := 23) rfl (sub_cons (i := 24) rfl (sub_cons (i := 25) rfl (sub_cons (i := 26) rfl (sub_cons (i := 27) rfl (sub_cons (i := 28) rfl (sub_cons (i := 29) rfl (sub_cons (i := 30) rfl (sub_cons (i := 31) rfl sub_nil))))))))))
      clear f38
      first | refine f39.splitD 31 rfl (fun h1 f40 => ?_) (fun h1 f40 => ?_) | refine f39.splitN 31 rfl (fun h1 f40 => ?_) (fun h1 f40 => ?_) | refine f39.splitNB 31 rfl (fun h1 f40 => ?_) (fun h1 f40 => ?_) | refine f39.split 31 rfl (fun h1 f40 => ?_) (fun h1 f40 => ?_)
      · clear f39
        have hin := h1
        refine C.condT f40 rfl ?_
        refine wp_skip (hK7 _ _ ?_)
        try clear hK7 K7
        have f41 := f40.sub (sub_cons (i := 0) rfl (sub_cons (i := 23) rfl (sub_cons (i := 24) rfl (sub_cons (i := 25) rfl (sub_cons (i := 26) rfl (sub_cons (i := 27) rfl (sub_cons (i := 28) rfl (sub_cons (i := 29) rfl (sub_cons (i := 30) rfl (sub_cons (i := 31) rfl sub_nil))))))))))
        clear f40
        refine wp_block ?_
        refine C.region ?_
        refine L.val f41 wantedN rfl (by decide) (E.move f41 rfl) fun a42 f42 => ?_
        clear f41 a38
        refine L.val f42 wantedN rfl (by decide) (E.move f42 rfl) fun a43 f43 => ?_
        clear f42 a42
        refine L.val f43 wantedN rfl (by decide) (E.nilCheck f43 rfl) fun a44 f44 => ?_
        clear f43 a43
        refine L.val f44 wantedN rfl (by decide) (E.fieldAddr f44 Try.underlying69 rfl rfl wsz3_b) fun a45 f45 => ?_
        clear f44 a44
        refine L.val f45 wantedN rfl (by decide) (by exact E.load f45 Try.underlying3 rfl rfl ((BP).cl rfl)) fun a46 f46 => ?_
        clear f45 a45
        refine L.val f46 wantedN rfl (by decide) (E.rem f46 rfl rfl (by omega) (Int.tmod_eq_emod_of_nonneg (by omega))) fun a47 f47 => ?_
        clear f46 a46
        refine L.val f47 wantedN rfl (by decide) (E.add f47 rfl rfl (IntWalk.i64_in _ (by omega))) fun a48 f48 => ?_
        clear f47 a47
        refine L.val f48 wantedN rfl (by decide) (E.nilCheck f48 rfl) fun a49 f49 => ?_
        clear f48 a48
        refine L.val f49 wantedN rfl (by decide) (E.fieldAddr f49 Try.underlying69 rfl rfl wsz3_b) fun a50 f50 => ?_
        clear f49 a49
        refine L.store f50 wantedN wsz3_b rfl rfl rfl BP (by first | decide | simp) fun a51 w5 f51 NB5 ks5 => ?_
        have szw5 := ks5.size
        replace HK := HK.trans ks5 (by simp)
        replace IS := IS.kept ks5 (by simp; omega)
        replace BP := NB5
        simp only [List.setIfInBounds_toArray, List.set_cons_zero, List.set_cons_succ, Nat.reduceAdd, Nat.zero_add] at BP
        clear ks5 f50 a50
        refine wpList_nil (hKL6 _ _ (gk7 - 1) ?_ ?_)
        · omega
        · exact ⟨Go.Ids.stp u, nx_step hq hin, (Go.Ids.stp_bd u (by omega)).1, (Go.Ids.stp_bd u (by omega)).2, BP, IS, HK, f51.sub (sub_cons rfl sub_nil)⟩
      · clear f39
        have hout := h1
        obtain rfl := nx_done hq hout
        refine C.condF f40 rfl ?_
        refine wp_exit (hK5 _ _ ?_)
        try clear hK5 K5
        have f41 := f40.sub (sub_cons (i := 0) rfl sub_nil)
        clear f40
        refine wp_seq_k fun K9 hK9 => ?_
        have KN := Kept.refl [] w4
        refine R.begin (S := fun W => Kept [im] w4 W) (by kernel_rfl) (by exact (Kept.refl _ _).drewN 1) ?_
        have hS6 : Kept [im] w4 (w4.drewN 1) := (Kept.refl _ _).drewN 1
        have hd6 : Kept [] w4 (w4.drewN 1) := (Kept.refl _ _).drewN 1
        obtain ⟨w5, hww5⟩ : ∃ W, W = w4.drewN 1 := ⟨_, rfl⟩
        rw [← hww5] at hS6 hd6 ⊢
        clear hww5
        have szw5 := hS6.size
        replace KN := KN.trans hd6 (by simp)
        refine R.take 0 f41 rfl rfl (by decide) (by kernel_rfl) (by kernel_rfl) (by kernel_rfl) (fun _ _ _ _ h => h) wantedN hS6 (fun W hW => (E.move f41 rfl)) fun a42 f42 => ?_
        clear f41 a38
        refine R.take 1 f42 rfl rfl (by decide) (by kernel_rfl) (by kernel_rfl) (by kernel_rfl) (fun _ _ _ _ h => h) wantedN hS6 (fun W hW => (E.nilCheck f42 rfl)) fun a43 f43 => ?_
        clear f42 a42
        refine R.take 2 f43 rfl rfl (by decide) (by kernel_rfl) (by kernel_rfl) (by kernel_rfl) (fun _ _ _ _ h => h) wantedN hS6 (fun W hW => (E.fieldAddr f43 Try.underlying69 rfl rfl wsz54_b)) fun a44 f44 => ?_
        clear f43 a43
        refine R.take 3 f44 rfl rfl (by decide) (by kernel_rfl) (by kernel_rfl) (by kernel_rfl) (fun _ _ _ _ h => h) wantedN hS6 (fun W hW => (by exact E.load f44 Try.underlying54 rfl rfl ((BP.kept hW (by simp; omega)).cl rfl))) fun a45 f45 => ?_
        clear f44 a44
        refine R.take 4 f45 rfl rfl (by decide) (by kernel_rfl) (by kernel_rfl) (by kernel_rfl) (fun _ _ _ _ h => h) wantedN hS6 (fun W hW => (E.move f45 rfl)) fun a46 f46 => ?_
        clear f45 a45
        refine R.take 5 f46 rfl rfl (by decide) (by kernel_rfl) (by kernel_rfl) (by kernel_rfl) (fun _ _ _ _ h => h) wantedN hS6 (fun W hW => (E.nilCheck f46 rfl)) fun a47 f47 => ?_
        clear f46 a46
        refine R.take 6 f47 rfl rfl (by decide) (by kernel_rfl) (by kernel_rfl) (by kernel_rfl) (fun _ _ _ _ h => h) wantedN hS6 (fun W hW => (E.fieldAddr f47 Try.underlying69 rfl rfl wsz3_b)) fun a48 f48 => ?_
        clear f47 a47
        refine R.take 7 f48 rfl rfl (by decide) (by kernel_rfl) (by kernel_rfl) (by kernel_rfl) (fun _ _ _ _ h => h) wantedN hS6 (fun W hW => (by exact E.load f48 Try.underlying3 rfl rfl ((BP.kept hW (by simp; omega)).cl rfl))) fun a49 f49 => ?_
        clear f48 a48
        refine R.one 8 (by kernel_rfl) ?_
        refine O.mapPut f49 rfl wantedN (IS.kept KN (by simp)) Try.underlying3 Try.underlying4 Try.underlying54 rfl rfl rfl (wf64 (by omega)) (by unfold maxLen; omega) (fun _ hk => hS6.trans hk (by simp)) fun a50 w6 IN ks f50 => ?_
        replace hS6 := hS6.trans ks (by simp)
        have szw6 := ks.size
        clear f49 a49 ks
        have szw6r := hS6.size
        replace HK := HK.trans hS6 (by simp)
        replace BP := BP.kept hS6 (by simp; omega)
        clear hS6
        refine R.done (by kernel_rfl) (hK9 _ _ ?_)
        try clear hK9 K9
        have f51 := f50.sub (sub_cons (i := 0) rfl sub_nil)
        clear f50
        refine wp_seq_k fun K10 hK10 => ?_
        refine C.region ?_
        refine L.val f51 wantedN rfl (by decide) (E.move f51 rfl) fun a52 f52 => ?_
        clear f51 a50
        refine L.val f52 wantedN rfl (by decide) (E.nilCheck f52 rfl) fun a53 f53 => ?_
        clear f52 a52
        refine L.val f53 wantedN rfl (by decide) (E.fieldAddr f53 Try.underlying69 rfl rfl wsz3_b) fun a54 f54 => ?_
        clear f53 a53
        refine L.val f54 wantedN rfl (by decide) (by exact E.load f54 Try.underlying3 rfl rfl ((BP).cl rfl)) fun a55 f55 => ?_
        clear f54 a54
        refine L.val f55 wantedN rfl (by decide) (E.assign f55 rfl) fun a56 f56 => ?_
        clear f55 a55
        refine L.val f56 wantedN rfl (by decide) (E.assign f56 rfl) fun a57 f57 => ?_
        clear f56 a56
        refine wpList_nil (hK10 _ _ ?_)
        try clear hK10 K10
        have f58 := f57.sub (sub_cons (i := 2) rfl (sub_cons (i := 3) rfl sub_nil))
        clear f57
        refine wp_ret ?_
        try simp only [Exit.inBlock, Exit.then]
        refine C.ret2 (P := Try.prog) (fn := Try.f38) f58 rfl rfl rfl ?_
        exact take_got (by omega) HK ⟨BP, IN, hne⟩

end Go.Proofs.Ytdfllmiokgoekaa
