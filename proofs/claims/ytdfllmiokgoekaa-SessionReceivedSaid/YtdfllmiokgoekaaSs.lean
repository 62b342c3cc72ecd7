/- SessionReceived: the walk. -/
import Derived.Test.YtdfllmiokgoekaaSr
set_option linter.all false
namespace Go.Proofs.Ytdfllmiokgoekaa
open Go.RowKit Go.Hub
theorem wsz3_q : (Try.prog.info? 3).map (·.size) = some 1 := by kernel_rfl
theorem wsz4_q : (Try.prog.info? 4).map (·.size) = some 1 := by kernel_rfl
theorem wsz35_q : (Try.prog.info? 35).map (·.size) = some 24 := by kernel_rfl
theorem wbl35_0_4_q (x0 : Int) (x1 : Int) : Try.prog.built 35 [(0, .int .i64 x0), (4, .int .i64 x1)] = some #[.int .i64 x0, (.bool false), (.bool false), (.int .i64 0), .int .i64 x1, (.string ⟨#[]⟩), (.slice none 0 0), (.int .i64 0), (.string ⟨#[]⟩), (.bool false), (.int .i64 0), (.bool false), (.string ⟨#[]⟩), (.slice none 0 0), (.int .i64 0), (.bool false), (.bool false), (.bool false), (.string ⟨#[]⟩), (.slice none 0 0), (.bool false), (.int .i64 0), (.slice none 0 0), (.slice none 0 0)] := by kernel_rfl

theorem lit_bne {p q : Prop} [Decidable p] [Decidable q] (h : p ↔ q) : Value.bool (decide p != decide q) = .bool false := by by_cases hp : p <;> simp [hp, ← h]
def recL (i : Nat) : Nat → List Pa → List Pa → Bool
  | j, a :: xs, b :: ys => decide (b.id = a.id) && (decide (b.kind = 6) == Nat.beq j i) && (Nat.beq j i || b.dup) && recL i (j + 1) xs ys
  | _, [], [] => true
  | _, _, _ => false
theorem recL_at : ∀ {xs ys : List Pa} {i j : Nat}, recL i j xs ys = true → ∀ (d : Nat) (a b : Pa), xs[d]? = some a → ys[d]? = some b → b.id = a.id ∧ (b.kind = 6 ↔ j + d = i) ∧ (j + d ≠ i → b.dup = true)
  | a :: xs, b :: ys, i, j, h, d, x, y, hx, hy => by
    unfold recL at h
    simp only [Bool.and_eq_true, decide_eq_true_eq, Bool.or_eq_true, beq_iff_eq] at h
    obtain ⟨⟨⟨h1, h2⟩, h3⟩, h4⟩ := h
    cases d with
    | zero =>
      simp at hx hy
      subst hx hy
      have hb : Nat.beq j i = true ↔ j = i := by rw [Nat.beq_eq]
      refine ⟨h1, ?_, fun hn => ?_⟩
      · rw [Nat.add_zero, ← hb, ← h2, decide_eq_true_eq]
      · rcases h3 with h3 | h3
        · exact absurd (hb.1 h3) hn
        · exact h3
    | succ d =>
      have := recL_at h4 d x y (by simpa using hx) (by simpa using hy)
      rw [show j + 1 + d = j + (d + 1) by omega] at this
      exact this
  | [], [], _, _, _, d, x, _, hx, _ => by simp at hx
theorem recL_spec {xs ys : List Pa} {i : Nat} (h : recL i 0 xs ys = true) (d : Nat) (a b : Pa) (ha : xs[d]? = some a) (hb : ys[d]? = some b) : b.id = a.id ∧ (b.kind = 6 ↔ d = i) ∧ (d ≠ i → b.dup = true) := by
  have := recL_at h d a b ha hb
  rwa [Nat.zero_add] at this
def recOk (m i : Nat) (rs : Bool) : Bool := match (flyS m 2).2[i]? with
  | none => false
  | some x => match ackS (flyS m 2).1 5 x.id 0 with
    | (S1, [y]) => decide (y.kind = 6) && decide (y.id = x.id) && (let r := if rs = true then resumeS (againS S1 8 8).1 3 else againS S1 8 8
        Nat.beq r.2.length m && recL i 0 (flyS m 2).2 r.2 && (match ackS r.1 7 x.id 9 with | (S4, []) => Nat.beq S4.fly.length (m - 1) | _ => false))
    | _ => false
theorem rec_all : ((List.range 5).all fun m => (List.range m).all fun i => Nat.beq (flyS m 2).2.length m && recOk m i true && recOk m i false) = true := by kernel_rfl
theorem rec_both {m i : Nat} (hm : 1 ≤ m ∧ m < 5) (hi : i < m) (rs : Bool) : (flyS m 2).2.length = m ∧ recOk m i rs = true := by
  have h := List.all_eq_true.1 (List.all_eq_true.1 rec_all m (List.mem_range.2 hm.2)) i (List.mem_range.2 hi)
  simp only [Bool.and_eq_true] at h
  refine ⟨Nat.eq_of_beq_eq_true h.1.1, ?_⟩
  cases rs
  · exact h.2
  · exact h.1.2
theorem rec_len {m : Nat} (hm : 1 ≤ m ∧ m < 5) : (flyS m 2).2.length = m := (rec_both hm (i := 0) (by omega) true).1
theorem rec_table {m i : Nat} (hm : 1 ≤ m ∧ m < 5) (hi : i < m) (rs : Bool) {x : Pa} (hx : (flyS m 2).2[i]? = some x) : ∃ S1 y r S4, ackS (flyS m 2).1 5 x.id 0 = (S1, [y]) ∧ y.kind = 6 ∧ y.id = x.id ∧ (if rs = true then resumeS (againS S1 8 8).1 3 else againS S1 8 8) = r ∧ r.2.length = m ∧ recL i 0 (flyS m 2).2 r.2 = true ∧ ackS r.1 7 x.id 9 = (S4, []) ∧ S4.fly.length = m - 1 := by
  have h := (rec_both hm hi rs).2
  unfold recOk at h
  rw [hx] at h
  simp only at h
  split at h
  · rename_i S1 y he
    simp only [Bool.and_eq_true, decide_eq_true_eq] at h
    obtain ⟨⟨h1, h2⟩, ⟨h3, h4⟩, h5⟩ := h
    split at h5
    · rename_i S4 he4
      exact ⟨S1, y, _, S4, he, h1, h2, rfl, Nat.eq_of_beq_eq_true h3, h4, he4, Nat.eq_of_beq_eq_true h5⟩
    · cases h5
  · cases h

set_option maxRecDepth 100000 in
set_option maxHeartbeats 6000000 in
theorem received_any (n k : Int) (rs : Bool) (w : World) (hn : 0 ≤ n ∧ n ≤ 255) (hk : 0 ≤ k ∧ k ≤ 255) : Calls Try.prog 7 #[.int .u8 n, .int .u8 k, .bool rs] w (fun e w' => e = .returned (.bool true) ∧ Below w.heap.size w w') := by
  have HK : Below w.heap.size w w := Below.refl _ _
  refine C.enter Try.func7 rfl Try.ntmps7 rfl ?_
  intro a0 f0
  have f1 : Fr 128 a0 [(0, .int .u8 n), (1, .int .u8 k), (2, .bool rs)] := f0
  clear f0
  refine wp_seq_k fun K0 hK0 => ?_
  refine C.region ?_
  refine L.val f1 wantedN rfl (by decide) (E.assign f1 rfl) fun a2 f2 => ?_
  clear f1 a0
  refine wpList_nil (hK0 _ _ ?_)
  try clear hK0 K0
  have f3 := f2.sub (sub_cons (i := 0) rfl (sub_cons (i := 1) rfl (sub_cons (i := 2) rfl (sub_cons (i := 6) rfl sub_nil))))
  clear f2
  refine wp_seq_k fun K1 hK1 => ?_
  refine wp_seq_k fun K2 hK2 => ?_
  refine C.region ?_
  refine L.call f3 wantedN rfl (by decide) (run_call Try.call9 (args0 f3)) (known_any _) ?_
  rintro e w1 ⟨rfl, kb⟩
  have kc1 : Mod [] [] w.heap.size w w1 := of_below kb
  refine ⟨_, rfl, fun a4 f4 => ?_⟩
  clear f3 a2
  have szw1 := kc1.size
  replace HK := blwm HK kc1
  clear kc1
  refine L.val f4 wantedN rfl (by decide) (E.not f4 rfl) fun a5 f5 => ?_
  clear f4 a4
  refine wpList_nil (hK2 _ _ ?_)
  try clear hK2 K2
  have f6 := f5.sub (sub_cons (i := 0) rfl (sub_cons (i := 1) rfl (sub_cons (i := 2) rfl (sub_cons (i := 6) rfl (sub_cons (i := 14) rfl sub_nil)))))
  clear f5
  refine C.condF f6 rfl ?_
  refine wp_skip (hK1 _ _ ?_)
  try clear hK1 K1
  have f7 := f6.sub (sub_cons (i := 0) rfl (sub_cons (i := 1) rfl (sub_cons (i := 2) rfl (sub_cons (i := 6) rfl sub_nil))))
  clear f6
  refine wp_seq_k fun K3 hK3 => ?_
  refine C.region ?_
  refine L.val f7 wantedN rfl (by decide) (E.move f7 rfl) fun a8 f8 => ?_
  clear f7 a5
  refine L.val f8 wantedN rfl (by decide) (E.rem f8 rfl rfl (by omega) (Int.tmod_eq_emod_of_nonneg (by omega))) fun a9 f9 => ?_
  clear f8 a8
  refine L.val f9 wantedN rfl (by decide) (E.conv f9 Try.underlying5 Try.underlying3 rfl (IntWalk.i64_in _ (by omega))) fun a10 f10 => ?_
  clear f9 a9
  refine L.val f10 wantedN rfl (by decide) (E.add f10 rfl rfl (IntWalk.i64_in _ (by omega))) fun a11 f11 => ?_
  clear f10 a10
  obtain ⟨m, hm⟩ : ∃ m : Nat, n % 4 + 1 = (m : Int) := ⟨(n % 4 + 1).toNat, by omega⟩
  have hm5 : 1 ≤ m ∧ m < 5 := by omega
  rw [hm] at f11
  refine L.call f11 wantedN rfl (by decide) (run_call Try.call12 (args2 f11 rfl rfl)) (flyN_any m 2 w.heap.size _ (by omega) HK.size) ?_
  rintro e w2 ⟨p, u, A, c, pks, rfl, HS, hab, hp, PK, kc2⟩
  have szk := HK.size
  replace PK := PK.lower (w1 := w) szk
  replace HK := HK.trans kc2
  refine ⟨_, rfl, fun a12 f12 => ?_⟩
  clear f11 a11
  have szw2 := kc2.size
  clear kc2
  refine L.val f12 wantedN rfl (by decide) (E.move f12 rfl) fun a13 f13 => ?_
  clear f12 a12
  refine L.val f13 wantedN rfl (by decide) (E.extract f13 rfl rfl) fun a14 f14 => ?_
  clear f13 a13
  refine L.val f14 wantedN rfl (by decide) (E.extract f14 rfl rfl) fun a15 f15 => ?_
  clear f14 a14
  refine L.val f15 wantedN rfl (by decide) (E.assign f15 rfl) fun a16 f16 => ?_
  clear f15 a15
  refine L.val f16 wantedN rfl (by decide) (E.assign f16 rfl) fun a17 f17 => ?_
  clear f16 a16
  refine wpList_nil (hK3 _ _ ?_)
  try clear hK3 K3
  have f18 := f17.sub (sub_cons (i := 1) rfl (sub_cons (i := 2) rfl (sub_cons (i := 6) rfl (sub_cons (i := 7) rfl (sub_cons (i := 8) rfl sub_nil)))))
  clear f17
  refine wp_seq_k fun K4 hK4 => ?_
  have hlen : pks.length = m := by have := rec_len hm5; rw [← hp] at this; simpa using this
  refine C.region ?_
  refine L.val f18 wantedN rfl (by decide) (E.move f18 rfl) fun a19 f19 => ?_
  clear f18 a17
  refine L.val f19 wantedN rfl (by decide) (E.conv f19 Try.underlying5 Try.underlying3 rfl (IntWalk.i64_in _ (by omega))) fun a20 f20 => ?_
  clear f19 a19
  refine L.val f20 wantedN rfl (by decide) (E.move f20 rfl) fun a21 f21 => ?_
  clear f20 a20
  refine L.val f21 wantedN rfl (by decide) (E.lenL f21 Try.underlying27 rfl) fun a22 f22 => ?_
  clear f21 a21
  refine L.val f22 wantedN rfl (by decide) (E.rem f22 rfl rfl (by omega) (Int.tmod_eq_emod_of_nonneg (by omega))) fun a23 f23 => ?_
  clear f22 a22
  refine L.val f23 wantedN rfl (by decide) (E.assign f23 rfl) fun a24 f24 => ?_
  clear f23 a23
  refine wpList_nil (hK4 _ _ ?_)
  try clear hK4 K4
  have f25 := f24.sub (sub_cons (i := 2) rfl (sub_cons (i := 6) rfl (sub_cons (i := 7) rfl (sub_cons (i := 8) rfl (sub_cons (i := 9) rfl sub_nil)))))
  clear f24
  refine wp_seq_k fun K5 hK5 => ?_
  obtain ⟨i, hi⟩ : ∃ i : Nat, k % (pks.length : Int) = (i : Int) := ⟨(k % (pks.length : Int)).toNat, by have := Int.emod_nonneg k (b := (pks.length : Int)) (by omega); omega⟩
  rw [hi] at f25
  have him : i < m := by have := Int.emod_lt_of_pos k (b := (pks.length : Int)) (by omega); omega
  obtain ⟨x, hx⟩ : ∃ x, pks[i]? = some x := ⟨pks[i]'(by omega), List.getElem?_eq_getElem _⟩
  obtain ⟨bP, offP, hAP⟩ := (Sl.of_own PK.fr.own).addr (by omega)
  obtain ⟨S1, q1, r, S4, hT1, hq1k, hq1i, hr, hT2, hT3, hT4, hT5⟩ := rec_table hm5 him rs (x := x.p) (by rw [← hp, List.getElem?_map, hx]; rfl)
  obtain ⟨S2, L2⟩ := r
  refine C.region ?_
  refine L.val f25 wantedN rfl (by decide) (E.move f25 rfl) fun a26 f26 => ?_
  clear f25 a24
  refine L.val f26 wantedN rfl (by decide) (E.move f26 rfl) fun a27 f27 => ?_
  clear f26 a26
  refine L.val f27 wantedN rfl (by decide) (E.move f27 rfl) fun a28 f28 => ?_
  clear f27 a27
  refine L.val f28 wantedN rfl (by decide) (E.indexA f28 (by first | rfl | assumption) Try.underlying27 wsz35_q rfl rfl (by omega) (by omega)) fun a29 f29 => ?_
  clear f28 a28
  refine L.val f29 wantedN rfl (by decide) (E.fieldAddr f29 Try.underlying35 rfl rfl wsz3_q) fun a30 f30 => ?_
  clear f29 a29
  refine L.val f30 wantedN rfl (by decide) (E.load f30 Try.underlying3 rfl rfl (pk_cell PK.fr.own hAP (i := i) (x := x) hx 4 rfl (show offP + i * 24 + 4 = _ by omega))) fun a31 f31 => ?_
  clear f30 a30
  refine L.val f31 wantedN rfl (by decide) (E.build f31 (parts2 f31 rfl rfl) (wbl35_0_4_q _ _)) fun a32 f32 => ?_
  clear f31 a31
  have hC := ack_any w.heap.size p u 5 x.p.id 0 #[(.int .i64 5), (.bool false), (.bool false), (.int .i64 0), (.int .i64 x.p.id), (.string ⟨#[]⟩), (.slice none 0 0), (.int .i64 0), (.string ⟨#[]⟩), (.bool false), (.int .i64 0), (.bool false), (.string ⟨#[]⟩), (.slice none 0 0), (.int .i64 0), (.bool false), (.bool false), (.bool false), (.string ⟨#[]⟩), (.slice none 0 0), (.bool false), (.int .i64 0), (.slice none 0 0), (.slice none 0 0)] rfl rfl w2 HS HK.size
  rw [hab, hT1] at hC
  refine L.call f32 wantedN rfl (by decide) (run_call Try.call13 (args3 f32 rfl rfl rfl)) hC ?_
  rintro e w3 ⟨u1, A1, c1, pk1, rfl, HS1, hr1, hL1, kc3, PK1, -⟩
  injection hr1 with hab1 hp1
  obtain ⟨y1, rfl, hy1⟩ := one_of hp1
  refine ⟨_, rfl, fun a33 f33 => ?_⟩
  clear f32 a32
  have szw3 := kc3.size
  replace HK := blwm HK kc3
  replace PK := PK.mod kc3 (by decide)
  clear kc3
  refine L.val f33 wantedN rfl (by decide) (E.assign f33 rfl) fun a34 f34 => ?_
  clear f33 a33
  refine wpList_nil (hK5 _ _ ?_)
  try clear hK5 K5
  have f35 := f34.sub (sub_cons (i := 2) rfl (sub_cons (i := 6) rfl (sub_cons (i := 7) rfl (sub_cons (i := 8) rfl (sub_cons (i := 9) rfl (sub_cons (i := 10) rfl sub_nil))))))
  clear f34
  refine wp_seq_k fun K6 hK6 => ?_
  refine wp_seq_k fun K7 hK7 => ?_
  obtain ⟨b1, o1, hA1⟩ := (Sl.of_own PK1.fr.own).addr (by simp)
  refine R.begin (S := fun W => Kept [] w3 W) (by kernel_rfl) (by exact (Kept.refl _ _).drewN 1) ?_
  have hS6 : Kept [] w3 (w3.drewN 1) := (Kept.refl _ _).drewN 1
  have hd6 : Kept [] w3 (w3.drewN 1) := (Kept.refl _ _).drewN 1
  obtain ⟨w4, hww4⟩ : ∃ W, W = w3.drewN 1 := ⟨_, rfl⟩
  rw [← hww4] at hS6 hd6 ⊢
  clear hww4
  have szw4 := hS6.size
  refine R.take 0 f35 rfl rfl (by decide) (by kernel_rfl) (by kernel_rfl) (by kernel_rfl) (fun _ _ _ _ h => h) wantedN hS6 (fun W hW => (E.move f35 rfl)) fun a36 f36 => ?_
  clear f35 a34
  refine R.take 1 f36 rfl rfl (by decide) (by kernel_rfl) (by kernel_rfl) (by kernel_rfl) (fun _ _ _ _ h => h) wantedN hS6 (fun W hW => (E.lenL f36 Try.underlying27 rfl)) fun a37 f37 => ?_
  clear f36 a36
  refine R.take 2 f37 rfl rfl (by decide) (by kernel_rfl) (by kernel_rfl) (by kernel_rfl) (fun _ _ _ _ h => h) wantedN hS6 (fun W hW => (E.neq f37 rfl rfl)) fun a38 f38 => ?_
  clear f37 a37
  have f39 := f38.as (i := 38) (v' := .bool false) rfl (by rfl)
  clear f38
  refine R.take 3 f39 rfl rfl (by decide) (by kernel_rfl) (by kernel_rfl) (by kernel_rfl) (fun _ _ _ _ h => h) wantedN hS6 (fun W hW => (E.move f39 rfl)) fun a40 f40 => ?_
  clear f39 a38
  refine R.take 4 f40 rfl rfl (by decide) (by kernel_rfl) (by kernel_rfl) (by kernel_rfl) (fun _ _ _ _ h => h) (f40.yes rfl rfl) hS6 (fun W hW => (E.move f40 rfl)) fun a41 f41 => ?_
  clear f40 a40
  refine R.take 5 f41 rfl rfl (by decide) (by kernel_rfl) (by kernel_rfl) (by kernel_rfl) (fun _ _ _ _ h => h) (f41.yes rfl rfl) hS6 (fun W hW => (E.indexA f41 hA1 Try.underlying27 wsz35_q rfl rfl (by decide) (by simp))) fun a42 f42 => ?_
  clear f41 a41
  refine R.take 6 f42 rfl rfl (by decide) (by kernel_rfl) (by kernel_rfl) (by kernel_rfl) (fun _ _ _ _ h => h) (f42.yes rfl rfl) hS6 (fun W hW => (E.fieldAddr f42 Try.underlying35 rfl rfl wsz3_q)) fun a43 f43 => ?_
  clear f42 a42
  refine R.take 7 f43 rfl rfl (by decide) (by kernel_rfl) (by kernel_rfl) (by kernel_rfl) (fun _ _ _ _ h => h) (f43.yes rfl rfl) hS6 (fun W hW => (E.load f43 Try.underlying3 rfl rfl (pk_cell (PK1.fr.own.kept hW (by simp)) hA1 (i := 0) (x := y1) rfl 0 rfl (show o1 + 0 * 24 + 0 = _ by omega)))) fun a44 f44 => ?_
  clear f43 a43
  refine R.take 8 f44 rfl rfl (by decide) (by kernel_rfl) (by kernel_rfl) (by kernel_rfl) (fun _ _ _ _ h => h) (f44.yes rfl rfl) hS6 (fun W hW => (E.neq f44 rfl rfl)) fun a45 f45 => ?_
  clear f44 a44
  have f46 := f45.as (i := 44) (v' := .bool false) rfl (by rw [hy1]; exact lit_ne hq1k)
  clear f45
  refine R.take 9 f46 rfl rfl (by decide) (by kernel_rfl) (by kernel_rfl) (by kernel_rfl) (fun _ _ _ _ h => h) wantedN hS6 (fun W hW => (E.pickF f46 rfl rfl)) fun a47 f47 => ?_
  clear f46 a45
  refine R.take 10 f47 rfl rfl (by decide) (by kernel_rfl) (by kernel_rfl) (by kernel_rfl) (fun _ _ _ _ h => h) wantedN hS6 (fun W hW => (E.move f47 rfl)) fun a48 f48 => ?_
  clear f47 a47
  refine R.take 11 f48 rfl rfl (by decide) (by kernel_rfl) (by kernel_rfl) (by kernel_rfl) (fun _ _ _ _ h => h) (f48.yes rfl rfl) hS6 (fun W hW => (E.move f48 rfl)) fun a49 f49 => ?_
  clear f48 a48
  refine R.take 12 f49 rfl rfl (by decide) (by kernel_rfl) (by kernel_rfl) (by kernel_rfl) (fun _ _ _ _ h => h) (f49.yes rfl rfl) hS6 (fun W hW => (E.indexA f49 hA1 Try.underlying27 wsz35_q rfl rfl (by decide) (by simp))) fun a50 f50 => ?_
  clear f49 a49
  refine R.take 13 f50 rfl rfl (by decide) (by kernel_rfl) (by kernel_rfl) (by kernel_rfl) (fun _ _ _ _ h => h) (f50.yes rfl rfl) hS6 (fun W hW => (E.fieldAddr f50 Try.underlying35 rfl rfl wsz3_q)) fun a51 f51 => ?_
  clear f50 a50
  refine R.take 14 f51 rfl rfl (by decide) (by kernel_rfl) (by kernel_rfl) (by kernel_rfl) (fun _ _ _ _ h => h) (f51.yes rfl rfl) hS6 (fun W hW => (E.load f51 Try.underlying3 rfl rfl (pk_cell (PK1.fr.own.kept hW (by simp)) hA1 (i := 0) (x := y1) rfl 4 rfl (show o1 + 0 * 24 + 4 = _ by omega)))) fun a52 f52 => ?_
  clear f51 a51
  refine R.take 15 f52 rfl rfl (by decide) (by kernel_rfl) (by kernel_rfl) (by kernel_rfl) (fun _ _ _ _ h => h) (f52.yes rfl rfl) hS6 (fun W hW => (E.move f52 rfl)) fun a53 f53 => ?_
  clear f52 a52
  refine R.take 16 f53 rfl rfl (by decide) (by kernel_rfl) (by kernel_rfl) (by kernel_rfl) (fun _ _ _ _ h => h) (f53.yes rfl rfl) hS6 (fun W hW => (E.move f53 rfl)) fun a54 f54 => ?_
  clear f53 a53
  refine R.take 17 f54 rfl rfl (by decide) (by kernel_rfl) (by kernel_rfl) (by kernel_rfl) (fun _ _ _ _ h => h) (f54.yes rfl rfl) hS6 (fun W hW => (E.indexA f54 (by first | rfl | assumption) Try.underlying27 wsz35_q rfl rfl (by omega) (by omega))) fun a55 f55 => ?_
  clear f54 a54
  refine R.take 18 f55 rfl rfl (by decide) (by kernel_rfl) (by kernel_rfl) (by kernel_rfl) (fun _ _ _ _ h => h) (f55.yes rfl rfl) hS6 (fun W hW => (E.fieldAddr f55 Try.underlying35 rfl rfl wsz3_q)) fun a56 f56 => ?_
  clear f55 a55
  refine R.take 19 f56 rfl rfl (by decide) (by kernel_rfl) (by kernel_rfl) (by kernel_rfl) (fun _ _ _ _ h => h) (f56.yes rfl rfl) hS6 (fun W hW => (E.load f56 Try.underlying3 rfl rfl (pk_cell (PK.fr.own.kept hW (by simp)) hAP (i := i) (x := x) hx 4 rfl (show offP + i * 24 + 4 = _ by omega)))) fun a57 f57 => ?_
  clear f56 a56
  refine R.take 20 f57 rfl rfl (by decide) (by kernel_rfl) (by kernel_rfl) (by kernel_rfl) (fun _ _ _ _ h => h) (f57.yes rfl rfl) hS6 (fun W hW => (E.neq f57 rfl rfl)) fun a58 f58 => ?_
  clear f57 a57
  have f59 := f58.as (i := 56) (v' := .bool false) rfl (by rw [hy1]; exact lit_ne hq1i)
  clear f58
  refine R.take 21 f59 rfl rfl (by decide) (by kernel_rfl) (by kernel_rfl) (by kernel_rfl) (fun _ _ _ _ h => h) wantedN hS6 (fun W hW => (E.pickF f59 rfl rfl)) fun a60 f60 => ?_
  clear f59 a58
  have szw4r := hS6.size
  replace HK := blwm HK (.of_kept0 (T := []) (M := []) hS6)
  replace PK := PK.mod (Mod.of_kept0 (T := []) (M := []) (B := (w.heap.size)) hS6) (by decide)
  replace HS1 := HS1.mod (Mod.of_kept0 (T := []) (M := []) (B := (w.heap.size)) hS6) (by decide)
  replace PK1 := PK1.mod (Mod.of_kept0 (T := []) (M := []) (B := (w.heap.size)) hS6) (by decide)
  clear hS6
  refine R.done (by kernel_rfl) (hK7 _ _ ?_)
  try clear hK7 K7
  have f61 := f60.sub (sub_cons (i := 2) rfl (sub_cons (i := 6) rfl (sub_cons (i := 7) rfl (sub_cons (i := 8) rfl (sub_cons (i := 9) rfl (sub_cons (i := 57) rfl sub_nil))))))
  clear f60
  refine C.condF f61 rfl ?_
  refine wp_skip (hK6 _ _ ?_)
  try clear hK6 K6
  have f62 := f61.sub (sub_cons (i := 2) rfl (sub_cons (i := 6) rfl (sub_cons (i := 7) rfl (sub_cons (i := 8) rfl (sub_cons (i := 9) rfl sub_nil)))))
  clear f61
  refine wp_seq_k fun K8 hK8 => ?_
  refine C.region ?_
  refine L.val f62 wantedN rfl (by decide) (E.move f62 rfl) fun a63 f63 => ?_
  clear f62 a60
  have hC := Again_any w.heap.size p u1 8 w4 HS1 HK.size
  rw [hab1] at hC
  refine L.call f63 wantedN rfl (by decide) (run_call Try.call18 (args2 f63 rfl rfl)) hC ?_
  rintro e w5 ⟨u3, A3, c3, pk3, rfl, HS3, hr3, hL3, kc5, PL3, -⟩
  have szk := HK.size
  replace PL3 := PL3.lower (w1 := w) szk
  refine ⟨_, rfl, fun a64 f64 => ?_⟩
  clear f63 a63
  have szw5 := kc5.size
  replace HK := blwm HK kc5
  replace PK := PK.mod kc5 (by decide)
  clear kc5
  refine L.val f64 wantedN rfl (by decide) (E.assign f64 rfl) fun a65 f65 => ?_
  clear f64 a64
  refine wpList_nil (hK8 _ _ ?_)
  try clear hK8 K8
  have f66 := f65.sub (sub_cons (i := 2) rfl (sub_cons (i := 6) rfl (sub_cons (i := 7) rfl (sub_cons (i := 8) rfl (sub_cons (i := 9) rfl (sub_cons (i := 11) rfl sub_nil))))))
  clear f65
  refine wp_seq_k fun K9 hK9 => ?_
  refine wp_seq_k fun K10 hK10 => ?_
  refine C.region ?_
  refine L.val f66 wantedN rfl (by decide) (E.move f66 rfl) fun a67 f67 => ?_
  clear f66 a65
  refine wpList_nil (hK10 _ _ ?_)
  try clear hK10 K10
  have f68 := f67.sub (sub_cons (i := 6) rfl (sub_cons (i := 7) rfl (sub_cons (i := 8) rfl (sub_cons (i := 9) rfl (sub_cons (i := 11) rfl (sub_cons (i := 60) rfl sub_nil))))))
  clear f67
  first | refine f68.splitD 60 rfl (fun h0 f69 => ?_) (fun h0 f69 => ?_) | refine f68.splitN 60 rfl (fun h0 f69 => ?_) (fun h0 f69 => ?_) | refine f68.splitNB 60 rfl (fun h0 f69 => ?_) (fun h0 f69 => ?_) | refine f68.split 60 rfl (fun h0 f69 => ?_) (fun h0 f69 => ?_)
  · clear f68
    have hrs := h0
    refine C.condT f69 rfl ?_
    refine C.region ?_
    refine L.val f69 wantedN rfl (by decide) (E.move f69 rfl) fun a70 f70 => ?_
    clear f69 a67
    have hC := Resume_any w.heap.size p u3 3 w5 HS3 HK.size
    refine L.call f70 wantedN rfl (by decide) (run_call Try.call19 (args2 f70 rfl rfl)) hC ?_
    rintro e w6 ⟨u4, A4, c4, pk4, rfl, HS4, hr4, hL4, kc6, PL4, -⟩
    have szk := HK.size
    replace PL4 := PL4.lower (w1 := w) szk
    refine ⟨_, rfl, fun a71 f71 => ?_⟩
    clear f70 a70
    have szw6 := kc6.size
    replace HK := blwm HK kc6
    replace PK := PK.mod kc6 (by decide)
    clear kc6
    refine L.val f71 wantedN rfl (by decide) (E.assign f71 rfl) fun a72 f72 => ?_
    clear f71 a71
    refine wpList_nil (hK9 _ _ ?_)
    try clear hK9 K9
    have f73 := f72.sub (sub_cons (i := 6) rfl (sub_cons (i := 7) rfl (sub_cons (i := 8) rfl (sub_cons (i := 9) rfl (sub_cons (i := 11) rfl sub_nil)))))
    clear f72
    refine wp_seq_k fun K11 hK11 => ?_
    refine wp_seq_k fun K12 hK12 => ?_
    have habr : (u4.abs, pk4.map (·.p)) = (S2, L2) := by rw [← hr]; rw [hr4, ← hr3, if_pos hrs]
    injection habr with hab4 hp4
    have hlL0 : pk4.length = m := by rw [← hT2, ← hp4, List.length_map]
    refine C.region ?_
    refine L.val f73 wantedN rfl (by decide) (E.move f73 rfl) fun a74 f74 => ?_
    clear f73 a72
    refine L.val f74 wantedN rfl (by decide) (E.lenL f74 Try.underlying27 rfl) fun a75 f75 => ?_
    clear f74 a74
    refine L.val f75 wantedN rfl (by decide) (E.move f75 rfl) fun a76 f76 => ?_
    clear f75 a75
    refine L.val f76 wantedN rfl (by decide) (E.lenL f76 Try.underlying27 rfl) fun a77 f77 => ?_
    clear f76 a76
    refine L.val f77 wantedN rfl (by decide) (E.neq f77 rfl rfl) fun a78 f78 => ?_
    clear f77 a77
    have f79 := f78.as (i := 67) (v' := .bool false) rfl (by exact lit_ne (by omega))
    clear f78
    refine wpList_nil (hK12 _ _ ?_)
    try clear hK12 K12
    have f80 := f79.sub (sub_cons (i := 6) rfl (sub_cons (i := 7) rfl (sub_cons (i := 8) rfl (sub_cons (i := 9) rfl (sub_cons (i := 11) rfl (sub_cons (i := 67) rfl sub_nil))))))
    clear f79
    refine C.condF f80 rfl ?_
    refine wp_skip (hK11 _ _ ?_)
    try clear hK11 K11
    have f81 := f80.sub (sub_cons (i := 6) rfl (sub_cons (i := 7) rfl (sub_cons (i := 8) rfl (sub_cons (i := 9) rfl (sub_cons (i := 11) rfl sub_nil)))))
    clear f80
    refine wp_seq_k fun K13 hK13 => ?_
    refine wp_seq_k fun K14 hK14 => ?_
    refine C.region ?_
    refine L.val f81 wantedN rfl (by decide) (E.assign f81 rfl) fun a82 f82 => ?_
    clear f81 a78
    refine wpList_nil (hK14 _ _ ?_)
    try clear hK14 K14
    have f83 := f82.sub (sub_cons (i := 6) rfl (sub_cons (i := 7) rfl (sub_cons (i := 8) rfl (sub_cons (i := 9) rfl (sub_cons (i := 11) rfl (sub_cons (i := 12) rfl sub_nil))))))
    clear f82
    refine wp_block ?_
    have habL := hab4
    have hplL : pk4.map (·.p) = L2 := hp4
    have hlL : pk4.length = m := by rw [← hT2, ← hplL, List.length_map]
    refine C.loop (fun gk a W => ∃ j : Nat, j + gk = pk4.length ∧ SesAt w.heap.size W p u4 ∧ PkAt w.heap.size w W A c pks ∧ PkAt w.heap.size w W A4 c4 pk4 ∧ Below w.heap.size w W ∧ Fr 128 a [(7, .pointer (some ⟨p, 0, none⟩)), (8, .slice A pks.length c), (9, .int .i64 i), (11, .slice A4 pk4.length c4), (12, .int .i64 j)]) (pk4.length) ?_ ?_
    · exact ⟨0, by omega, HS4, PK, PL4, HK, f83.sub (sub_cons rfl (sub_cons rfl (sub_cons rfl (sub_cons rfl (sub_cons rfl sub_nil)))))⟩
    · intro gk16 a84 w7 hI KL15 hKL15
      obtain ⟨j, hj, HS4, PK, PL4, HK, f84⟩ := hI
      try clear f83
      have szw1x := HK.size
      refine wp_seq_k fun K16 hK16 => ?_
      refine wp_seq_k fun K17 hK17 => ?_
      refine C.region ?_
      refine L.val f84 wantedN rfl (by decide) (E.move f84 rfl) fun a85 f85 => ?_
      clear f84 a84
      refine L.val f85 wantedN rfl (by decide) (E.move f85 rfl) fun a86 f86 => ?_
      clear f85 a85
      refine L.val f86 wantedN rfl (by decide) (E.lenL f86 Try.underlying27 rfl) fun a87 f87 => ?_
      clear f86 a86
      refine L.val f87 wantedN rfl (by decide) (E.lss f87 rfl rfl) fun a88 f88 => ?_
      clear f87 a87
      refine wpList_nil (hK17 _ _ ?_)
      try clear hK17 K17
      have f89 := f88.sub (sub_cons (i := 7) rfl (sub_cons (i := 8) rfl (sub_cons (i := 9) rfl (sub_cons (i := 11) rfl (sub_cons (i := 12) rfl (sub_cons (i := 68) rfl (sub_cons (i := 69) rfl (sub_cons (i := 70) rfl (sub_cons (i := 71) rfl sub_nil)))))))))
      clear f88
      first | refine f89.splitD 71 rfl (fun h1 f90 => ?_) (fun h1 f90 => ?_) | refine f89.splitN 71 rfl (fun h1 f90 => ?_) (fun h1 f90 => ?_) | refine f89.splitNB 71 rfl (fun h1 f90 => ?_) (fun h1 f90 => ?_) | refine f89.split 71 rfl (fun h1 f90 => ?_) (fun h1 f90 => ?_)
      · clear f89
        have hjl := h1
        refine C.condT f90 rfl ?_
        refine wp_skip (hK16 _ _ ?_)
        try clear hK16 K16
        have f91 := f90.sub (sub_cons (i := 7) rfl (sub_cons (i := 8) rfl (sub_cons (i := 9) rfl (sub_cons (i := 11) rfl (sub_cons (i := 12) rfl (sub_cons (i := 68) rfl (sub_cons (i := 69) rfl (sub_cons (i := 70) rfl (sub_cons (i := 71) rfl sub_nil)))))))))
        clear f90
        refine wp_seq_k fun K18 hK18 => ?_
        refine wp_block ?_
        refine wp_seq_k fun K19 hK19 => ?_
        obtain ⟨z, hz⟩ : ∃ z, pk4[j]? = some z := ⟨pk4[j]'(by omega), List.getElem?_eq_getElem _⟩
        obtain ⟨y, hy⟩ : ∃ y, pks[j]? = some y := ⟨pks[j]'(by omega), List.getElem?_eq_getElem _⟩
        obtain ⟨bL, offL, hAL⟩ := (Sl.of_own PL4.fr.own).addr (by omega)
        obtain ⟨hzi, hzk, hzd⟩ := recL_spec hT3 j y.p z.p (by rw [← hp, List.getElem?_map, hy]; rfl) (by rw [← hplL, List.getElem?_map, hz]; rfl)
        refine R.begin (S := fun W => Kept [] w7 W) (by kernel_rfl) (by exact (Kept.refl _ _).drewN 1) ?_
        have hS16 : Kept [] w7 (w7.drewN 1) := (Kept.refl _ _).drewN 1
        have hd16 : Kept [] w7 (w7.drewN 1) := (Kept.refl _ _).drewN 1
        obtain ⟨w8, hww8⟩ : ∃ W, W = w7.drewN 1 := ⟨_, rfl⟩
        rw [← hww8] at hS16 hd16 ⊢
        clear hww8
        have szw8 := hS16.size
        refine R.take 0 f91 rfl rfl (by decide) (by kernel_rfl) (by kernel_rfl) (by kernel_rfl) (fun _ _ _ _ h => h) wantedN hS16 (fun W hW => (E.move f91 rfl)) fun a92 f92 => ?_
        clear f91 a88
        refine R.take 1 f92 rfl rfl (by decide) (by kernel_rfl) (by kernel_rfl) (by kernel_rfl) (fun _ _ _ _ h => h) wantedN hS16 (fun W hW => (E.move f92 rfl)) fun a93 f93 => ?_
        clear f92 a92
        refine R.take 2 f93 rfl rfl (by decide) (by kernel_rfl) (by kernel_rfl) (by kernel_rfl) (fun _ _ _ _ h => h) wantedN hS16 (fun W hW => (E.indexA f93 (by first | rfl | assumption) Try.underlying27 wsz35_q rfl rfl (by omega) (by omega))) fun a94 f94 => ?_
        clear f93 a93
        refine R.take 3 f94 rfl rfl (by decide) (by kernel_rfl) (by kernel_rfl) (by kernel_rfl) (fun _ _ _ _ h => h) wantedN hS16 (fun W hW => (E.fieldAddr f94 Try.underlying35 rfl rfl wsz3_q)) fun a95 f95 => ?_
        clear f94 a94
        refine R.take 4 f95 rfl rfl (by decide) (by kernel_rfl) (by kernel_rfl) (by kernel_rfl) (fun _ _ _ _ h => h) wantedN hS16 (fun W hW => (E.load f95 Try.underlying3 rfl rfl (pk_cell (PL4.fr.own.kept hW (by simp)) hAL (i := j) (x := z) hz 4 rfl (show offL + j * 24 + 4 = _ by omega)))) fun a96 f96 => ?_
        clear f95 a95
        refine R.take 5 f96 rfl rfl (by decide) (by kernel_rfl) (by kernel_rfl) (by kernel_rfl) (fun _ _ _ _ h => h) wantedN hS16 (fun W hW => (E.move f96 rfl)) fun a97 f97 => ?_
        clear f96 a96
        refine R.take 6 f97 rfl rfl (by decide) (by kernel_rfl) (by kernel_rfl) (by kernel_rfl) (fun _ _ _ _ h => h) wantedN hS16 (fun W hW => (E.move f97 rfl)) fun a98 f98 => ?_
        clear f97 a97
        refine R.take 7 f98 rfl rfl (by decide) (by kernel_rfl) (by kernel_rfl) (by kernel_rfl) (fun _ _ _ _ h => h) wantedN hS16 (fun W hW => (E.indexA f98 (by first | rfl | assumption) Try.underlying27 wsz35_q rfl rfl (by omega) (by omega))) fun a99 f99 => ?_
        clear f98 a98
        refine R.take 8 f99 rfl rfl (by decide) (by kernel_rfl) (by kernel_rfl) (by kernel_rfl) (fun _ _ _ _ h => h) wantedN hS16 (fun W hW => (E.fieldAddr f99 Try.underlying35 rfl rfl wsz3_q)) fun a100 f100 => ?_
        clear f99 a99
        refine R.take 9 f100 rfl rfl (by decide) (by kernel_rfl) (by kernel_rfl) (by kernel_rfl) (fun _ _ _ _ h => h) wantedN hS16 (fun W hW => (E.load f100 Try.underlying3 rfl rfl (pk_cell (PK.fr.own.kept hW (by simp)) hAP (i := j) (x := y) hy 4 rfl (show offP + j * 24 + 4 = _ by omega)))) fun a101 f101 => ?_
        clear f100 a100
        refine R.take 10 f101 rfl rfl (by decide) (by kernel_rfl) (by kernel_rfl) (by kernel_rfl) (fun _ _ _ _ h => h) wantedN hS16 (fun W hW => (E.neq f101 rfl rfl)) fun a102 f102 => ?_
        clear f101 a101
        have f103 := f102.as (i := 84) (v' := .bool false) rfl (by exact lit_ne hzi)
        clear f102
        refine R.take 11 f103 rfl rfl (by decide) (by kernel_rfl) (by kernel_rfl) (by kernel_rfl) (fun _ _ _ _ h => h) wantedN hS16 (fun W hW => (E.move f103 rfl)) fun a104 f104 => ?_
        clear f103 a102
        refine R.take 12 f104 rfl rfl (by decide) (by kernel_rfl) (by kernel_rfl) (by kernel_rfl) (fun _ _ _ _ h => h) (f104.yes rfl rfl) hS16 (fun W hW => (E.move f104 rfl)) fun a105 f105 => ?_
        clear f104 a104
        refine R.take 13 f105 rfl rfl (by decide) (by kernel_rfl) (by kernel_rfl) (by kernel_rfl) (fun _ _ _ _ h => h) (f105.yes rfl rfl) hS16 (fun W hW => (E.move f105 rfl)) fun a106 f106 => ?_
        clear f105 a105
        refine R.take 14 f106 rfl rfl (by decide) (by kernel_rfl) (by kernel_rfl) (by kernel_rfl) (fun _ _ _ _ h => h) (f106.yes rfl rfl) hS16 (fun W hW => (E.indexA f106 (by first | rfl | assumption) Try.underlying27 wsz35_q rfl rfl (by omega) (by omega))) fun a107 f107 => ?_
        clear f106 a106
        refine R.take 15 f107 rfl rfl (by decide) (by kernel_rfl) (by kernel_rfl) (by kernel_rfl) (fun _ _ _ _ h => h) (f107.yes rfl rfl) hS16 (fun W hW => (E.fieldAddr f107 Try.underlying35 rfl rfl wsz3_q)) fun a108 f108 => ?_
        clear f107 a107
        refine R.take 16 f108 rfl rfl (by decide) (by kernel_rfl) (by kernel_rfl) (by kernel_rfl) (fun _ _ _ _ h => h) (f108.yes rfl rfl) hS16 (fun W hW => (E.load f108 Try.underlying3 rfl rfl (pk_cell (PL4.fr.own.kept hW (by simp)) hAL (i := j) (x := z) hz 0 rfl (show offL + j * 24 + 0 = _ by omega)))) fun a109 f109 => ?_
        clear f108 a108
        refine R.take 17 f109 rfl rfl (by decide) (by kernel_rfl) (by kernel_rfl) (by kernel_rfl) (fun _ _ _ _ h => h) (f109.yes rfl rfl) hS16 (fun W hW => (E.eql f109 rfl rfl)) fun a110 f110 => ?_
        clear f109 a109
        refine R.take 18 f110 rfl rfl (by decide) (by kernel_rfl) (by kernel_rfl) (by kernel_rfl) (fun _ _ _ _ h => h) (f110.yes rfl rfl) hS16 (fun W hW => (E.move f110 rfl)) fun a111 f111 => ?_
        clear f110 a110
        refine R.take 19 f111 rfl rfl (by decide) (by kernel_rfl) (by kernel_rfl) (by kernel_rfl) (fun _ _ _ _ h => h) (f111.yes rfl rfl) hS16 (fun W hW => (E.move f111 rfl)) fun a112 f112 => ?_
        clear f111 a111
        refine R.take 20 f112 rfl rfl (by decide) (by kernel_rfl) (by kernel_rfl) (by kernel_rfl) (fun _ _ _ _ h => h) (f112.yes rfl rfl) hS16 (fun W hW => (E.eql f112 rfl rfl)) fun a113 f113 => ?_
        clear f112 a112
        refine R.take 21 f113 rfl rfl (by decide) (by kernel_rfl) (by kernel_rfl) (by kernel_rfl) (fun _ _ _ _ h => h) (f113.yes rfl rfl) hS16 (fun W hW => (E.neqB f113 Try.underlying4 rfl rfl)) fun a114 f114 => ?_
        clear f113 a113
        have f115 := f114.as (i := 95) (v' := .bool false) rfl (by exact lit_bne (by rw [hzk]; omega))
        clear f114
        refine R.take 22 f115 rfl rfl (by decide) (by kernel_rfl) (by kernel_rfl) (by kernel_rfl) (fun _ _ _ _ h => h) wantedN hS16 (fun W hW => (E.pickF f115 rfl rfl)) fun a116 f116 => ?_
        clear f115 a114
        refine R.take 23 f116 rfl rfl (by decide) (by kernel_rfl) (by kernel_rfl) (by kernel_rfl) (fun _ _ _ _ h => h) wantedN hS16 (fun W hW => (E.move f116 rfl)) fun a117 f117 => ?_
        clear f116 a116
        refine R.take 24 f117 rfl rfl (by decide) (by kernel_rfl) (by kernel_rfl) (by kernel_rfl) (fun _ _ _ _ h => h) (f117.yes rfl rfl) hS16 (fun W hW => (E.move f117 rfl)) fun a118 f118 => ?_
        clear f117 a117
        refine R.take 25 f118 rfl rfl (by decide) (by kernel_rfl) (by kernel_rfl) (by kernel_rfl) (fun _ _ _ _ h => h) (f118.yes rfl rfl) hS16 (fun W hW => (E.move f118 rfl)) fun a119 f119 => ?_
        clear f118 a118
        refine R.take 26 f119 rfl rfl (by decide) (by kernel_rfl) (by kernel_rfl) (by kernel_rfl) (fun _ _ _ _ h => h) (f119.yes rfl rfl) hS16 (fun W hW => (E.neq f119 rfl rfl)) fun a120 f120 => ?_
        clear f119 a119
        refine R.take 27 f120 rfl rfl (by decide) (by kernel_rfl) (by kernel_rfl) (by kernel_rfl) (fun _ _ _ _ h => h) (f120.yes rfl rfl) hS16 (fun W hW => (E.move f120 rfl)) fun a121 f121 => ?_
        clear f120 a120
        first | refine f121.splitD 101 rfl (fun h2 f122 => ?_) (fun h2 f122 => ?_) | refine f121.splitN 101 rfl (fun h2 f122 => ?_) (fun h2 f122 => ?_) | refine f121.splitNB 101 rfl (fun h2 f122 => ?_) (fun h2 f122 => ?_) | refine f121.split 101 rfl (fun h2 f122 => ?_) (fun h2 f122 => ?_)
        · clear f121
          have hne := h2
          refine R.take 28 f122 rfl rfl (by decide) (by kernel_rfl) (by kernel_rfl) (by kernel_rfl) (fun _ _ _ _ h => h) (f122.yes rfl rfl) hS16 (fun W hW => (E.move f122 rfl)) fun a123 f123 => ?_
          clear f122 a121
          refine R.take 29 f123 rfl rfl (by decide) (by kernel_rfl) (by kernel_rfl) (by kernel_rfl) (fun _ _ _ _ h => h) (f123.yes rfl rfl) hS16 (fun W hW => (E.move f123 rfl)) fun a124 f124 => ?_
          clear f123 a123
          refine R.take 30 f124 rfl rfl (by decide) (by kernel_rfl) (by kernel_rfl) (by kernel_rfl) (fun _ _ _ _ h => h) (f124.yes rfl rfl) hS16 (fun W hW => (E.indexA f124 (by first | rfl | assumption) Try.underlying27 wsz35_q rfl rfl (by omega) (by omega))) fun a125 f125 => ?_
          clear f124 a124
          refine R.take 31 f125 rfl rfl (by decide) (by kernel_rfl) (by kernel_rfl) (by kernel_rfl) (fun _ _ _ _ h => h) (f125.yes rfl rfl) hS16 (fun W hW => (E.fieldAddr f125 Try.underlying35 rfl rfl wsz4_q)) fun a126 f126 => ?_
          clear f125 a125
          refine R.take 32 f126 rfl rfl (by decide) (by kernel_rfl) (by kernel_rfl) (by kernel_rfl) (fun _ _ _ _ h => h) (f126.yes rfl rfl) hS16 (fun W hW => (E.load f126 Try.underlying4 rfl rfl (pk_cell (PL4.fr.own.kept hW (by simp)) hAL (i := j) (x := z) hz 1 rfl (show offL + j * 24 + 1 = _ by omega)))) fun a127 f127 => ?_
          clear f126 a126
          have f128 := f127.as (i := 106) (v' := .bool true) rfl (by rw [hzd (by omega)])
          clear f127
          refine R.take 33 f128 rfl rfl (by decide) (by kernel_rfl) (by kernel_rfl) (by kernel_rfl) (fun _ _ _ _ h => h) (f128.yes rfl rfl) hS16 (fun W hW => (E.not f128 rfl)) fun a129 f129 => ?_
          clear f128 a127
          refine R.take 34 f129 rfl rfl (by decide) (by kernel_rfl) (by kernel_rfl) (by kernel_rfl) (fun _ _ _ _ h => h) (f129.yes rfl rfl) hS16 (fun W hW => (E.pickT f129 rfl rfl)) fun a130 f130 => ?_
          clear f129 a129
          refine R.take 35 f130 rfl rfl (by decide) (by kernel_rfl) (by kernel_rfl) (by kernel_rfl) (fun _ _ _ _ h => h) wantedN hS16 (fun W hW => (E.pickF f130 rfl rfl)) fun a131 f131 => ?_
          clear f130 a130
          have szw8r := hS16.size
          replace HK := blwm HK (.of_kept0 (T := []) (M := []) hS16)
          replace HS4 := HS4.mod (Mod.of_kept0 (T := []) (M := []) (B := (w.heap.size)) hS16) (by decide)
          replace PK := PK.mod (Mod.of_kept0 (T := []) (M := []) (B := (w.heap.size)) hS16) (by decide)
          replace PL4 := PL4.mod (Mod.of_kept0 (T := []) (M := []) (B := (w.heap.size)) hS16) (by decide)
          clear hS16
          refine R.done (by kernel_rfl) (hK19 _ _ ?_)
          try clear hK19 K19
          have f132 := f131.sub (sub_cons (i := 7) rfl (sub_cons (i := 8) rfl (sub_cons (i := 9) rfl (sub_cons (i := 11) rfl (sub_cons (i := 12) rfl (sub_cons (i := 68) rfl (sub_cons (i := 69) rfl (sub_cons (i := 70) rfl (sub_cons (i := 71) rfl (sub_cons (i := 74) rfl (sub_cons (i := 75) rfl (sub_cons (i := 76) rfl (sub_cons (i := 77) rfl (sub_cons (i := 78) rfl (sub_cons (i := 79) rfl (sub_cons (i := 80) rfl (sub_cons (i := 81) rfl (sub_cons (i := 82) rfl (sub_cons (i := 83) rfl (sub_cons (i := 84) rfl (sub_cons (i := 85) rfl (sub_cons (i := 86) rfl (sub_cons (i := 87) rfl (sub_cons (i := 88) rfl (sub_cons (i := 89) rfl (sub_cons (i := 90) rfl (sub_cons (i := 91) rfl (sub_cons (i := 92) rfl (sub_cons (i := 93) rfl (sub_cons (i := 94) rfl (sub_cons (i := 95) rfl (sub_cons (i := 96) rfl (sub_cons (i := 97) rfl (sub_cons (i := 98) rfl (sub_cons (i := 99) rfl (sub_cons (i := 100) rfl (sub_cons (i := 101) rfl (sub_cons (i := 102) rfl (sub_cons (i := 103) rfl (sub_cons (i := 104) rfl (sub_cons (i := 105) rfl (sub_cons (i := 106) rfl (sub_cons (i := 107) rfl (sub_cons (i := 108) rfl (sub_cons (i := 109) rfl sub_nil)))))))))))))))))))))))))))))))))))))))))))))
          clear f131
          refine C.condF f132 rfl ?_
          refine wp_skip (hK18 _ _ ?_)
          try clear hK18 K18
          have f133 := f132.sub (sub_cons (i := 7) rfl (sub_cons (i := 8) rfl (sub_cons (i := 9) rfl (sub_cons (i := 11) rfl (sub_cons (i := 12) rfl (sub_cons (i := 68) rfl (sub_cons (i := 69) rfl (sub_cons (i := 70) rfl (sub_cons (i := 71) rfl (sub_cons (i := 74) rfl (sub_cons (i := 75) rfl (sub_cons (i := 76) rfl (sub_cons (i := 77) rfl (sub_cons (i := 78) rfl (sub_cons (i := 79) rfl (sub_cons (i := 80) rfl (sub_cons (i := 81) rfl (sub_cons (i := 82) rfl (sub_cons (i := 83) rfl (sub_cons (i := 84) rfl (sub_cons (i := 85) rfl (sub_cons (i := 86) rfl (sub_cons (i := 87) rfl (sub_cons (i := 88) rfl (sub_cons (i := 89) rfl (sub_cons (i := 90) rfl (sub_cons (i := 91) rfl (sub_cons (i := 92) rfl (sub_cons (i := 93) rfl (sub_cons (i := 94) rfl (sub_cons (i := 95) rfl (sub_cons (i := 96) rfl (sub_cons (i := 97) rfl (sub_cons (i := 98) rfl (sub_cons (i := 99) rfl (sub_cons (i := 100) rfl (sub_cons (i := 101) rfl (sub_cons (i := 102) rfl (sub_cons (i := 103) rfl (sub_cons (i := 104) rfl (sub_cons (i := 105) rfl (sub_cons (i := 106) rfl (sub_cons (i := 107) rfl (sub_cons (i := 108) rfl (sub_cons (i := 109) rfl sub_nil)))))))))))))))))))))))))))))))))))))))))))))
          clear f132
          refine C.region ?_
          refine L.val f133 wantedN rfl (by decide) (E.move f133 rfl) fun a134 f134 => ?_
          clear f133 a131
          refine L.val f134 wantedN rfl (by decide) (E.add f134 rfl rfl (IntWalk.i64_in _ (by omega))) fun a135 f135 => ?_
          clear f134 a134
          refine L.val f135 wantedN rfl (by decide) (E.assign f135 rfl) fun a136 f136 => ?_
          clear f135 a135
          refine wpList_nil (hKL15 _ _ (gk16 - 1) ?_ ?_)
          · omega
          · exact ⟨j + 1, by omega, HS4, PK, PL4, HK, by simpa using f136.sub (sub_cons rfl (sub_cons rfl (sub_cons rfl (sub_cons rfl (sub_cons rfl sub_nil)))))⟩
        · clear f121
          have heq := h2
          refine R.takeSkip 28 f122 rfl rfl (by decide) (by kernel_rfl) (by kernel_rfl) (by kernel_rfl) (fun _ _ _ _ h => h) (f122.noT rfl rfl) hS16 fun a123 f123 => ?_
          clear f122 a121
          refine R.takeSkip 29 f123 rfl rfl (by decide) (by kernel_rfl) (by kernel_rfl) (by kernel_rfl) (fun _ _ _ _ h => h) (f123.noT rfl rfl) hS16 fun a124 f124 => ?_
          clear f123 a123
          refine R.takeSkip 30 f124 rfl rfl (by decide) (by kernel_rfl) (by kernel_rfl) (by kernel_rfl) (fun _ _ _ _ h => h) (f124.noT rfl rfl) hS16 fun a125 f125 => ?_
          clear f124 a124
          refine R.takeSkip 31 f125 rfl rfl (by decide) (by kernel_rfl) (by kernel_rfl) (by kernel_rfl) (fun _ _ _ _ h => h) (f125.noT rfl rfl) hS16 fun a126 f126 => ?_
          clear f125 a125
          refine R.takeSkip 32 f126 rfl rfl (by decide) (by kernel_rfl) (by kernel_rfl) (by kernel_rfl) (fun _ _ _ _ h => h) (f126.noT rfl rfl) hS16 fun a127 f127 => ?_
          clear f126 a126
          refine R.takeSkip 33 f127 rfl rfl (by decide) (by kernel_rfl) (by kernel_rfl) (by kernel_rfl) (fun _ _ _ _ h => h) (f127.noT rfl rfl) hS16 fun a128 f128 => ?_
          clear f127 a127
          refine R.take 34 f128 rfl rfl (by decide) (by kernel_rfl) (by kernel_rfl) (by kernel_rfl) (fun _ _ _ _ h => h) (f128.yes rfl rfl) hS16 (fun W hW => (E.pickF f128 rfl rfl)) fun a129 f129 => ?_
          clear f128 a128
          refine R.take 35 f129 rfl rfl (by decide) (by kernel_rfl) (by kernel_rfl) (by kernel_rfl) (fun _ _ _ _ h => h) wantedN hS16 (fun W hW => (E.pickF f129 rfl rfl)) fun a130 f130 => ?_
          clear f129 a129
          have szw8r := hS16.size
          replace HK := blwm HK (.of_kept0 (T := []) (M := []) hS16)
          replace HS4 := HS4.mod (Mod.of_kept0 (T := []) (M := []) (B := (w.heap.size)) hS16) (by decide)
          replace PK := PK.mod (Mod.of_kept0 (T := []) (M := []) (B := (w.heap.size)) hS16) (by decide)
          replace PL4 := PL4.mod (Mod.of_kept0 (T := []) (M := []) (B := (w.heap.size)) hS16) (by decide)
          clear hS16
          refine R.done (by kernel_rfl) (hK19 _ _ ?_)
          try clear hK19 K19
          have f131 := f130.sub (sub_cons (i := 7) rfl (sub_cons (i := 8) rfl (sub_cons (i := 9) rfl (sub_cons (i := 11) rfl (sub_cons (i := 12) rfl (sub_cons (i := 68) rfl (sub_cons (i := 69) rfl (sub_cons (i := 70) rfl (sub_cons (i := 71) rfl (sub_cons (i := 74) rfl (sub_cons (i := 75) rfl (sub_cons (i := 76) rfl (sub_cons (i := 77) rfl (sub_cons (i := 78) rfl (sub_cons (i := 79) rfl (sub_cons (i := 80) rfl (sub_cons (i := 81) rfl (sub_cons (i := 82) rfl (sub_cons (i := 83) rfl (sub_cons (i := 84) rfl (sub_cons (i := 85) rfl (sub_cons (i := 86) rfl (sub_cons (i := 87) rfl (sub_cons (i := 88) rfl (sub_cons (i := 89) rfl (sub_cons (i := 90) rfl (sub_cons (i := 91) rfl (sub_cons (i := 92) rfl (sub_cons (i := 93) rfl (sub_cons (i := 94) rfl (sub_cons (i := 95) rfl (sub_cons (i := 96) rfl (sub_cons (i := 97) rfl (sub_cons (i := 98) rfl (sub_cons (i := 99) rfl (sub_cons (i := 100) rfl (sub_cons (i := 101) rfl (sub_cons (i := 102) rfl (sub_cons (i := 103) rfl (sub_cons (i := 104) rfl (sub_cons (i := 105) rfl (sub_cons (i := 106) rfl (sub_cons (i := 107) rfl (sub_cons (i := 108) rfl (sub_cons (i := 109) rfl sub_nil)))))))))))))))))))))))))))))))))))))))))))))
          clear f130
          refine C.condF f131 rfl ?_
          refine wp_skip (hK18 _ _ ?_)
          try clear hK18 K18
          have f132 := f131.sub (sub_cons (i := 7) rfl (sub_cons (i := 8) rfl (sub_cons (i := 9) rfl (sub_cons (i := 11) rfl (sub_cons (i := 12) rfl (sub_cons (i := 68) rfl (sub_cons (i := 69) rfl (sub_cons (i := 70) rfl (sub_cons (i := 71) rfl (sub_cons (i := 74) rfl (sub_cons (i := 75) rfl (sub_cons (i := 76) rfl (sub_cons (i := 77) rfl (sub_cons (i := 78) rfl (sub_cons (i := 79) rfl (sub_cons (i := 80) rfl (sub_cons (i := 81) rfl (sub_cons (i := 82) rfl (sub_cons (i := 83) rfl (sub_cons (i := 84) rfl (sub_cons (i := 85) rfl (sub_cons (i := 86) rfl (sub_cons (i := 87) rfl (sub_cons (i := 88) rfl (sub_cons (i := 89) rfl (sub_cons (i := 90) rfl (sub_cons (i := 91) rfl (sub_cons (i := 92) rfl (sub_cons (i := 93) rfl (sub_cons (i := 94) rfl (sub_cons (i := 95) rfl (sub_cons (i := 96) rfl (sub_cons (i := 97) rfl (sub_cons (i := 98) rfl (sub_cons (i := 99) rfl (sub_cons (i := 100) rfl (sub_cons (i := 101) rfl (sub_cons (i := 102) rfl (sub_cons (i := 103) rfl (sub_cons (i := 104) rfl (sub_cons (i := 105) rfl (sub_cons (i := 106) rfl (sub_cons (i := 107) rfl (sub_cons (i := 108) rfl (sub_cons (i := 109) rfl sub_nil)))))))))))))))))))))))))))))))))))))))))))))
          clear f131
          refine C.region ?_
          refine L.val f132 wantedN rfl (by decide) (E.move f132 rfl) fun a133 f133 => ?_
          clear f132 a130
          refine L.val f133 wantedN rfl (by decide) (E.add f133 rfl rfl (IntWalk.i64_in _ (by omega))) fun a134 f134 => ?_
          clear f133 a133
          refine L.val f134 wantedN rfl (by decide) (E.assign f134 rfl) fun a135 f135 => ?_
          clear f134 a134
          refine wpList_nil (hKL15 _ _ (gk16 - 1) ?_ ?_)
          · omega
          · exact ⟨j + 1, by omega, HS4, PK, PL4, HK, by simpa using f135.sub (sub_cons rfl (sub_cons rfl (sub_cons rfl (sub_cons rfl (sub_cons rfl sub_nil)))))⟩
      · clear f89
        have hjl := h1
        refine C.condF f90 rfl ?_
        refine wp_exit (hK13 _ _ ?_)
        try clear hK13 K13
        have f91 := f90.sub (sub_cons (i := 7) rfl (sub_cons (i := 8) rfl (sub_cons (i := 9) rfl sub_nil)))
        clear f90
        refine wp_seq_k fun K20 hK20 => ?_
        refine C.region ?_
        refine L.val f91 wantedN rfl (by decide) (E.move f91 rfl) fun a92 f92 => ?_
        clear f91 a88
        refine L.val f92 wantedN rfl (by decide) (E.move f92 rfl) fun a93 f93 => ?_
        clear f92 a92
        refine L.val f93 wantedN rfl (by decide) (E.move f93 rfl) fun a94 f94 => ?_
        clear f93 a93
        refine L.val f94 wantedN rfl (by decide) (E.indexA f94 (by first | rfl | assumption) Try.underlying27 wsz35_q rfl rfl (by omega) (by omega)) fun a95 f95 => ?_
        clear f94 a94
        refine L.val f95 wantedN rfl (by decide) (E.fieldAddr f95 Try.underlying35 rfl rfl wsz3_q) fun a96 f96 => ?_
        clear f95 a95
        refine L.val f96 wantedN rfl (by decide) (E.load f96 Try.underlying3 rfl rfl (pk_cell PK.fr.own hAP (i := i) (x := x) hx 4 rfl (show offP + i * 24 + 4 = _ by omega))) fun a97 f97 => ?_
        clear f96 a96
        refine L.val f97 wantedN rfl (by decide) (E.build f97 (parts2 f97 rfl rfl) (wbl35_0_4_q _ _)) fun a98 f98 => ?_
        clear f97 a97
        have hC := ack_any w.heap.size p u4 7 x.p.id 9 #[(.int .i64 7), (.bool false), (.bool false), (.int .i64 0), (.int .i64 x.p.id), (.string ⟨#[]⟩), (.slice none 0 0), (.int .i64 0), (.string ⟨#[]⟩), (.bool false), (.int .i64 0), (.bool false), (.string ⟨#[]⟩), (.slice none 0 0), (.int .i64 0), (.bool false), (.bool false), (.bool false), (.string ⟨#[]⟩), (.slice none 0 0), (.bool false), (.int .i64 0), (.slice none 0 0), (.slice none 0 0)] rfl rfl w7 HS4 HK.size
        rw [habL, hT4] at hC
        refine L.call f98 wantedN rfl (by decide) (run_call Try.call13 (args3 f98 rfl rfl rfl)) hC ?_
        rintro e w8 ⟨u5, A5, c5, pk5, rfl, HS5, hr5, hL5, kc8, -, -⟩
        injection hr5 with hab5 hp5
        obtain rfl := List.map_eq_nil_iff.1 hp5
        have hf5 : u5.fly.length = S4.fly.length := fly_of hab5
        refine ⟨_, rfl, fun a99 f99 => ?_⟩
        clear f98 a98
        have szw8 := kc8.size
        replace HK := blwm HK kc8
        replace PK := PK.mod kc8 (by decide)
        replace PL4 := PL4.mod kc8 (by decide)
        clear kc8
        refine L.val f99 wantedN rfl (by decide) (E.lenL f99 Try.underlying27 rfl) fun a100 f100 => ?_
        clear f99 a99
        refine L.val f100 wantedN rfl (by decide) (E.eql f100 rfl rfl) fun a101 f101 => ?_
        clear f100 a100
        have f102 := f101.as (i := 119) (v' := .bool true) rfl (by rfl)
        clear f101
        refine L.val f102 wantedN rfl (by decide) (E.move f102 rfl) fun a103 f103 => ?_
        clear f102 a101
        refine L.val f103 (f103.yes rfl rfl) rfl (by decide) (E.move f103 rfl) fun a104 f104 => ?_
        clear f103 a103
        refine L.call f104 (f104.yes rfl rfl) rfl (by decide) (run_call Try.call14 (args1 f104 rfl)) (flying_any p u5.fly.length u5.fc u5.FA _ _ _ _ _ _ HS5.top) ?_
        rintro e w8x ⟨rfl, rfl⟩
        refine ⟨_, rfl, fun a105 f105 => ?_⟩
        clear f104 a104
        refine L.val f105 (f105.yes rfl rfl) rfl (by decide) (E.move f105 rfl) fun a106 f106 => ?_
        clear f105 a105
        refine L.val f106 (f106.yes rfl rfl) rfl (by decide) (E.lenL f106 Try.underlying27 rfl) fun a107 f107 => ?_
        clear f106 a106
        refine L.val f107 (f107.yes rfl rfl) rfl (by decide) (E.sub f107 rfl rfl (IntWalk.i64_in _ (by omega))) fun a108 f108 => ?_
        clear f107 a107
        refine L.val f108 (f108.yes rfl rfl) rfl (by decide) (E.eql f108 rfl rfl) fun a109 f109 => ?_
        clear f108 a108
        have f110 := f109.as (i := 126) (v' := .bool true) rfl (by exact lit_eq (by omega))
        clear f109
        refine L.val f110 wantedN rfl (by decide) (E.pickT f110 rfl rfl) fun a111 f111 => ?_
        clear f110 a109
        refine L.val f111 wantedN rfl (by decide) (E.assign f111 rfl) fun a112 f112 => ?_
        clear f111 a111
        refine wpList_nil (hK20 _ _ ?_)
        try clear hK20 K20
        have f113 := f112.sub (sub_cons (i := 6) rfl sub_nil)
        clear f112
        refine wp_ret ?_
        try simp only [Exit.inBlock, Exit.then]
        refine C.ret (P := Try.prog) (fn := Try.f7) f113 rfl rfl ?_
        exact ⟨rfl, HK⟩
  · clear f68
    have hrs := h0
    refine C.condF f69 rfl ?_
    refine wp_skip (hK9 _ _ ?_)
    try clear hK9 K9
    have f70 := f69.sub (sub_cons (i := 6) rfl (sub_cons (i := 7) rfl (sub_cons (i := 8) rfl (sub_cons (i := 9) rfl (sub_cons (i := 11) rfl sub_nil)))))
    clear f69
    refine wp_seq_k fun K21 hK21 => ?_
    refine wp_seq_k fun K22 hK22 => ?_
    have habr : (u3.abs, pk3.map (·.p)) = (S2, L2) := by rw [← hr]; rw [hr3, if_neg (by rw [hrs]; simp)]
    injection habr with hab3 hp3
    have hlL0 : pk3.length = m := by rw [← hT2, ← hp3, List.length_map]
    refine C.region ?_
    refine L.val f70 wantedN rfl (by decide) (E.move f70 rfl) fun a71 f71 => ?_
    clear f70 a67
    refine L.val f71 wantedN rfl (by decide) (E.lenL f71 Try.underlying27 rfl) fun a72 f72 => ?_
    clear f71 a71
    refine L.val f72 wantedN rfl (by decide) (E.move f72 rfl) fun a73 f73 => ?_
    clear f72 a72
    refine L.val f73 wantedN rfl (by decide) (E.lenL f73 Try.underlying27 rfl) fun a74 f74 => ?_
    clear f73 a73
    refine L.val f74 wantedN rfl (by decide) (E.neq f74 rfl rfl) fun a75 f75 => ?_
    clear f74 a74
    have f76 := f75.as (i := 67) (v' := .bool false) rfl (by exact lit_ne (by omega))
    clear f75
    refine wpList_nil (hK22 _ _ ?_)
    try clear hK22 K22
    have f77 := f76.sub (sub_cons (i := 6) rfl (sub_cons (i := 7) rfl (sub_cons (i := 8) rfl (sub_cons (i := 9) rfl (sub_cons (i := 11) rfl (sub_cons (i := 67) rfl sub_nil))))))
    clear f76
    refine C.condF f77 rfl ?_
    refine wp_skip (hK21 _ _ ?_)
    try clear hK21 K21
    have f78 := f77.sub (sub_cons (i := 6) rfl (sub_cons (i := 7) rfl (sub_cons (i := 8) rfl (sub_cons (i := 9) rfl (sub_cons (i := 11) rfl sub_nil)))))
    clear f77
    refine wp_seq_k fun K23 hK23 => ?_
    refine wp_seq_k fun K24 hK24 => ?_
    refine C.region ?_
    refine L.val f78 wantedN rfl (by decide) (E.assign f78 rfl) fun a79 f79 => ?_
    clear f78 a75
    refine wpList_nil (hK24 _ _ ?_)
    try clear hK24 K24
    have f80 := f79.sub (sub_cons (i := 6) rfl (sub_cons (i := 7) rfl (sub_cons (i := 8) rfl (sub_cons (i := 9) rfl (sub_cons (i := 11) rfl (sub_cons (i := 12) rfl sub_nil))))))
    clear f79
    refine wp_block ?_
    have habL := hab3
    have hplL : pk3.map (·.p) = L2 := hp3
    have hlL : pk3.length = m := by rw [← hT2, ← hplL, List.length_map]
    refine C.loop (fun gk a W => ∃ j : Nat, j + gk = pk3.length ∧ SesAt w.heap.size W p u3 ∧ PkAt w.heap.size w W A c pks ∧ PkAt w.heap.size w W A3 c3 pk3 ∧ Below w.heap.size w W ∧ Fr 128 a [(7, .pointer (some ⟨p, 0, none⟩)), (8, .slice A pks.length c), (9, .int .i64 i), (11, .slice A3 pk3.length c3), (12, .int .i64 j)]) (pk3.length) ?_ ?_
    · exact ⟨0, by omega, HS3, PK, PL3, HK, f80.sub (sub_cons rfl (sub_cons rfl (sub_cons rfl (sub_cons rfl (sub_cons rfl sub_nil)))))⟩
    · intro gk26 a81 w6 hI KL25 hKL25
      obtain ⟨j, hj, HS3, PK, PL3, HK, f81⟩ := hI
      try clear f80
      have szw1x := HK.size
      refine wp_seq_k fun K26 hK26 => ?_
      refine wp_seq_k fun K27 hK27 => ?_
      refine C.region ?_
      refine L.val f81 wantedN rfl (by decide) (E.move f81 rfl) fun a82 f82 => ?_
      clear f81 a81
      refine L.val f82 wantedN rfl (by decide) (E.move f82 rfl) fun a83 f83 => ?_
      clear f82 a82
      refine L.val f83 wantedN rfl (by decide) (E.lenL f83 Try.underlying27 rfl) fun a84 f84 => ?_
      clear f83 a83
      refine L.val f84 wantedN rfl (by decide) (E.lss f84 rfl rfl) fun a85 f85 => ?_
      clear f84 a84
      refine wpList_nil (hK27 _ _ ?_)
      try clear hK27 K27
      have f86 := f85.sub (sub_cons (i := 7) rfl (sub_cons (i := 8) rfl (sub_cons (i := 9) rfl (sub_cons (i := 11) rfl (sub_cons (i := 12) rfl (sub_cons (i := 68) rfl (sub_cons (i := 69) rfl (sub_cons (i := 70) rfl (sub_cons (i := 71) rfl sub_nil)))))))))
      clear f85
      first | refine f86.splitD 71 rfl (fun h3 f87 => ?_) (fun h3 f87 => ?_) | refine f86.splitN 71 rfl (fun h3 f87 => ?_) (fun h3 f87 => ?_) | refine f86.splitNB 71 rfl (fun h3 f87 => ?_) (fun h3 f87 => ?_) | refine f86.split 71 rfl (fun h3 f87 => ?_) (fun h3 f87 => ?_)
      · clear f86
        have hjl := h3
        refine C.condT f87 rfl ?_
        refine wp_skip (hK26 _ _ ?_)
        try clear hK26 K26
        have f88 := f87.sub (sub_cons (i := 7) rfl (sub_cons (i := 8) rfl (sub_cons (i := 9) rfl (sub_cons (i := 11) rfl (sub_cons (i := 12) rfl (sub_cons (i := 68) rfl (sub_cons (i := 69) rfl (sub_cons (i := 70) rfl (sub_cons (i := 71) rfl sub_nil)))))))))
        clear f87
        refine wp_seq_k fun K28 hK28 => ?_
        refine wp_block ?_
        refine wp_seq_k fun K29 hK29 => ?_
        obtain ⟨z, hz⟩ : ∃ z, pk3[j]? = some z := ⟨pk3[j]'(by omega), List.getElem?_eq_getElem _⟩
        obtain ⟨y, hy⟩ : ∃ y, pks[j]? = some y := ⟨pks[j]'(by omega), List.getElem?_eq_getElem _⟩
        obtain ⟨bL, offL, hAL⟩ := (Sl.of_own PL3.fr.own).addr (by omega)
        obtain ⟨hzi, hzk, hzd⟩ := recL_spec hT3 j y.p z.p (by rw [← hp, List.getElem?_map, hy]; rfl) (by rw [← hplL, List.getElem?_map, hz]; rfl)
        refine R.begin (S := fun W => Kept [] w6 W) (by kernel_rfl) (by exact (Kept.refl _ _).drewN 1) ?_
        have hS16 : Kept [] w6 (w6.drewN 1) := (Kept.refl _ _).drewN 1
        have hd16 : Kept [] w6 (w6.drewN 1) := (Kept.refl _ _).drewN 1
        obtain ⟨w7, hww7⟩ : ∃ W, W = w6.drewN 1 := ⟨_, rfl⟩
        rw [← hww7] at hS16 hd16 ⊢
        clear hww7
        have szw7 := hS16.size
        refine R.take 0 f88 rfl rfl (by decide) (by kernel_rfl) (by kernel_rfl) (by kernel_rfl) (fun _ _ _ _ h => h) wantedN hS16 (fun W hW => (E.move f88 rfl)) fun a89 f89 => ?_
        clear f88 a85
        refine R.take 1 f89 rfl rfl (by decide) (by kernel_rfl) (by kernel_rfl) (by kernel_rfl) (fun _ _ _ _ h => h) wantedN hS16 (fun W hW => (E.move f89 rfl)) fun a90 f90 => ?_
        clear f89 a89
        refine R.take 2 f90 rfl rfl (by decide) (by kernel_rfl) (by kernel_rfl) (by kernel_rfl) (fun _ _ _ _ h => h) wantedN hS16 (fun W hW => (E.indexA f90 (by first | rfl | assumption) Try.underlying27 wsz35_q rfl rfl (by omega) (by omega))) fun a91 f91 => ?_
        clear f90 a90
        refine R.take 3 f91 rfl rfl (by decide) (by kernel_rfl) (by kernel_rfl) (by kernel_rfl) (fun _ _ _ _ h => h) wantedN hS16 (fun W hW => (E.fieldAddr f91 Try.underlying35 rfl rfl wsz3_q)) fun a92 f92 => ?_
        clear f91 a91
        refine R.take 4 f92 rfl rfl (by decide) (by kernel_rfl) (by kernel_rfl) (by kernel_rfl) (fun _ _ _ _ h => h) wantedN hS16 (fun W hW => (E.load f92 Try.underlying3 rfl rfl (pk_cell (PL3.fr.own.kept hW (by simp)) hAL (i := j) (x := z) hz 4 rfl (show offL + j * 24 + 4 = _ by omega)))) fun a93 f93 => ?_
        clear f92 a92
        refine R.take 5 f93 rfl rfl (by decide) (by kernel_rfl) (by kernel_rfl) (by kernel_rfl) (fun _ _ _ _ h => h) wantedN hS16 (fun W hW => (E.move f93 rfl)) fun a94 f94 => ?_
        clear f93 a93
        refine R.take 6 f94 rfl rfl (by decide) (by kernel_rfl) (by kernel_rfl) (by kernel_rfl) (fun _ _ _ _ h => h) wantedN hS16 (fun W hW => (E.move f94 rfl)) fun a95 f95 => ?_
        clear f94 a94
        refine R.take 7 f95 rfl rfl (by decide) (by kernel_rfl) (by kernel_rfl) (by kernel_rfl) (fun _ _ _ _ h => h) wantedN hS16 (fun W hW => (E.indexA f95 (by first | rfl | assumption) Try.underlying27 wsz35_q rfl rfl (by omega) (by omega))) fun a96 f96 => ?_
        clear f95 a95
        refine R.take 8 f96 rfl rfl (by decide) (by kernel_rfl) (by kernel_rfl) (by kernel_rfl) (fun _ _ _ _ h => h) wantedN hS16 (fun W hW => (E.fieldAddr f96 Try.underlying35 rfl rfl wsz3_q)) fun a97 f97 => ?_
        clear f96 a96
        refine R.take 9 f97 rfl rfl (by decide) (by kernel_rfl) (by kernel_rfl) (by kernel_rfl) (fun _ _ _ _ h => h) wantedN hS16 (fun W hW => (E.load f97 Try.underlying3 rfl rfl (pk_cell (PK.fr.own.kept hW (by simp)) hAP (i := j) (x := y) hy 4 rfl (show offP + j * 24 + 4 = _ by omega)))) fun a98 f98 => ?_
        clear f97 a97
        refine R.take 10 f98 rfl rfl (by decide) (by kernel_rfl) (by kernel_rfl) (by kernel_rfl) (fun _ _ _ _ h => h) wantedN hS16 (fun W hW => (E.neq f98 rfl rfl)) fun a99 f99 => ?_
        clear f98 a98
        have f100 := f99.as (i := 84) (v' := .bool false) rfl (by exact lit_ne hzi)
        clear f99
        refine R.take 11 f100 rfl rfl (by decide) (by kernel_rfl) (by kernel_rfl) (by kernel_rfl) (fun _ _ _ _ h => h) wantedN hS16 (fun W hW => (E.move f100 rfl)) fun a101 f101 => ?_
        clear f100 a99
        refine R.take 12 f101 rfl rfl (by decide) (by kernel_rfl) (by kernel_rfl) (by kernel_rfl) (fun _ _ _ _ h => h) (f101.yes rfl rfl) hS16 (fun W hW => (E.move f101 rfl)) fun a102 f102 => ?_
        clear f101 a101
        refine R.take 13 f102 rfl rfl (by decide) (by kernel_rfl) (by kernel_rfl) (by kernel_rfl) (fun _ _ _ _ h => h) (f102.yes rfl rfl) hS16 (fun W hW => (E.move f102 rfl)) fun a103 f103 => ?_
        clear f102 a102
        refine R.take 14 f103 rfl rfl (by decide) (by kernel_rfl) (by kernel_rfl) (by kernel_rfl) (fun _ _ _ _ h => h) (f103.yes rfl rfl) hS16 (fun W hW => (E.indexA f103 (by first | rfl | assumption) Try.underlying27 wsz35_q rfl rfl (by omega) (by omega))) fun a104 f104 => ?_
        clear f103 a103
        refine R.take 15 f104 rfl rfl (by decide) (by kernel_rfl) (by kernel_rfl) (by kernel_rfl) (fun _ _ _ _ h => h) (f104.yes rfl rfl) hS16 (fun W hW => (E.fieldAddr f104 Try.underlying35 rfl rfl wsz3_q)) fun a105 f105 => ?_
        clear f104 a104
        refine R.take 16 f105 rfl rfl (by decide) (by kernel_rfl) (by kernel_rfl) (by kernel_rfl) (fun _ _ _ _ h => h) (f105.yes rfl rfl) hS16 (fun W hW => (E.load f105 Try.underlying3 rfl rfl (pk_cell (PL3.fr.own.kept hW (by simp)) hAL (i := j) (x := z) hz 0 rfl (show offL + j * 24 + 0 = _ by omega)))) fun a106 f106 => ?_
        clear f105 a105
        refine R.take 17 f106 rfl rfl (by decide) (by kernel_rfl) (by kernel_rfl) (by kernel_rfl) (fun _ _ _ _ h => h) (f106.yes rfl rfl) hS16 (fun W hW => (E.eql f106 rfl rfl)) fun a107 f107 => ?_
        clear f106 a106
        refine R.take 18 f107 rfl rfl (by decide) (by kernel_rfl) (by kernel_rfl) (by kernel_rfl) (fun _ _ _ _ h => h) (f107.yes rfl rfl) hS16 (fun W hW => (E.move f107 rfl)) fun a108 f108 => ?_
        clear f107 a107
        refine R.take 19 f108 rfl rfl (by decide) (by kernel_rfl) (by kernel_rfl) (by kernel_rfl) (fun _ _ _ _ h => h) (f108.yes rfl rfl) hS16 (fun W hW => (E.move f108 rfl)) fun a109 f109 => ?_
        clear f108 a108
        refine R.take 20 f109 rfl rfl (by decide) (by kernel_rfl) (by kernel_rfl) (by kernel_rfl) (fun _ _ _ _ h => h) (f109.yes rfl rfl) hS16 (fun W hW => (E.eql f109 rfl rfl)) fun a110 f110 => ?_
        clear f109 a109
        refine R.take 21 f110 rfl rfl (by decide) (by kernel_rfl) (by kernel_rfl) (by kernel_rfl) (fun _ _ _ _ h => h) (f110.yes rfl rfl) hS16 (fun W hW => (E.neqB f110 Try.underlying4 rfl rfl)) fun a111 f111 => ?_
        clear f110 a110
        have f112 := f111.as (i := 95) (v' := .bool false) rfl (by exact lit_bne (by rw [hzk]; omega))
        clear f111
        refine R.take 22 f112 rfl rfl (by decide) (by kernel_rfl) (by kernel_rfl) (by kernel_rfl) (fun _ _ _ _ h => h) wantedN hS16 (fun W hW => (E.pickF f112 rfl rfl)) fun a113 f113 => ?_
        clear f112 a111
        refine R.take 23 f113 rfl rfl (by decide) (by kernel_rfl) (by kernel_rfl) (by kernel_rfl) (fun _ _ _ _ h => h) wantedN hS16 (fun W hW => (E.move f113 rfl)) fun a114 f114 => ?_
        clear f113 a113
        refine R.take 24 f114 rfl rfl (by decide) (by kernel_rfl) (by kernel_rfl) (by kernel_rfl) (fun _ _ _ _ h => h) (f114.yes rfl rfl) hS16 (fun W hW => (E.move f114 rfl)) fun a115 f115 => ?_
        clear f114 a114
        refine R.take 25 f115 rfl rfl (by decide) (by kernel_rfl) (by kernel_rfl) (by kernel_rfl) (fun _ _ _ _ h => h) (f115.yes rfl rfl) hS16 (fun W hW => (E.move f115 rfl)) fun a116 f116 => ?_
        clear f115 a115
        refine R.take 26 f116 rfl rfl (by decide) (by kernel_rfl) (by kernel_rfl) (by kernel_rfl) (fun _ _ _ _ h => h) (f116.yes rfl rfl) hS16 (fun W hW => (E.neq f116 rfl rfl)) fun a117 f117 => ?_
        clear f116 a116
        refine R.take 27 f117 rfl rfl (by decide) (by kernel_rfl) (by kernel_rfl) (by kernel_rfl) (fun _ _ _ _ h => h) (f117.yes rfl rfl) hS16 (fun W hW => (E.move f117 rfl)) fun a118 f118 => ?_
        clear f117 a117
        first | refine f118.splitD 101 rfl (fun h4 f119 => ?_) (fun h4 f119 => ?_) | refine f118.splitN 101 rfl (fun h4 f119 => ?_) (fun h4 f119 => ?_) | refine f118.splitNB 101 rfl (fun h4 f119 => ?_) (fun h4 f119 => ?_) | refine f118.split 101 rfl (fun h4 f119 => ?_) (fun h4 f119 => ?_)
        · clear f118
          have hne := h4
          refine R.take 28 f119 rfl rfl (by decide) (by kernel_rfl) (by kernel_rfl) (by kernel_rfl) (fun _ _ _ _ h => h) (f119.yes rfl rfl) hS16 (fun W hW => (E.move f119 rfl)) fun a120 f120 => ?_
          clear f119 a118
          refine R.take 29 f120 rfl rfl (by decide) (by kernel_rfl) (by kernel_rfl) (by kernel_rfl) (fun _ _ _ _ h => h) (f120.yes rfl rfl) hS16 (fun W hW => (E.move f120 rfl)) fun a121 f121 => ?_
          clear f120 a120
          refine R.take 30 f121 rfl rfl (by decide) (by kernel_rfl) (by kernel_rfl) (by kernel_rfl) (fun _ _ _ _ h => h) (f121.yes rfl rfl) hS16 (fun W hW => (E.indexA f121 (by first | rfl | assumption) Try.underlying27 wsz35_q rfl rfl (by omega) (by omega))) fun a122 f122 => ?_
          clear f121 a121
          refine R.take 31 f122 rfl rfl (by decide) (by kernel_rfl) (by kernel_rfl) (by kernel_rfl) (fun _ _ _ _ h => h) (f122.yes rfl rfl) hS16 (fun W hW => (E.fieldAddr f122 Try.underlying35 rfl rfl wsz4_q)) fun a123 f123 => ?_
          clear f122 a122
          refine R.take 32 f123 rfl rfl (by decide) (by kernel_rfl) (by kernel_rfl) (by kernel_rfl) (fun _ _ _ _ h => h) (f123.yes rfl rfl) hS16 (fun W hW => (E.load f123 Try.underlying4 rfl rfl (pk_cell (PL3.fr.own.kept hW (by simp)) hAL (i := j) (x := z) hz 1 rfl (show offL + j * 24 + 1 = _ by omega)))) fun a124 f124 => ?_
          clear f123 a123
          have f125 := f124.as (i := 106) (v' := .bool true) rfl (by rw [hzd (by omega)])
          clear f124
          refine R.take 33 f125 rfl rfl (by decide) (by kernel_rfl) (by kernel_rfl) (by kernel_rfl) (fun _ _ _ _ h => h) (f125.yes rfl rfl) hS16 (fun W hW => (E.not f125 rfl)) fun a126 f126 => ?_
          clear f125 a124
          refine R.take 34 f126 rfl rfl (by decide) (by kernel_rfl) (by kernel_rfl) (by kernel_rfl) (fun _ _ _ _ h => h) (f126.yes rfl rfl) hS16 (fun W hW => (E.pickT f126 rfl rfl)) fun a127 f127 => ?_
          clear f126 a126
          refine R.take 35 f127 rfl rfl (by decide) (by kernel_rfl) (by kernel_rfl) (by kernel_rfl) (fun _ _ _ _ h => h) wantedN hS16 (fun W hW => (E.pickF f127 rfl rfl)) fun a128 f128 => ?_
          clear f127 a127
          have szw7r := hS16.size
          replace HK := blwm HK (.of_kept0 (T := []) (M := []) hS16)
          replace HS3 := HS3.mod (Mod.of_kept0 (T := []) (M := []) (B := (w.heap.size)) hS16) (by decide)
          replace PK := PK.mod (Mod.of_kept0 (T := []) (M := []) (B := (w.heap.size)) hS16) (by decide)
          replace PL3 := PL3.mod (Mod.of_kept0 (T := []) (M := []) (B := (w.heap.size)) hS16) (by decide)
          clear hS16
          refine R.done (by kernel_rfl) (hK29 _ _ ?_)
          try clear hK29 K29
          have f129 := f128.sub (sub_cons (i := 7) rfl (sub_cons (i := 8) rfl (sub_cons (i := 9) rfl (sub_cons (i := 11) rfl (sub_cons (i := 12) rfl (sub_cons (i := 68) rfl (sub_cons (i := 69) rfl (sub_cons (i := 70) rfl (sub_cons (i := 71) rfl (sub_cons (i := 74) rfl (sub_cons (i := 75) rfl (sub_cons (i := 76) rfl (sub_cons (i := 77) rfl (sub_cons (i := 78) rfl (sub_cons (i := 79) rfl (sub_cons (i := 80) rfl (sub_cons (i := 81) rfl (sub_cons (i := 82) rfl (sub_cons (i := 83) rfl (sub_cons (i := 84) rfl (sub_cons (i := 85) rfl (sub_cons (i := 86) rfl (sub_cons (i := 87) rfl (sub_cons (i := 88) rfl (sub_cons (i := 89) rfl (sub_cons (i := 90) rfl (sub_cons (i := 91) rfl (sub_cons (i := 92) rfl (sub_cons (i := 93) rfl (sub_cons (i := 94) rfl (sub_cons (i := 95) rfl (sub_cons (i := 96) rfl (sub_cons (i := 97) rfl (sub_cons (i := 98) rfl (sub_cons (i := 99) rfl (sub_cons (i := 100) rfl (sub_cons (i := 101) rfl (sub_cons (i := 102) rfl (sub_cons (i := 103) rfl (sub_cons (i := 104) rfl (sub_cons (i := 105) rfl (sub_cons (i := 106) rfl (sub_cons (i := 107) rfl (sub_cons (i := 108) rfl (sub_cons (i := 109) rfl sub_nil)))))))))))))))))))))))))))))))))))))))))))))
          clear f128
          refine C.condF f129 rfl ?_
          refine wp_skip (hK28 _ _ ?_)
          try clear hK28 K28
          have f130 := f129.sub (sub_cons (i := 7) rfl (sub_cons (i := 8) rfl (sub_cons (i := 9) rfl (sub_cons (i := 11) rfl (sub_cons (i := 12) rfl (sub_cons (i := 68) rfl (sub_cons (i := 69) rfl (sub_cons (i := 70) rfl (sub_cons (i := 71) rfl (sub_cons (i := 74) rfl (sub_cons (i := 75) rfl (sub_cons (i := 76) rfl (sub_cons (i := 77) rfl (sub_cons (i := 78) rfl (sub_cons (i := 79) rfl (sub_cons (i := 80) rfl (sub_cons (i := 81) rfl (sub_cons (i := 82) rfl (sub_cons (i := 83) rfl (sub_cons (i := 84) rfl (sub_cons (i := 85) rfl (sub_cons (i := 86) rfl (sub_cons (i := 87) rfl (sub_cons (i := 88) rfl (sub_cons (i := 89) rfl (sub_cons (i := 90) rfl (sub_cons (i := 91) rfl (sub_cons (i := 92) rfl (sub_cons (i := 93) rfl (sub_cons (i := 94) rfl (sub_cons (i := 95) rfl (sub_cons (i := 96) rfl (sub_cons (i := 97) rfl (sub_cons (i := 98) rfl (sub_cons (i := 99) rfl (sub_cons (i := 100) rfl (sub_cons (i := 101) rfl (sub_cons (i := 102) rfl (sub_cons (i := 103) rfl (sub_cons (i := 104) rfl (sub_cons (i := 105) rfl (sub_cons (i := 106) rfl (sub_cons (i := 107) rfl (sub_cons (i := 108) rfl (sub_cons (i := 109) rfl sub_nil)))))))))))))))))))))))))))))))))))))))))))))
          clear f129
          refine C.region ?_
          refine L.val f130 wantedN rfl (by decide) (E.move f130 rfl) fun a131 f131 => ?_
          clear f130 a128
          refine L.val f131 wantedN rfl (by decide) (E.add f131 rfl rfl (IntWalk.i64_in _ (by omega))) fun a132 f132 => ?_
          clear f131 a131
          refine L.val f132 wantedN rfl (by decide) (E.assign f132 rfl) fun a133 f133 => ?_
          clear f132 a132
          refine wpList_nil (hKL25 _ _ (gk26 - 1) ?_ ?_)
          · omega
          · exact ⟨j + 1, by omega, HS3, PK, PL3, HK, by simpa using f133.sub (sub_cons rfl (sub_cons rfl (sub_cons rfl (sub_cons rfl (sub_cons rfl sub_nil)))))⟩
        · clear f118
          have heq := h4
          refine R.takeSkip 28 f119 rfl rfl (by decide) (by kernel_rfl) (by kernel_rfl) (by kernel_rfl) (fun _ _ _ _ h => h) (f119.noT rfl rfl) hS16 fun a120 f120 => ?_
          clear f119 a118
          refine R.takeSkip 29 f120 rfl rfl (by decide) (by kernel_rfl) (by kernel_rfl) (by kernel_rfl) (fun _ _ _ _ h => h) (f120.noT rfl rfl) hS16 fun a121 f121 => ?_
          clear f120 a120
          refine R.takeSkip 30 f121 rfl rfl (by decide) (by kernel_rfl) (by kernel_rfl) (by kernel_rfl) (fun _ _ _ _ h => h) (f121.noT rfl rfl) hS16 fun a122 f122 => ?_
          clear f121 a121
          refine R.takeSkip 31 f122 rfl rfl (by decide) (by kernel_rfl) (by kernel_rfl) (by kernel_rfl) (fun _ _ _ _ h => h) (f122.noT rfl rfl) hS16 fun a123 f123 => ?_
          clear f122 a122
          refine R.takeSkip 32 f123 rfl rfl (by decide) (by kernel_rfl) (by kernel_rfl) (by kernel_rfl) (fun _ _ _ _ h => h) (f123.noT rfl rfl) hS16 fun a124 f124 => ?_
          clear f123 a123
          refine R.takeSkip 33 f124 rfl rfl (by decide) (by kernel_rfl) (by kernel_rfl) (by kernel_rfl) (fun _ _ _ _ h => h) (f124.noT rfl rfl) hS16 fun a125 f125 => ?_
          clear f124 a124
          refine R.take 34 f125 rfl rfl (by decide) (by kernel_rfl) (by kernel_rfl) (by kernel_rfl) (fun _ _ _ _ h => h) (f125.yes rfl rfl) hS16 (fun W hW => (E.pickF f125 rfl rfl)) fun a126 f126 => ?_
          clear f125 a125
          refine R.take 35 f126 rfl rfl (by decide) (by kernel_rfl) (by kernel_rfl) (by kernel_rfl) (fun _ _ _ _ h => h) wantedN hS16 (fun W hW => (E.pickF f126 rfl rfl)) fun a127 f127 => ?_
          clear f126 a126
          have szw7r := hS16.size
          replace HK := blwm HK (.of_kept0 (T := []) (M := []) hS16)
          replace HS3 := HS3.mod (Mod.of_kept0 (T := []) (M := []) (B := (w.heap.size)) hS16) (by decide)
          replace PK := PK.mod (Mod.of_kept0 (T := []) (M := []) (B := (w.heap.size)) hS16) (by decide)
          replace PL3 := PL3.mod (Mod.of_kept0 (T := []) (M := []) (B := (w.heap.size)) hS16) (by decide)
          clear hS16
          refine R.done (by kernel_rfl) (hK29 _ _ ?_)
          try clear hK29 K29
          have f128 := f127.sub (sub_cons (i := 7) rfl (sub_cons (i := 8) rfl (sub_cons (i := 9) rfl (sub_cons (i := 11) rfl (sub_cons (i := 12) rfl (sub_cons (i := 68) rfl (sub_cons (i := 69) rfl (sub_cons (i := 70) rfl (sub_cons (i := 71) rfl (sub_cons (i := 74) rfl (sub_cons (i := 75) rfl (sub_cons (i := 76) rfl (sub_cons (i := 77) rfl (sub_cons (i := 78) rfl (sub_cons (i := 79) rfl (sub_cons (i := 80) rfl (sub_cons (i := 81) rfl (sub_cons (i := 82) rfl (sub_cons (i := 83) rfl (sub_cons (i := 84) rfl (sub_cons (i := 85) rfl (sub_cons (i := 86) rfl (sub_cons (i := 87) rfl (sub_cons (i := 88) rfl (sub_cons (i := 89) rfl (sub_cons (i := 90) rfl (sub_cons (i := 91) rfl (sub_cons (i := 92) rfl (sub_cons (i := 93) rfl (sub_cons (i := 94) rfl (sub_cons (i := 95) rfl (sub_cons (i := 96) rfl (sub_cons (i := 97) rfl (sub_cons (i := 98) rfl (sub_cons (i := 99) rfl (sub_cons (i := 100) rfl (sub_cons (i := 101) rfl (sub_cons (i := 102) rfl (sub_cons (i := 103) rfl (sub_cons (i := 104) rfl (sub_cons (i := 105) rfl (sub_cons (i := 106) rfl (sub_cons (i := 107) rfl (sub_cons (i := 108) rfl (sub_cons (i := 109) rfl sub_nil)))))))))))))))))))))))))))))))))))))))))))))
          clear f127
          refine C.condF f128 rfl ?_
          refine wp_skip (hK28 _ _ ?_)
          try clear hK28 K28
          have f129 := f128.sub (sub_cons (i := 7) rfl (sub_cons (i := 8) rfl (sub_cons (i := 9) rfl (sub_cons (i := 11) rfl (sub_cons (i := 12) rfl (sub_cons (i := 68) rfl (sub_cons (i := 69) rfl (sub_cons (i := 70) rfl (sub_cons (i := 71) rfl (sub_cons (i := 74) rfl (sub_cons (i := 75) rfl (sub_cons (i := 76) rfl (sub_cons (i := 77) rfl (sub_cons (i := 78) rfl (sub_cons (i := 79) rfl (sub_cons (i := 80) rfl (sub_cons (i := 81) rfl (sub_cons (i := 82) rfl (sub_cons (i := 83) rfl (sub_cons (i := 84) rfl (sub_cons (i := 85) rfl (sub_cons (i := 86) rfl (sub_cons (i := 87) rfl (sub_cons (i := 88) rfl (sub_cons (i := 89) rfl (sub_cons (i := 90) rfl (sub_cons (i := 91) rfl (sub_cons (i := 92) rfl (sub_cons (i := 93) rfl (sub_cons (i := 94) rfl (sub_cons (i := 95) rfl (sub_cons (i := 96) rfl (sub_cons (i := 97) rfl (sub_cons (i := 98) rfl (sub_cons (i := 99) rfl (sub_cons (i := 100) rfl (sub_cons (i := 101) rfl (sub_cons (i := 102) rfl (sub_cons (i := 103) rfl (sub_cons (i := 104) rfl (sub_cons (i := 105) rfl (sub_cons (i := 106) rfl (sub_cons (i := 107) rfl (sub_cons (i := 108) rfl (sub_cons (i := 109) rfl sub_nil)))))))))))))))))))))))))))))))))))))))))))))
          clear f128
          refine C.region ?_
          refine L.val f129 wantedN rfl (by decide) (E.move f129 rfl) fun a130 f130 => ?_
          clear f129 a127
          refine L.val f130 wantedN rfl (by decide) (E.add f130 rfl rfl (IntWalk.i64_in _ (by omega))) fun a131 f131 => ?_
          clear f130 a130
          refine L.val f131 wantedN rfl (by decide) (E.assign f131 rfl) fun a132 f132 => ?_
          clear f131 a131
          refine wpList_nil (hKL25 _ _ (gk26 - 1) ?_ ?_)
          · omega
          · exact ⟨j + 1, by omega, HS3, PK, PL3, HK, by simpa using f132.sub (sub_cons rfl (sub_cons rfl (sub_cons rfl (sub_cons rfl (sub_cons rfl sub_nil)))))⟩
      · clear f86
        have hjl := h3
        refine C.condF f87 rfl ?_
        refine wp_exit (hK23 _ _ ?_)
        try clear hK23 K23
        have f88 := f87.sub (sub_cons (i := 7) rfl (sub_cons (i := 8) rfl (sub_cons (i := 9) rfl sub_nil)))
        clear f87
        refine wp_seq_k fun K30 hK30 => ?_
        refine C.region ?_
        refine L.val f88 wantedN rfl (by decide) (E.move f88 rfl) fun a89 f89 => ?_
        clear f88 a85
        refine L.val f89 wantedN rfl (by decide) (E.move f89 rfl) fun a90 f90 => ?_
        clear f89 a89
        refine L.val f90 wantedN rfl (by decide) (E.move f90 rfl) fun a91 f91 => ?_
        clear f90 a90
        refine L.val f91 wantedN rfl (by decide) (E.indexA f91 (by first | rfl | assumption) Try.underlying27 wsz35_q rfl rfl (by omega) (by omega)) fun a92 f92 => ?_
        clear f91 a91
        refine L.val f92 wantedN rfl (by decide) (E.fieldAddr f92 Try.underlying35 rfl rfl wsz3_q) fun a93 f93 => ?_
        clear f92 a92
        refine L.val f93 wantedN rfl (by decide) (E.load f93 Try.underlying3 rfl rfl (pk_cell PK.fr.own hAP (i := i) (x := x) hx 4 rfl (show offP + i * 24 + 4 = _ by omega))) fun a94 f94 => ?_
        clear f93 a93
        refine L.val f94 wantedN rfl (by decide) (E.build f94 (parts2 f94 rfl rfl) (wbl35_0_4_q _ _)) fun a95 f95 => ?_
        clear f94 a94
        have hC := ack_any w.heap.size p u3 7 x.p.id 9 #[(.int .i64 7), (.bool false), (.bool false), (.int .i64 0), (.int .i64 x.p.id), (.string ⟨#[]⟩), (.slice none 0 0), (.int .i64 0), (.string ⟨#[]⟩), (.bool false), (.int .i64 0), (.bool false), (.string ⟨#[]⟩), (.slice none 0 0), (.int .i64 0), (.bool false), (.bool false), (.bool false), (.string ⟨#[]⟩), (.slice none 0 0), (.bool false), (.int .i64 0), (.slice none 0 0), (.slice none 0 0)] rfl rfl w6 HS3 HK.size
        rw [habL, hT4] at hC
        refine L.call f95 wantedN rfl (by decide) (run_call Try.call13 (args3 f95 rfl rfl rfl)) hC ?_
        rintro e w7 ⟨u5, A5, c5, pk5, rfl, HS5, hr5, hL5, kc7, -, -⟩
        injection hr5 with hab5 hp5
        obtain rfl := List.map_eq_nil_iff.1 hp5
        have hf5 : u5.fly.length = S4.fly.length := fly_of hab5
        refine ⟨_, rfl, fun a96 f96 => ?_⟩
        clear f95 a95
        have szw7 := kc7.size
        replace HK := blwm HK kc7
        replace PK := PK.mod kc7 (by decide)
        replace PL3 := PL3.mod kc7 (by decide)
        clear kc7
        refine L.val f96 wantedN rfl (by decide) (E.lenL f96 Try.underlying27 rfl) fun a97 f97 => ?_
        clear f96 a96
        refine L.val f97 wantedN rfl (by decide) (E.eql f97 rfl rfl) fun a98 f98 => ?_
        clear f97 a97
        have f99 := f98.as (i := 119) (v' := .bool true) rfl (by rfl)
        clear f98
        refine L.val f99 wantedN rfl (by decide) (E.move f99 rfl) fun a100 f100 => ?_
        clear f99 a98
        refine L.val f100 (f100.yes rfl rfl) rfl (by decide) (E.move f100 rfl) fun a101 f101 => ?_
        clear f100 a100
        refine L.call f101 (f101.yes rfl rfl) rfl (by decide) (run_call Try.call14 (args1 f101 rfl)) (flying_any p u5.fly.length u5.fc u5.FA _ _ _ _ _ _ HS5.top) ?_
        rintro e w7x ⟨rfl, rfl⟩
        refine ⟨_, rfl, fun a102 f102 => ?_⟩
        clear f101 a101
        refine L.val f102 (f102.yes rfl rfl) rfl (by decide) (E.move f102 rfl) fun a103 f103 => ?_
        clear f102 a102
        refine L.val f103 (f103.yes rfl rfl) rfl (by decide) (E.lenL f103 Try.underlying27 rfl) fun a104 f104 => ?_
        clear f103 a103
        refine L.val f104 (f104.yes rfl rfl) rfl (by decide) (E.sub f104 rfl rfl (IntWalk.i64_in _ (by omega))) fun a105 f105 => ?_
        clear f104 a104
        refine L.val f105 (f105.yes rfl rfl) rfl (by decide) (E.eql f105 rfl rfl) fun a106 f106 => ?_
        clear f105 a105
        have f107 := f106.as (i := 126) (v' := .bool true) rfl (by exact lit_eq (by omega))
        clear f106
        refine L.val f107 wantedN rfl (by decide) (E.pickT f107 rfl rfl) fun a108 f108 => ?_
        clear f107 a106
        refine L.val f108 wantedN rfl (by decide) (E.assign f108 rfl) fun a109 f109 => ?_
        clear f108 a108
        refine wpList_nil (hK30 _ _ ?_)
        try clear hK30 K30
        have f110 := f109.sub (sub_cons (i := 6) rfl sub_nil)
        clear f109
        refine wp_ret ?_
        try simp only [Exit.inBlock, Exit.then]
        refine C.ret (P := Try.prog) (fn := Try.f7) f110 rfl rfl ?_
        exact ⟨rfl, HK⟩

end Go.Proofs.Ytdfllmiokgoekaa
