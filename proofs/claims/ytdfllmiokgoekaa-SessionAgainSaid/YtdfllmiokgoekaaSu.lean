/- SessionAgain: the walk. -/
import Derived.Test.YtdfllmiokgoekaaSt5
set_option linter.all false
namespace Go.Proofs.Ytdfllmiokgoekaa
open Go.RowKit Go.Hub
theorem wsz3_s : (Try.prog.info? 3).map (·.size) = some 1 := by kernel_rfl
theorem wsz4_s : (Try.prog.info? 4).map (·.size) = some 1 := by kernel_rfl
theorem wsz22_s : (Try.prog.info? 22).map (·.size) = some 1 := by kernel_rfl
theorem wsz35_s : (Try.prog.info? 35).map (·.size) = some 24 := by kernel_rfl

theorem lit_beqT {p : Prop} [Decidable p] (h : p) : Value.bool (decide p == true) = .bool true := by simp [h]
theorem lit_beq {p q : Prop} [Decidable p] [Decidable q] (h : p ↔ q) : Value.bool (decide p == decide q) = .bool true := by by_cases hp : p <;> simp [hp, ← h]
def agL (q : Int) : List Pa → List Pa → Bool
  | a :: xs, b :: ys => a.dup && decide (a.id = b.id) && decide (a.qos = q) && decide (a.pay = b.pay) && agL q xs ys
  | [], _ => true
  | _, [] => false
theorem agL_spec {q : Int} : ∀ {xs ys : List Pa}, agL q xs ys = true → ∀ (k : Nat) (a b : Pa), xs[k]? = some a → ys[k]? = some b → a.dup = true ∧ a.id = b.id ∧ a.qos = q ∧ a.pay = b.pay
  | a :: xs, b :: ys, h, k, x, y, hx, hy => by
    unfold agL at h
    simp only [Bool.and_eq_true, decide_eq_true_eq] at h
    cases k with
    | zero =>
      simp at hx hy
      subst hx hy
      exact ⟨h.1.1.1.1, h.1.1.1.2, h.1.1.2, h.1.2⟩
    | succ k => exact agL_spec h.2 k x y (by simpa using hx) (by simpa using hy)
  | [], _, _, k, x, _, hx, _ => by simp at hx
  | _ :: _, [], h, _, _, _, _, _ => by cases h
def agT (m : Nat) (q : Int) (wt mo : Nat) : Bool := Nat.beq (flyS m q).2.length m && Nat.beq (againS (flyS m q).1 wt 8).2.length (bif Nat.ble 8 wt then m else 0) && agL q (againS (flyS m q).1 wt 8).2 (flyS m q).2 &&
  (Nat.beq (againS (againS (flyS m q).1 wt 8).1 (wt + mo : Nat) 8).2.length m == (Nat.ble 8 (bif Nat.ble 8 wt then mo else mo + wt) || Nat.beq m 0)) && Nat.beq (againS (againS (flyS m q).1 wt 8).1 (wt + mo : Nat) 8).1.fly.length m
theorem ag_all : ((List.range 5).all fun m => (List.range 20).all fun wt => (List.range 20).all fun mo => agT m 1 wt mo && agT m 2 wt mo) = true := by kernel_rfl
theorem ag_table {m wt mo : Nat} {q : Int} (hm : m < 5) (hq : q = 1 ∨ q = 2) (hw : wt < 20) (hmo : mo < 20) : ∃ S1 L1 S2 L2, (flyS m q).2.length = m ∧ againS (flyS m q).1 wt 8 = (S1, L1) ∧ L1.length = (if 8 ≤ wt then m else 0) ∧ agL q L1 (flyS m q).2 = true ∧ againS S1 ((wt : Int) + mo) 8 = (S2, L2) ∧
    (if 8 ≤ wt then (L2.length = m → 8 ≤ mo ∨ m = 0) ∧ (8 ≤ mo ∨ m = 0 → L2.length = m) else (L2.length = m → 8 ≤ mo + wt ∨ m = 0) ∧ (8 ≤ mo + wt ∨ m = 0 → L2.length = m)) ∧ S2.fly.length = m := by
  have h := List.all_eq_true.1 (List.all_eq_true.1 (List.all_eq_true.1 ag_all m (List.mem_range.2 hm)) wt (List.mem_range.2 hw)) mo (List.mem_range.2 hmo)
  rw [Bool.and_eq_true] at h
  have h1 : agT m q wt mo = true := by
    rcases hq with rfl | rfl
    · exact h.1
    · exact h.2
  unfold agT at h1
  simp only [Bool.and_eq_true, beq_iff_eq] at h1
  obtain ⟨⟨⟨⟨h2, h3⟩, h4⟩, h5⟩, h6⟩ := h1
  have hi : ((wt : Int) + mo) = ((wt + mo : Nat) : Int) := by omega
  refine ⟨(againS (flyS m q).1 wt 8).1, (againS (flyS m q).1 wt 8).2, (againS (againS (flyS m q).1 wt 8).1 (wt + mo : Nat) 8).1, (againS (againS (flyS m q).1 wt 8).1 (wt + mo : Nat) 8).2, Nat.eq_of_beq_eq_true h2, rfl, ?_, h4, by rw [hi], ?_, Nat.eq_of_beq_eq_true h6⟩
  · rw [Nat.eq_of_beq_eq_true h3]
    by_cases h8 : 8 ≤ wt
    · rw [if_pos h8, show Nat.ble 8 wt = true from Nat.ble_eq_true_of_le h8]; rfl
    · rw [if_neg h8, show Nat.ble 8 wt = false by cases hb : Nat.ble 8 wt; rfl; exact absurd (Nat.le_of_ble_eq_true hb) h8]; rfl
  · have key : ∀ (a b c : Nat), (Nat.beq a b == (Nat.ble 8 c || Nat.beq b 0)) = true → (a = b → 8 ≤ c ∨ b = 0) ∧ (8 ≤ c ∨ b = 0 → a = b) := fun a b c h => by
      rw [beq_iff_eq] at h
      have e1 : Nat.beq a b = true ↔ a = b := by rw [Nat.beq_eq]
      have e2 : Nat.beq b 0 = true ↔ b = 0 := by rw [Nat.beq_eq]
      have e3 : Nat.ble 8 c = true ↔ 8 ≤ c := by rw [Nat.ble_eq]
      rw [← e1, ← e2, ← e3, h]
      cases Nat.ble 8 c <;> cases Nat.beq b 0 <;> simp
    by_cases h8 : 8 ≤ wt
    · rw [if_pos h8]
      rw [show Nat.ble 8 wt = true from Nat.ble_eq_true_of_le h8] at h5
      exact key _ _ _ (by rw [beq_iff_eq]; exact h5)
    · rw [if_neg h8]
      rw [show Nat.ble 8 wt = false by cases hb : Nat.ble 8 wt; rfl; exact absurd (Nat.le_of_ble_eq_true hb) h8] at h5
      exact key _ _ _ (by rw [beq_iff_eq]; exact h5)

set_option maxRecDepth 100000 in
set_option maxHeartbeats 8000000 in
theorem sagain_any (n q wt0 mo0 : Int) (w : World) (hn : 0 ≤ n ∧ n ≤ 255) (hq : 0 ≤ q ∧ q ≤ 255) (hw0 : 0 ≤ wt0 ∧ wt0 ≤ 255) (hm0 : 0 ≤ mo0 ∧ mo0 ≤ 255) : Calls Try.prog 6 #[.int .u8 n, .int .u8 q, .int .u8 wt0, .int .u8 mo0] w (fun e w' => e = .returned (.bool true) ∧ Below w.heap.size w w') := by
  have HK : Below w.heap.size w w := Below.refl _ _
  refine C.enter Try.func6 rfl Try.ntmps6 rfl ?_
  intro a0 f0
  have f1 : Fr 143 a0 [(0, .int .u8 n), (1, .int .u8 q), (2, .int .u8 wt0), (3, .int .u8 mo0)] := f0
  clear f0
  refine wp_seq_k fun K0 hK0 => ?_
  refine C.region ?_
  refine L.val f1 wantedN rfl (by decide) (E.assign f1 rfl) fun a2 f2 => ?_
  clear f1 a0
  refine wpList_nil (hK0 _ _ ?_)
  try clear hK0 K0
  have f3 := f2.sub (sub_cons (i := 0) rfl (sub_cons (i := 1) rfl (sub_cons (i := 2) rfl (sub_cons (i := 3) rfl (sub_cons (i := 8) rfl sub_nil)))))
  clear f2
  refine wp_seq_k fun K1 hK1 => ?_
  refine wp_seq_k fun K2 hK2 => ?_
  refine C.region ?_
  refine L.call f3 wantedN rfl (by decide) (run_call Try.call9 (args0 f3)) (known_any _) ?_
  rintro e w1 ⟨rfl, kb⟩
  have kc1 : Mod [] [] w.heap.size w w1 := of_below kb
  refine ⟨_, rfl, fun a4 f4 => ?_⟩
  clear f3 a2
  have szw1 := kc1.size
  replace HK := blwm HK kc1
  clear kc1
  refine L.val f4 wantedN rfl (by decide) (E.not f4 rfl) fun a5 f5 => ?_
  clear f4 a4
  refine wpList_nil (hK2 _ _ ?_)
  try clear hK2 K2
  have f6 := f5.sub (sub_cons (i := 0) rfl (sub_cons (i := 1) rfl (sub_cons (i := 2) rfl (sub_cons (i := 3) rfl (sub_cons (i := 8) rfl (sub_cons (i := 17) rfl sub_nil))))))
  clear f5
  refine C.condF f6 rfl ?_
  refine wp_skip (hK1 _ _ ?_)
  try clear hK1 K1
  have f7 := f6.sub (sub_cons (i := 0) rfl (sub_cons (i := 1) rfl (sub_cons (i := 2) rfl (sub_cons (i := 3) rfl (sub_cons (i := 8) rfl sub_nil)))))
  clear f6
  refine wp_seq_k fun K3 hK3 => ?_
  refine C.region ?_
  refine L.val f7 wantedN rfl (by decide) (E.move f7 rfl) fun a8 f8 => ?_
  clear f7 a5
  refine L.val f8 wantedN rfl (by decide) (E.rem f8 rfl rfl (by omega) (Int.tmod_eq_emod_of_nonneg (by omega))) fun a9 f9 => ?_
  clear f8 a8
  refine L.val f9 wantedN rfl (by decide) (E.conv f9 Try.underlying5 Try.underlying3 rfl (IntWalk.i64_in _ (by omega))) fun a10 f10 => ?_
  clear f9 a9
  refine L.val f10 wantedN rfl (by decide) (E.add f10 rfl rfl (IntWalk.i64_in _ (by omega))) fun a11 f11 => ?_
  clear f10 a10
  refine L.val f11 wantedN rfl (by decide) (E.assign f11 rfl) fun a12 f12 => ?_
  clear f11 a11
  refine wpList_nil (hK3 _ _ ?_)
  try clear hK3 K3
  have f13 := f12.sub (sub_cons (i := 0) rfl (sub_cons (i := 2) rfl (sub_cons (i := 3) rfl (sub_cons (i := 8) rfl (sub_cons (i := 9) rfl sub_nil)))))
  clear f12
  refine wp_seq_k fun K4 hK4 => ?_
  obtain ⟨qos, hqos⟩ : ∃ x : Int, x = q % 2 + 1 := ⟨_, rfl⟩
  rw [← hqos] at f13
  have hq12 : qos = 1 ∨ qos = 2 := by omega
  refine C.region ?_
  refine L.val f13 wantedN rfl (by decide) (E.move f13 rfl) fun a14 f14 => ?_
  clear f13 a12
  refine L.val f14 wantedN rfl (by decide) (E.rem f14 rfl rfl (by omega) (Int.tmod_eq_emod_of_nonneg (by omega))) fun a15 f15 => ?_
  clear f14 a14
  refine L.val f15 wantedN rfl (by decide) (E.conv f15 Try.underlying5 Try.underlying3 rfl (IntWalk.i64_in _ (by omega))) fun a16 f16 => ?_
  clear f15 a15
  refine L.val f16 wantedN rfl (by decide) (E.move f16 rfl) fun a17 f17 => ?_
  clear f16 a16
  obtain ⟨m, hm⟩ : ∃ m : Nat, n % 5 = (m : Int) := ⟨(n % 5).toNat, by omega⟩
  have hm5 : m < 5 := by omega
  rw [hm] at f17
  refine L.call f17 wantedN rfl (by decide) (run_call Try.call12 (args2 f17 rfl rfl)) (flyN_any m qos w.heap.size _ (by omega) HK.size) ?_
  rintro e w2 ⟨p, u, A, c, pks, rfl, HS, hab, hp, PK, kc2⟩
  have szk := HK.size
  replace PK := PK.lower (w1 := w) szk
  replace HK := HK.trans kc2
  refine ⟨_, rfl, fun a18 f18 => ?_⟩
  clear f17 a17
  have szw2 := kc2.size
  clear kc2
  refine L.val f18 wantedN rfl (by decide) (E.move f18 rfl) fun a19 f19 => ?_
  clear f18 a18
  refine L.val f19 wantedN rfl (by decide) (E.extract f19 rfl rfl) fun a20 f20 => ?_
  clear f19 a19
  refine L.val f20 wantedN rfl (by decide) (E.extract f20 rfl rfl) fun a21 f21 => ?_
  clear f20 a20
  refine L.val f21 wantedN rfl (by decide) (E.assign f21 rfl) fun a22 f22 => ?_
  clear f21 a21
  refine L.val f22 wantedN rfl (by decide) (E.assign f22 rfl) fun a23 f23 => ?_
  clear f22 a22
  refine wpList_nil (hK4 _ _ ?_)
  try clear hK4 K4
  have f24 := f23.sub (sub_cons (i := 2) rfl (sub_cons (i := 3) rfl (sub_cons (i := 8) rfl (sub_cons (i := 9) rfl (sub_cons (i := 10) rfl (sub_cons (i := 11) rfl sub_nil))))))
  clear f23
  refine wp_seq_k fun K5 hK5 => ?_
  obtain ⟨wt, hwt⟩ : ∃ wt : Nat, wt0 % 20 = (wt : Int) := ⟨(wt0 % 20).toNat, by omega⟩
  obtain ⟨mo, hmo⟩ : ∃ mo : Nat, mo0 % 20 = (mo : Int) := ⟨(mo0 % 20).toNat, by omega⟩
  obtain ⟨S1, L1, S2, L2, hT0, hT1, hT2, hT3, hT4, hT5, hT6⟩ := ag_table hm5 hq12 (wt := wt) (mo := mo) (by omega) (by omega)
  have hlen : pks.length = m := by rw [← hp] at hT0; simpa using hT0
  refine C.region ?_
  refine L.val f24 wantedN rfl (by decide) (E.move f24 rfl) fun a25 f25 => ?_
  clear f24 a23
  refine L.val f25 wantedN rfl (by decide) (E.move f25 rfl) fun a26 f26 => ?_
  clear f25 a25
  refine L.val f26 wantedN rfl (by decide) (E.rem f26 rfl rfl (by omega) (Int.tmod_eq_emod_of_nonneg (by omega))) fun a27 f27 => ?_
  clear f26 a26
  refine L.val f27 wantedN rfl (by decide) (E.conv f27 Try.underlying5 Try.underlying3 rfl (IntWalk.i64_in _ (by omega))) fun a28 f28 => ?_
  clear f27 a27
  have hC := Again_any w.heap.size p u (wt0 % 20) w2 HS HK.size
  refine L.call f28 wantedN rfl (by decide) (run_call Try.call18 (args2 f28 rfl rfl)) hC ?_
  rintro e w3 ⟨u2, A2, c2, pk2, rfl, HS2, hr2, hL2, kc3, PA, -⟩
  rw [hab, hwt, hT1] at hr2
  injection hr2 with hab2 hp2
  have szk := HK.size
  replace PA := PA.lower (w1 := w) szk
  have hl2 : pk2.length = L1.length := by rw [← hp2, List.length_map]
  refine ⟨_, rfl, fun a29 f29 => ?_⟩
  clear f28 a28
  have szw3 := kc3.size
  replace HK := blwm HK kc3
  replace PK := PK.mod kc3 (by decide)
  clear kc3
  refine L.val f29 wantedN rfl (by decide) (E.assign f29 rfl) fun a30 f30 => ?_
  clear f29 a29
  refine wpList_nil (hK5 _ _ ?_)
  try clear hK5 K5
  have f31 := f30.sub (sub_cons (i := 2) rfl (sub_cons (i := 3) rfl (sub_cons (i := 8) rfl (sub_cons (i := 9) rfl (sub_cons (i := 10) rfl (sub_cons (i := 11) rfl (sub_cons (i := 12) rfl sub_nil)))))))
  clear f30
  refine wp_seq_k fun K6 hK6 => ?_
  refine C.region ?_
  refine L.val f31 wantedN rfl (by decide) (E.move f31 rfl) fun a32 f32 => ?_
  clear f31 a30
  refine L.val f32 wantedN rfl (by decide) (E.rem f32 rfl rfl (by omega) (Int.tmod_eq_emod_of_nonneg (by omega))) fun a33 f33 => ?_
  clear f32 a32
  refine L.val f33 wantedN rfl (by decide) (E.conv f33 Try.underlying5 Try.underlying3 rfl (IntWalk.i64_in _ (by omega))) fun a34 f34 => ?_
  clear f33 a33
  refine L.val f34 wantedN rfl (by decide) (E.geq f34 rfl rfl) fun a35 f35 => ?_
  clear f34 a34
  refine L.val f35 wantedN rfl (by decide) (E.assign f35 rfl) fun a36 f36 => ?_
  clear f35 a35
  first | refine f36.splitD 13 rfl (fun h0 f37 => ?_) (fun h0 f37 => ?_) | refine f36.splitN 13 rfl (fun h0 f37 => ?_) (fun h0 f37 => ?_) | refine f36.splitNB 13 rfl (fun h0 f37 => ?_) (fun h0 f37 => ?_) | refine f36.split 13 rfl (fun h0 f37 => ?_) (fun h0 f37 => ?_)
  · clear f36
    have hlate := h0
    rw [if_pos (by omega)] at hT2 hT5
    refine wpList_nil (hK6 _ _ ?_)
    try clear hK6 K6
    have f38 := f37.sub (sub_cons (i := 2) rfl (sub_cons (i := 3) rfl (sub_cons (i := 8) rfl (sub_cons (i := 9) rfl (sub_cons (i := 10) rfl (sub_cons (i := 11) rfl (sub_cons (i := 12) rfl (sub_cons (i := 13) rfl sub_nil))))))))
    clear f37
    refine wp_seq_k fun K7 hK7 => ?_
    refine wp_seq_k fun K8 hK8 => ?_
    refine C.region ?_
    refine L.val f38 wantedN rfl (by decide) (E.move f38 rfl) fun a39 f39 => ?_
    clear f38 a36
    refine L.val f39 wantedN rfl (by decide) (E.move f39 rfl) fun a40 f40 => ?_
    clear f39 a39
    refine L.val f40 (f40.yes rfl rfl) rfl (by decide) (E.move f40 rfl) fun a41 f41 => ?_
    clear f40 a40
    refine L.val f41 (f41.yes rfl rfl) rfl (by decide) (E.lenL f41 Try.underlying27 rfl) fun a42 f42 => ?_
    clear f41 a41
    refine L.val f42 (f42.yes rfl rfl) rfl (by decide) (E.move f42 rfl) fun a43 f43 => ?_
    clear f42 a42
    refine L.val f43 (f43.yes rfl rfl) rfl (by decide) (E.lenL f43 Try.underlying27 rfl) fun a44 f44 => ?_
    clear f43 a43
    refine L.val f44 (f44.yes rfl rfl) rfl (by decide) (E.neq f44 rfl rfl) fun a45 f45 => ?_
    clear f44 a44
    have f46 := f45.as (i := 45) (v' := .bool false) rfl (by exact lit_ne (by omega))
    clear f45
    refine L.val f46 wantedN rfl (by decide) (E.pickT f46 rfl rfl) fun a47 f47 => ?_
    clear f46 a45
    refine L.val f47 wantedN rfl (by decide) (E.move f47 rfl) fun a48 f48 => ?_
    clear f47 a47
    refine L.val f48 (f48.yes rfl rfl) rfl (by decide) (E.move f48 rfl) fun a49 f49 => ?_
    clear f48 a48
    refine L.val f49 (f49.yes rfl rfl) rfl (by decide) (E.not f49 rfl) fun a50 f50 => ?_
    clear f49 a49
    refine L.val f50 (f50.yes rfl rfl) rfl (by decide) (E.move f50 rfl) fun a51 f51 => ?_
    clear f50 a50
    refine L.skip f51 (f51.noT rfl rfl) rfl (by decide) fun a52 f52 => ?_
    clear f51 a51
    refine L.skip f52 (f52.noT rfl rfl) rfl (by decide) fun a53 f53 => ?_
    clear f52 a52
    refine L.skip f53 (f53.noT rfl rfl) rfl (by decide) fun a54 f54 => ?_
    clear f53 a53
    refine L.val f54 (f54.yes rfl rfl) rfl (by decide) (E.pickF f54 rfl rfl) fun a55 f55 => ?_
    clear f54 a54
    refine L.val f55 wantedN rfl (by decide) (E.pickF f55 rfl rfl) fun a56 f56 => ?_
    clear f55 a55
    refine wpList_nil (hK8 _ _ ?_)
    try clear hK8 K8
    have f57 := f56.sub (sub_cons (i := 2) rfl (sub_cons (i := 3) rfl (sub_cons (i := 8) rfl (sub_cons (i := 9) rfl (sub_cons (i := 10) rfl (sub_cons (i := 11) rfl (sub_cons (i := 12) rfl (sub_cons (i := 13) rfl (sub_cons (i := 55) rfl sub_nil)))))))))
    clear f56
    refine C.condF f57 rfl ?_
    refine wp_skip (hK7 _ _ ?_)
    try clear hK7 K7
    have f58 := f57.sub (sub_cons (i := 2) rfl (sub_cons (i := 3) rfl (sub_cons (i := 8) rfl (sub_cons (i := 9) rfl (sub_cons (i := 10) rfl (sub_cons (i := 11) rfl (sub_cons (i := 12) rfl (sub_cons (i := 13) rfl sub_nil))))))))
    clear f57
    refine wp_seq_k fun K9 hK9 => ?_
    refine wp_seq_k fun K10 hK10 => ?_
    refine C.region ?_
    refine L.val f58 wantedN rfl (by decide) (E.assign f58 rfl) fun a59 f59 => ?_
    clear f58 a56
    refine wpList_nil (hK10 _ _ ?_)
    try clear hK10 K10
    have f60 := f59.sub (sub_cons (i := 2) rfl (sub_cons (i := 3) rfl (sub_cons (i := 8) rfl (sub_cons (i := 9) rfl (sub_cons (i := 10) rfl (sub_cons (i := 11) rfl (sub_cons (i := 12) rfl (sub_cons (i := 13) rfl (sub_cons (i := 14) rfl sub_nil)))))))))
    clear f59
    refine wp_block ?_
    refine C.loop (fun gk a W => ∃ k : Nat, k + gk = pk2.length ∧ SesAt w.heap.size W p u2 ∧ PkAt w.heap.size w W A c pks ∧ PkAt w.heap.size w W A2 c2 pk2 ∧ Below w.heap.size w W ∧ Fr 143 a [(2, .int .u8 wt0), (3, .int .u8 mo0), (9, .int .i64 qos), (10, .pointer (some ⟨p, 0, none⟩)), (11, .slice A pks.length c), (12, .slice A2 pk2.length c2), (13, .bool true), (14, .int .i64 k)]) (pk2.length) ?_ ?_
    · exact ⟨0, by omega, HS2, PK, PA, HK, f60.sub (sub_cons rfl (sub_cons rfl (sub_cons rfl (sub_cons rfl (sub_cons rfl (sub_cons rfl (sub_cons rfl (sub_cons rfl sub_nil))))))))⟩
    · intro gk12 a61 w4 hI KL11 hKL11
      obtain ⟨k, hk, HS2, PK, PA, HK, f61⟩ := hI
      try clear f60
      have szw1x := HK.size
      refine wp_seq_k fun K12 hK12 => ?_
      refine wp_seq_k fun K13 hK13 => ?_
      refine C.region ?_
      refine L.val f61 wantedN rfl (by decide) (E.move f61 rfl) fun a62 f62 => ?_
      clear f61 a61
      refine L.val f62 wantedN rfl (by decide) (E.move f62 rfl) fun a63 f63 => ?_
      clear f62 a62
      refine L.val f63 wantedN rfl (by decide) (E.lenL f63 Try.underlying27 rfl) fun a64 f64 => ?_
      clear f63 a63
      refine L.val f64 wantedN rfl (by decide) (E.lss f64 rfl rfl) fun a65 f65 => ?_
      clear f64 a64
      refine wpList_nil (hK13 _ _ ?_)
      try clear hK13 K13
      have f66 := f65.sub (sub_cons (i := 2) rfl (sub_cons (i := 3) rfl (sub_cons (i := 9) rfl (sub_cons (i := 10) rfl (sub_cons (i := 11) rfl (sub_cons (i := 12) rfl (sub_cons (i := 13) rfl (sub_cons (i := 14) rfl (sub_cons (i := 56) rfl (sub_cons (i := 57) rfl (sub_cons (i := 58) rfl (sub_cons (i := 59) rfl sub_nil))))))))))))
      clear f65
      first | refine f66.splitD 59 rfl (fun h1 f67 => ?_) (fun h1 f67 => ?_) | refine f66.splitN 59 rfl (fun h1 f67 => ?_) (fun h1 f67 => ?_) | refine f66.splitNB 59 rfl (fun h1 f67 => ?_) (fun h1 f67 => ?_) | refine f66.split 59 rfl (fun h1 f67 => ?_) (fun h1 f67 => ?_)
      · clear f66
        obtain ⟨x, hx⟩ : ∃ x, pk2[k]? = some x := ⟨pk2[k]'(by omega), List.getElem?_eq_getElem _⟩
        obtain ⟨y, hy⟩ : ∃ y, pks[k]? = some y := ⟨pks[k]'(by omega), List.getElem?_eq_getElem _⟩
        obtain ⟨bA, offA, hAA⟩ := (Sl.of_own PA.fr.own).addr (by omega)
        obtain ⟨bP, offP, hAP⟩ := (Sl.of_own PK.fr.own).addr (by omega)
        obtain ⟨hxd, hxi, hxq, hxp⟩ := agL_spec hT3 k x.p y.p (by rw [← hp2, List.getElem?_map, hx]; rfl) (by rw [← hp, List.getElem?_map, hy]; rfl)
        refine C.condT f67 rfl ?_
        refine wp_skip (hK12 _ _ ?_)
        try clear hK12 K12
        have f68 := f67.sub (sub_cons (i := 2) rfl (sub_cons (i := 3) rfl (sub_cons (i := 9) rfl (sub_cons (i := 10) rfl (sub_cons (i := 11) rfl (sub_cons (i := 12) rfl (sub_cons (i := 13) rfl (sub_cons (i := 14) rfl (sub_cons (i := 56) rfl (sub_cons (i := 57) rfl (sub_cons (i := 58) rfl (sub_cons (i := 59) rfl sub_nil))))))))))))
        clear f67
        refine wp_seq_k fun K14 hK14 => ?_
        refine wp_block ?_
        refine wp_seq_k fun K15 hK15 => ?_
        refine R.begin (S := fun W => Kept [] w4 W) (by kernel_rfl) (by exact (Kept.refl _ _).drewN 1) ?_
        have hS12 : Kept [] w4 (w4.drewN 1) := (Kept.refl _ _).drewN 1
        have hd12 : Kept [] w4 (w4.drewN 1) := (Kept.refl _ _).drewN 1
        obtain ⟨w5, hww5⟩ : ∃ W, W = w4.drewN 1 := ⟨_, rfl⟩
        rw [← hww5] at hS12 hd12 ⊢
        clear hww5
        have szw5 := hS12.size
        refine R.take 0 f68 rfl rfl (by decide) (by kernel_rfl) (by kernel_rfl) (by kernel_rfl) (fun _ _ _ _ h => h) wantedN hS12 (fun W hW => (E.move f68 rfl)) fun a69 f69 => ?_
        clear f68 a65
        refine R.take 1 f69 rfl rfl (by decide) (by kernel_rfl) (by kernel_rfl) (by kernel_rfl) (fun _ _ _ _ h => h) wantedN hS12 (fun W hW => (E.move f69 rfl)) fun a70 f70 => ?_
        clear f69 a69
        refine R.take 2 f70 rfl rfl (by decide) (by kernel_rfl) (by kernel_rfl) (by kernel_rfl) (fun _ _ _ _ h => h) wantedN hS12 (fun W hW => (E.indexA f70 (by first | rfl | assumption) Try.underlying27 wsz35_s rfl rfl (by omega) (by omega))) fun a71 f71 => ?_
        clear f70 a70
        refine R.take 3 f71 rfl rfl (by decide) (by kernel_rfl) (by kernel_rfl) (by kernel_rfl) (fun _ _ _ _ h => h) wantedN hS12 (fun W hW => (E.fieldAddr f71 Try.underlying35 rfl rfl wsz4_s)) fun a72 f72 => ?_
        clear f71 a71
        refine R.take 4 f72 rfl rfl (by decide) (by kernel_rfl) (by kernel_rfl) (by kernel_rfl) (fun _ _ _ _ h => h) wantedN hS12 (fun W hW => (E.load f72 Try.underlying4 rfl rfl (pk_cell (PA.fr.own.kept hW (by simp)) hAA (i := k) (x := x) hx 1 rfl (show offA + k * 24 + 1 = _ by omega)))) fun a73 f73 => ?_
        clear f72 a72
        have f74 := f73.as (i := 66) (v' := .bool true) rfl (by rw [hxd])
        clear f73
        refine R.take 5 f74 rfl rfl (by decide) (by kernel_rfl) (by kernel_rfl) (by kernel_rfl) (fun _ _ _ _ h => h) wantedN hS12 (fun W hW => (E.not f74 rfl)) fun a75 f75 => ?_
        clear f74 a73
        refine R.take 6 f75 rfl rfl (by decide) (by kernel_rfl) (by kernel_rfl) (by kernel_rfl) (fun _ _ _ _ h => h) wantedN hS12 (fun W hW => (E.move f75 rfl)) fun a76 f76 => ?_
        clear f75 a75
        refine R.take 7 f76 rfl rfl (by decide) (by kernel_rfl) (by kernel_rfl) (by kernel_rfl) (fun _ _ _ _ h => h) (f76.yes rfl rfl) hS12 (fun W hW => (E.move f76 rfl)) fun a77 f77 => ?_
        clear f76 a76
        refine R.take 8 f77 rfl rfl (by decide) (by kernel_rfl) (by kernel_rfl) (by kernel_rfl) (fun _ _ _ _ h => h) (f77.yes rfl rfl) hS12 (fun W hW => (E.move f77 rfl)) fun a78 f78 => ?_
        clear f77 a77
        refine R.take 9 f78 rfl rfl (by decide) (by kernel_rfl) (by kernel_rfl) (by kernel_rfl) (fun _ _ _ _ h => h) (f78.yes rfl rfl) hS12 (fun W hW => (E.indexA f78 (by first | rfl | assumption) Try.underlying27 wsz35_s rfl rfl (by omega) (by omega))) fun a79 f79 => ?_
        clear f78 a78
        refine R.take 10 f79 rfl rfl (by decide) (by kernel_rfl) (by kernel_rfl) (by kernel_rfl) (fun _ _ _ _ h => h) (f79.yes rfl rfl) hS12 (fun W hW => (E.fieldAddr f79 Try.underlying35 rfl rfl wsz3_s)) fun a80 f80 => ?_
        clear f79 a79
        refine R.take 11 f80 rfl rfl (by decide) (by kernel_rfl) (by kernel_rfl) (by kernel_rfl) (fun _ _ _ _ h => h) (f80.yes rfl rfl) hS12 (fun W hW => (E.load f80 Try.underlying3 rfl rfl (pk_cell (PA.fr.own.kept hW (by simp)) hAA (i := k) (x := x) hx 4 rfl (show offA + k * 24 + 4 = _ by omega)))) fun a81 f81 => ?_
        clear f80 a80
        refine R.take 12 f81 rfl rfl (by decide) (by kernel_rfl) (by kernel_rfl) (by kernel_rfl) (fun _ _ _ _ h => h) (f81.yes rfl rfl) hS12 (fun W hW => (E.move f81 rfl)) fun a82 f82 => ?_
        clear f81 a81
        refine R.take 13 f82 rfl rfl (by decide) (by kernel_rfl) (by kernel_rfl) (by kernel_rfl) (fun _ _ _ _ h => h) (f82.yes rfl rfl) hS12 (fun W hW => (E.move f82 rfl)) fun a83 f83 => ?_
        clear f82 a82
        refine R.take 14 f83 rfl rfl (by decide) (by kernel_rfl) (by kernel_rfl) (by kernel_rfl) (fun _ _ _ _ h => h) (f83.yes rfl rfl) hS12 (fun W hW => (E.indexA f83 (by first | rfl | assumption) Try.underlying27 wsz35_s rfl rfl (by omega) (by omega))) fun a84 f84 => ?_
        clear f83 a83
        refine R.take 15 f84 rfl rfl (by decide) (by kernel_rfl) (by kernel_rfl) (by kernel_rfl) (fun _ _ _ _ h => h) (f84.yes rfl rfl) hS12 (fun W hW => (E.fieldAddr f84 Try.underlying35 rfl rfl wsz3_s)) fun a85 f85 => ?_
        clear f84 a84
        refine R.take 16 f85 rfl rfl (by decide) (by kernel_rfl) (by kernel_rfl) (by kernel_rfl) (fun _ _ _ _ h => h) (f85.yes rfl rfl) hS12 (fun W hW => (E.load f85 Try.underlying3 rfl rfl (pk_cell (PK.fr.own.kept hW (by simp)) hAP (i := k) (x := y) hy 4 rfl (show offP + k * 24 + 4 = _ by omega)))) fun a86 f86 => ?_
        clear f85 a85
        refine R.take 17 f86 rfl rfl (by decide) (by kernel_rfl) (by kernel_rfl) (by kernel_rfl) (fun _ _ _ _ h => h) (f86.yes rfl rfl) hS12 (fun W hW => (E.neq f86 rfl rfl)) fun a87 f87 => ?_
        clear f86 a86
        have f88 := f87.as (i := 79) (v' := .bool false) rfl (by exact lit_ne hxi)
        clear f87
        refine R.take 18 f88 rfl rfl (by decide) (by kernel_rfl) (by kernel_rfl) (by kernel_rfl) (fun _ _ _ _ h => h) wantedN hS12 (fun W hW => (E.pickF f88 rfl rfl)) fun a89 f89 => ?_
        clear f88 a87
        refine R.take 19 f89 rfl rfl (by decide) (by kernel_rfl) (by kernel_rfl) (by kernel_rfl) (fun _ _ _ _ h => h) wantedN hS12 (fun W hW => (E.move f89 rfl)) fun a90 f90 => ?_
        clear f89 a89
        refine R.take 20 f90 rfl rfl (by decide) (by kernel_rfl) (by kernel_rfl) (by kernel_rfl) (fun _ _ _ _ h => h) (f90.yes rfl rfl) hS12 (fun W hW => (E.move f90 rfl)) fun a91 f91 => ?_
        clear f90 a90
        refine R.take 21 f91 rfl rfl (by decide) (by kernel_rfl) (by kernel_rfl) (by kernel_rfl) (fun _ _ _ _ h => h) (f91.yes rfl rfl) hS12 (fun W hW => (E.move f91 rfl)) fun a92 f92 => ?_
        clear f91 a91
        refine R.take 22 f92 rfl rfl (by decide) (by kernel_rfl) (by kernel_rfl) (by kernel_rfl) (fun _ _ _ _ h => h) (f92.yes rfl rfl) hS12 (fun W hW => (E.indexA f92 (by first | rfl | assumption) Try.underlying27 wsz35_s rfl rfl (by omega) (by omega))) fun a93 f93 => ?_
        clear f92 a92
        refine R.take 23 f93 rfl rfl (by decide) (by kernel_rfl) (by kernel_rfl) (by kernel_rfl) (fun _ _ _ _ h => h) (f93.yes rfl rfl) hS12 (fun W hW => (E.fieldAddr f93 Try.underlying35 rfl rfl wsz3_s)) fun a94 f94 => ?_
        clear f93 a93
        refine R.take 24 f94 rfl rfl (by decide) (by kernel_rfl) (by kernel_rfl) (by kernel_rfl) (fun _ _ _ _ h => h) (f94.yes rfl rfl) hS12 (fun W hW => (E.load f94 Try.underlying3 rfl rfl (pk_cell (PA.fr.own.kept hW (by simp)) hAA (i := k) (x := x) hx 3 rfl (show offA + k * 24 + 3 = _ by omega)))) fun a95 f95 => ?_
        clear f94 a94
        refine R.take 25 f95 rfl rfl (by decide) (by kernel_rfl) (by kernel_rfl) (by kernel_rfl) (fun _ _ _ _ h => h) (f95.yes rfl rfl) hS12 (fun W hW => (E.move f95 rfl)) fun a96 f96 => ?_
        clear f95 a95
        refine R.take 26 f96 rfl rfl (by decide) (by kernel_rfl) (by kernel_rfl) (by kernel_rfl) (fun _ _ _ _ h => h) (f96.yes rfl rfl) hS12 (fun W hW => (E.neq f96 rfl rfl)) fun a97 f97 => ?_
        clear f96 a96
        have f98 := f97.as (i := 88) (v' := .bool false) rfl (by exact lit_ne hxq)
        clear f97
        refine R.take 27 f98 rfl rfl (by decide) (by kernel_rfl) (by kernel_rfl) (by kernel_rfl) (fun _ _ _ _ h => h) wantedN hS12 (fun W hW => (E.pickF f98 rfl rfl)) fun a99 f99 => ?_
        clear f98 a97
        refine R.take 28 f99 rfl rfl (by decide) (by kernel_rfl) (by kernel_rfl) (by kernel_rfl) (fun _ _ _ _ h => h) wantedN hS12 (fun W hW => (E.move f99 rfl)) fun a100 f100 => ?_
        clear f99 a99
        refine R.take 29 f100 rfl rfl (by decide) (by kernel_rfl) (by kernel_rfl) (by kernel_rfl) (fun _ _ _ _ h => h) (f100.yes rfl rfl) hS12 (fun W hW => (E.move f100 rfl)) fun a101 f101 => ?_
        clear f100 a100
        refine R.take 30 f101 rfl rfl (by decide) (by kernel_rfl) (by kernel_rfl) (by kernel_rfl) (fun _ _ _ _ h => h) (f101.yes rfl rfl) hS12 (fun W hW => (E.move f101 rfl)) fun a102 f102 => ?_
        clear f101 a101
        refine R.take 31 f102 rfl rfl (by decide) (by kernel_rfl) (by kernel_rfl) (by kernel_rfl) (fun _ _ _ _ h => h) (f102.yes rfl rfl) hS12 (fun W hW => (E.indexA f102 (by first | rfl | assumption) Try.underlying27 wsz35_s rfl rfl (by omega) (by omega))) fun a103 f103 => ?_
        clear f102 a102
        refine R.take 32 f103 rfl rfl (by decide) (by kernel_rfl) (by kernel_rfl) (by kernel_rfl) (fun _ _ _ _ h => h) (f103.yes rfl rfl) hS12 (fun W hW => (E.fieldAddr f103 Try.underlying35 rfl rfl wsz22_s)) fun a104 f104 => ?_
        clear f103 a103
        refine R.take 33 f104 rfl rfl (by decide) (by kernel_rfl) (by kernel_rfl) (by kernel_rfl) (fun _ _ _ _ h => h) (f104.yes rfl rfl) hS12 (fun W hW => (E.load f104 Try.underlying22 rfl rfl (pk_cell (PA.fr.own.kept hW (by simp)) hAA (i := k) (x := x) hx 6 rfl (show offA + k * 24 + 6 = _ by omega)))) fun a105 f105 => ?_
        clear f104 a104
        refine R.take 34 f105 rfl rfl (by decide) (by kernel_rfl) (by kernel_rfl) (by kernel_rfl) (fun _ _ _ _ h => h) (f105.yes rfl rfl) hS12 (fun W hW => (E.convV f105 rfl ((Bs_kept0 (PA.pay x (List.mem_of_getElem? hx)).1 hW).conv Try.underlying22 Try.underlying5 Try.underlying9))) fun a106 f106 => ?_
        clear f105 a105
        refine R.take 35 f106 rfl rfl (by decide) (by kernel_rfl) (by kernel_rfl) (by kernel_rfl) (fun _ _ _ _ h => h) (f106.yes rfl rfl) hS12 (fun W hW => (E.move f106 rfl)) fun a107 f107 => ?_
        clear f106 a106
        refine R.take 36 f107 rfl rfl (by decide) (by kernel_rfl) (by kernel_rfl) (by kernel_rfl) (fun _ _ _ _ h => h) (f107.yes rfl rfl) hS12 (fun W hW => (E.move f107 rfl)) fun a108 f108 => ?_
        clear f107 a107
        refine R.take 37 f108 rfl rfl (by decide) (by kernel_rfl) (by kernel_rfl) (by kernel_rfl) (fun _ _ _ _ h => h) (f108.yes rfl rfl) hS12 (fun W hW => (E.indexA f108 (by first | rfl | assumption) Try.underlying27 wsz35_s rfl rfl (by omega) (by omega))) fun a109 f109 => ?_
        clear f108 a108
        refine R.take 38 f109 rfl rfl (by decide) (by kernel_rfl) (by kernel_rfl) (by kernel_rfl) (fun _ _ _ _ h => h) (f109.yes rfl rfl) hS12 (fun W hW => (E.fieldAddr f109 Try.underlying35 rfl rfl wsz22_s)) fun a110 f110 => ?_
        clear f109 a109
        refine R.take 39 f110 rfl rfl (by decide) (by kernel_rfl) (by kernel_rfl) (by kernel_rfl) (fun _ _ _ _ h => h) (f110.yes rfl rfl) hS12 (fun W hW => (E.load f110 Try.underlying22 rfl rfl (pk_cell (PK.fr.own.kept hW (by simp)) hAP (i := k) (x := y) hy 6 rfl (show offP + k * 24 + 6 = _ by omega)))) fun a111 f111 => ?_
        clear f110 a110
        refine R.take 40 f111 rfl rfl (by decide) (by kernel_rfl) (by kernel_rfl) (by kernel_rfl) (fun _ _ _ _ h => h) (f111.yes rfl rfl) hS12 (fun W hW => (E.convV f111 rfl ((Bs_kept0 (PK.pay y (List.mem_of_getElem? hy)).1 hW).conv Try.underlying22 Try.underlying5 Try.underlying9))) fun a112 f112 => ?_
        clear f111 a111
        refine R.take 41 f112 rfl rfl (by decide) (by kernel_rfl) (by kernel_rfl) (by kernel_rfl) (fun _ _ _ _ h => h) (f112.yes rfl rfl) hS12 (fun W hW => (E.neqS f112 rfl rfl)) fun a113 f113 => ?_
        clear f112 a112
        have f114 := f113.as (i := 103) (v' := .bool false) rfl (by rw [hxp]; simp)
        clear f113
        refine R.take 42 f114 rfl rfl (by decide) (by kernel_rfl) (by kernel_rfl) (by kernel_rfl) (fun _ _ _ _ h => h) wantedN hS12 (fun W hW => (E.pickF f114 rfl rfl)) fun a115 f115 => ?_
        clear f114 a113
        have szw5r := hS12.size
        replace HK := blwm HK (.of_kept0 (T := []) (M := []) hS12)
        replace HS2 := HS2.mod (Mod.of_kept0 (T := []) (M := []) (B := (w.heap.size)) hS12) (by decide)
        replace PK := PK.mod (Mod.of_kept0 (T := []) (M := []) (B := (w.heap.size)) hS12) (by decide)
        replace PA := PA.mod (Mod.of_kept0 (T := []) (M := []) (B := (w.heap.size)) hS12) (by decide)
        clear hS12
        refine R.done (by kernel_rfl) (hK15 _ _ ?_)
        try clear hK15 K15
        have f116 := f115.sub (sub_cons (i := 2) rfl (sub_cons (i := 3) rfl (sub_cons (i := 9) rfl (sub_cons (i := 10) rfl (sub_cons (i := 11) rfl (sub_cons (i := 12) rfl (sub_cons (i := 13) rfl (sub_cons (i := 14) rfl (sub_cons (i := 56) rfl (sub_cons (i := 57) rfl (sub_cons (i := 58) rfl (sub_cons (i := 59) rfl (sub_cons (i := 62) rfl (sub_cons (i := 63) rfl (sub_cons (i := 64) rfl (sub_cons (i := 65) rfl (sub_cons (i := 66) rfl (sub_cons (i := 67) rfl (sub_cons (i := 68) rfl (sub_cons (i := 69) rfl (sub_cons (i := 70) rfl (sub_cons (i := 71) rfl (sub_cons (i := 72) rfl (sub_cons (i := 73) rfl (sub_cons (i := 74) rfl (sub_cons (i := 75) rfl (sub_cons (i := 76) rfl (sub_cons (i := 77) rfl (sub_cons (i := 78) rfl (sub_cons (i := 79) rfl (sub_cons (i := 80) rfl (sub_cons (i := 81) rfl (sub_cons (i := 82) rfl (sub_cons (i := 83) rfl (sub_cons (i := 84) rfl (sub_cons (i := 85) rfl (sub_cons (i := 86) rfl (sub_cons (i := 87) rfl (sub_cons (i := 88) rfl (sub_cons (i := 89) rfl (sub_cons (i := 90) rfl (sub_cons (i := 91) rfl (sub_cons (i := 92) rfl (sub_cons (i := 93) rfl (sub_cons (i := 94) rfl (sub_cons (i := 95) rfl (sub_cons (i := 96) rfl (sub_cons (i := 97) rfl (sub_cons (i := 98) rfl (sub_cons (i := 99) rfl (sub_cons (i := 100) rfl (sub_cons (i := 101) rfl (sub_cons (i := 102) rfl (sub_cons (i := 103) rfl (sub_cons (i := 104) rfl sub_nil)))))))))))))))))))))))))))))))))))))))))))))))))))))))
        clear f115
        refine C.condF f116 rfl ?_
        refine wp_skip (hK14 _ _ ?_)
        try clear hK14 K14
        have f117 := f116.sub (sub_cons (i := 2) rfl (sub_cons (i := 3) rfl (sub_cons (i := 9) rfl (sub_cons (i := 10) rfl (sub_cons (i := 11) rfl (sub_cons (i := 12) rfl (sub_cons (i := 13) rfl (sub_cons (i := 14) rfl (sub_cons (i := 56) rfl (sub_cons (i := 57) rfl (sub_cons (i := 58) rfl (sub_cons (i := 59) rfl (sub_cons (i := 62) rfl (sub_cons (i := 63) rfl (sub_cons (i := 64) rfl (sub_cons (i := 65) rfl (sub_cons (i := 66) rfl (sub_cons (i := 67) rfl (sub_cons (i := 68) rfl (sub_cons (i := 69) rfl (sub_cons (i := 70) rfl (sub_cons (i := 71) rfl (sub_cons (i := 72) rfl (sub_cons (i := 73) rfl (sub_cons (i := 74) rfl (sub_cons (i := 75) rfl (sub_cons (i := 76) rfl (sub_cons (i := 77) rfl (sub_cons (i := 78) rfl (sub_cons (i := 79) rfl (sub_cons (i := 80) rfl (sub_cons (i := 81) rfl (sub_cons (i := 82) rfl (sub_cons (i := 83) rfl (sub_cons (i := 84) rfl (sub_cons (i := 85) rfl (sub_cons (i := 86) rfl (sub_cons (i := 87) rfl (sub_cons (i := 88) rfl (sub_cons (i := 89) rfl (sub_cons (i := 90) rfl (sub_cons (i := 91) rfl (sub_cons (i := 92) rfl (sub_cons (i := 93) rfl (sub_cons (i := 94) rfl (sub_cons (i := 95) rfl (sub_cons (i := 96) rfl (sub_cons (i := 97) rfl (sub_cons (i := 98) rfl (sub_cons (i := 99) rfl (sub_cons (i := 100) rfl (sub_cons (i := 101) rfl (sub_cons (i := 102) rfl (sub_cons (i := 103) rfl (sub_cons (i := 104) rfl sub_nil)))))))))))))))))))))))))))))))))))))))))))))))))))))))
        clear f116
        refine C.region ?_
        refine L.val f117 wantedN rfl (by decide) (E.move f117 rfl) fun a118 f118 => ?_
        clear f117 a115
        refine L.val f118 wantedN rfl (by decide) (E.add f118 rfl rfl (IntWalk.i64_in _ (by omega))) fun a119 f119 => ?_
        clear f118 a118
        refine L.val f119 wantedN rfl (by decide) (E.assign f119 rfl) fun a120 f120 => ?_
        clear f119 a119
        refine wpList_nil (hKL11 _ _ (gk12 - 1) ?_ ?_)
        · omega
        · exact ⟨k + 1, by omega, HS2, PK, PA, HK, by simpa using f120.sub (sub_cons rfl (sub_cons rfl (sub_cons rfl (sub_cons rfl (sub_cons rfl (sub_cons rfl (sub_cons rfl (sub_cons rfl sub_nil))))))))⟩
      · clear f66
        refine C.condF f67 rfl ?_
        refine wp_exit (hK9 _ _ ?_)
        try clear hK9 K9
        have f68 := f67.sub (sub_cons (i := 2) rfl (sub_cons (i := 3) rfl (sub_cons (i := 10) rfl (sub_cons (i := 11) rfl (sub_cons (i := 13) rfl sub_nil)))))
        clear f67
        refine wp_seq_k fun K16 hK16 => ?_
        refine C.region ?_
        refine L.val f68 wantedN rfl (by decide) (E.move f68 rfl) fun a69 f69 => ?_
        clear f68 a65
        refine L.val f69 wantedN rfl (by decide) (E.rem f69 rfl rfl (by omega) (Int.tmod_eq_emod_of_nonneg (by omega))) fun a70 f70 => ?_
        clear f69 a69
        refine L.val f70 wantedN rfl (by decide) (E.conv f70 Try.underlying5 Try.underlying3 rfl (IntWalk.i64_in _ (by omega))) fun a71 f71 => ?_
        clear f70 a70
        refine L.val f71 wantedN rfl (by decide) (E.assign f71 rfl) fun a72 f72 => ?_
        clear f71 a71
        refine wpList_nil (hK16 _ _ ?_)
        try clear hK16 K16
        have f73 := f72.sub (sub_cons (i := 2) rfl (sub_cons (i := 3) rfl (sub_cons (i := 10) rfl (sub_cons (i := 11) rfl (sub_cons (i := 13) rfl (sub_cons (i := 15) rfl sub_nil))))))
        clear f72
        refine wp_seq_k fun K17 hK17 => ?_
        refine wp_seq_k fun K18 hK18 => ?_
        refine C.region ?_
        refine L.val f73 wantedN rfl (by decide) (E.move f73 rfl) fun a74 f74 => ?_
        clear f73 a72
        refine L.val f74 wantedN rfl (by decide) (E.not f74 rfl) fun a75 f75 => ?_
        clear f74 a74
        refine wpList_nil (hK18 _ _ ?_)
        try clear hK18 K18
        have f76 := f75.sub (sub_cons (i := 2) rfl (sub_cons (i := 3) rfl (sub_cons (i := 10) rfl (sub_cons (i := 11) rfl (sub_cons (i := 15) rfl (sub_cons (i := 109) rfl sub_nil))))))
        clear f75
        refine C.condF f76 rfl ?_
        refine wp_skip (hK17 _ _ ?_)
        try clear hK17 K17
        have f77 := f76.sub (sub_cons (i := 2) rfl (sub_cons (i := 3) rfl (sub_cons (i := 10) rfl (sub_cons (i := 11) rfl (sub_cons (i := 15) rfl sub_nil)))))
        clear f76
        refine wp_seq_k fun K19 hK19 => ?_
        refine C.region ?_
        refine L.val f77 wantedN rfl (by decide) (E.move f77 rfl) fun a78 f78 => ?_
        clear f77 a75
        refine L.val f78 wantedN rfl (by decide) (E.move f78 rfl) fun a79 f79 => ?_
        clear f78 a78
        refine L.val f79 wantedN rfl (by decide) (E.rem f79 rfl rfl (by omega) (Int.tmod_eq_emod_of_nonneg (by omega))) fun a80 f80 => ?_
        clear f79 a79
        refine L.val f80 wantedN rfl (by decide) (E.conv f80 Try.underlying5 Try.underlying3 rfl (IntWalk.i64_in _ (by omega))) fun a81 f81 => ?_
        clear f80 a80
        refine L.val f81 wantedN rfl (by decide) (E.move f81 rfl) fun a82 f82 => ?_
        clear f81 a81
        refine L.val f82 wantedN rfl (by decide) (E.rem f82 rfl rfl (by omega) (Int.tmod_eq_emod_of_nonneg (by omega))) fun a83 f83 => ?_
        clear f82 a82
        refine L.val f83 wantedN rfl (by decide) (E.conv f83 Try.underlying5 Try.underlying3 rfl (IntWalk.i64_in _ (by omega))) fun a84 f84 => ?_
        clear f83 a83
        refine L.val f84 wantedN rfl (by decide) (E.add f84 rfl rfl (IntWalk.i64_in _ (by omega))) fun a85 f85 => ?_
        clear f84 a84
        have hC := Again_any w.heap.size p u2 (wt0 % 20 + mo0 % 20) w4 HS2 HK.size
        refine L.call f85 wantedN rfl (by decide) (run_call Try.call18 (args2 f85 rfl rfl)) hC ?_
        rintro e w5 ⟨u3, A3, c3, pk3, rfl, HS3, hr3, hL3, kc5, -, -⟩
        rw [hab2, hwt, hmo, hT4] at hr3
        injection hr3 with hab3 hp3
        have hl3 : pk3.length = L2.length := by rw [← hp3, List.length_map]
        have hf3 : u3.fly.length = S2.fly.length := fly_of hab3
        refine ⟨_, rfl, fun a86 f86 => ?_⟩
        clear f85 a85
        have szw5 := kc5.size
        replace HK := blwm HK kc5
        replace PK := PK.mod kc5 (by decide)
        replace PA := PA.mod kc5 (by decide)
        clear kc5
        refine L.val f86 wantedN rfl (by decide) (E.lenL f86 Try.underlying27 rfl) fun a87 f87 => ?_
        clear f86 a86
        refine L.val f87 wantedN rfl (by decide) (E.move f87 rfl) fun a88 f88 => ?_
        clear f87 a87
        refine L.val f88 wantedN rfl (by decide) (E.lenL f88 Try.underlying27 rfl) fun a89 f89 => ?_
        clear f88 a88
        refine L.val f89 wantedN rfl (by decide) (E.eql f89 rfl rfl) fun a90 f90 => ?_
        clear f89 a89
        refine L.val f90 wantedN rfl (by decide) (E.move f90 rfl) fun a91 f91 => ?_
        clear f90 a90
        refine L.val f91 wantedN rfl (by decide) (E.geq f91 rfl rfl) fun a92 f92 => ?_
        clear f91 a91
        first | refine f92.splitD 129 rfl (fun h2 f93 => ?_) (fun h2 f93 => ?_) | refine f92.splitN 129 rfl (fun h2 f93 => ?_) (fun h2 f93 => ?_) | refine f92.splitNB 129 rfl (fun h2 f93 => ?_) (fun h2 f93 => ?_) | refine f92.split 129 rfl (fun h2 f93 => ?_) (fun h2 f93 => ?_)
        · clear f92
          have hsn := h2
          refine L.val f93 wantedN rfl (by decide) (E.move f93 rfl) fun a94 f94 => ?_
          clear f93 a92
          refine L.skip f94 (f94.noF rfl rfl) rfl (by decide) fun a95 f95 => ?_
          clear f94 a94
          refine L.skip f95 (f95.noF rfl rfl) rfl (by decide) fun a96 f96 => ?_
          clear f95 a95
          refine L.skip f96 (f96.noF rfl rfl) rfl (by decide) fun a97 f97 => ?_
          clear f96 a96
          refine L.val f97 wantedN rfl (by decide) (E.pickT f97 rfl rfl) fun a98 f98 => ?_
          clear f97 a97
          refine L.val f98 wantedN rfl (by decide) (E.eqlB f98 Try.underlying4 rfl rfl) fun a99 f99 => ?_
          clear f98 a98
          have f100 := f99.as (i := 135) (v' := .bool true) rfl (by exact lit_beqT (by omega))
          clear f99
          refine L.val f100 wantedN rfl (by decide) (E.move f100 rfl) fun a101 f101 => ?_
          clear f100 a99
          refine L.val f101 (f101.yes rfl rfl) rfl (by decide) (E.move f101 rfl) fun a102 f102 => ?_
          clear f101 a101
          refine L.call f102 (f102.yes rfl rfl) rfl (by decide) (run_call Try.call14 (args1 f102 rfl)) (flying_any p u3.fly.length u3.fc u3.FA _ _ _ _ _ _ HS3.top) ?_
          rintro e w5x ⟨rfl, rfl⟩
          refine ⟨_, rfl, fun a103 f103 => ?_⟩
          clear f102 a102
          refine L.val f103 (f103.yes rfl rfl) rfl (by decide) (E.move f103 rfl) fun a104 f104 => ?_
          clear f103 a103
          refine L.val f104 (f104.yes rfl rfl) rfl (by decide) (E.lenL f104 Try.underlying27 rfl) fun a105 f105 => ?_
          clear f104 a104
          refine L.val f105 (f105.yes rfl rfl) rfl (by decide) (E.eql f105 rfl rfl) fun a106 f106 => ?_
          clear f105 a105
          have f107 := f106.as (i := 141) (v' := .bool true) rfl (by exact lit_eq (by omega))
          clear f106
          refine L.val f107 wantedN rfl (by decide) (E.pickT f107 rfl rfl) fun a108 f108 => ?_
          clear f107 a106
          refine L.val f108 wantedN rfl (by decide) (E.assign f108 rfl) fun a109 f109 => ?_
          clear f108 a108
          refine wpList_nil (hK19 _ _ ?_)
          try clear hK19 K19
          have f110 := f109.sub (sub_cons (i := 8) rfl sub_nil)
          clear f109
          refine wp_ret ?_
          try simp only [Exit.inBlock, Exit.then]
          refine C.ret (P := Try.prog) (fn := Try.f6) f110 rfl rfl ?_
          exact ⟨rfl, HK⟩
        · clear f92
          have hsn := h2
          refine L.val f93 wantedN rfl (by decide) (E.move f93 rfl) fun a94 f94 => ?_
          clear f93 a92
          refine L.val f94 (f94.yes rfl rfl) rfl (by decide) (E.move f94 rfl) fun a95 f95 => ?_
          clear f94 a94
          refine L.val f95 (f95.yes rfl rfl) rfl (by decide) (E.lenL f95 Try.underlying27 rfl) fun a96 f96 => ?_
          clear f95 a95
          refine L.val f96 (f96.yes rfl rfl) rfl (by decide) (E.eql f96 rfl rfl) fun a97 f97 => ?_
          clear f96 a96
          refine L.val f97 wantedN rfl (by decide) (E.pickF f97 rfl rfl) fun a98 f98 => ?_
          clear f97 a97
          refine L.val f98 wantedN rfl (by decide) (E.eqlB f98 Try.underlying4 rfl rfl) fun a99 f99 => ?_
          clear f98 a98
          have f100 := f99.as (i := 135) (v' := .bool true) rfl (by exact lit_beq ⟨fun h => by omega, fun h => by omega⟩)
          clear f99
          refine L.val f100 wantedN rfl (by decide) (E.move f100 rfl) fun a101 f101 => ?_
          clear f100 a99
          refine L.val f101 (f101.yes rfl rfl) rfl (by decide) (E.move f101 rfl) fun a102 f102 => ?_
          clear f101 a101
          refine L.call f102 (f102.yes rfl rfl) rfl (by decide) (run_call Try.call14 (args1 f102 rfl)) (flying_any p u3.fly.length u3.fc u3.FA _ _ _ _ _ _ HS3.top) ?_
          rintro e w5x ⟨rfl, rfl⟩
          refine ⟨_, rfl, fun a103 f103 => ?_⟩
          clear f102 a102
          refine L.val f103 (f103.yes rfl rfl) rfl (by decide) (E.move f103 rfl) fun a104 f104 => ?_
          clear f103 a103
          refine L.val f104 (f104.yes rfl rfl) rfl (by decide) (E.lenL f104 Try.underlying27 rfl) fun a105 f105 => ?_
          clear f104 a104
          refine L.val f105 (f105.yes rfl rfl) rfl (by decide) (E.eql f105 rfl rfl) fun a106 f106 => ?_
          clear f105 a105
          have f107 := f106.as (i := 141) (v' := .bool true) rfl (by exact lit_eq (by omega))
          clear f106
          refine L.val f107 wantedN rfl (by decide) (E.pickT f107 rfl rfl) fun a108 f108 => ?_
          clear f107 a106
          refine L.val f108 wantedN rfl (by decide) (E.assign f108 rfl) fun a109 f109 => ?_
          clear f108 a108
          refine wpList_nil (hK19 _ _ ?_)
          try clear hK19 K19
          have f110 := f109.sub (sub_cons (i := 8) rfl sub_nil)
          clear f109
          refine wp_ret ?_
          try simp only [Exit.inBlock, Exit.then]
          refine C.ret (P := Try.prog) (fn := Try.f6) f110 rfl rfl ?_
          exact ⟨rfl, HK⟩
  · clear f36
    have hlate := h0
    rw [if_neg (by omega)] at hT2 hT5
    refine wpList_nil (hK6 _ _ ?_)
    try clear hK6 K6
    have f38 := f37.sub (sub_cons (i := 2) rfl (sub_cons (i := 3) rfl (sub_cons (i := 8) rfl (sub_cons (i := 9) rfl (sub_cons (i := 10) rfl (sub_cons (i := 11) rfl (sub_cons (i := 12) rfl (sub_cons (i := 13) rfl sub_nil))))))))
    clear f37
    refine wp_seq_k fun K20 hK20 => ?_
    refine wp_seq_k fun K21 hK21 => ?_
    refine C.region ?_
    refine L.val f38 wantedN rfl (by decide) (E.move f38 rfl) fun a39 f39 => ?_
    clear f38 a36
    refine L.val f39 wantedN rfl (by decide) (E.move f39 rfl) fun a40 f40 => ?_
    clear f39 a39
    refine L.skip f40 (f40.noT rfl rfl) rfl (by decide) fun a41 f41 => ?_
    clear f40 a40
    refine L.skip f41 (f41.noT rfl rfl) rfl (by decide) fun a42 f42 => ?_
    clear f41 a41
    refine L.skip f42 (f42.noT rfl rfl) rfl (by decide) fun a43 f43 => ?_
    clear f42 a42
    refine L.skip f43 (f43.noT rfl rfl) rfl (by decide) fun a44 f44 => ?_
    clear f43 a43
    refine L.skip f44 (f44.noT rfl rfl) rfl (by decide) fun a45 f45 => ?_
    clear f44 a44
    refine L.val f45 wantedN rfl (by decide) (E.pickF f45 rfl rfl) fun a46 f46 => ?_
    clear f45 a45
    refine L.val f46 wantedN rfl (by decide) (E.move f46 rfl) fun a47 f47 => ?_
    clear f46 a46
    refine L.val f47 (f47.yes rfl rfl) rfl (by decide) (E.move f47 rfl) fun a48 f48 => ?_
    clear f47 a47
    refine L.val f48 (f48.yes rfl rfl) rfl (by decide) (E.not f48 rfl) fun a49 f49 => ?_
    clear f48 a48
    refine L.val f49 (f49.yes rfl rfl) rfl (by decide) (E.move f49 rfl) fun a50 f50 => ?_
    clear f49 a49
    refine L.val f50 (f50.yes rfl rfl) rfl (by decide) (E.move f50 rfl) fun a51 f51 => ?_
    clear f50 a50
    refine L.val f51 (f51.yes rfl rfl) rfl (by decide) (E.lenL f51 Try.underlying27 rfl) fun a52 f52 => ?_
    clear f51 a51
    refine L.val f52 (f52.yes rfl rfl) rfl (by decide) (E.neq f52 rfl rfl) fun a53 f53 => ?_
    clear f52 a52
    have f54 := f53.as (i := 53) (v' := .bool false) rfl (by exact lit_ne (by omega))
    clear f53
    refine L.val f54 (f54.yes rfl rfl) rfl (by decide) (E.pickT f54 rfl rfl) fun a55 f55 => ?_
    clear f54 a53
    refine L.val f55 wantedN rfl (by decide) (E.pickF f55 rfl rfl) fun a56 f56 => ?_
    clear f55 a55
    refine wpList_nil (hK21 _ _ ?_)
    try clear hK21 K21
    have f57 := f56.sub (sub_cons (i := 2) rfl (sub_cons (i := 3) rfl (sub_cons (i := 8) rfl (sub_cons (i := 9) rfl (sub_cons (i := 10) rfl (sub_cons (i := 11) rfl (sub_cons (i := 12) rfl (sub_cons (i := 13) rfl (sub_cons (i := 55) rfl sub_nil)))))))))
    clear f56
    refine C.condF f57 rfl ?_
    refine wp_skip (hK20 _ _ ?_)
    try clear hK20 K20
    have f58 := f57.sub (sub_cons (i := 2) rfl (sub_cons (i := 3) rfl (sub_cons (i := 8) rfl (sub_cons (i := 9) rfl (sub_cons (i := 10) rfl (sub_cons (i := 11) rfl (sub_cons (i := 12) rfl (sub_cons (i := 13) rfl sub_nil))))))))
    clear f57
    refine wp_seq_k fun K22 hK22 => ?_
    refine wp_seq_k fun K23 hK23 => ?_
    refine C.region ?_
    refine L.val f58 wantedN rfl (by decide) (E.assign f58 rfl) fun a59 f59 => ?_
    clear f58 a56
    refine wpList_nil (hK23 _ _ ?_)
    try clear hK23 K23
    have f60 := f59.sub (sub_cons (i := 2) rfl (sub_cons (i := 3) rfl (sub_cons (i := 8) rfl (sub_cons (i := 9) rfl (sub_cons (i := 10) rfl (sub_cons (i := 11) rfl (sub_cons (i := 12) rfl (sub_cons (i := 13) rfl (sub_cons (i := 14) rfl sub_nil)))))))))
    clear f59
    refine wp_block ?_
    refine C.loop (fun gk a W => ∃ k : Nat, k + gk = pk2.length ∧ SesAt w.heap.size W p u2 ∧ PkAt w.heap.size w W A c pks ∧ PkAt w.heap.size w W A2 c2 pk2 ∧ Below w.heap.size w W ∧ Fr 143 a [(2, .int .u8 wt0), (3, .int .u8 mo0), (9, .int .i64 qos), (10, .pointer (some ⟨p, 0, none⟩)), (11, .slice A pks.length c), (12, .slice A2 pk2.length c2), (13, .bool false), (14, .int .i64 k)]) (pk2.length) ?_ ?_
    · exact ⟨0, by omega, HS2, PK, PA, HK, f60.sub (sub_cons rfl (sub_cons rfl (sub_cons rfl (sub_cons rfl (sub_cons rfl (sub_cons rfl (sub_cons rfl (sub_cons rfl sub_nil))))))))⟩
    · intro gk25 a61 w4 hI KL24 hKL24
      obtain ⟨k, hk, HS2, PK, PA, HK, f61⟩ := hI
      try clear f60
      have szw1x := HK.size
      refine wp_seq_k fun K25 hK25 => ?_
      refine wp_seq_k fun K26 hK26 => ?_
      refine C.region ?_
      refine L.val f61 wantedN rfl (by decide) (E.move f61 rfl) fun a62 f62 => ?_
      clear f61 a61
      refine L.val f62 wantedN rfl (by decide) (E.move f62 rfl) fun a63 f63 => ?_
      clear f62 a62
      refine L.val f63 wantedN rfl (by decide) (E.lenL f63 Try.underlying27 rfl) fun a64 f64 => ?_
      clear f63 a63
      refine L.val f64 wantedN rfl (by decide) (E.lss f64 rfl rfl) fun a65 f65 => ?_
      clear f64 a64
      refine wpList_nil (hK26 _ _ ?_)
      try clear hK26 K26
      have f66 := f65.sub (sub_cons (i := 2) rfl (sub_cons (i := 3) rfl (sub_cons (i := 9) rfl (sub_cons (i := 10) rfl (sub_cons (i := 11) rfl (sub_cons (i := 12) rfl (sub_cons (i := 13) rfl (sub_cons (i := 14) rfl (sub_cons (i := 56) rfl (sub_cons (i := 57) rfl (sub_cons (i := 58) rfl (sub_cons (i := 59) rfl sub_nil))))))))))))
      clear f65
      first | refine f66.splitD 59 rfl (fun h3 f67 => ?_) (fun h3 f67 => ?_) | refine f66.splitN 59 rfl (fun h3 f67 => ?_) (fun h3 f67 => ?_) | refine f66.splitNB 59 rfl (fun h3 f67 => ?_) (fun h3 f67 => ?_) | refine f66.split 59 rfl (fun h3 f67 => ?_) (fun h3 f67 => ?_)
      · clear f66
        obtain ⟨x, hx⟩ : ∃ x, pk2[k]? = some x := ⟨pk2[k]'(by omega), List.getElem?_eq_getElem _⟩
        obtain ⟨y, hy⟩ : ∃ y, pks[k]? = some y := ⟨pks[k]'(by omega), List.getElem?_eq_getElem _⟩
        obtain ⟨bA, offA, hAA⟩ := (Sl.of_own PA.fr.own).addr (by omega)
        obtain ⟨bP, offP, hAP⟩ := (Sl.of_own PK.fr.own).addr (by omega)
        obtain ⟨hxd, hxi, hxq, hxp⟩ := agL_spec hT3 k x.p y.p (by rw [← hp2, List.getElem?_map, hx]; rfl) (by rw [← hp, List.getElem?_map, hy]; rfl)
        refine C.condT f67 rfl ?_
        refine wp_skip (hK25 _ _ ?_)
        try clear hK25 K25
        have f68 := f67.sub (sub_cons (i := 2) rfl (sub_cons (i := 3) rfl (sub_cons (i := 9) rfl (sub_cons (i := 10) rfl (sub_cons (i := 11) rfl (sub_cons (i := 12) rfl (sub_cons (i := 13) rfl (sub_cons (i := 14) rfl (sub_cons (i := 56) rfl (sub_cons (i := 57) rfl (sub_cons (i := 58) rfl (sub_cons (i := 59) rfl sub_nil))))))))))))
        clear f67
        refine wp_seq_k fun K27 hK27 => ?_
        refine wp_block ?_
        refine wp_seq_k fun K28 hK28 => ?_
        refine R.begin (S := fun W => Kept [] w4 W) (by kernel_rfl) (by exact (Kept.refl _ _).drewN 1) ?_
        have hS12 : Kept [] w4 (w4.drewN 1) := (Kept.refl _ _).drewN 1
        have hd12 : Kept [] w4 (w4.drewN 1) := (Kept.refl _ _).drewN 1
        obtain ⟨w5, hww5⟩ : ∃ W, W = w4.drewN 1 := ⟨_, rfl⟩
        rw [← hww5] at hS12 hd12 ⊢
        clear hww5
        have szw5 := hS12.size
        refine R.take 0 f68 rfl rfl (by decide) (by kernel_rfl) (by kernel_rfl) (by kernel_rfl) (fun _ _ _ _ h => h) wantedN hS12 (fun W hW => (E.move f68 rfl)) fun a69 f69 => ?_
        clear f68 a65
        refine R.take 1 f69 rfl rfl (by decide) (by kernel_rfl) (by kernel_rfl) (by kernel_rfl) (fun _ _ _ _ h => h) wantedN hS12 (fun W hW => (E.move f69 rfl)) fun a70 f70 => ?_
        clear f69 a69
        refine R.take 2 f70 rfl rfl (by decide) (by kernel_rfl) (by kernel_rfl) (by kernel_rfl) (fun _ _ _ _ h => h) wantedN hS12 (fun W hW => (E.indexA f70 (by first | rfl | assumption) Try.underlying27 wsz35_s rfl rfl (by omega) (by omega))) fun a71 f71 => ?_
        clear f70 a70
        refine R.take 3 f71 rfl rfl (by decide) (by kernel_rfl) (by kernel_rfl) (by kernel_rfl) (fun _ _ _ _ h => h) wantedN hS12 (fun W hW => (E.fieldAddr f71 Try.underlying35 rfl rfl wsz4_s)) fun a72 f72 => ?_
        clear f71 a71
        refine R.take 4 f72 rfl rfl (by decide) (by kernel_rfl) (by kernel_rfl) (by kernel_rfl) (fun _ _ _ _ h => h) wantedN hS12 (fun W hW => (E.load f72 Try.underlying4 rfl rfl (pk_cell (PA.fr.own.kept hW (by simp)) hAA (i := k) (x := x) hx 1 rfl (show offA + k * 24 + 1 = _ by omega)))) fun a73 f73 => ?_
        clear f72 a72
        have f74 := f73.as (i := 66) (v' := .bool true) rfl (by rw [hxd])
        clear f73
        refine R.take 5 f74 rfl rfl (by decide) (by kernel_rfl) (by kernel_rfl) (by kernel_rfl) (fun _ _ _ _ h => h) wantedN hS12 (fun W hW => (E.not f74 rfl)) fun a75 f75 => ?_
        clear f74 a73
        refine R.take 6 f75 rfl rfl (by decide) (by kernel_rfl) (by kernel_rfl) (by kernel_rfl) (fun _ _ _ _ h => h) wantedN hS12 (fun W hW => (E.move f75 rfl)) fun a76 f76 => ?_
        clear f75 a75
        refine R.take 7 f76 rfl rfl (by decide) (by kernel_rfl) (by kernel_rfl) (by kernel_rfl) (fun _ _ _ _ h => h) (f76.yes rfl rfl) hS12 (fun W hW => (E.move f76 rfl)) fun a77 f77 => ?_
        clear f76 a76
        refine R.take 8 f77 rfl rfl (by decide) (by kernel_rfl) (by kernel_rfl) (by kernel_rfl) (fun _ _ _ _ h => h) (f77.yes rfl rfl) hS12 (fun W hW => (E.move f77 rfl)) fun a78 f78 => ?_
        clear f77 a77
        refine R.take 9 f78 rfl rfl (by decide) (by kernel_rfl) (by kernel_rfl) (by kernel_rfl) (fun _ _ _ _ h => h) (f78.yes rfl rfl) hS12 (fun W hW => (E.indexA f78 (by first | rfl | assumption) Try.underlying27 wsz35_s rfl rfl (by omega) (by omega))) fun a79 f79 => ?_
        clear f78 a78
        refine R.take 10 f79 rfl rfl (by decide) (by kernel_rfl) (by kernel_rfl) (by kernel_rfl) (fun _ _ _ _ h => h) (f79.yes rfl rfl) hS12 (fun W hW => (E.fieldAddr f79 Try.underlying35 rfl rfl wsz3_s)) fun a80 f80 => ?_
        clear f79 a79
        refine R.take 11 f80 rfl rfl (by decide) (by kernel_rfl) (by kernel_rfl) (by kernel_rfl) (fun _ _ _ _ h => h) (f80.yes rfl rfl) hS12 (fun W hW => (E.load f80 Try.underlying3 rfl rfl (pk_cell (PA.fr.own.kept hW (by simp)) hAA (i := k) (x := x) hx 4 rfl (show offA + k * 24 + 4 = _ by omega)))) fun a81 f81 => ?_
        clear f80 a80
        refine R.take 12 f81 rfl rfl (by decide) (by kernel_rfl) (by kernel_rfl) (by kernel_rfl) (fun _ _ _ _ h => h) (f81.yes rfl rfl) hS12 (fun W hW => (E.move f81 rfl)) fun a82 f82 => ?_
        clear f81 a81
        refine R.take 13 f82 rfl rfl (by decide) (by kernel_rfl) (by kernel_rfl) (by kernel_rfl) (fun _ _ _ _ h => h) (f82.yes rfl rfl) hS12 (fun W hW => (E.move f82 rfl)) fun a83 f83 => ?_
        clear f82 a82
        refine R.take 14 f83 rfl rfl (by decide) (by kernel_rfl) (by kernel_rfl) (by kernel_rfl) (fun _ _ _ _ h => h) (f83.yes rfl rfl) hS12 (fun W hW => (E.indexA f83 (by first | rfl | assumption) Try.underlying27 wsz35_s rfl rfl (by omega) (by omega))) fun a84 f84 => ?_
        clear f83 a83
        refine R.take 15 f84 rfl rfl (by decide) (by kernel_rfl) (by kernel_rfl) (by kernel_rfl) (fun _ _ _ _ h => h) (f84.yes rfl rfl) hS12 (fun W hW => (E.fieldAddr f84 Try.underlying35 rfl rfl wsz3_s)) fun a85 f85 => ?_
        clear f84 a84
        refine R.take 16 f85 rfl rfl (by decide) (by kernel_rfl) (by kernel_rfl) (by kernel_rfl) (fun _ _ _ _ h => h) (f85.yes rfl rfl) hS12 (fun W hW => (E.load f85 Try.underlying3 rfl rfl (pk_cell (PK.fr.own.kept hW (by simp)) hAP (i := k) (x := y) hy 4 rfl (show offP + k * 24 + 4 = _ by omega)))) fun a86 f86 => ?_
        clear f85 a85
        refine R.take 17 f86 rfl rfl (by decide) (by kernel_rfl) (by kernel_rfl) (by kernel_rfl) (fun _ _ _ _ h => h) (f86.yes rfl rfl) hS12 (fun W hW => (E.neq f86 rfl rfl)) fun a87 f87 => ?_
        clear f86 a86
        have f88 := f87.as (i := 79) (v' := .bool false) rfl (by exact lit_ne hxi)
        clear f87
        refine R.take 18 f88 rfl rfl (by decide) (by kernel_rfl) (by kernel_rfl) (by kernel_rfl) (fun _ _ _ _ h => h) wantedN hS12 (fun W hW => (E.pickF f88 rfl rfl)) fun a89 f89 => ?_
        clear f88 a87
        refine R.take 19 f89 rfl rfl (by decide) (by kernel_rfl) (by kernel_rfl) (by kernel_rfl) (fun _ _ _ _ h => h) wantedN hS12 (fun W hW => (E.move f89 rfl)) fun a90 f90 => ?_
        clear f89 a89
        refine R.take 20 f90 rfl rfl (by decide) (by kernel_rfl) (by kernel_rfl) (by kernel_rfl) (fun _ _ _ _ h => h) (f90.yes rfl rfl) hS12 (fun W hW => (E.move f90 rfl)) fun a91 f91 => ?_
        clear f90 a90
        refine R.take 21 f91 rfl rfl (by decide) (by kernel_rfl) (by kernel_rfl) (by kernel_rfl) (fun _ _ _ _ h => h) (f91.yes rfl rfl) hS12 (fun W hW => (E.move f91 rfl)) fun a92 f92 => ?_
        clear f91 a91
        refine R.take 22 f92 rfl rfl (by decide) (by kernel_rfl) (by kernel_rfl) (by kernel_rfl) (fun _ _ _ _ h => h) (f92.yes rfl rfl) hS12 (fun W hW => (E.indexA f92 (by first | rfl | assumption) Try.underlying27 wsz35_s rfl rfl (by omega) (by omega))) fun a93 f93 => ?_
        clear f92 a92
        refine R.take 23 f93 rfl rfl (by decide) (by kernel_rfl) (by kernel_rfl) (by kernel_rfl) (fun _ _ _ _ h => h) (f93.yes rfl rfl) hS12 (fun W hW => (E.fieldAddr f93 Try.underlying35 rfl rfl wsz3_s)) fun a94 f94 => ?_
        clear f93 a93
        refine R.take 24 f94 rfl rfl (by decide) (by kernel_rfl) (by kernel_rfl) (by kernel_rfl) (fun _ _ _ _ h => h) (f94.yes rfl rfl) hS12 (fun W hW => (E.load f94 Try.underlying3 rfl rfl (pk_cell (PA.fr.own.kept hW (by simp)) hAA (i := k) (x := x) hx 3 rfl (show offA + k * 24 + 3 = _ by omega)))) fun a95 f95 => ?_
        clear f94 a94
        refine R.take 25 f95 rfl rfl (by decide) (by kernel_rfl) (by kernel_rfl) (by kernel_rfl) (fun _ _ _ _ h => h) (f95.yes rfl rfl) hS12 (fun W hW => (E.move f95 rfl)) fun a96 f96 => ?_
        clear f95 a95
        refine R.take 26 f96 rfl rfl (by decide) (by kernel_rfl) (by kernel_rfl) (by kernel_rfl) (fun _ _ _ _ h => h) (f96.yes rfl rfl) hS12 (fun W hW => (E.neq f96 rfl rfl)) fun a97 f97 => ?_
        clear f96 a96
        have f98 := f97.as (i := 88) (v' := .bool false) rfl (by exact lit_ne hxq)
        clear f97
        refine R.take 27 f98 rfl rfl (by decide) (by kernel_rfl) (by kernel_rfl) (by kernel_rfl) (fun _ _ _ _ h => h) wantedN hS12 (fun W hW => (E.pickF f98 rfl rfl)) fun a99 f99 => ?_
        clear f98 a97
        refine R.take 28 f99 rfl rfl (by decide) (by kernel_rfl) (by kernel_rfl) (by kernel_rfl) (fun _ _ _ _ h => h) wantedN hS12 (fun W hW => (E.move f99 rfl)) fun a100 f100 => ?_
        clear f99 a99
        refine R.take 29 f100 rfl rfl (by decide) (by kernel_rfl) (by kernel_rfl) (by kernel_rfl) (fun _ _ _ _ h => h) (f100.yes rfl rfl) hS12 (fun W hW => (E.move f100 rfl)) fun a101 f101 => ?_
        clear f100 a100
        refine R.take 30 f101 rfl rfl (by decide) (by kernel_rfl) (by kernel_rfl) (by kernel_rfl) (fun _ _ _ _ h => h) (f101.yes rfl rfl) hS12 (fun W hW => (E.move f101 rfl)) fun a102 f102 => ?_
        clear f101 a101
        refine R.take 31 f102 rfl rfl (by decide) (by kernel_rfl) (by kernel_rfl) (by kernel_rfl) (fun _ _ _ _ h => h) (f102.yes rfl rfl) hS12 (fun W hW => (E.indexA f102 (by first | rfl | assumption) Try.underlying27 wsz35_s rfl rfl (by omega) (by omega))) fun a103 f103 => ?_
        clear f102 a102
        refine R.take 32 f103 rfl rfl (by decide) (by kernel_rfl) (by kernel_rfl) (by kernel_rfl) (fun _ _ _ _ h => h) (f103.yes rfl rfl) hS12 (fun W hW => (E.fieldAddr f103 Try.underlying35 rfl rfl wsz22_s)) fun a104 f104 => ?_
        clear f103 a103
        refine R.take 33 f104 rfl rfl (by decide) (by kernel_rfl) (by kernel_rfl) (by kernel_rfl) (fun _ _ _ _ h => h) (f104.yes rfl rfl) hS12 (fun W hW => (E.load f104 Try.underlying22 rfl rfl (pk_cell (PA.fr.own.kept hW (by simp)) hAA (i := k) (x := x) hx 6 rfl (show offA + k * 24 + 6 = _ by omega)))) fun a105 f105 => ?_
        clear f104 a104
        refine R.take 34 f105 rfl rfl (by decide) (by kernel_rfl) (by kernel_rfl) (by kernel_rfl) (fun _ _ _ _ h => h) (f105.yes rfl rfl) hS12 (fun W hW => (E.convV f105 rfl ((Bs_kept0 (PA.pay x (List.mem_of_getElem? hx)).1 hW).conv Try.underlying22 Try.underlying5 Try.underlying9))) fun a106 f106 => ?_
        clear f105 a105
        refine R.take 35 f106 rfl rfl (by decide) (by kernel_rfl) (by kernel_rfl) (by kernel_rfl) (fun _ _ _ _ h => h) (f106.yes rfl rfl) hS12 (fun W hW => (E.move f106 rfl)) fun a107 f107 => ?_
        clear f106 a106
        refine R.take 36 f107 rfl rfl (by decide) (by kernel_rfl) (by kernel_rfl) (by kernel_rfl) (fun _ _ _ _ h => h) (f107.yes rfl rfl) hS12 (fun W hW => (E.move f107 rfl)) fun a108 f108 => ?_
        clear f107 a107
        refine R.take 37 f108 rfl rfl (by decide) (by kernel_rfl) (by kernel_rfl) (by kernel_rfl) (fun _ _ _ _ h => h) (f108.yes rfl rfl) hS12 (fun W hW => (E.indexA f108 (by first | rfl | assumption) Try.underlying27 wsz35_s rfl rfl (by omega) (by omega))) fun a109 f109 => ?_
        clear f108 a108
        refine R.take 38 f109 rfl rfl (by decide) (by kernel_rfl) (by kernel_rfl) (by kernel_rfl) (fun _ _ _ _ h => h) (f109.yes rfl rfl) hS12 (fun W hW => (E.fieldAddr f109 Try.underlying35 rfl rfl wsz22_s)) fun a110 f110 => ?_
        clear f109 a109
        refine R.take 39 f110 rfl rfl (by decide) (by kernel_rfl) (by kernel_rfl) (by kernel_rfl) (fun _ _ _ _ h => h) (f110.yes rfl rfl) hS12 (fun W hW => (E.load f110 Try.underlying22 rfl rfl (pk_cell (PK.fr.own.kept hW (by simp)) hAP (i := k) (x := y) hy 6 rfl (show offP + k * 24 + 6 = _ by omega)))) fun a111 f111 => ?_
        clear f110 a110
        refine R.take 40 f111 rfl rfl (by decide) (by kernel_rfl) (by kernel_rfl) (by kernel_rfl) (fun _ _ _ _ h => h) (f111.yes rfl rfl) hS12 (fun W hW => (E.convV f111 rfl ((Bs_kept0 (PK.pay y (List.mem_of_getElem? hy)).1 hW).conv Try.underlying22 Try.underlying5 Try.underlying9))) fun a112 f112 => ?_
        clear f111 a111
        refine R.take 41 f112 rfl rfl (by decide) (by kernel_rfl) (by kernel_rfl) (by kernel_rfl) (fun _ _ _ _ h => h) (f112.yes rfl rfl) hS12 (fun W hW => (E.neqS f112 rfl rfl)) fun a113 f113 => ?_
        clear f112 a112
        have f114 := f113.as (i := 103) (v' := .bool false) rfl (by rw [hxp]; simp)
        clear f113
        refine R.take 42 f114 rfl rfl (by decide) (by kernel_rfl) (by kernel_rfl) (by kernel_rfl) (fun _ _ _ _ h => h) wantedN hS12 (fun W hW => (E.pickF f114 rfl rfl)) fun a115 f115 => ?_
        clear f114 a113
        have szw5r := hS12.size
        replace HK := blwm HK (.of_kept0 (T := []) (M := []) hS12)
        replace HS2 := HS2.mod (Mod.of_kept0 (T := []) (M := []) (B := (w.heap.size)) hS12) (by decide)
        replace PK := PK.mod (Mod.of_kept0 (T := []) (M := []) (B := (w.heap.size)) hS12) (by decide)
        replace PA := PA.mod (Mod.of_kept0 (T := []) (M := []) (B := (w.heap.size)) hS12) (by decide)
        clear hS12
        refine R.done (by kernel_rfl) (hK28 _ _ ?_)
        try clear hK28 K28
        have f116 := f115.sub (sub_cons (i := 2) rfl (sub_cons (i := 3) rfl (sub_cons (i := 9) rfl (sub_cons (i := 10) rfl (sub_cons (i := 11) rfl (sub_cons (i := 12) rfl (sub_cons (i := 13) rfl (sub_cons (i := 14) rfl (sub_cons (i := 56) rfl (sub_cons (i := 57) rfl (sub_cons (i := 58) rfl (sub_cons (i := 59) rfl (sub_cons (i := 62) rfl (sub_cons (i := 63) rfl (sub_cons (i := 64) rfl (sub_cons (i := 65) rfl (sub_cons (i := 66) rfl (sub_cons (i := 67) rfl (sub_cons (i := 68) rfl (sub_cons (i := 69) rfl (sub_cons (i := 70) rfl (sub_cons (i := 71) rfl (sub_cons (i := 72) rfl (sub_cons (i := 73) rfl (sub_cons (i := 74) rfl (sub_cons (i := 75) rfl (sub_cons (i := 76) rfl (sub_cons (i := 77) rfl (sub_cons (i := 78) rfl (sub_cons (i := 79) rfl (sub_cons (i := 80) rfl (sub_cons (i := 81) rfl (sub_cons (i := 82) rfl (sub_cons (i := 83) rfl (sub_cons (i := 84) rfl (sub_cons (i := 85) rfl (sub_cons (i := 86) rfl (sub_cons (i := 87) rfl (sub_cons (i := 88) rfl (sub_cons (i := 89) rfl (sub_cons (i := 90) rfl (sub_cons (i := 91) rfl (sub_cons (i := 92) rfl (sub_cons (i := 93) rfl (sub_cons (i := 94) rfl (sub_cons (i := 95) rfl (sub_cons (i := 96) rfl (sub_cons (i := 97) rfl (sub_cons (i := 98) rfl (sub_cons (i := 99) rfl (sub_cons (i := 100) rfl (sub_cons (i := 101) rfl (sub_cons (i := 102) rfl (sub_cons (i := 103) rfl (sub_cons (i := 104) rfl sub_nil)))))))))))))))))))))))))))))))))))))))))))))))))))))))
        clear f115
        refine C.condF f116 rfl ?_
        refine wp_skip (hK27 _ _ ?_)
        try clear hK27 K27
        have f117 := f116.sub (sub_cons (i := 2) rfl (sub_cons (i := 3) rfl (sub_cons (i := 9) rfl (sub_cons (i := 10) rfl (sub_cons (i := 11) rfl (sub_cons (i := 12) rfl (sub_cons (i := 13) rfl (sub_cons (i := 14) rfl (sub_cons (i := 56) rfl (sub_cons (i := 57) rfl (sub_cons (i := 58) rfl (sub_cons (i := 59) rfl (sub_cons (i := 62) rfl (sub_cons (i := 63) rfl (sub_cons (i := 64) rfl (sub_cons (i := 65) rfl (sub_cons (i := 66) rfl (sub_cons (i := 67) rfl (sub_cons (i := 68) rfl (sub_cons (i := 69) rfl (sub_cons (i := 70) rfl (sub_cons (i := 71) rfl (sub_cons (i := 72) rfl (sub_cons (i := 73) rfl (sub_cons (i := 74) rfl (sub_cons (i := 75) rfl (sub_cons (i := 76) rfl (sub_cons (i := 77) rfl (sub_cons (i := 78) rfl (sub_cons (i := 79) rfl (sub_cons (i := 80) rfl (sub_cons (i := 81) rfl (sub_cons (i := 82) rfl (sub_cons (i := 83) rfl (sub_cons (i := 84) rfl (sub_cons (i := 85) rfl (sub_cons (i := 86) rfl (sub_cons (i := 87) rfl (sub_cons (i := 88) rfl (sub_cons (i := 89) rfl (sub_cons (i := 90) rfl (sub_cons (i := 91) rfl (sub_cons (i := 92) rfl (sub_cons (i := 93) rfl (sub_cons (i := 94) rfl (sub_cons (i := 95) rfl (sub_cons (i := 96) rfl (sub_cons (i := 97) rfl (sub_cons (i := 98) rfl (sub_cons (i := 99) rfl (sub_cons (i := 100) rfl (sub_cons (i := 101) rfl (sub_cons (i := 102) rfl (sub_cons (i := 103) rfl (sub_cons (i := 104) rfl sub_nil)))))))))))))))))))))))))))))))))))))))))))))))))))))))
        clear f116
        refine C.region ?_
        refine L.val f117 wantedN rfl (by decide) (E.move f117 rfl) fun a118 f118 => ?_
        clear f117 a115
        refine L.val f118 wantedN rfl (by decide) (E.add f118 rfl rfl (IntWalk.i64_in _ (by omega))) fun a119 f119 => ?_
        clear f118 a118
        refine L.val f119 wantedN rfl (by decide) (E.assign f119 rfl) fun a120 f120 => ?_
        clear f119 a119
        refine wpList_nil (hKL24 _ _ (gk25 - 1) ?_ ?_)
        · omega
        · exact ⟨k + 1, by omega, HS2, PK, PA, HK, by simpa using f120.sub (sub_cons rfl (sub_cons rfl (sub_cons rfl (sub_cons rfl (sub_cons rfl (sub_cons rfl (sub_cons rfl (sub_cons rfl sub_nil))))))))⟩
      · clear f66
        refine C.condF f67 rfl ?_
        refine wp_exit (hK22 _ _ ?_)
        try clear hK22 K22
        have f68 := f67.sub (sub_cons (i := 2) rfl (sub_cons (i := 3) rfl (sub_cons (i := 10) rfl (sub_cons (i := 11) rfl (sub_cons (i := 13) rfl sub_nil)))))
        clear f67
        refine wp_seq_k fun K29 hK29 => ?_
        refine C.region ?_
        refine L.val f68 wantedN rfl (by decide) (E.move f68 rfl) fun a69 f69 => ?_
        clear f68 a65
        refine L.val f69 wantedN rfl (by decide) (E.rem f69 rfl rfl (by omega) (Int.tmod_eq_emod_of_nonneg (by omega))) fun a70 f70 => ?_
        clear f69 a69
        refine L.val f70 wantedN rfl (by decide) (E.conv f70 Try.underlying5 Try.underlying3 rfl (IntWalk.i64_in _ (by omega))) fun a71 f71 => ?_
        clear f70 a70
        refine L.val f71 wantedN rfl (by decide) (E.assign f71 rfl) fun a72 f72 => ?_
        clear f71 a71
        refine wpList_nil (hK29 _ _ ?_)
        try clear hK29 K29
        have f73 := f72.sub (sub_cons (i := 2) rfl (sub_cons (i := 3) rfl (sub_cons (i := 10) rfl (sub_cons (i := 11) rfl (sub_cons (i := 13) rfl (sub_cons (i := 15) rfl sub_nil))))))
        clear f72
        refine wp_seq_k fun K30 hK30 => ?_
        refine wp_seq_k fun K31 hK31 => ?_
        refine C.region ?_
        refine L.val f73 wantedN rfl (by decide) (E.move f73 rfl) fun a74 f74 => ?_
        clear f73 a72
        refine L.val f74 wantedN rfl (by decide) (E.not f74 rfl) fun a75 f75 => ?_
        clear f74 a74
        refine wpList_nil (hK31 _ _ ?_)
        try clear hK31 K31
        have f76 := f75.sub (sub_cons (i := 2) rfl (sub_cons (i := 3) rfl (sub_cons (i := 10) rfl (sub_cons (i := 11) rfl (sub_cons (i := 15) rfl (sub_cons (i := 109) rfl sub_nil))))))
        clear f75
        refine C.condT f76 rfl ?_
        refine C.region ?_
        refine L.val f76 wantedN rfl (by decide) (E.move f76 rfl) fun a77 f77 => ?_
        clear f76 a75
        refine L.val f77 wantedN rfl (by decide) (E.move f77 rfl) fun a78 f78 => ?_
        clear f77 a77
        refine L.val f78 wantedN rfl (by decide) (E.rem f78 rfl rfl (by omega) (Int.tmod_eq_emod_of_nonneg (by omega))) fun a79 f79 => ?_
        clear f78 a78
        refine L.val f79 wantedN rfl (by decide) (E.conv f79 Try.underlying5 Try.underlying3 rfl (IntWalk.i64_in _ (by omega))) fun a80 f80 => ?_
        clear f79 a79
        refine L.val f80 wantedN rfl (by decide) (E.add f80 rfl rfl (IntWalk.i64_in _ (by omega))) fun a81 f81 => ?_
        clear f80 a80
        refine L.val f81 wantedN rfl (by decide) (E.assign f81 rfl) fun a82 f82 => ?_
        clear f81 a81
        refine wpList_nil (hK30 _ _ ?_)
        try clear hK30 K30
        have f83 := f82.sub (sub_cons (i := 2) rfl (sub_cons (i := 3) rfl (sub_cons (i := 10) rfl (sub_cons (i := 11) rfl (sub_cons (i := 15) rfl sub_nil)))))
        clear f82
        refine wp_seq_k fun K32 hK32 => ?_
        refine C.region ?_
        refine L.val f83 wantedN rfl (by decide) (E.move f83 rfl) fun a84 f84 => ?_
        clear f83 a82
        refine L.val f84 wantedN rfl (by decide) (E.move f84 rfl) fun a85 f85 => ?_
        clear f84 a84
        refine L.val f85 wantedN rfl (by decide) (E.rem f85 rfl rfl (by omega) (Int.tmod_eq_emod_of_nonneg (by omega))) fun a86 f86 => ?_
        clear f85 a85
        refine L.val f86 wantedN rfl (by decide) (E.conv f86 Try.underlying5 Try.underlying3 rfl (IntWalk.i64_in _ (by omega))) fun a87 f87 => ?_
        clear f86 a86
        refine L.val f87 wantedN rfl (by decide) (E.move f87 rfl) fun a88 f88 => ?_
        clear f87 a87
        refine L.val f88 wantedN rfl (by decide) (E.rem f88 rfl rfl (by omega) (Int.tmod_eq_emod_of_nonneg (by omega))) fun a89 f89 => ?_
        clear f88 a88
        refine L.val f89 wantedN rfl (by decide) (E.conv f89 Try.underlying5 Try.underlying3 rfl (IntWalk.i64_in _ (by omega))) fun a90 f90 => ?_
        clear f89 a89
        refine L.val f90 wantedN rfl (by decide) (E.add f90 rfl rfl (IntWalk.i64_in _ (by omega))) fun a91 f91 => ?_
        clear f90 a90
        have hC := Again_any w.heap.size p u2 (wt0 % 20 + mo0 % 20) w4 HS2 HK.size
        refine L.call f91 wantedN rfl (by decide) (run_call Try.call18 (args2 f91 rfl rfl)) hC ?_
        rintro e w5 ⟨u3, A3, c3, pk3, rfl, HS3, hr3, hL3, kc5, -, -⟩
        rw [hab2, hwt, hmo, hT4] at hr3
        injection hr3 with hab3 hp3
        have hl3 : pk3.length = L2.length := by rw [← hp3, List.length_map]
        have hf3 : u3.fly.length = S2.fly.length := fly_of hab3
        refine ⟨_, rfl, fun a92 f92 => ?_⟩
        clear f91 a91
        have szw5 := kc5.size
        replace HK := blwm HK kc5
        replace PK := PK.mod kc5 (by decide)
        replace PA := PA.mod kc5 (by decide)
        clear kc5
        refine L.val f92 wantedN rfl (by decide) (E.lenL f92 Try.underlying27 rfl) fun a93 f93 => ?_
        clear f92 a92
        refine L.val f93 wantedN rfl (by decide) (E.move f93 rfl) fun a94 f94 => ?_
        clear f93 a93
        refine L.val f94 wantedN rfl (by decide) (E.lenL f94 Try.underlying27 rfl) fun a95 f95 => ?_
        clear f94 a94
        refine L.val f95 wantedN rfl (by decide) (E.eql f95 rfl rfl) fun a96 f96 => ?_
        clear f95 a95
        refine L.val f96 wantedN rfl (by decide) (E.move f96 rfl) fun a97 f97 => ?_
        clear f96 a96
        refine L.val f97 wantedN rfl (by decide) (E.geq f97 rfl rfl) fun a98 f98 => ?_
        clear f97 a97
        first | refine f98.splitD 129 rfl (fun h4 f99 => ?_) (fun h4 f99 => ?_) | refine f98.splitN 129 rfl (fun h4 f99 => ?_) (fun h4 f99 => ?_) | refine f98.splitNB 129 rfl (fun h4 f99 => ?_) (fun h4 f99 => ?_) | refine f98.split 129 rfl (fun h4 f99 => ?_) (fun h4 f99 => ?_)
        · clear f98
          have hsn := h4
          refine L.val f99 wantedN rfl (by decide) (E.move f99 rfl) fun a100 f100 => ?_
          clear f99 a98
          refine L.skip f100 (f100.noF rfl rfl) rfl (by decide) fun a101 f101 => ?_
          clear f100 a100
          refine L.skip f101 (f101.noF rfl rfl) rfl (by decide) fun a102 f102 => ?_
          clear f101 a101
          refine L.skip f102 (f102.noF rfl rfl) rfl (by decide) fun a103 f103 => ?_
          clear f102 a102
          refine L.val f103 wantedN rfl (by decide) (E.pickT f103 rfl rfl) fun a104 f104 => ?_
          clear f103 a103
          refine L.val f104 wantedN rfl (by decide) (E.eqlB f104 Try.underlying4 rfl rfl) fun a105 f105 => ?_
          clear f104 a104
          have f106 := f105.as (i := 135) (v' := .bool true) rfl (by exact lit_beqT (by omega))
          clear f105
          refine L.val f106 wantedN rfl (by decide) (E.move f106 rfl) fun a107 f107 => ?_
          clear f106 a105
          refine L.val f107 (f107.yes rfl rfl) rfl (by decide) (E.move f107 rfl) fun a108 f108 => ?_
          clear f107 a107
          refine L.call f108 (f108.yes rfl rfl) rfl (by decide) (run_call Try.call14 (args1 f108 rfl)) (flying_any p u3.fly.length u3.fc u3.FA _ _ _ _ _ _ HS3.top) ?_
          rintro e w5x ⟨rfl, rfl⟩
          refine ⟨_, rfl, fun a109 f109 => ?_⟩
          clear f108 a108
          refine L.val f109 (f109.yes rfl rfl) rfl (by decide) (E.move f109 rfl) fun a110 f110 => ?_
          clear f109 a109
          refine L.val f110 (f110.yes rfl rfl) rfl (by decide) (E.lenL f110 Try.underlying27 rfl) fun a111 f111 => ?_
          clear f110 a110
          refine L.val f111 (f111.yes rfl rfl) rfl (by decide) (E.eql f111 rfl rfl) fun a112 f112 => ?_
          clear f111 a111
          have f113 := f112.as (i := 141) (v' := .bool true) rfl (by exact lit_eq (by omega))
          clear f112
          refine L.val f113 wantedN rfl (by decide) (E.pickT f113 rfl rfl) fun a114 f114 => ?_
          clear f113 a112
          refine L.val f114 wantedN rfl (by decide) (E.assign f114 rfl) fun a115 f115 => ?_
          clear f114 a114
          refine wpList_nil (hK32 _ _ ?_)
          try clear hK32 K32
          have f116 := f115.sub (sub_cons (i := 8) rfl sub_nil)
          clear f115
          refine wp_ret ?_
          try simp only [Exit.inBlock, Exit.then]
          refine C.ret (P := Try.prog) (fn := Try.f6) f116 rfl rfl ?_
          exact ⟨rfl, HK⟩
        · clear f98
          have hsn := h4
          refine L.val f99 wantedN rfl (by decide) (E.move f99 rfl) fun a100 f100 => ?_
          clear f99 a98
          refine L.val f100 (f100.yes rfl rfl) rfl (by decide) (E.move f100 rfl) fun a101 f101 => ?_
          clear f100 a100
          refine L.val f101 (f101.yes rfl rfl) rfl (by decide) (E.lenL f101 Try.underlying27 rfl) fun a102 f102 => ?_
          clear f101 a101
          refine L.val f102 (f102.yes rfl rfl) rfl (by decide) (E.eql f102 rfl rfl) fun a103 f103 => ?_
          clear f102 a102
          refine L.val f103 wantedN rfl (by decide) (E.pickF f103 rfl rfl) fun a104 f104 => ?_
          clear f103 a103
          refine L.val f104 wantedN rfl (by decide) (E.eqlB f104 Try.underlying4 rfl rfl) fun a105 f105 => ?_
          clear f104 a104
          have f106 := f105.as (i := 135) (v' := .bool true) rfl (by exact lit_beq ⟨fun h => by omega, fun h => by omega⟩)
          clear f105
          refine L.val f106 wantedN rfl (by decide) (E.move f106 rfl) fun a107 f107 => ?_
          clear f106 a105
          refine L.val f107 (f107.yes rfl rfl) rfl (by decide) (E.move f107 rfl) fun a108 f108 => ?_
          clear f107 a107
          refine L.call f108 (f108.yes rfl rfl) rfl (by decide) (run_call Try.call14 (args1 f108 rfl)) (flying_any p u3.fly.length u3.fc u3.FA _ _ _ _ _ _ HS3.top) ?_
          rintro e w5x ⟨rfl, rfl⟩
          refine ⟨_, rfl, fun a109 f109 => ?_⟩
          clear f108 a108
          refine L.val f109 (f109.yes rfl rfl) rfl (by decide) (E.move f109 rfl) fun a110 f110 => ?_
          clear f109 a109
          refine L.val f110 (f110.yes rfl rfl) rfl (by decide) (E.lenL f110 Try.underlying27 rfl) fun a111 f111 => ?_
          clear f110 a110
          refine L.val f111 (f111.yes rfl rfl) rfl (by decide) (E.eql f111 rfl rfl) fun a112 f112 => ?_
          clear f111 a111
          have f113 := f112.as (i := 141) (v' := .bool true) rfl (by exact lit_eq (by omega))
          clear f112
          refine L.val f113 wantedN rfl (by decide) (E.pickT f113 rfl rfl) fun a114 f114 => ?_
          clear f113 a112
          refine L.val f114 wantedN rfl (by decide) (E.assign f114 rfl) fun a115 f115 => ?_
          clear f114 a114
          refine wpList_nil (hK32 _ _ ?_)
          try clear hK32 K32
          have f116 := f115.sub (sub_cons (i := 8) rfl sub_nil)
          clear f115
          refine wp_ret ?_
          try simp only [Exit.inBlock, Exit.then]
          refine C.ret (P := Try.prog) (fn := Try.f6) f116 rfl rfl ?_
          exact ⟨rfl, HK⟩

end Go.Proofs.Ytdfllmiokgoekaa
