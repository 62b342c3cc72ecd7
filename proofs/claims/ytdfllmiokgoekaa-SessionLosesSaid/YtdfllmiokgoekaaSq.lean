/- SessionLoses: the walk. -/
import Derived.Test.YtdfllmiokgoekaaSp
set_option linter.all false
namespace Go.Proofs.Ytdfllmiokgoekaa
open Go.RowKit Go.Hub
theorem wzib35_o : (Try.prog.info? 35).map (fun i => (i.zero, i.size, i.bytes)) = some (some (.agg #[(.int .i64 0), (.bool false), (.bool false), (.int .i64 0), (.int .i64 0), (.string ⟨#[]⟩), (.slice none 0 0), (.int .i64 0), (.string ⟨#[]⟩), (.bool false), (.int .i64 0), (.bool false), (.string ⟨#[]⟩), (.slice none 0 0), (.int .i64 0), (.bool false), (.bool false), (.bool false), (.string ⟨#[]⟩), (.slice none 0 0), (.bool false), (.int .i64 0), (.slice none 0 0), (.slice none 0 0)]), 24, 288) := by kernel_rfl
theorem wzi5_o : (Try.prog.info? 5).map (fun i => (i.zero, i.size)) = some (some (.int .u8 0), 1) := by kernel_rfl
theorem wbs22_1_o (x0 : Int) : Instr.fill (fun i => some (i * 1, 1)) ((Array.range (1 * 1)).map fun j => (Value.cells (.int .u8 0))[j % (Value.cells (.int .u8 0)).size]!) [(0, .int .u8 x0)] = some #[.int .u8 x0] := by kernel_rfl
theorem wsz3_o : (Try.prog.info? 3).map (·.size) = some 1 := by kernel_rfl
theorem wsz4_o : (Try.prog.info? 4).map (·.size) = some 1 := by kernel_rfl
theorem wsz5_o : (Try.prog.info? 5).map (·.size) = some 1 := by kernel_rfl
theorem wsz22_o : (Try.prog.info? 22).map (·.size) = some 1 := by kernel_rfl
theorem wsz35_o : (Try.prog.info? 35).map (·.size) = some 24 := by kernel_rfl
theorem wbl35_0_4_o (x0 : Int) (x1 : Int) : Try.prog.built 35 [(0, .int .i64 x0), (4, .int .i64 x1)] = some #[.int .i64 x0, (.bool false), (.bool false), (.int .i64 0), .int .i64 x1, (.string ⟨#[]⟩), (.slice none 0 0), (.int .i64 0), (.string ⟨#[]⟩), (.bool false), (.int .i64 0), (.bool false), (.string ⟨#[]⟩), (.slice none 0 0), (.int .i64 0), (.bool false), (.bool false), (.bool false), (.string ⟨#[]⟩), (.slice none 0 0), (.bool false), (.int .i64 0), (.slice none 0 0), (.slice none 0 0)] := by kernel_rfl
theorem wbl43_0_1_2_o (x0 : ByteArray) (x1 : Option Addr) (y1 z1 : Nat) (x2 : Int) : Try.prog.built 43 [(0, .string x0), (1, .slice x1 y1 z1), (2, .int .i64 x2)] = some #[.string x0, .slice x1 y1 z1, .int .i64 x2, (.bool false)] := by kernel_rfl

theorem PkAt.ne_new {B : Nat} {w0 w : World} {A : Option Addr} {c g : Nat} {l : List Pc} (h : PkAt B w0 w A c l) (hg : w.heap.size ≤ g) : ∀ b, (Value.slice A l.length c).ownBlock = some b → b ∉ [g] := fun b hb hx => by
  have := (h.fr.own.blk b hb).1
  simp at hx
  omega
theorem PkAt.kept1 {B : Nat} {w0 w w' : World} {A : Option Addr} {c g t : Nat} {l : List Pc} {cs : Array Value} (h : PkAt B w0 w A c l) (hk : Kept [g] w w') (hne : ∀ b, (Value.slice A l.length c).ownBlock = some b → b ∉ [g]) (hb : Blk w g t cs) (hB : B ≤ g) (ht : t ≠ 5 := by decide) : PkAt B w0 w' A c l :=
  ⟨⟨h.fr.own.kept hk hne, h.fr.lo⟩, fun x hx => (h.pay x hx).mod (Mod.of_blk1 (M := []) hk hb hB) (by simpa using Ne.symm ht)⟩
theorem pay_byte {B : Nat} {w : World} {A : Option Addr} {l : List UInt8} {k b o : Nat} (h : Pay B w A l) (hl : l = [UInt8.ofNat k]) (hk : k < 256) (hA : A = some ⟨b, o, none⟩) : w.cell? ⟨b, o + (0 : Int).toNat * 1, none⟩ = some (.int .u8 k) := by
  subst hl
  have := h.sl.cell (j := 0) (u := .int .u8 k) (by simp) hA (by simp [u8, Nat.mod_eq_of_lt hk])
  exact this
/-- the second loop of SessionLoses, as a test -/
def losOk : Nat → Int → Nat → Nat → SA → List Pa → Bool
  | 0, _, _, _, _, _ => false
  | g + 1, q, m, i, S, l => match l[i]? with
    | none => Nat.beq l.length (Min.min m 12) && Nat.beq S.fly.length 0 && Nat.beq S.wait.length 0
    | some x => decide (x.pay = [UInt8.ofNat i]) && decide (x.id = (i : Int) + 1) && !x.dup &&
      if q = 2 then match ackS S 5 x.id 1 with
        | (S1, [y]) => decide (y.kind = 6) && losOk g q m (i + 1) (ackS S1 7 x.id 1).1 (l ++ (ackS S1 7 x.id 1).2)
        | _ => false
      else losOk g q m (i + 1) (ackS S 4 x.id 1).1 (l ++ (ackS S 4 x.id 1).2)
theorem los_end {g : Nat} {q : Int} {m i : Nat} {S : SA} {l : List Pa} (h : losOk g q m i S l = true) (hi : l.length ≤ i) : l.length = Min.min m 12 ∧ S.fly.length = 0 ∧ S.wait.length = 0 := by
  cases g with
  | zero => cases h
  | succ g =>
    unfold losOk at h
    rw [List.getElem?_eq_none hi] at h
    simp only [Bool.and_eq_true] at h
    exact ⟨Nat.eq_of_beq_eq_true h.1.1, Nat.eq_of_beq_eq_true h.1.2, Nat.eq_of_beq_eq_true h.2⟩
theorem los_step {g : Nat} {q : Int} {m i : Nat} {S : SA} {l : List Pa} {x : Pa} (h : losOk g q m i S l = true) (hx : l[i]? = some x) : 0 < g ∧ x.pay = [UInt8.ofNat i] ∧ x.id = (i : Int) + 1 ∧ x.dup = false ∧
    (¬ q = 2 → losOk (g - 1) q m (i + 1) (ackS S 4 x.id 1).1 (l ++ (ackS S 4 x.id 1).2) = true) ∧
    (q = 2 → ∃ S1 y, ackS S 5 x.id 1 = (S1, [y]) ∧ y.kind = 6 ∧ losOk (g - 1) q m (i + 1) (ackS S1 7 x.id 1).1 (l ++ (ackS S1 7 x.id 1).2) = true) := by
  cases g with
  | zero => cases h
  | succ g =>
    unfold losOk at h
    rw [hx] at h
    simp only [Bool.and_eq_true, decide_eq_true_eq, Bool.not_eq_true'] at h
    refine ⟨by omega, h.1.1.1, h.1.1.2, h.1.2, fun hq => ?_, fun hq => ?_⟩
    · have h2 := h.2
      rw [if_neg hq] at h2
      exact h2
    · have h2 := h.2
      rw [if_pos hq] at h2
      split at h2
      · rename_i S1 y he
        rw [Bool.and_eq_true, decide_eq_true_eq] at h2
        exact ⟨S1, y, he, h2.1, h2.2⟩
      · cases h2
theorem los_one {g : Nat} {q : Int} {m i : Nat} {S : SA} {id : Int} {u : Ses} {pks pkn : List Pc} (h : losOk g q m i (ackS S 4 id 1).1 (pks.map (·.p) ++ (ackS S 4 id 1).2) = true) (hr : (u.abs, pkn.map (·.p)) = ackS S 4 id 1) : losOk g q m i u.abs ((pks ++ pkn).map (·.p)) = true := by
  rw [← hr, ← List.map_append] at h
  exact h
theorem los_two {g : Nat} {q : Int} {m i : Nat} {S : SA} {id : Int} {u : Ses} {pks pkn : List Pc} (h : losOk g q m i (ackS S 7 id 1).1 (pks.map (·.p) ++ (ackS S 7 id 1).2) = true) (hr : (u.abs, pkn.map (·.p)) = ackS S 7 id 1) : losOk g q m i u.abs ((pks ++ pkn).map (·.p)) = true := by
  rw [← hr, ← List.map_append] at h
  exact h
def losT (m : Nat) (q : Int) : Bool := Nat.beq (flyS m q).2.length (Min.min m 4) && Nat.beq (flyS m q).1.fly.length (flyS m q).2.length && Nat.beq (flyS m q).1.wait.length (Min.min (m - 4) 8) && decide ((flyS m q).1.lost = Max.max ((m : Int) - 12) 0) && losOk 13 q m 0 (flyS m q).1 (flyS m q).2
theorem los_all : ((List.range 30).all fun m => losT m 1 && losT m 2) = true := by kernel_rfl
theorem los_table {m : Nat} {q : Int} (hm : m < 30) (hq : q = 1 ∨ q = 2) : (flyS m q).2.length = Min.min m 4 ∧ (flyS m q).1.fly.length = (flyS m q).2.length ∧ (flyS m q).1.wait.length = Min.min (m - 4) 8 ∧ (flyS m q).1.lost = Max.max ((m : Int) - 12) 0 ∧ True ∧ losOk 13 q m 0 (flyS m q).1 (flyS m q).2 = true := by
  have h := List.all_eq_true.1 los_all m (List.mem_range.2 hm)
  rw [Bool.and_eq_true] at h
  have h1 : losT m q = true := by
    rcases hq with rfl | rfl
    · exact h.1
    · exact h.2
  unfold losT at h1
  simp only [Bool.and_eq_true, decide_eq_true_eq] at h1
  exact ⟨Nat.eq_of_beq_eq_true h1.1.1.1.1, Nat.eq_of_beq_eq_true h1.1.1.1.2, Nat.eq_of_beq_eq_true h1.1.1.2, h1.1.2, trivial, h1.2⟩
theorem los_len {pks : List Pc} {l : List Pa} {m : Nat} (hp : pks.map (·.p) = l) (h : l.length = Min.min m 4) : pks.length = Min.min m 4 := by rw [← h, ← hp, List.length_map]
theorem los_wait {u : Ses} {S : SA} {m : Nat} (hab : u.abs = S) (h : S.wait.length = Min.min (m - 4) 8) : u.wait.length = Min.min (m - 4) 8 := by rw [← h, wait_of hab]

set_option maxRecDepth 100000 in
set_option maxHeartbeats 4000000 in
theorem loses_any (n q : Int) (w : World) (hn : 0 ≤ n ∧ n ≤ 255) (hq : 0 ≤ q ∧ q ≤ 255) : Calls Try.prog 5 #[.int .u8 n, .int .u8 q] w (fun e w' => e = .returned (.bool true) ∧ Below w.heap.size w w') := by
  have HK : Below w.heap.size w w := Below.refl _ _
  refine C.enter Try.func5 rfl Try.ntmps5 rfl ?_
  intro a0 f0
  have f1 : Fr 155 a0 [(0, .int .u8 n), (1, .int .u8 q)] := f0
  clear f0
  refine wp_seq_k fun K0 hK0 => ?_
  refine C.region ?_
  refine L.val f1 wantedN rfl (by decide) (E.assign f1 rfl) fun a2 f2 => ?_
  clear f1 a0
  refine wpList_nil (hK0 _ _ ?_)
  try clear hK0 K0
  have f3 := f2.sub (sub_cons (i := 0) rfl (sub_cons (i := 1) rfl (sub_cons (i := 4) rfl sub_nil)))
  clear f2
  refine wp_seq_k fun K1 hK1 => ?_
  refine wp_seq_k fun K2 hK2 => ?_
  refine C.region ?_
  refine L.call f3 wantedN rfl (by decide) (run_call Try.call9 (args0 f3)) (known_any _) ?_
  rintro e w1 ⟨rfl, kb⟩
  have kc1 : Mod [] [] w.heap.size w w1 := of_below kb
  refine ⟨_, rfl, fun a4 f4 => ?_⟩
  clear f3 a2
  have szw1 := kc1.size
  replace HK := blwm HK kc1
  clear kc1
  refine L.val f4 wantedN rfl (by decide) (E.not f4 rfl) fun a5 f5 => ?_
  clear f4 a4
  refine wpList_nil (hK2 _ _ ?_)
  try clear hK2 K2
  have f6 := f5.sub (sub_cons (i := 0) rfl (sub_cons (i := 1) rfl (sub_cons (i := 4) rfl (sub_cons (i := 14) rfl sub_nil))))
  clear f5
  refine C.condF f6 rfl ?_
  refine wp_skip (hK1 _ _ ?_)
  try clear hK1 K1
  have f7 := f6.sub (sub_cons (i := 0) rfl (sub_cons (i := 1) rfl (sub_cons (i := 4) rfl sub_nil)))
  clear f6
  refine wp_seq_k fun K3 hK3 => ?_
  refine C.region ?_
  refine L.call f7 wantedN rfl (by decide) (run_call Try.call10 (args1 f7 rfl)) (new_any ⟨#[107]⟩ w.heap.size _ HK.size) ?_
  rintro e w2 ⟨p, s, rfl, HS, hab, hcl, kc2⟩
  refine ⟨_, rfl, fun a8 f8 => ?_⟩
  clear f7 a5
  have szw2 := kc2.size
  replace HK := blwm HK kc2
  clear kc2
  refine L.val f8 wantedN rfl (by decide) (E.assign f8 rfl) fun a9 f9 => ?_
  clear f8 a8
  refine wpList_nil (hK3 _ _ ?_)
  try clear hK3 K3
  have f10 := f9.sub (sub_cons (i := 0) rfl (sub_cons (i := 1) rfl (sub_cons (i := 4) rfl (sub_cons (i := 5) rfl sub_nil))))
  clear f9
  refine wp_seq_k fun K4 hK4 => ?_
  refine C.region ?_
  refine L.val f10 wantedN rfl (by decide) (E.move f10 rfl) fun a11 f11 => ?_
  clear f10 a9
  refine L.val f11 wantedN rfl (by decide) (E.rem f11 rfl rfl (by omega) (Int.tmod_eq_emod_of_nonneg (by omega))) fun a12 f12 => ?_
  clear f11 a11
  refine L.val f12 wantedN rfl (by decide) (E.conv f12 Try.underlying5 Try.underlying3 rfl (IntWalk.i64_in _ (by omega))) fun a13 f13 => ?_
  clear f12 a12
  refine L.val f13 wantedN rfl (by decide) (E.move f13 rfl) fun a14 f14 => ?_
  clear f13 a13
  refine L.val f14 wantedN rfl (by decide) (E.rem f14 rfl rfl (by omega) (Int.tmod_eq_emod_of_nonneg (by omega))) fun a15 f15 => ?_
  clear f14 a14
  refine L.val f15 wantedN rfl (by decide) (E.conv f15 Try.underlying5 Try.underlying3 rfl (IntWalk.i64_in _ (by omega))) fun a16 f16 => ?_
  clear f15 a15
  refine L.val f16 wantedN rfl (by decide) (E.add f16 rfl rfl (IntWalk.i64_in _ (by omega))) fun a17 f17 => ?_
  clear f16 a16
  refine L.val f17 wantedN rfl (by decide) (E.assign f17 rfl) fun a18 f18 => ?_
  clear f17 a17
  refine L.val f18 wantedN rfl (by decide) (E.assign f18 rfl) fun a19 f19 => ?_
  clear f18 a18
  refine wpList_nil (hK4 _ _ ?_)
  try clear hK4 K4
  have f20 := f19.sub (sub_cons (i := 4) rfl (sub_cons (i := 5) rfl (sub_cons (i := 6) rfl (sub_cons (i := 7) rfl sub_nil))))
  clear f19
  refine wp_seq_k fun K5 hK5 => ?_
  obtain ⟨qos, hqos⟩ : ∃ x : Int, x = q % 2 + 1 := ⟨_, rfl⟩
  obtain ⟨mm, hmm⟩ : ∃ x : Int, x = n % 30 := ⟨_, rfl⟩
  rw [← hqos, ← hmm] at f20
  obtain ⟨m, hm⟩ : ∃ m : Nat, mm = (m : Int) := ⟨mm.toNat, by omega⟩
  have hm30 : m < 30 := by omega
  have hq12 : qos = 1 ∨ qos = 2 := by omega
  have hT := los_table hm30 hq12
  refine C.region ?_
  refine L.val f20 wantedN rfl (by decide) (E.assign f20 rfl) fun a21 f21 => ?_
  clear f20 a19
  refine wpList_nil (hK5 _ _ ?_)
  try clear hK5 K5
  have f22 := f21.sub (sub_cons (i := 4) rfl (sub_cons (i := 5) rfl (sub_cons (i := 6) rfl (sub_cons (i := 7) rfl (sub_cons (i := 8) rfl sub_nil)))))
  clear f21
  refine wp_seq_k fun K6 hK6 => ?_
  refine wp_seq_k fun K7 hK7 => ?_
  refine C.region ?_
  refine L.val f22 wantedN rfl (by decide) (E.assign f22 rfl) fun a23 f23 => ?_
  clear f22 a21
  refine wpList_nil (hK7 _ _ ?_)
  try clear hK7 K7
  have f24 := f23.sub (sub_cons (i := 4) rfl (sub_cons (i := 5) rfl (sub_cons (i := 6) rfl (sub_cons (i := 7) rfl (sub_cons (i := 8) rfl (sub_cons (i := 9) rfl sub_nil))))))
  clear f23
  refine wp_block ?_
  refine C.loop (fun gk a W => ∃ (k : Nat) (u : Ses) (A : Option Addr) (c : Nat) (pks : List Pc), k + gk = m ∧ SesAt w.heap.size W p u ∧ u.abs = (flyS k qos).1 ∧ pks.map (·.p) = (flyS k qos).2 ∧ pks.length ≤ 10 * k ∧ PkAt w.heap.size w W A c pks ∧ Below w.heap.size w W ∧ Fr 155 a [(5, .pointer (some ⟨p, 0, none⟩)), (6, .int .i64 mm), (7, .int .i64 qos), (8, .slice A pks.length c), (9, .int .i64 k)]) (m) ?_ ?_
  · exact ⟨0, s, none, 0, [], by omega, HS, hab, rfl, by simp, PkAt.nil _ _ _, HK, f24.sub (sub_cons rfl (sub_cons rfl (sub_cons rfl (sub_cons rfl (sub_cons rfl sub_nil)))))⟩
  · intro gk9 a25 w3 hI KL8 hKL8
    obtain ⟨k, u, A, c, pks, hk, HS, hab, hp, hlp, PK, HK, f25⟩ := hI
    try clear f24
    have szw1x := HK.size
    refine wp_seq_k fun K9 hK9 => ?_
    refine wp_seq_k fun K10 hK10 => ?_
    refine C.region ?_
    refine L.val f25 wantedN rfl (by decide) (E.move f25 rfl) fun a26 f26 => ?_
    clear f25 a25
    refine L.val f26 wantedN rfl (by decide) (E.move f26 rfl) fun a27 f27 => ?_
    clear f26 a26
    refine L.val f27 wantedN rfl (by decide) (E.lss f27 rfl rfl) fun a28 f28 => ?_
    clear f27 a27
    refine wpList_nil (hK10 _ _ ?_)
    try clear hK10 K10
    have f29 := f28.sub (sub_cons (i := 5) rfl (sub_cons (i := 6) rfl (sub_cons (i := 7) rfl (sub_cons (i := 8) rfl (sub_cons (i := 9) rfl (sub_cons (i := 23) rfl (sub_cons (i := 24) rfl (sub_cons (i := 25) rfl sub_nil))))))))
    clear f28
    first | refine f29.splitD 25 rfl (fun h0 f30 => ?_) (fun h0 f30 => ?_) | refine f29.splitN 25 rfl (fun h0 f30 => ?_) (fun h0 f30 => ?_) | refine f29.splitNB 25 rfl (fun h0 f30 => ?_) (fun h0 f30 => ?_) | refine f29.split 25 rfl (fun h0 f30 => ?_) (fun h0 f30 => ?_)
    · clear f29
      refine C.condT f30 rfl ?_
      refine wp_skip (hK9 _ _ ?_)
      try clear hK9 K9
      have f31 := f30.sub (sub_cons (i := 5) rfl (sub_cons (i := 6) rfl (sub_cons (i := 7) rfl (sub_cons (i := 8) rfl (sub_cons (i := 9) rfl (sub_cons (i := 23) rfl (sub_cons (i := 24) rfl (sub_cons (i := 25) rfl sub_nil))))))))
      clear f30
      refine wp_seq_k fun K11 hK11 => ?_
      refine wp_block ?_
      refine C.region ?_
      refine L.val f31 wantedN rfl (by decide) (E.move f31 rfl) fun a32 f32 => ?_
      clear f31 a28
      refine L.val f32 wantedN rfl (by decide) (E.move f32 rfl) fun a33 f33 => ?_
      clear f32 a32
      refine L.val f33 wantedN rfl (by decide) (E.move f33 rfl) fun a34 f34 => ?_
      clear f33 a33
      refine L.val f34 wantedN rfl (by decide) (E.conv f34 Try.underlying3 Try.underlying5 rfl (IntWalk.u8_in _ (by omega))) fun a35 f35 => ?_
      clear f34 a34
      refine L.buildSlice f35 wantedN (by decide) (parts1 f35 rfl) Try.underlying22 wzi5_o rfl rfl (wbs22_1_o _) fun a36 w4 g3 N3 f36 => ?_
      have OB := N3.own (k := 1) (size := 1) rfl (by decide)
      have HPb : Pay w.heap.size w4 (some ⟨g3, 0, none⟩) [UInt8.ofNat k] := pay_one OB (by omega)
      have Bg3 := N3.blk
      have kg3 := N3.kept
      have log3 := N3.lo
      have ltg3 := Bg3.lt
      have szw4 := kg3.size
      replace HK := blwm HK (.of_kept0 (T := []) (M := []) kg3)
      replace HS := HS.mod (Mod.of_kept0 (T := []) (M := []) (B := (w.heap.size)) kg3) (by decide)
      replace PK := PK.mod (Mod.of_kept0 (T := []) (M := []) (B := (w.heap.size)) kg3) (by decide)
      clear N3 kg3
      clear f35 a35
      refine L.val f36 wantedN rfl (by decide) (E.move f36 rfl) fun a37 f37 => ?_
      clear f36 a36
      refine L.val f37 wantedN rfl (by decide) (E.build f37 (parts3 f37 rfl rfl rfl) (wbl43_0_1_2_o _ _ _ _ _)) fun a38 f38 => ?_
      clear f37 a37
      have hC := send_any w.heap.size p u ⟨⟨#[97]⟩, [UInt8.ofNat k], qos, false⟩ (some ⟨g3, 0, none⟩) 1 true 0 w4 HS HPb HK.size (flyS_lost' hab (by omega))
      rw [hab] at hC
      refine L.call f38 wantedN rfl (by decide) (run_call Try.call15 (args4 f38 rfl rfl rfl rfl)) hC ?_
      rintro e w5 ⟨u2, A2, c2, pk2, rfl, HS2, hr2, hL2, kc5, PKr, hl2⟩
      have szk := HK.size
      replace PKr := PKr.lower (w1 := w) szk
      refine ⟨_, rfl, fun a39 f39 => ?_⟩
      clear f38 a38
      have szw5 := kc5.size
      replace HK := blwm HK kc5
      replace PK := PK.mod kc5 (by decide)
      replace Bg3 := Bg3.mod kc5 (by decide)
      clear kc5
      refine L.append f39 wantedN (by decide) Try.underlying27 wzib35_o rfl rfl rfl rfl (PK.fr.own) (PKr.fr.sl) (pcells_one _) (by unfold maxLen; omega) (by omega) fun a40 w6 A4 c4 AP6 f40 => ?_
      clear f39 a39
      have kap6 : Mod [35] [] w.heap.size w5 w6 := .of_app AP6 PK.fr.own PK.fr.from (by simp)
      have PK2 := PK.app AP6 HK.size (Nat.le_refl _) PKr.pay
      have szw6 := kap6.size
      replace HK := blwm HK kap6
      replace Bg3 := Bg3.mod kap6 (by decide)
      replace HS2 := HS2.mod kap6 (by decide)
      clear kap6
      refine L.val f40 wantedN rfl (by decide) (E.assign f40 rfl) fun a41 f41 => ?_
      clear f40 a40
      refine wpList_nil (hK11 _ _ ?_)
      try clear hK11 K11
      have f42 := f41.sub (sub_cons (i := 5) rfl (sub_cons (i := 6) rfl (sub_cons (i := 7) rfl (sub_cons (i := 8) rfl (sub_cons (i := 9) rfl (sub_cons (i := 23) rfl (sub_cons (i := 24) rfl (sub_cons (i := 25) rfl (sub_cons (i := 28) rfl (sub_cons (i := 29) rfl (sub_cons (i := 30) rfl (sub_cons (i := 31) rfl (sub_cons (i := 32) rfl (sub_cons (i := 33) rfl (sub_cons (i := 34) rfl (sub_cons (i := 35) rfl (sub_cons (i := 36) rfl sub_nil)))))))))))))))))
      clear f41
      refine C.region ?_
      refine L.val f42 wantedN rfl (by decide) (E.move f42 rfl) fun a43 f43 => ?_
      clear f42 a41
      refine L.val f43 wantedN rfl (by decide) (E.add f43 rfl rfl (IntWalk.i64_in _ (by omega))) fun a44 f44 => ?_
      clear f43 a43
      refine L.val f44 wantedN rfl (by decide) (E.assign f44 rfl) fun a45 f45 => ?_
      clear f44 a44
      refine wpList_nil (hKL8 _ _ (gk9 - 1) ?_ ?_)
      · omega
      · exact ⟨k + 1, u2, A4, c4, pks ++ pk2, by omega, HS2, fly_next1 hr2, fly_next2 hp hr2, by simp; omega, PK2, HK, by simpa using f45.sub (sub_cons rfl (sub_cons rfl (sub_cons rfl (sub_cons rfl (sub_cons rfl sub_nil)))))⟩
    · clear f29
      refine C.condF f30 rfl ?_
      refine wp_exit (hK6 _ _ ?_)
      try clear hK6 K6
      have f31 := f30.sub (sub_cons (i := 5) rfl (sub_cons (i := 6) rfl (sub_cons (i := 7) rfl (sub_cons (i := 8) rfl sub_nil))))
      clear f30
      refine wp_seq_k fun K12 hK12 => ?_
      refine wp_seq_k fun K13 hK13 => ?_
      obtain rfl : m = k := by omega
      have hk1 := los_len hp hT.1
      have hk2 : u.fly.length = pks.length := by rw [fly_of hab, hT.2.1, ← hp, List.length_map]
      have hk3 := los_wait hab hT.2.2.1
      have hk4 : u.lost = Max.max ((m : Int) - 12) 0 := by rw [lost_of hab]; exact hT.2.2.2.1
      refine C.region ?_
      refine L.val f31 wantedN rfl (by decide) (E.move f31 rfl) fun a32 f32 => ?_
      clear f31 a28
      refine L.val f32 wantedN rfl (by decide) (E.lenL f32 Try.underlying27 rfl) fun a33 f33 => ?_
      clear f32 a32
      refine L.val f33 wantedN rfl (by decide) (E.move f33 rfl) fun a34 f34 => ?_
      clear f33 a33
      refine L.val f34 wantedN rfl (by decide) (E.min f34 rfl rfl) fun a35 f35 => ?_
      clear f34 a34
      refine L.val f35 wantedN rfl (by decide) (E.neq f35 rfl rfl) fun a36 f36 => ?_
      clear f35 a35
      have f37 := f36.as (i := 41) (v' := .bool false) rfl (by exact lit_ne (by omega))
      clear f36
      refine L.val f37 wantedN rfl (by decide) (E.move f37 rfl) fun a38 f38 => ?_
      clear f37 a36
      refine L.val f38 (f38.yes rfl rfl) rfl (by decide) (E.move f38 rfl) fun a39 f39 => ?_
      clear f38 a38
      refine L.call f39 (f39.yes rfl rfl) rfl (by decide) (run_call Try.call14 (args1 f39 rfl)) (flying_any p u.fly.length u.fc u.FA _ _ _ _ _ _ HS.top) ?_
      rintro e w3x ⟨rfl, rfl⟩
      refine ⟨_, rfl, fun a40 f40 => ?_⟩
      clear f39 a39
      refine L.val f40 (f40.yes rfl rfl) rfl (by decide) (E.move f40 rfl) fun a41 f41 => ?_
      clear f40 a40
      refine L.val f41 (f41.yes rfl rfl) rfl (by decide) (E.lenL f41 Try.underlying27 rfl) fun a42 f42 => ?_
      clear f41 a41
      refine L.val f42 (f42.yes rfl rfl) rfl (by decide) (E.neq f42 rfl rfl) fun a43 f43 => ?_
      clear f42 a42
      have f44 := f43.as (i := 47) (v' := .bool false) rfl (by exact lit_ne (by omega))
      clear f43
      refine L.val f44 wantedN rfl (by decide) (E.pickF f44 rfl rfl) fun a45 f45 => ?_
      clear f44 a43
      refine L.val f45 wantedN rfl (by decide) (E.move f45 rfl) fun a46 f46 => ?_
      clear f45 a45
      refine L.val f46 (f46.yes rfl rfl) rfl (by decide) (E.move f46 rfl) fun a47 f47 => ?_
      clear f46 a46
      refine L.call f47 (f47.yes rfl rfl) rfl (by decide) (run_call Try.call16 (args1 f47 rfl)) (waiting_any p u.q u.wait.length u.qc u.QA _ u.lost _ _ _ _ _ _ HS.top HS.qu.top) ?_
      rintro e w3x ⟨rfl, rfl⟩
      refine ⟨_, rfl, fun a48 f48 => ?_⟩
      clear f47 a47
      refine L.val f48 (f48.yes rfl rfl) rfl (by decide) (E.move f48 rfl) fun a49 f49 => ?_
      clear f48 a48
      refine L.val f49 (f49.yes rfl rfl) rfl (by decide) (E.sub f49 rfl rfl (IntWalk.i64_in _ (by omega))) fun a50 f50 => ?_
      clear f49 a49
      refine L.val f50 (f50.yes rfl rfl) rfl (by decide) (E.max f50 rfl rfl) fun a51 f51 => ?_
      clear f50 a50
      refine L.val f51 (f51.yes rfl rfl) rfl (by decide) (E.min f51 rfl rfl) fun a52 f52 => ?_
      clear f51 a51
      refine L.val f52 (f52.yes rfl rfl) rfl (by decide) (E.neq f52 rfl rfl) fun a53 f53 => ?_
      clear f52 a52
      have f54 := f53.as (i := 56) (v' := .bool false) rfl (by exact lit_ne (by omega))
      clear f53
      refine L.val f54 wantedN rfl (by decide) (E.pickF f54 rfl rfl) fun a55 f55 => ?_
      clear f54 a53
      refine L.val f55 wantedN rfl (by decide) (E.move f55 rfl) fun a56 f56 => ?_
      clear f55 a55
      refine L.val f56 (f56.yes rfl rfl) rfl (by decide) (E.move f56 rfl) fun a57 f57 => ?_
      clear f56 a56
      refine L.call f57 (f57.yes rfl rfl) rfl (by decide) (run_call Try.call17 (args1 f57 rfl)) (lost_any p u.q u.wait.length u.qc u.QA _ u.lost _ _ _ _ _ _ HS.top HS.qu.top) ?_
      rintro e w3x ⟨rfl, rfl⟩
      refine ⟨_, rfl, fun a58 f58 => ?_⟩
      clear f57 a57
      refine L.val f58 (f58.yes rfl rfl) rfl (by decide) (E.move f58 rfl) fun a59 f59 => ?_
      clear f58 a58
      refine L.val f59 (f59.yes rfl rfl) rfl (by decide) (E.sub f59 rfl rfl (IntWalk.i64_in _ (by omega))) fun a60 f60 => ?_
      clear f59 a59
      refine L.val f60 (f60.yes rfl rfl) rfl (by decide) (E.max f60 rfl rfl) fun a61 f61 => ?_
      clear f60 a60
      refine L.val f61 (f61.yes rfl rfl) rfl (by decide) (E.neq f61 rfl rfl) fun a62 f62 => ?_
      clear f61 a61
      have f63 := f62.as (i := 64) (v' := .bool false) rfl (by exact lit_ne (by omega))
      clear f62
      refine L.val f63 wantedN rfl (by decide) (E.pickF f63 rfl rfl) fun a64 f64 => ?_
      clear f63 a62
      refine wpList_nil (hK13 _ _ ?_)
      try clear hK13 K13
      have f65 := f64.sub (sub_cons (i := 5) rfl (sub_cons (i := 6) rfl (sub_cons (i := 7) rfl (sub_cons (i := 8) rfl (sub_cons (i := 65) rfl sub_nil)))))
      clear f64
      refine C.condF f65 rfl ?_
      refine wp_skip (hK12 _ _ ?_)
      try clear hK12 K12
      have f66 := f65.sub (sub_cons (i := 5) rfl (sub_cons (i := 6) rfl (sub_cons (i := 7) rfl (sub_cons (i := 8) rfl sub_nil))))
      clear f65
      refine wp_seq_k fun K14 hK14 => ?_
      refine wp_seq_k fun K15 hK15 => ?_
      refine C.region ?_
      refine L.val f66 wantedN rfl (by decide) (E.assign f66 rfl) fun a67 f67 => ?_
      clear f66 a64
      refine wpList_nil (hK15 _ _ ?_)
      try clear hK15 K15
      have f68 := f67.sub (sub_cons (i := 5) rfl (sub_cons (i := 6) rfl (sub_cons (i := 7) rfl (sub_cons (i := 8) rfl (sub_cons (i := 10) rfl sub_nil)))))
      clear f67
      refine wp_block ?_
      refine C.loop (fun gk a W => ∃ (k : Nat) (u : Ses) (A : Option Addr) (c : Nat) (pks : List Pc), k + gk = 13 ∧ SesAt w.heap.size W p u ∧ losOk gk qos m k u.abs (pks.map (·.p)) = true ∧ pks.length ≤ 1000 * (k + 1) ∧ PkAt w.heap.size w W A c pks ∧ Below w.heap.size w W ∧ Fr 155 a [(5, .pointer (some ⟨p, 0, none⟩)), (6, .int .i64 mm), (7, .int .i64 qos), (8, .slice A pks.length c), (10, .int .i64 k)]) (13) ?_ ?_
      · exact ⟨0, u, A, c, pks, by omega, HS, by rw [hab, hp]; exact hT.2.2.2.2.2, by omega, PK, HK, f68.sub (sub_cons rfl (sub_cons rfl (sub_cons rfl (sub_cons rfl (sub_cons rfl sub_nil)))))⟩
      · intro gk17 a69 w4 hI KL16 hKL16
        obtain ⟨k, u, A, c, pks, hk, HS, hlos, hlp, PK, HK, f69⟩ := hI
        try clear f68
        have szw1x := HK.size
        refine wp_seq_k fun K17 hK17 => ?_
        refine wp_seq_k fun K18 hK18 => ?_
        refine C.region ?_
        refine L.val f69 wantedN rfl (by decide) (E.move f69 rfl) fun a70 f70 => ?_
        clear f69 a69
        refine L.val f70 wantedN rfl (by decide) (E.move f70 rfl) fun a71 f71 => ?_
        clear f70 a70
        refine L.val f71 wantedN rfl (by decide) (E.lenL f71 Try.underlying27 rfl) fun a72 f72 => ?_
        clear f71 a71
        refine L.val f72 wantedN rfl (by decide) (E.lss f72 rfl rfl) fun a73 f73 => ?_
        clear f72 a72
        refine wpList_nil (hK18 _ _ ?_)
        try clear hK18 K18
        have f74 := f73.sub (sub_cons (i := 5) rfl (sub_cons (i := 6) rfl (sub_cons (i := 7) rfl (sub_cons (i := 8) rfl (sub_cons (i := 10) rfl (sub_cons (i := 66) rfl (sub_cons (i := 67) rfl (sub_cons (i := 68) rfl (sub_cons (i := 69) rfl sub_nil)))))))))
        clear f73
        first | refine f74.splitD 69 rfl (fun h1 f75 => ?_) (fun h1 f75 => ?_) | refine f74.splitN 69 rfl (fun h1 f75 => ?_) (fun h1 f75 => ?_) | refine f74.splitNB 69 rfl (fun h1 f75 => ?_) (fun h1 f75 => ?_) | refine f74.split 69 rfl (fun h1 f75 => ?_) (fun h1 f75 => ?_)
        · clear f74
          obtain ⟨x, hx⟩ : ∃ x, pks[k]? = some x := ⟨pks[k]'(by omega), List.getElem?_eq_getElem _⟩
          obtain ⟨b, off, hA⟩ := (Sl.of_own PK.fr.own).addr (by omega)
          obtain ⟨hgk, hpay, hxi, hxd, hls⟩ := los_step hlos (by rw [List.getElem?_map, hx]; rfl)
          obtain ⟨b2, off2, hA2⟩ := (PK.pay x (List.mem_of_getElem? hx)).sl.addr (by rw [hpay]; exact Nat.one_pos)
          have hpl : x.p.pay.length = 1 := by rw [hpay]; rfl
          refine C.condT f75 rfl ?_
          refine wp_skip (hK17 _ _ ?_)
          try clear hK17 K17
          have f76 := f75.sub (sub_cons (i := 5) rfl (sub_cons (i := 6) rfl (sub_cons (i := 7) rfl (sub_cons (i := 8) rfl (sub_cons (i := 10) rfl (sub_cons (i := 66) rfl (sub_cons (i := 67) rfl (sub_cons (i := 68) rfl (sub_cons (i := 69) rfl sub_nil)))))))))
          clear f75
          refine wp_seq_k fun K19 hK19 => ?_
          refine wp_block ?_
          refine wp_seq_k fun K20 hK20 => ?_
          refine wp_seq_k fun K21 hK21 => ?_
          refine C.region ?_
          refine L.val f76 wantedN rfl (by decide) (E.move f76 rfl) fun a77 f77 => ?_
          clear f76 a73
          refine L.val f77 wantedN rfl (by decide) (E.move f77 rfl) fun a78 f78 => ?_
          clear f77 a77
          refine L.val f78 wantedN rfl (by decide) (E.indexA f78 (by first | rfl | assumption) Try.underlying27 wsz35_o rfl rfl (by omega) (by omega)) fun a79 f79 => ?_
          clear f78 a78
          refine L.val f79 wantedN rfl (by decide) (E.fieldAddr f79 Try.underlying35 rfl rfl wsz22_o) fun a80 f80 => ?_
          clear f79 a79
          refine L.val f80 wantedN rfl (by decide) (E.load f80 Try.underlying22 rfl rfl (pk_cell PK.fr.own hA (i := k) (x := x) hx 6 rfl (show off + k * 24 + 6 = _ by omega))) fun a81 f81 => ?_
          clear f80 a80
          refine L.val f81 wantedN rfl (by decide) (E.lenL f81 Try.underlying22 rfl) fun a82 f82 => ?_
          clear f81 a81
          refine L.val f82 wantedN rfl (by decide) (E.neq f82 rfl rfl) fun a83 f83 => ?_
          clear f82 a82
          have f84 := f83.as (i := 78) (v' := .bool false) rfl (by exact lit_ne (by omega))
          clear f83
          refine L.val f84 wantedN rfl (by decide) (E.move f84 rfl) fun a85 f85 => ?_
          clear f84 a83
          refine L.val f85 (f85.yes rfl rfl) rfl (by decide) (E.move f85 rfl) fun a86 f86 => ?_
          clear f85 a85
          refine L.val f86 (f86.yes rfl rfl) rfl (by decide) (E.move f86 rfl) fun a87 f87 => ?_
          clear f86 a86
          refine L.val f87 (f87.yes rfl rfl) rfl (by decide) (E.indexA f87 (by first | rfl | assumption) Try.underlying27 wsz35_o rfl rfl (by omega) (by omega)) fun a88 f88 => ?_
          clear f87 a87
          refine L.val f88 (f88.yes rfl rfl) rfl (by decide) (E.fieldAddr f88 Try.underlying35 rfl rfl wsz22_o) fun a89 f89 => ?_
          clear f88 a88
          refine L.val f89 (f89.yes rfl rfl) rfl (by decide) (E.load f89 Try.underlying22 rfl rfl (pk_cell PK.fr.own hA (i := k) (x := x) hx 6 rfl (show off + k * 24 + 6 = _ by omega))) fun a90 f90 => ?_
          clear f89 a89
          refine L.val f90 (f90.yes rfl rfl) rfl (by decide) (E.indexA f90 hA2 Try.underlying22 wsz5_o rfl rfl (by decide) (by omega)) fun a91 f91 => ?_
          clear f90 a90
          refine L.val f91 (f91.yes rfl rfl) rfl (by decide) (E.load f91 Try.underlying5 rfl rfl (pay_byte (PK.pay x (List.mem_of_getElem? hx)) hpay (by omega) hA2)) fun a92 f92 => ?_
          clear f91 a91
          refine L.val f92 (f92.yes rfl rfl) rfl (by decide) (E.conv f92 Try.underlying5 Try.underlying3 rfl (IntWalk.i64_in _ (by omega))) fun a93 f93 => ?_
          clear f92 a92
          refine L.val f93 (f93.yes rfl rfl) rfl (by decide) (E.move f93 rfl) fun a94 f94 => ?_
          clear f93 a93
          refine L.val f94 (f94.yes rfl rfl) rfl (by decide) (E.neq f94 rfl rfl) fun a95 f95 => ?_
          clear f94 a94
          have f96 := f95.as (i := 89) (v' := .bool false) rfl (by exact lit_ne rfl)
          clear f95
          refine L.val f96 wantedN rfl (by decide) (E.pickF f96 rfl rfl) fun a97 f97 => ?_
          clear f96 a95
          refine L.val f97 wantedN rfl (by decide) (E.move f97 rfl) fun a98 f98 => ?_
          clear f97 a97
          refine L.val f98 (f98.yes rfl rfl) rfl (by decide) (E.move f98 rfl) fun a99 f99 => ?_
          clear f98 a98
          refine L.val f99 (f99.yes rfl rfl) rfl (by decide) (E.move f99 rfl) fun a100 f100 => ?_
          clear f99 a99
          refine L.val f100 (f100.yes rfl rfl) rfl (by decide) (E.indexA f100 (by first | rfl | assumption) Try.underlying27 wsz35_o rfl rfl (by omega) (by omega)) fun a101 f101 => ?_
          clear f100 a100
          refine L.val f101 (f101.yes rfl rfl) rfl (by decide) (E.fieldAddr f101 Try.underlying35 rfl rfl wsz3_o) fun a102 f102 => ?_
          clear f101 a101
          refine L.val f102 (f102.yes rfl rfl) rfl (by decide) (E.load f102 Try.underlying3 rfl rfl (pk_cell PK.fr.own hA (i := k) (x := x) hx 4 rfl (show off + k * 24 + 4 = _ by omega))) fun a103 f103 => ?_
          clear f102 a102
          refine L.val f103 (f103.yes rfl rfl) rfl (by decide) (E.move f103 rfl) fun a104 f104 => ?_
          clear f103 a103
          refine L.val f104 (f104.yes rfl rfl) rfl (by decide) (E.add f104 rfl rfl (IntWalk.i64_in _ (by omega))) fun a105 f105 => ?_
          clear f104 a104
          refine L.val f105 (f105.yes rfl rfl) rfl (by decide) (E.neq f105 rfl rfl) fun a106 f106 => ?_
          clear f105 a105
          have f107 := f106.as (i := 99) (v' := .bool false) rfl (by exact lit_ne (by omega))
          clear f106
          refine L.val f107 wantedN rfl (by decide) (E.pickF f107 rfl rfl) fun a108 f108 => ?_
          clear f107 a106
          refine L.val f108 wantedN rfl (by decide) (E.move f108 rfl) fun a109 f109 => ?_
          clear f108 a108
          refine L.val f109 (f109.yes rfl rfl) rfl (by decide) (E.move f109 rfl) fun a110 f110 => ?_
          clear f109 a109
          refine L.val f110 (f110.yes rfl rfl) rfl (by decide) (E.move f110 rfl) fun a111 f111 => ?_
          clear f110 a110
          refine L.val f111 (f111.yes rfl rfl) rfl (by decide) (E.indexA f111 (by first | rfl | assumption) Try.underlying27 wsz35_o rfl rfl (by omega) (by omega)) fun a112 f112 => ?_
          clear f111 a111
          refine L.val f112 (f112.yes rfl rfl) rfl (by decide) (E.fieldAddr f112 Try.underlying35 rfl rfl wsz4_o) fun a113 f113 => ?_
          clear f112 a112
          refine L.val f113 (f113.yes rfl rfl) rfl (by decide) (E.load f113 Try.underlying4 rfl rfl (pk_cell PK.fr.own hA (i := k) (x := x) hx 1 rfl (show off + k * 24 + 1 = _ by omega))) fun a114 f114 => ?_
          clear f113 a113
          have f115 := f114.as (i := 106) (v' := .bool false) rfl (by rw [hxd])
          clear f114
          refine L.val f115 wantedN rfl (by decide) (E.pickF f115 rfl rfl) fun a116 f116 => ?_
          clear f115 a114
          refine wpList_nil (hK21 _ _ ?_)
          try clear hK21 K21
          have f117 := f116.sub (sub_cons (i := 5) rfl (sub_cons (i := 6) rfl (sub_cons (i := 7) rfl (sub_cons (i := 8) rfl (sub_cons (i := 10) rfl (sub_cons (i := 66) rfl (sub_cons (i := 67) rfl (sub_cons (i := 68) rfl (sub_cons (i := 69) rfl (sub_cons (i := 72) rfl (sub_cons (i := 73) rfl (sub_cons (i := 74) rfl (sub_cons (i := 75) rfl (sub_cons (i := 76) rfl (sub_cons (i := 77) rfl (sub_cons (i := 78) rfl (sub_cons (i := 79) rfl (sub_cons (i := 80) rfl (sub_cons (i := 81) rfl (sub_cons (i := 82) rfl (sub_cons (i := 83) rfl (sub_cons (i := 84) rfl (sub_cons (i := 85) rfl (sub_cons (i := 86) rfl (sub_cons (i := 87) rfl (sub_cons (i := 88) rfl (sub_cons (i := 89) rfl (sub_cons (i := 90) rfl (sub_cons (i := 91) rfl (sub_cons (i := 92) rfl (sub_cons (i := 93) rfl (sub_cons (i := 94) rfl (sub_cons (i := 95) rfl (sub_cons (i := 96) rfl (sub_cons (i := 97) rfl (sub_cons (i := 98) rfl (sub_cons (i := 99) rfl (sub_cons (i := 100) rfl (sub_cons (i := 101) rfl (sub_cons (i := 102) rfl (sub_cons (i := 103) rfl (sub_cons (i := 104) rfl (sub_cons (i := 105) rfl (sub_cons (i := 106) rfl (sub_cons (i := 107) rfl sub_nil)))))))))))))))))))))))))))))))))))))))))))))
          clear f116
          refine C.condF f117 rfl ?_
          refine wp_skip (hK20 _ _ ?_)
          try clear hK20 K20
          have f118 := f117.sub (sub_cons (i := 5) rfl (sub_cons (i := 6) rfl (sub_cons (i := 7) rfl (sub_cons (i := 8) rfl (sub_cons (i := 10) rfl (sub_cons (i := 66) rfl (sub_cons (i := 67) rfl (sub_cons (i := 68) rfl (sub_cons (i := 69) rfl (sub_cons (i := 72) rfl (sub_cons (i := 73) rfl (sub_cons (i := 74) rfl (sub_cons (i := 75) rfl (sub_cons (i := 76) rfl (sub_cons (i := 77) rfl (sub_cons (i := 78) rfl (sub_cons (i := 79) rfl (sub_cons (i := 80) rfl (sub_cons (i := 81) rfl (sub_cons (i := 82) rfl (sub_cons (i := 83) rfl (sub_cons (i := 84) rfl (sub_cons (i := 85) rfl (sub_cons (i := 86) rfl (sub_cons (i := 87) rfl (sub_cons (i := 88) rfl (sub_cons (i := 89) rfl (sub_cons (i := 90) rfl (sub_cons (i := 91) rfl (sub_cons (i := 92) rfl (sub_cons (i := 93) rfl (sub_cons (i := 94) rfl (sub_cons (i := 95) rfl (sub_cons (i := 96) rfl (sub_cons (i := 97) rfl (sub_cons (i := 98) rfl (sub_cons (i := 99) rfl (sub_cons (i := 100) rfl (sub_cons (i := 101) rfl (sub_cons (i := 102) rfl (sub_cons (i := 103) rfl (sub_cons (i := 104) rfl (sub_cons (i := 105) rfl (sub_cons (i := 106) rfl (sub_cons (i := 107) rfl sub_nil)))))))))))))))))))))))))))))))))))))))))))))
          clear f117
          refine wp_seq_k fun K22 hK22 => ?_
          refine C.region ?_
          refine L.val f118 wantedN rfl (by decide) (E.move f118 rfl) fun a119 f119 => ?_
          clear f118 a116
          refine L.val f119 wantedN rfl (by decide) (E.move f119 rfl) fun a120 f120 => ?_
          clear f119 a119
          refine L.val f120 wantedN rfl (by decide) (E.indexA f120 (by first | rfl | assumption) Try.underlying27 wsz35_o rfl rfl (by omega) (by omega)) fun a121 f121 => ?_
          clear f120 a120
          refine L.val f121 wantedN rfl (by decide) (E.fieldAddr f121 Try.underlying35 rfl rfl wsz3_o) fun a122 f122 => ?_
          clear f121 a121
          refine L.val f122 wantedN rfl (by decide) (E.load f122 Try.underlying3 rfl rfl (pk_cell PK.fr.own hA (i := k) (x := x) hx 4 rfl (show off + k * 24 + 4 = _ by omega))) fun a123 f123 => ?_
          clear f122 a122
          refine L.val f123 wantedN rfl (by decide) (E.build f123 (parts2 f123 rfl rfl) (wbl35_0_4_o _ _)) fun a124 f124 => ?_
          clear f123 a123
          refine L.alloc f124 wantedN (by decide) (z := (.agg #[(.int .i64 0), (.bool false), (.bool false), (.int .i64 0), (.int .i64 0), (.string ⟨#[]⟩), (.slice none 0 0), (.int .i64 0), (.string ⟨#[]⟩), (.bool false), (.int .i64 0), (.bool false), (.string ⟨#[]⟩), (.slice none 0 0), (.int .i64 0), (.bool false), (.bool false), (.bool false), (.string ⟨#[]⟩), (.slice none 0 0), (.bool false), (.int .i64 0), (.slice none 0 0), (.slice none 0 0)])) (fun _ => by kernel_rfl) rfl fun a125 w5 g4 N4 f125 => ?_
          have Bg4 := N4.blk
          have kg4 := N4.kept
          have log4 := N4.lo
          have ltg4 := Bg4.lt
          have szw5 := kg4.size
          have hne_PK_g4 := PK.ne_new log4
          replace HK := blwm HK (.of_kept0 (T := []) (M := []) kg4)
          replace HS := HS.mod (Mod.of_kept0 (T := []) (M := []) (B := (w.heap.size)) kg4) (by decide)
          replace PK := PK.mod (Mod.of_kept0 (T := []) (M := []) (B := (w.heap.size)) kg4) (by decide)
          clear N4 kg4
          clear f124 a124
          refine L.storeR f125 wantedN wsz35_o rfl rfl rfl Bg4 rfl rfl fun a126 w6 f126 NB6 ks6 => ?_
          have szw6 := ks6.size
          replace HK := blwm HK (Mod.of_blk1 (M := []) ks6 Bg4 (by omega))
          replace HS := HS.mod (Mod.of_blk1 (M := []) (B := (w.heap.size)) ks6 Bg4 (by omega)) (by decide)
          replace PK := PK.kept1 ks6 hne_PK_g4 Bg4 (by omega)
          replace Bg4 := NB6
          clear ks6 f125 a125
          refine wpList_nil (hK22 _ _ ?_)
          try clear hK22 K22
          have f127 := f126.sub (sub_cons (i := 5) rfl (sub_cons (i := 6) rfl (sub_cons (i := 7) rfl (sub_cons (i := 8) rfl (sub_cons (i := 10) rfl (sub_cons (i := 11) rfl (sub_cons (i := 66) rfl (sub_cons (i := 67) rfl (sub_cons (i := 68) rfl (sub_cons (i := 69) rfl (sub_cons (i := 72) rfl (sub_cons (i := 73) rfl (sub_cons (i := 74) rfl (sub_cons (i := 75) rfl (sub_cons (i := 76) rfl (sub_cons (i := 77) rfl (sub_cons (i := 78) rfl (sub_cons (i := 79) rfl (sub_cons (i := 80) rfl (sub_cons (i := 81) rfl (sub_cons (i := 82) rfl (sub_cons (i := 83) rfl (sub_cons (i := 84) rfl (sub_cons (i := 85) rfl (sub_cons (i := 86) rfl (sub_cons (i := 87) rfl (sub_cons (i := 88) rfl (sub_cons (i := 89) rfl (sub_cons (i := 90) rfl (sub_cons (i := 91) rfl (sub_cons (i := 92) rfl (sub_cons (i := 93) rfl (sub_cons (i := 94) rfl (sub_cons (i := 95) rfl (sub_cons (i := 96) rfl (sub_cons (i := 97) rfl (sub_cons (i := 98) rfl (sub_cons (i := 99) rfl (sub_cons (i := 100) rfl (sub_cons (i := 101) rfl (sub_cons (i := 102) rfl (sub_cons (i := 103) rfl (sub_cons (i := 104) rfl (sub_cons (i := 105) rfl (sub_cons (i := 106) rfl (sub_cons (i := 107) rfl (sub_cons (i := 108) rfl (sub_cons (i := 109) rfl (sub_cons (i := 110) rfl (sub_cons (i := 111) rfl (sub_cons (i := 112) rfl (sub_cons (i := 113) rfl sub_nil))))))))))))))))))))))))))))))))))))))))))))))))))))
          clear f126
          refine wp_seq_k fun K23 hK23 => ?_
          refine wp_seq_k fun K24 hK24 => ?_
          refine C.region ?_
          refine L.val f127 wantedN rfl (by decide) (E.move f127 rfl) fun a128 f128 => ?_
          clear f127 a126
          refine L.val f128 wantedN rfl (by decide) (E.eql f128 rfl rfl) fun a129 f129 => ?_
          clear f128 a128
          refine wpList_nil (hK24 _ _ ?_)
          try clear hK24 K24
          have f130 := f129.sub (sub_cons (i := 5) rfl (sub_cons (i := 6) rfl (sub_cons (i := 7) rfl (sub_cons (i := 8) rfl (sub_cons (i := 10) rfl (sub_cons (i := 11) rfl (sub_cons (i := 66) rfl (sub_cons (i := 67) rfl (sub_cons (i := 68) rfl (sub_cons (i := 69) rfl (sub_cons (i := 72) rfl (sub_cons (i := 73) rfl (sub_cons (i := 74) rfl (sub_cons (i := 75) rfl (sub_cons (i := 76) rfl (sub_cons (i := 77) rfl (sub_cons (i := 78) rfl (sub_cons (i := 79) rfl (sub_cons (i := 80) rfl (sub_cons (i := 81) rfl (sub_cons (i := 82) rfl (sub_cons (i := 83) rfl (sub_cons (i := 84) rfl (sub_cons (i := 85) rfl (sub_cons (i := 86) rfl (sub_cons (i := 87) rfl (sub_cons (i := 88) rfl (sub_cons (i := 89) rfl (sub_cons (i := 90) rfl (sub_cons (i := 91) rfl (sub_cons (i := 92) rfl (sub_cons (i := 93) rfl (sub_cons (i := 94) rfl (sub_cons (i := 95) rfl (sub_cons (i := 96) rfl (sub_cons (i := 97) rfl (sub_cons (i := 98) rfl (sub_cons (i := 99) rfl (sub_cons (i := 100) rfl (sub_cons (i := 101) rfl (sub_cons (i := 102) rfl (sub_cons (i := 103) rfl (sub_cons (i := 104) rfl (sub_cons (i := 105) rfl (sub_cons (i := 106) rfl (sub_cons (i := 107) rfl (sub_cons (i := 108) rfl (sub_cons (i := 109) rfl (sub_cons (i := 110) rfl (sub_cons (i := 111) rfl (sub_cons (i := 112) rfl (sub_cons (i := 113) rfl (sub_cons (i := 114) rfl (sub_cons (i := 115) rfl sub_nil))))))))))))))))))))))))))))))))))))))))))))))))))))))
          clear f129
          first | refine f130.splitD 115 rfl (fun h2 f131 => ?_) (fun h2 f131 => ?_) | refine f130.splitN 115 rfl (fun h2 f131 => ?_) (fun h2 f131 => ?_) | refine f130.splitNB 115 rfl (fun h2 f131 => ?_) (fun h2 f131 => ?_) | refine f130.split 115 rfl (fun h2 f131 => ?_) (fun h2 f131 => ?_)
          · clear f130
            have hq2 := h2
            refine C.condT f131 rfl ?_
            refine wp_seq_k fun K25 hK25 => ?_
            refine wp_seq_k fun K26 hK26 => ?_
            refine C.region ?_
            refine L.val f131 wantedN rfl (by decide) (E.move f131 rfl) fun a132 f132 => ?_
            clear f131 a129
            refine L.val f132 wantedN rfl (by decide) (E.move f132 rfl) fun a133 f133 => ?_
            clear f132 a132
            refine L.val f133 wantedN rfl (by decide) (E.move f133 rfl) fun a134 f134 => ?_
            clear f133 a133
            refine L.val f134 wantedN rfl (by decide) (E.indexA f134 (by first | rfl | assumption) Try.underlying27 wsz35_o rfl rfl (by omega) (by omega)) fun a135 f135 => ?_
            clear f134 a134
            refine L.val f135 wantedN rfl (by decide) (E.fieldAddr f135 Try.underlying35 rfl rfl wsz3_o) fun a136 f136 => ?_
            clear f135 a135
            refine L.val f136 wantedN rfl (by decide) (E.load f136 Try.underlying3 rfl rfl (pk_cell PK.fr.own hA (i := k) (x := x) hx 4 rfl (show off + k * 24 + 4 = _ by omega))) fun a137 f137 => ?_
            clear f136 a136
            refine L.val f137 wantedN rfl (by decide) (E.build f137 (parts2 f137 rfl rfl) (wbl35_0_4_o _ _)) fun a138 f138 => ?_
            clear f137 a137
            have hls2 := hls.2 hq2
            have hC := ack_any w.heap.size p u 5 x.p.id 1 #[(.int .i64 5), (.bool false), (.bool false), (.int .i64 0), (.int .i64 x.p.id), (.string ⟨#[]⟩), (.slice none 0 0), (.int .i64 0), (.string ⟨#[]⟩), (.bool false), (.int .i64 0), (.bool false), (.string ⟨#[]⟩), (.slice none 0 0), (.int .i64 0), (.bool false), (.bool false), (.bool false), (.string ⟨#[]⟩), (.slice none 0 0), (.bool false), (.int .i64 0), (.slice none 0 0), (.slice none 0 0)] rfl rfl w6 HS HK.size
            refine L.call f138 wantedN rfl (by decide) (run_call Try.call13 (args3 f138 rfl rfl rfl)) hC ?_
            rintro e w7 ⟨u1, A1, c1, pk1, rfl, HS1, hr1, hL1, kc7, PK1, -⟩
            obtain ⟨S1, Y1, hq1, hk1, hlo1⟩ := hls2
            rw [hq1] at hr1
            injection hr1 with hab1 hp1
            obtain ⟨y1, rfl, hy1⟩ := one_of hp1
            refine ⟨_, rfl, fun a139 f139 => ?_⟩
            clear f138 a138
            have szw7 := kc7.size
            replace HK := blwm HK kc7
            replace PK := PK.mod kc7 (by decide)
            replace Bg4 := Bg4.mod kc7 (by decide)
            clear kc7
            refine L.val f139 wantedN rfl (by decide) (E.assign f139 rfl) fun a140 f140 => ?_
            clear f139 a139
            refine wpList_nil (hK26 _ _ ?_)
            try clear hK26 K26
            have f141 := f140.sub (sub_cons (i := 5) rfl (sub_cons (i := 6) rfl (sub_cons (i := 7) rfl (sub_cons (i := 8) rfl (sub_cons (i := 10) rfl (sub_cons (i := 11) rfl (sub_cons (i := 12) rfl (sub_cons (i := 66) rfl (sub_cons (i := 67) rfl (sub_cons (i := 68) rfl (sub_cons (i := 69) rfl (sub_cons (i := 72) rfl (sub_cons (i := 73) rfl (sub_cons (i := 74) rfl (sub_cons (i := 75) rfl (sub_cons (i := 76) rfl (sub_cons (i := 77) rfl (sub_cons (i := 78) rfl (sub_cons (i := 79) rfl (sub_cons (i := 80) rfl (sub_cons (i := 81) rfl (sub_cons (i := 82) rfl (sub_cons (i := 83) rfl (sub_cons (i := 84) rfl (sub_cons (i := 85) rfl (sub_cons (i := 86) rfl (sub_cons (i := 87) rfl (sub_cons (i := 88) rfl (sub_cons (i := 89) rfl (sub_cons (i := 90) rfl (sub_cons (i := 91) rfl (sub_cons (i := 92) rfl (sub_cons (i := 93) rfl (sub_cons (i := 94) rfl (sub_cons (i := 95) rfl (sub_cons (i := 96) rfl (sub_cons (i := 97) rfl (sub_cons (i := 98) rfl (sub_cons (i := 99) rfl (sub_cons (i := 100) rfl (sub_cons (i := 101) rfl (sub_cons (i := 102) rfl (sub_cons (i := 103) rfl (sub_cons (i := 104) rfl (sub_cons (i := 105) rfl (sub_cons (i := 106) rfl (sub_cons (i := 107) rfl (sub_cons (i := 108) rfl (sub_cons (i := 109) rfl (sub_cons (i := 110) rfl (sub_cons (i := 111) rfl (sub_cons (i := 112) rfl (sub_cons (i := 113) rfl (sub_cons (i := 114) rfl (sub_cons (i := 115) rfl (sub_cons (i := 116) rfl (sub_cons (i := 117) rfl (sub_cons (i := 118) rfl (sub_cons (i := 119) rfl (sub_cons (i := 120) rfl (sub_cons (i := 121) rfl (sub_cons (i := 122) rfl (sub_cons (i := 123) rfl sub_nil)))))))))))))))))))))))))))))))))))))))))))))))))))))))))))))))
            clear f140
            refine wp_seq_k fun K27 hK27 => ?_
            obtain ⟨b1, o1, hA1⟩ := (Sl.of_own PK1.fr.own).addr (by simp)
            refine C.region ?_
            refine L.val f141 wantedN rfl (by decide) (E.move f141 rfl) fun a142 f142 => ?_
            clear f141 a140
            refine L.val f142 wantedN rfl (by decide) (E.lenL f142 Try.underlying27 rfl) fun a143 f143 => ?_
            clear f142 a142
            refine L.val f143 wantedN rfl (by decide) (E.neq f143 rfl rfl) fun a144 f144 => ?_
            clear f143 a143
            have f145 := f144.as (i := 126) (v' := .bool false) rfl (by rfl)
            clear f144
            refine L.val f145 wantedN rfl (by decide) (E.move f145 rfl) fun a146 f146 => ?_
            clear f145 a144
            refine L.val f146 (f146.yes rfl rfl) rfl (by decide) (E.move f146 rfl) fun a147 f147 => ?_
            clear f146 a146
            refine L.val f147 (f147.yes rfl rfl) rfl (by decide) (E.indexA f147 hA1 Try.underlying27 wsz35_o rfl rfl (by decide) (by simp)) fun a148 f148 => ?_
            clear f147 a147
            refine L.val f148 (f148.yes rfl rfl) rfl (by decide) (E.fieldAddr f148 Try.underlying35 rfl rfl wsz3_o) fun a149 f149 => ?_
            clear f148 a148
            refine L.val f149 (f149.yes rfl rfl) rfl (by decide) (E.load f149 Try.underlying3 rfl rfl (pk_cell PK1.fr.own hA1 (i := 0) (x := y1) rfl 0 rfl (show o1 + 0 * 24 + 0 = _ by omega))) fun a150 f150 => ?_
            clear f149 a149
            refine L.val f150 (f150.yes rfl rfl) rfl (by decide) (E.neq f150 rfl rfl) fun a151 f151 => ?_
            clear f150 a150
            have f152 := f151.as (i := 132) (v' := .bool false) rfl (by rw [hy1]; exact lit_ne hk1)
            clear f151
            refine L.val f152 wantedN rfl (by decide) (E.pickF f152 rfl rfl) fun a153 f153 => ?_
            clear f152 a151
            refine wpList_nil (hK27 _ _ ?_)
            try clear hK27 K27
            have f154 := f153.sub (sub_cons (i := 5) rfl (sub_cons (i := 6) rfl (sub_cons (i := 7) rfl (sub_cons (i := 8) rfl (sub_cons (i := 10) rfl (sub_cons (i := 11) rfl (sub_cons (i := 12) rfl (sub_cons (i := 66) rfl (sub_cons (i := 67) rfl (sub_cons (i := 68) rfl (sub_cons (i := 69) rfl (sub_cons (i := 72) rfl (sub_cons (i := 73) rfl (sub_cons (i := 74) rfl (sub_cons (i := 75) rfl (sub_cons (i := 76) rfl (sub_cons (i := 77) rfl (sub_cons (i := 78) rfl (sub_cons (i := 79) rfl (sub_cons (i := 80) rfl (sub_cons (i := 81) rfl (sub_cons (i := 82) rfl (sub_cons (i := 83) rfl (sub_cons (i := 84) rfl (sub_cons (i := 85) rfl (sub_cons (i := 86) rfl (sub_cons (i := 87) rfl (sub_cons (i := 88) rfl (sub_cons (i := 89) rfl (sub_cons (i := 90) rfl (sub_cons (i := 91) rfl (sub_cons (i := 92) rfl (sub_cons (i := 93) rfl (sub_cons (i := 94) rfl (sub_cons (i := 95) rfl (sub_cons (i := 96) rfl (sub_cons (i := 97) rfl (sub_cons (i := 98) rfl (sub_cons (i := 99) rfl (sub_cons (i := 100) rfl (sub_cons (i := 101) rfl (sub_cons (i := 102) rfl (sub_cons (i := 103) rfl (sub_cons (i := 104) rfl (sub_cons (i := 105) rfl (sub_cons (i := 106) rfl (sub_cons (i := 107) rfl (sub_cons (i := 108) rfl (sub_cons (i := 109) rfl (sub_cons (i := 110) rfl (sub_cons (i := 111) rfl (sub_cons (i := 112) rfl (sub_cons (i := 113) rfl (sub_cons (i := 114) rfl (sub_cons (i := 115) rfl (sub_cons (i := 116) rfl (sub_cons (i := 117) rfl (sub_cons (i := 118) rfl (sub_cons (i := 119) rfl (sub_cons (i := 120) rfl (sub_cons (i := 121) rfl (sub_cons (i := 122) rfl (sub_cons (i := 123) rfl (sub_cons (i := 124) rfl (sub_cons (i := 125) rfl (sub_cons (i := 126) rfl (sub_cons (i := 127) rfl (sub_cons (i := 128) rfl (sub_cons (i := 129) rfl (sub_cons (i := 130) rfl (sub_cons (i := 131) rfl (sub_cons (i := 132) rfl (sub_cons (i := 133) rfl sub_nil)))))))))))))))))))))))))))))))))))))))))))))))))))))))))))))))))))))))))
            clear f153
            refine C.condF f154 rfl ?_
            refine wp_skip (hK25 _ _ ?_)
            try clear hK25 K25
            have f155 := f154.sub (sub_cons (i := 5) rfl (sub_cons (i := 6) rfl (sub_cons (i := 7) rfl (sub_cons (i := 8) rfl (sub_cons (i := 10) rfl (sub_cons (i := 11) rfl (sub_cons (i := 12) rfl (sub_cons (i := 66) rfl (sub_cons (i := 67) rfl (sub_cons (i := 68) rfl (sub_cons (i := 69) rfl (sub_cons (i := 72) rfl (sub_cons (i := 73) rfl (sub_cons (i := 74) rfl (sub_cons (i := 75) rfl (sub_cons (i := 76) rfl (sub_cons (i := 77) rfl (sub_cons (i := 78) rfl (sub_cons (i := 79) rfl (sub_cons (i := 80) rfl (sub_cons (i := 81) rfl (sub_cons (i := 82) rfl (sub_cons (i := 83) rfl (sub_cons (i := 84) rfl (sub_cons (i := 85) rfl (sub_cons (i := 86) rfl (sub_cons (i := 87) rfl (sub_cons (i := 88) rfl (sub_cons (i := 89) rfl (sub_cons (i := 90) rfl (sub_cons (i := 91) rfl (sub_cons (i := 92) rfl (sub_cons (i := 93) rfl (sub_cons (i := 94) rfl (sub_cons (i := 95) rfl (sub_cons (i := 96) rfl (sub_cons (i := 97) rfl (sub_cons (i := 98) rfl (sub_cons (i := 99) rfl (sub_cons (i := 100) rfl (sub_cons (i := 101) rfl (sub_cons (i := 102) rfl (sub_cons (i := 103) rfl (sub_cons (i := 104) rfl (sub_cons (i := 105) rfl (sub_cons (i := 106) rfl (sub_cons (i := 107) rfl (sub_cons (i := 108) rfl (sub_cons (i := 109) rfl (sub_cons (i := 110) rfl (sub_cons (i := 111) rfl (sub_cons (i := 112) rfl (sub_cons (i := 113) rfl (sub_cons (i := 114) rfl (sub_cons (i := 115) rfl (sub_cons (i := 116) rfl (sub_cons (i := 117) rfl (sub_cons (i := 118) rfl (sub_cons (i := 119) rfl (sub_cons (i := 120) rfl (sub_cons (i := 121) rfl (sub_cons (i := 122) rfl (sub_cons (i := 123) rfl (sub_cons (i := 124) rfl (sub_cons (i := 125) rfl (sub_cons (i := 126) rfl (sub_cons (i := 127) rfl (sub_cons (i := 128) rfl (sub_cons (i := 129) rfl (sub_cons (i := 130) rfl (sub_cons (i := 131) rfl (sub_cons (i := 132) rfl (sub_cons (i := 133) rfl sub_nil)))))))))))))))))))))))))))))))))))))))))))))))))))))))))))))))))))))))))
            clear f154
            refine C.region ?_
            refine L.val f155 wantedN rfl (by decide) (E.fieldAddr f155 Try.underlying35 rfl rfl wsz3_o) fun a156 f156 => ?_
            clear f155 a153
            refine L.store f156 wantedN wsz3_o rfl rfl rfl Bg4 (by first | decide | (simp [Value.cells]; done)) fun a157 w8 f157 NB8 ks8 => ?_
            have szw8 := ks8.size
            replace HK := blwm HK (Mod.of_blk1 (M := []) ks8 Bg4 (by omega))
            replace PK := PK.kept1 ks8 hne_PK_g4 Bg4 (by omega)
            replace HS1 := HS1.mod (Mod.of_blk1 (M := []) (B := (w.heap.size)) ks8 Bg4 (by omega)) (by decide)
            replace Bg4 := NB8
            simp only [Value.cells, List.setIfInBounds_toArray, List.set_cons_zero, List.set_cons_succ, Nat.reduceAdd, Nat.zero_add] at Bg4
            clear ks8 f156 a156
            refine wpList_nil (hK23 _ _ ?_)
            try clear hK23 K23
            have f158 := f157.sub (sub_cons (i := 5) rfl (sub_cons (i := 6) rfl (sub_cons (i := 7) rfl (sub_cons (i := 8) rfl (sub_cons (i := 10) rfl (sub_cons (i := 11) rfl (sub_cons (i := 12) rfl (sub_cons (i := 66) rfl (sub_cons (i := 67) rfl (sub_cons (i := 68) rfl (sub_cons (i := 69) rfl (sub_cons (i := 72) rfl (sub_cons (i := 73) rfl (sub_cons (i := 74) rfl (sub_cons (i := 75) rfl (sub_cons (i := 76) rfl (sub_cons (i := 77) rfl (sub_cons (i := 78) rfl (sub_cons (i := 79) rfl (sub_cons (i := 80) rfl (sub_cons (i := 81) rfl (sub_cons (i := 82) rfl (sub_cons (i := 83) rfl (sub_cons (i := 84) rfl (sub_cons (i := 85) rfl (sub_cons (i := 86) rfl (sub_cons (i := 87) rfl (sub_cons (i := 88) rfl (sub_cons (i := 89) rfl (sub_cons (i := 90) rfl (sub_cons (i := 91) rfl (sub_cons (i := 92) rfl (sub_cons (i := 93) rfl (sub_cons (i := 94) rfl (sub_cons (i := 95) rfl (sub_cons (i := 96) rfl (sub_cons (i := 97) rfl (sub_cons (i := 98) rfl (sub_cons (i := 99) rfl (sub_cons (i := 100) rfl (sub_cons (i := 101) rfl (sub_cons (i := 102) rfl (sub_cons (i := 103) rfl (sub_cons (i := 104) rfl (sub_cons (i := 105) rfl (sub_cons (i := 106) rfl (sub_cons (i := 107) rfl (sub_cons (i := 108) rfl (sub_cons (i := 109) rfl (sub_cons (i := 110) rfl (sub_cons (i := 111) rfl (sub_cons (i := 112) rfl (sub_cons (i := 113) rfl (sub_cons (i := 114) rfl (sub_cons (i := 115) rfl (sub_cons (i := 116) rfl (sub_cons (i := 117) rfl (sub_cons (i := 118) rfl (sub_cons (i := 119) rfl (sub_cons (i := 120) rfl (sub_cons (i := 121) rfl (sub_cons (i := 122) rfl (sub_cons (i := 123) rfl (sub_cons (i := 124) rfl (sub_cons (i := 125) rfl (sub_cons (i := 126) rfl (sub_cons (i := 127) rfl (sub_cons (i := 128) rfl (sub_cons (i := 129) rfl (sub_cons (i := 130) rfl (sub_cons (i := 131) rfl (sub_cons (i := 132) rfl (sub_cons (i := 133) rfl (sub_cons (i := 134) rfl sub_nil))))))))))))))))))))))))))))))))))))))))))))))))))))))))))))))))))))))))))
            clear f157
            refine C.region ?_
            refine L.val f158 wantedN rfl (by decide) (E.move f158 rfl) fun a159 f159 => ?_
            clear f158 a157
            refine L.val f159 wantedN rfl (by decide) (E.move f159 rfl) fun a160 f160 => ?_
            clear f159 a159
            refine L.val f160 wantedN rfl (by decide) (by exact E.loadB f160 Try.underlying35 rfl wsz35_o rfl (Bg4) rfl) fun a161 f161 => ?_
            clear f160 a160
            have hC := ack_any w.heap.size p u1 7 x.p.id 1 #[(.int .i64 7), (.bool false), (.bool false), (.int .i64 0), (.int .i64 x.p.id), (.string ⟨#[]⟩), (.slice none 0 0), (.int .i64 0), (.string ⟨#[]⟩), (.bool false), (.int .i64 0), (.bool false), (.string ⟨#[]⟩), (.slice none 0 0), (.int .i64 0), (.bool false), (.bool false), (.bool false), (.string ⟨#[]⟩), (.slice none 0 0), (.bool false), (.int .i64 0), (.slice none 0 0), (.slice none 0 0)] rfl rfl w8 HS1 HK.size
            rw [hab1] at hC
            refine L.call f161 wantedN rfl (by decide) (run_call Try.call13 (args3 f161 rfl rfl rfl)) hC ?_
            rintro e w9 ⟨u3, A3, c3, pkn, rfl, HSn, hrn, hL3, kc9, PKr, hl3⟩
            have szk := HK.size
            replace PKr := PKr.lower (w1 := w) szk
            refine ⟨_, rfl, fun a162 f162 => ?_⟩
            clear f161 a161
            have szw9 := kc9.size
            replace HK := blwm HK kc9
            replace PK := PK.mod kc9 (by decide)
            replace Bg4 := Bg4.mod kc9 (by decide)
            clear kc9
            refine L.append f162 wantedN (by decide) Try.underlying27 wzib35_o rfl rfl rfl rfl (PK.fr.own) (PKr.fr.sl) (pcells_one _) (by unfold maxLen; omega) (by omega) fun a163 w10 A4 c4 AP10 f163 => ?_
            clear f162 a162
            have kap10 : Mod [35] [] w.heap.size w9 w10 := .of_app AP10 PK.fr.own PK.fr.from (by simp)
            have PK2 := PK.app AP10 HK.size (Nat.le_refl _) PKr.pay
            have szw10 := kap10.size
            replace HK := blwm HK kap10
            replace HSn := HSn.mod kap10 (by decide)
            clear kap10
            refine L.val f163 wantedN rfl (by decide) (E.assign f163 rfl) fun a164 f164 => ?_
            clear f163 a163
            refine wpList_nil (hK19 _ _ ?_)
            try clear hK19 K19
            have f165 := f164.sub (sub_cons (i := 5) rfl (sub_cons (i := 6) rfl (sub_cons (i := 7) rfl (sub_cons (i := 8) rfl (sub_cons (i := 10) rfl (sub_cons (i := 11) rfl (sub_cons (i := 12) rfl (sub_cons (i := 66) rfl (sub_cons (i := 67) rfl (sub_cons (i := 68) rfl (sub_cons (i := 69) rfl (sub_cons (i := 72) rfl (sub_cons (i := 73) rfl (sub_cons (i := 74) rfl (sub_cons (i := 75) rfl (sub_cons (i := 76) rfl (sub_cons (i := 77) rfl (sub_cons (i := 78) rfl (sub_cons (i := 79) rfl (sub_cons (i := 80) rfl (sub_cons (i := 81) rfl (sub_cons (i := 82) rfl (sub_cons (i := 83) rfl (sub_cons (i := 84) rfl (sub_cons (i := 85) rfl (sub_cons (i := 86) rfl (sub_cons (i := 87) rfl (sub_cons (i := 88) rfl (sub_cons (i := 89) rfl (sub_cons (i := 90) rfl (sub_cons (i := 91) rfl (sub_cons (i := 92) rfl (sub_cons (i := 93) rfl (sub_cons (i := 94) rfl (sub_cons (i := 95) rfl (sub_cons (i := 96) rfl (sub_cons (i := 97) rfl (sub_cons (i := 98) rfl (sub_cons (i := 99) rfl (sub_cons (i := 100) rfl (sub_cons (i := 101) rfl (sub_cons (i := 102) rfl (sub_cons (i := 103) rfl (sub_cons (i := 104) rfl (sub_cons (i := 105) rfl (sub_cons (i := 106) rfl (sub_cons (i := 107) rfl (sub_cons (i := 108) rfl (sub_cons (i := 109) rfl (sub_cons (i := 110) rfl (sub_cons (i := 111) rfl (sub_cons (i := 112) rfl (sub_cons (i := 113) rfl (sub_cons (i := 114) rfl (sub_cons (i := 115) rfl (sub_cons (i := 116) rfl (sub_cons (i := 117) rfl (sub_cons (i := 118) rfl (sub_cons (i := 119) rfl (sub_cons (i := 120) rfl (sub_cons (i := 121) rfl (sub_cons (i := 122) rfl (sub_cons (i := 123) rfl (sub_cons (i := 124) rfl (sub_cons (i := 125) rfl (sub_cons (i := 126) rfl (sub_cons (i := 127) rfl (sub_cons (i := 128) rfl (sub_cons (i := 129) rfl (sub_cons (i := 130) rfl (sub_cons (i := 131) rfl (sub_cons (i := 132) rfl (sub_cons (i := 133) rfl (sub_cons (i := 134) rfl (sub_cons (i := 135) rfl (sub_cons (i := 136) rfl (sub_cons (i := 137) rfl (sub_cons (i := 138) rfl (sub_cons (i := 139) rfl sub_nil)))))))))))))))))))))))))))))))))))))))))))))))))))))))))))))))))))))))))))))))
            clear f164
            refine C.region ?_
            refine L.val f165 wantedN rfl (by decide) (E.move f165 rfl) fun a166 f166 => ?_
            clear f165 a164
            refine L.val f166 wantedN rfl (by decide) (E.add f166 rfl rfl (IntWalk.i64_in _ (by omega))) fun a167 f167 => ?_
            clear f166 a166
            refine L.val f167 wantedN rfl (by decide) (E.assign f167 rfl) fun a168 f168 => ?_
            clear f167 a167
            refine wpList_nil (hKL16 _ _ (gk17 - 1) ?_ ?_)
            · omega
            · exact ⟨k + 1, u3, A4, c4, pks ++ pkn, by omega, HSn, los_two hlo1 hrn, by simp; omega, PK2, HK, by simpa using f168.sub (sub_cons rfl (sub_cons rfl (sub_cons rfl (sub_cons rfl (sub_cons rfl sub_nil)))))⟩
          · clear f130
            have hq2 := h2
            refine C.condF f131 rfl ?_
            refine wp_skip (hK23 _ _ ?_)
            try clear hK23 K23
            have f132 := f131.sub (sub_cons (i := 5) rfl (sub_cons (i := 6) rfl (sub_cons (i := 7) rfl (sub_cons (i := 8) rfl (sub_cons (i := 10) rfl (sub_cons (i := 11) rfl (sub_cons (i := 66) rfl (sub_cons (i := 67) rfl (sub_cons (i := 68) rfl (sub_cons (i := 69) rfl (sub_cons (i := 72) rfl (sub_cons (i := 73) rfl (sub_cons (i := 74) rfl (sub_cons (i := 75) rfl (sub_cons (i := 76) rfl (sub_cons (i := 77) rfl (sub_cons (i := 78) rfl (sub_cons (i := 79) rfl (sub_cons (i := 80) rfl (sub_cons (i := 81) rfl (sub_cons (i := 82) rfl (sub_cons (i := 83) rfl (sub_cons (i := 84) rfl (sub_cons (i := 85) rfl (sub_cons (i := 86) rfl (sub_cons (i := 87) rfl (sub_cons (i := 88) rfl (sub_cons (i := 89) rfl (sub_cons (i := 90) rfl (sub_cons (i := 91) rfl (sub_cons (i := 92) rfl (sub_cons (i := 93) rfl (sub_cons (i := 94) rfl (sub_cons (i := 95) rfl (sub_cons (i := 96) rfl (sub_cons (i := 97) rfl (sub_cons (i := 98) rfl (sub_cons (i := 99) rfl (sub_cons (i := 100) rfl (sub_cons (i := 101) rfl (sub_cons (i := 102) rfl (sub_cons (i := 103) rfl (sub_cons (i := 104) rfl (sub_cons (i := 105) rfl (sub_cons (i := 106) rfl (sub_cons (i := 107) rfl (sub_cons (i := 108) rfl (sub_cons (i := 109) rfl (sub_cons (i := 110) rfl (sub_cons (i := 111) rfl (sub_cons (i := 112) rfl (sub_cons (i := 113) rfl (sub_cons (i := 114) rfl (sub_cons (i := 115) rfl sub_nil))))))))))))))))))))))))))))))))))))))))))))))))))))))
            clear f131
            refine C.region ?_
            refine L.val f132 wantedN rfl (by decide) (E.move f132 rfl) fun a133 f133 => ?_
            clear f132 a129
            refine L.val f133 wantedN rfl (by decide) (E.move f133 rfl) fun a134 f134 => ?_
            clear f133 a133
            refine L.val f134 wantedN rfl (by decide) (by exact E.loadB f134 Try.underlying35 rfl wsz35_o rfl (Bg4) rfl) fun a135 f135 => ?_
            clear f134 a134
            have hC := ack_any w.heap.size p u 4 x.p.id 1 #[(.int .i64 4), (.bool false), (.bool false), (.int .i64 0), (.int .i64 x.p.id), (.string ⟨#[]⟩), (.slice none 0 0), (.int .i64 0), (.string ⟨#[]⟩), (.bool false), (.int .i64 0), (.bool false), (.string ⟨#[]⟩), (.slice none 0 0), (.int .i64 0), (.bool false), (.bool false), (.bool false), (.string ⟨#[]⟩), (.slice none 0 0), (.bool false), (.int .i64 0), (.slice none 0 0), (.slice none 0 0)] rfl rfl w6 HS HK.size
            have hls1 := hls.1 hq2
            refine L.call f135 wantedN rfl (by decide) (run_call Try.call13 (args3 f135 rfl rfl rfl)) hC ?_
            rintro e w7 ⟨u3, A3, c3, pkn, rfl, HSn, hrn, hL3, kc7, PKr, hl3⟩
            have szk := HK.size
            replace PKr := PKr.lower (w1 := w) szk
            refine ⟨_, rfl, fun a136 f136 => ?_⟩
            clear f135 a135
            have szw7 := kc7.size
            replace HK := blwm HK kc7
            replace PK := PK.mod kc7 (by decide)
            replace Bg4 := Bg4.mod kc7 (by decide)
            clear kc7
            refine L.append f136 wantedN (by decide) Try.underlying27 wzib35_o rfl rfl rfl rfl (PK.fr.own) (PKr.fr.sl) (pcells_one _) (by unfold maxLen; omega) (by omega) fun a137 w8 A4 c4 AP8 f137 => ?_
            clear f136 a136
            have kap8 : Mod [35] [] w.heap.size w7 w8 := .of_app AP8 PK.fr.own PK.fr.from (by simp)
            have PK2 := PK.app AP8 HK.size (Nat.le_refl _) PKr.pay
            have szw8 := kap8.size
            replace HK := blwm HK kap8
            replace HSn := HSn.mod kap8 (by decide)
            clear kap8
            refine L.val f137 wantedN rfl (by decide) (E.assign f137 rfl) fun a138 f138 => ?_
            clear f137 a137
            refine wpList_nil (hK19 _ _ ?_)
            try clear hK19 K19
            have f139 := f138.sub (sub_cons (i := 5) rfl (sub_cons (i := 6) rfl (sub_cons (i := 7) rfl (sub_cons (i := 8) rfl (sub_cons (i := 10) rfl (sub_cons (i := 11) rfl (sub_cons (i := 66) rfl (sub_cons (i := 67) rfl (sub_cons (i := 68) rfl (sub_cons (i := 69) rfl (sub_cons (i := 72) rfl (sub_cons (i := 73) rfl (sub_cons (i := 74) rfl (sub_cons (i := 75) rfl (sub_cons (i := 76) rfl (sub_cons (i := 77) rfl (sub_cons (i := 78) rfl (sub_cons (i := 79) rfl (sub_cons (i := 80) rfl (sub_cons (i := 81) rfl (sub_cons (i := 82) rfl (sub_cons (i := 83) rfl (sub_cons (i := 84) rfl (sub_cons (i := 85) rfl (sub_cons (i := 86) rfl (sub_cons (i := 87) rfl (sub_cons (i := 88) rfl (sub_cons (i := 89) rfl (sub_cons (i := 90) rfl (sub_cons (i := 91) rfl (sub_cons (i := 92) rfl (sub_cons (i := 93) rfl (sub_cons (i := 94) rfl (sub_cons (i := 95) rfl (sub_cons (i := 96) rfl (sub_cons (i := 97) rfl (sub_cons (i := 98) rfl (sub_cons (i := 99) rfl (sub_cons (i := 100) rfl (sub_cons (i := 101) rfl (sub_cons (i := 102) rfl (sub_cons (i := 103) rfl (sub_cons (i := 104) rfl (sub_cons (i := 105) rfl (sub_cons (i := 106) rfl (sub_cons (i := 107) rfl (sub_cons (i := 108) rfl (sub_cons (i := 109) rfl (sub_cons (i := 110) rfl (sub_cons (i := 111) rfl (sub_cons (i := 112) rfl (sub_cons (i := 113) rfl (sub_cons (i := 114) rfl (sub_cons (i := 115) rfl (sub_cons (i := 135) rfl (sub_cons (i := 136) rfl (sub_cons (i := 137) rfl (sub_cons (i := 138) rfl (sub_cons (i := 139) rfl sub_nil)))))))))))))))))))))))))))))))))))))))))))))))))))))))))))
            clear f138
            refine C.region ?_
            refine L.val f139 wantedN rfl (by decide) (E.move f139 rfl) fun a140 f140 => ?_
            clear f139 a138
            refine L.val f140 wantedN rfl (by decide) (E.add f140 rfl rfl (IntWalk.i64_in _ (by omega))) fun a141 f141 => ?_
            clear f140 a140
            refine L.val f141 wantedN rfl (by decide) (E.assign f141 rfl) fun a142 f142 => ?_
            clear f141 a141
            refine wpList_nil (hKL16 _ _ (gk17 - 1) ?_ ?_)
            · omega
            · exact ⟨k + 1, u3, A4, c4, pks ++ pkn, by omega, HSn, los_one hls1 hrn, by simp; omega, PK2, HK, by simpa using f142.sub (sub_cons rfl (sub_cons rfl (sub_cons rfl (sub_cons rfl (sub_cons rfl sub_nil)))))⟩
        · clear f74
          have hend := h1
          have hfin := los_end hlos (by rw [List.length_map]; omega)
          rw [List.length_map] at hfin
          have hf0 : u.fly.length = 0 := by rw [fly_of rfl]; exact hfin.2.1
          have hw0 : u.wait.length = 0 := by rw [wait_of rfl]; exact hfin.2.2
          refine C.condF f75 rfl ?_
          refine wp_exit (hK14 _ _ ?_)
          try clear hK14 K14
          have f76 := f75.sub (sub_cons (i := 5) rfl (sub_cons (i := 6) rfl (sub_cons (i := 8) rfl sub_nil)))
          clear f75
          refine wp_seq_k fun K28 hK28 => ?_
          refine C.region ?_
          refine L.val f76 wantedN rfl (by decide) (E.move f76 rfl) fun a77 f77 => ?_
          clear f76 a73
          refine L.val f77 wantedN rfl (by decide) (E.lenL f77 Try.underlying27 rfl) fun a78 f78 => ?_
          clear f77 a77
          refine L.val f78 wantedN rfl (by decide) (E.move f78 rfl) fun a79 f79 => ?_
          clear f78 a78
          refine L.val f79 wantedN rfl (by decide) (E.min f79 rfl rfl) fun a80 f80 => ?_
          clear f79 a79
          refine L.val f80 wantedN rfl (by decide) (E.eql f80 rfl rfl) fun a81 f81 => ?_
          clear f80 a80
          have f82 := f81.as (i := 144) (v' := .bool true) rfl (by exact lit_eq (by omega))
          clear f81
          refine L.val f82 wantedN rfl (by decide) (E.move f82 rfl) fun a83 f83 => ?_
          clear f82 a81
          refine L.val f83 (f83.yes rfl rfl) rfl (by decide) (E.move f83 rfl) fun a84 f84 => ?_
          clear f83 a83
          refine L.call f84 (f84.yes rfl rfl) rfl (by decide) (run_call Try.call14 (args1 f84 rfl)) (flying_any p u.fly.length u.fc u.FA _ _ _ _ _ _ HS.top) ?_
          rintro e w4x ⟨rfl, rfl⟩
          refine ⟨_, rfl, fun a85 f85 => ?_⟩
          clear f84 a84
          refine L.val f85 (f85.yes rfl rfl) rfl (by decide) (E.eql f85 rfl rfl) fun a86 f86 => ?_
          clear f85 a85
          have f87 := f86.as (i := 148) (v' := .bool true) rfl (by exact lit_eq (by omega))
          clear f86
          refine L.val f87 wantedN rfl (by decide) (E.pickT f87 rfl rfl) fun a88 f88 => ?_
          clear f87 a86
          refine L.val f88 wantedN rfl (by decide) (E.move f88 rfl) fun a89 f89 => ?_
          clear f88 a88
          refine L.val f89 (f89.yes rfl rfl) rfl (by decide) (E.move f89 rfl) fun a90 f90 => ?_
          clear f89 a89
          refine L.call f90 (f90.yes rfl rfl) rfl (by decide) (run_call Try.call16 (args1 f90 rfl)) (waiting_any p u.q u.wait.length u.qc u.QA _ u.lost _ _ _ _ _ _ HS.top HS.qu.top) ?_
          rintro e w4x ⟨rfl, rfl⟩
          refine ⟨_, rfl, fun a91 f91 => ?_⟩
          clear f90 a90
          refine L.val f91 (f91.yes rfl rfl) rfl (by decide) (E.eql f91 rfl rfl) fun a92 f92 => ?_
          clear f91 a91
          have f93 := f92.as (i := 153) (v' := .bool true) rfl (by exact lit_eq (by omega))
          clear f92
          refine L.val f93 wantedN rfl (by decide) (E.pickT f93 rfl rfl) fun a94 f94 => ?_
          clear f93 a92
          refine L.val f94 wantedN rfl (by decide) (E.assign f94 rfl) fun a95 f95 => ?_
          clear f94 a94
          refine wpList_nil (hK28 _ _ ?_)
          try clear hK28 K28
          have f96 := f95.sub (sub_cons (i := 4) rfl sub_nil)
          clear f95
          refine wp_ret ?_
          try simp only [Exit.inBlock, Exit.then]
          refine C.ret (P := Try.prog) (fn := Try.f5) f96 rfl rfl ?_
          exact ⟨rfl, HK⟩

end Go.Proofs.Ytdfllmiokgoekaa
