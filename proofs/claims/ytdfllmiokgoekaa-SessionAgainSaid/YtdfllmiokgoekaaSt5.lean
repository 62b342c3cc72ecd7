/- SessionAcks: the walk. -/
import Derived.Test.YtdfllmiokgoekaaSs
set_option linter.all false
namespace Go.Proofs.Ytdfllmiokgoekaa
open Go.RowKit Go.Hub
theorem wsz3_r : (Try.prog.info? 3).map (·.size) = some 1 := by kernel_rfl
theorem wsz35_r : (Try.prog.info? 35).map (·.size) = some 24 := by kernel_rfl
theorem wbl35_0_4_r (x0 : Int) (x1 : Int) : Try.prog.built 35 [(0, .int .i64 x0), (4, .int .i64 x1)] = some #[.int .i64 x0, (.bool false), (.bool false), (.int .i64 0), .int .i64 x1, (.string ⟨#[]⟩), (.slice none 0 0), (.int .i64 0), (.string ⟨#[]⟩), (.bool false), (.int .i64 0), (.bool false), (.string ⟨#[]⟩), (.slice none 0 0), (.int .i64 0), (.bool false), (.bool false), (.bool false), (.string ⟨#[]⟩), (.slice none 0 0), (.bool false), (.int .i64 0), (.slice none 0 0), (.slice none 0 0)] := by kernel_rfl

def thereB (pks : List Pc) (id : Int) (k : Nat) : Bool := (pks.take k).any fun x => decide (x.p.id = id)
def thereI (l : List Pa) (id : Int) : Bool := l.any fun x => decide (x.id = id)
theorem there_old {pks : List Pc} {id : Int} {k : Nat} (h : thereB pks id k = true) : thereB pks id (k + 1) = true := by
  unfold thereB at h ⊢
  rw [List.any_eq_true] at h ⊢
  obtain ⟨x, hx, h⟩ := h
  exact ⟨x, List.mem_of_mem_take (i := k) (by rwa [List.take_take, Nat.min_eq_left (by omega)]), h⟩
theorem there_new {pks : List Pc} {id : Int} {k : Nat} {x : Pc} (h : thereB pks id k = false) (hx : pks[k]? = some x) : thereB pks id (k + 1) = decide (x.p.id = id) := by
  unfold thereB at h ⊢
  rw [List.take_succ, hx, List.any_append, h]
  simp
theorem there_all (pks : List Pc) (id : Int) : thereI (pks.map (·.p)) id = thereB pks id pks.length := by
  unfold thereB thereI
  rw [List.take_length, List.any_map]
  rfl
theorem idx_none : ∀ {l : List Int} {id k : Int}, id ∉ l → idxI l id k = -1
  | [], _, _, _ => rfl
  | x :: r, id, k, h => by
    simp only [List.mem_cons, not_or] at h
    rw [idxI, if_neg (Ne.symm h.1), idx_none h.2]
theorem ack_out {S : SA} {kind id now : Int} (h : id ∉ S.fly.map (·.id)) : ackS S kind id now = (S, []) := by
  unfold ackS
  simp only
  rw [idx_none h]
  split
  · rfl
  · rw [if_pos (by decide)]
def acksT (m : Nat) (q : Int) : Bool := Nat.beq (flyS m q).2.length m && Nat.beq (flyS m q).1.fly.length m && decide ((flyS m q).1.fly.map (·.id) = (flyS m q).2.map (·.id)) &&
  (flyS m q).2.all fun x => (List.range 16).all fun kd => (let r := ackS (flyS m q).1 (kd : Nat) x.id 0
    Nat.beq r.2.length (if kd = 5 ∧ q = 2 then 1 else 0) && Nat.beq r.1.fly.length (if kd = 4 ∧ q = 1 then m - 1 else m))
theorem acks_all : ((List.range 5).all fun m => acksT m 1 && acksT m 2) = true := by kernel_rfl
theorem acks_T {m : Nat} {q : Int} (hm : m < 5) (hq : q = 1 ∨ q = 2) : acksT m q = true := by
  have h := List.all_eq_true.1 acks_all m (List.mem_range.2 hm)
  rw [Bool.and_eq_true] at h
  rcases hq with rfl | rfl
  · exact h.1
  · exact h.2
theorem acks_len {m : Nat} {q : Int} (hm : m < 5) (hq : q = 1 ∨ q = 2) : (flyS m q).2.length = m := by
  have h := acks_T hm hq
  unfold acksT at h
  simp only [Bool.and_eq_true] at h
  exact Nat.eq_of_beq_eq_true h.1.1.1
theorem acks_res {m : Nat} {q kd : Int} (hm : m < 5) (hq : q = 1 ∨ q = 2) (hk : 0 ≤ kd ∧ kd < 16) (id : Int) : ∃ S L, ackS (flyS m q).1 kd id 0 = (S, L) ∧ L.length = (if thereI (flyS m q).2 id = true ∧ kd = 5 ∧ q = 2 then 1 else 0) ∧ S.fly.length = (if thereI (flyS m q).2 id = true ∧ kd = 4 ∧ q = 1 then m - 1 else m) ∧ (thereI (flyS m q).2 id = true → 1 ≤ m) := by
  have h := acks_T hm hq
  unfold acksT at h
  simp only [Bool.and_eq_true, decide_eq_true_eq] at h
  obtain ⟨⟨⟨h1, h2⟩, h3⟩, h4⟩ := h
  refine ⟨(ackS (flyS m q).1 kd id 0).1, (ackS (flyS m q).1 kd id 0).2, rfl, ?_⟩
  cases ht : thereI (flyS m q).2 id with
  | false =>
    have hn : id ∉ (flyS m q).1.fly.map (·.id) := by
      rw [h3]
      intro hx
      obtain ⟨x, hx1, hx2⟩ := List.mem_map.1 hx
      have := List.any_eq_false.1 ht x hx1
      simp [hx2] at this
    rw [ack_out hn, if_neg (by simp), if_neg (by simp)]
    exact ⟨rfl, Nat.eq_of_beq_eq_true h2, by simp⟩
  | true =>
    obtain ⟨x, hx1, hx2⟩ := List.any_eq_true.1 ht
    have hx2 : x.id = id := by simpa using hx2
    obtain ⟨k, rfl⟩ : ∃ k : Nat, kd = k := ⟨kd.toNat, by omega⟩
    have h5 := List.all_eq_true.1 (List.all_eq_true.1 h4 x hx1) k (List.mem_range.2 (by omega))
    simp only [Bool.and_eq_true] at h5
    rw [hx2] at h5
    have e1 : ((k : Int) = 5) ↔ k = 5 := by omega
    have e2 : ((k : Int) = 4) ↔ k = 4 := by omega
    simp only [e1, e2, true_and]
    exact ⟨Nat.eq_of_beq_eq_true h5.1, Nat.eq_of_beq_eq_true h5.2, fun _ => by have := List.length_pos_of_mem hx1; have := Nat.eq_of_beq_eq_true h1; omega⟩

set_option maxRecDepth 100000 in
set_option maxHeartbeats 6000000 in
theorem acks_any (n q kd id : Int) (w : World) (hn : 0 ≤ n ∧ n ≤ 255) (hq : 0 ≤ q ∧ q ≤ 255) (hkd : 0 ≤ kd ∧ kd ≤ 255) : Calls Try.prog 4 #[.int .u8 n, .int .u8 q, .int .u8 kd, .int .i64 id] w (fun e w' => e = .returned (.bool true) ∧ Below w.heap.size w w') := by
  have HK : Below w.heap.size w w := Below.refl _ _
  refine C.enter Try.func4 rfl Try.ntmps4 rfl ?_
  intro a0 f0
  have f1 : Fr 105 a0 [(0, .int .u8 n), (1, .int .u8 q), (2, .int .u8 kd), (3, .int .i64 id)] := f0
  clear f0
  refine wp_seq_k fun K0 hK0 => ?_
  refine C.region ?_
  refine L.val f1 wantedN rfl (by decide) (E.assign f1 rfl) fun a2 f2 => ?_
  clear f1 a0
  refine wpList_nil (hK0 _ _ ?_)
  try clear hK0 K0
  have f3 := f2.sub (sub_cons (i := 0) rfl (sub_cons (i := 1) rfl (sub_cons (i := 2) rfl (sub_cons (i := 3) rfl (sub_cons (i := 8) rfl sub_nil)))))
  clear f2
  refine wp_seq_k fun K1 hK1 => ?_
  refine wp_seq_k fun K2 hK2 => ?_
  refine C.region ?_
  refine L.call f3 wantedN rfl (by decide) (run_call Try.call9 (args0 f3)) (known_any _) ?_
  rintro e w1 ⟨rfl, kb⟩
  have kc1 : Mod [] [] w.heap.size w w1 := of_below kb
  refine ⟨_, rfl, fun a4 f4 => ?_⟩
  clear f3 a2
  have szw1 := kc1.size
  replace HK := blwm HK kc1
  clear kc1
  refine L.val f4 wantedN rfl (by decide) (E.not f4 rfl) fun a5 f5 => ?_
  clear f4 a4
  refine wpList_nil (hK2 _ _ ?_)
  try clear hK2 K2
  have f6 := f5.sub (sub_cons (i := 0) rfl (sub_cons (i := 1) rfl (sub_cons (i := 2) rfl (sub_cons (i := 3) rfl (sub_cons (i := 8) rfl (sub_cons (i := 17) rfl sub_nil))))))
  clear f5
  refine C.condF f6 rfl ?_
  refine wp_skip (hK1 _ _ ?_)
  try clear hK1 K1
  have f7 := f6.sub (sub_cons (i := 0) rfl (sub_cons (i := 1) rfl (sub_cons (i := 2) rfl (sub_cons (i := 3) rfl (sub_cons (i := 8) rfl sub_nil)))))
  clear f6
  refine wp_seq_k fun K3 hK3 => ?_
  refine C.region ?_
  refine L.val f7 wantedN rfl (by decide) (E.move f7 rfl) fun a8 f8 => ?_
  clear f7 a5
  refine L.val f8 wantedN rfl (by decide) (E.rem f8 rfl rfl (by omega) (Int.tmod_eq_emod_of_nonneg (by omega))) fun a9 f9 => ?_
  clear f8 a8
  refine L.val f9 wantedN rfl (by decide) (E.conv f9 Try.underlying5 Try.underlying3 rfl (IntWalk.i64_in _ (by omega))) fun a10 f10 => ?_
  clear f9 a9
  refine L.val f10 wantedN rfl (by decide) (E.add f10 rfl rfl (IntWalk.i64_in _ (by omega))) fun a11 f11 => ?_
  clear f10 a10
  refine L.val f11 wantedN rfl (by decide) (E.assign f11 rfl) fun a12 f12 => ?_
  clear f11 a11
  refine wpList_nil (hK3 _ _ ?_)
  try clear hK3 K3
  have f13 := f12.sub (sub_cons (i := 0) rfl (sub_cons (i := 2) rfl (sub_cons (i := 3) rfl (sub_cons (i := 8) rfl (sub_cons (i := 9) rfl sub_nil)))))
  clear f12
  refine wp_seq_k fun K4 hK4 => ?_
  obtain ⟨qos, hqos⟩ : ∃ x : Int, x = q % 2 + 1 := ⟨_, rfl⟩
  rw [← hqos] at f13
  have hq12 : qos = 1 ∨ qos = 2 := by omega
  refine C.region ?_
  refine L.val f13 wantedN rfl (by decide) (E.move f13 rfl) fun a14 f14 => ?_
  clear f13 a12
  refine L.val f14 wantedN rfl (by decide) (E.rem f14 rfl rfl (by omega) (Int.tmod_eq_emod_of_nonneg (by omega))) fun a15 f15 => ?_
  clear f14 a14
  refine L.val f15 wantedN rfl (by decide) (E.conv f15 Try.underlying5 Try.underlying3 rfl (IntWalk.i64_in _ (by omega))) fun a16 f16 => ?_
  clear f15 a15
  refine L.val f16 wantedN rfl (by decide) (E.move f16 rfl) fun a17 f17 => ?_
  clear f16 a16
  obtain ⟨m, hm⟩ : ∃ m : Nat, n % 5 = (m : Int) := ⟨(n % 5).toNat, by omega⟩
  have hm5 : m < 5 := by omega
  rw [hm] at f17
  refine L.call f17 wantedN rfl (by decide) (run_call Try.call12 (args2 f17 rfl rfl)) (flyN_any m qos w.heap.size _ (by omega) HK.size) ?_
  rintro e w2 ⟨p, u, A, c, pks, rfl, HS, hab, hp, PK, kc2⟩
  have szk := HK.size
  replace PK := PK.lower (w1 := w) szk
  replace HK := HK.trans kc2
  refine ⟨_, rfl, fun a18 f18 => ?_⟩
  clear f17 a17
  have szw2 := kc2.size
  clear kc2
  refine L.val f18 wantedN rfl (by decide) (E.move f18 rfl) fun a19 f19 => ?_
  clear f18 a18
  refine L.val f19 wantedN rfl (by decide) (E.extract f19 rfl rfl) fun a20 f20 => ?_
  clear f19 a19
  refine L.val f20 wantedN rfl (by decide) (E.extract f20 rfl rfl) fun a21 f21 => ?_
  clear f20 a20
  refine L.val f21 wantedN rfl (by decide) (E.assign f21 rfl) fun a22 f22 => ?_
  clear f21 a21
  refine L.val f22 wantedN rfl (by decide) (E.assign f22 rfl) fun a23 f23 => ?_
  clear f22 a22
  refine wpList_nil (hK4 _ _ ?_)
  try clear hK4 K4
  have f24 := f23.sub (sub_cons (i := 2) rfl (sub_cons (i := 3) rfl (sub_cons (i := 8) rfl (sub_cons (i := 9) rfl (sub_cons (i := 10) rfl (sub_cons (i := 11) rfl sub_nil))))))
  clear f23
  refine wp_seq_k fun K5 hK5 => ?_
  have hlen : pks.length = m := by have := acks_len hm5 hq12; rw [← hp] at this; simpa using this
  refine C.region ?_
  refine L.val f24 wantedN rfl (by decide) (E.assign f24 rfl) fun a25 f25 => ?_
  clear f24 a23
  refine wpList_nil (hK5 _ _ ?_)
  try clear hK5 K5
  have f26 := f25.sub (sub_cons (i := 2) rfl (sub_cons (i := 3) rfl (sub_cons (i := 8) rfl (sub_cons (i := 9) rfl (sub_cons (i := 10) rfl (sub_cons (i := 11) rfl (sub_cons (i := 12) rfl sub_nil)))))))
  clear f25
  refine wp_seq_k fun K6 hK6 => ?_
  refine wp_seq_k fun K7 hK7 => ?_
  refine C.region ?_
  refine L.val f26 wantedN rfl (by decide) (E.assign f26 rfl) fun a27 f27 => ?_
  clear f26 a25
  refine wpList_nil (hK7 _ _ ?_)
  try clear hK7 K7
  have f28 := f27.sub (sub_cons (i := 2) rfl (sub_cons (i := 3) rfl (sub_cons (i := 8) rfl (sub_cons (i := 9) rfl (sub_cons (i := 10) rfl (sub_cons (i := 11) rfl (sub_cons (i := 12) rfl (sub_cons (i := 13) rfl sub_nil))))))))
  clear f27
  refine wp_block ?_
  refine C.loop (fun gk a W => ∃ k : Nat, k + gk = pks.length ∧ SesAt w.heap.size W p u ∧ PkAt w.heap.size w W A c pks ∧ Below w.heap.size w W ∧ Fr 105 a [(2, .int .u8 kd), (3, .int .i64 id), (9, .int .i64 qos), (10, .pointer (some ⟨p, 0, none⟩)), (11, .slice A pks.length c), (12, .bool (thereB pks id k)), (13, .int .i64 k)]) (pks.length) ?_ ?_
  · exact ⟨0, by omega, HS, PK, HK, f28.sub (sub_cons rfl (sub_cons rfl (sub_cons rfl (sub_cons rfl (sub_cons rfl (sub_cons rfl (sub_cons rfl sub_nil)))))))⟩
  · intro gk9 a29 w3 hI KL8 hKL8
    obtain ⟨k, hk, HS, PK, HK, f29⟩ := hI
    try clear f28
    have szw1x := HK.size
    refine wp_seq_k fun K9 hK9 => ?_
    refine wp_seq_k fun K10 hK10 => ?_
    refine C.region ?_
    refine L.val f29 wantedN rfl (by decide) (E.move f29 rfl) fun a30 f30 => ?_
    clear f29 a29
    refine L.val f30 wantedN rfl (by decide) (E.move f30 rfl) fun a31 f31 => ?_
    clear f30 a30
    refine L.val f31 wantedN rfl (by decide) (E.lenL f31 Try.underlying27 rfl) fun a32 f32 => ?_
    clear f31 a31
    refine L.val f32 wantedN rfl (by decide) (E.lss f32 rfl rfl) fun a33 f33 => ?_
    clear f32 a32
    refine wpList_nil (hK10 _ _ ?_)
    try clear hK10 K10
    have f34 := f33.sub (sub_cons (i := 2) rfl (sub_cons (i := 3) rfl (sub_cons (i := 9) rfl (sub_cons (i := 10) rfl (sub_cons (i := 11) rfl (sub_cons (i := 12) rfl (sub_cons (i := 13) rfl (sub_cons (i := 30) rfl (sub_cons (i := 31) rfl (sub_cons (i := 32) rfl (sub_cons (i := 33) rfl sub_nil)))))))))))
    clear f33
    first | refine f34.splitD 33 rfl (fun h0 f35 => ?_) (fun h0 f35 => ?_) | refine f34.splitN 33 rfl (fun h0 f35 => ?_) (fun h0 f35 => ?_) | refine f34.splitNB 33 rfl (fun h0 f35 => ?_) (fun h0 f35 => ?_) | refine f34.split 33 rfl (fun h0 f35 => ?_) (fun h0 f35 => ?_)
    · clear f34
      obtain ⟨x, hx⟩ : ∃ x, pks[k]? = some x := ⟨pks[k]'(by omega), List.getElem?_eq_getElem _⟩
      obtain ⟨bP, offP, hAP⟩ := (Sl.of_own PK.fr.own).addr (by omega)
      refine C.condT f35 rfl ?_
      refine wp_skip (hK9 _ _ ?_)
      try clear hK9 K9
      have f36 := f35.sub (sub_cons (i := 2) rfl (sub_cons (i := 3) rfl (sub_cons (i := 9) rfl (sub_cons (i := 10) rfl (sub_cons (i := 11) rfl (sub_cons (i := 12) rfl (sub_cons (i := 13) rfl (sub_cons (i := 30) rfl (sub_cons (i := 31) rfl (sub_cons (i := 32) rfl (sub_cons (i := 33) rfl sub_nil)))))))))))
      clear f35
      refine wp_seq_k fun K11 hK11 => ?_
      refine wp_block ?_
      refine C.region ?_
      refine L.val f36 wantedN rfl (by decide) (E.move f36 rfl) fun a37 f37 => ?_
      clear f36 a33
      refine L.val f37 wantedN rfl (by decide) (E.move f37 rfl) fun a38 f38 => ?_
      clear f37 a37
      first | refine f38.splitD 37 rfl (fun h1 f39 => ?_) (fun h1 f39 => ?_) | refine f38.splitN 37 rfl (fun h1 f39 => ?_) (fun h1 f39 => ?_) | refine f38.splitNB 37 rfl (fun h1 f39 => ?_) (fun h1 f39 => ?_) | refine f38.split 37 rfl (fun h1 f39 => ?_) (fun h1 f39 => ?_)
      · clear f38
        have hth := h1
        refine L.skip f39 (f39.noF rfl rfl) rfl (by decide) fun a40 f40 => ?_
        clear f39 a38
        refine L.skip f40 (f40.noF rfl rfl) rfl (by decide) fun a41 f41 => ?_
        clear f40 a40
        refine L.skip f41 (f41.noF rfl rfl) rfl (by decide) fun a42 f42 => ?_
        clear f41 a41
        refine L.skip f42 (f42.noF rfl rfl) rfl (by decide) fun a43 f43 => ?_
        clear f42 a42
        refine L.skip f43 (f43.noF rfl rfl) rfl (by decide) fun a44 f44 => ?_
        clear f43 a43
        refine L.skip f44 (f44.noF rfl rfl) rfl (by decide) fun a45 f45 => ?_
        clear f44 a44
        refine L.skip f45 (f45.noF rfl rfl) rfl (by decide) fun a46 f46 => ?_
        clear f45 a45
        refine L.val f46 wantedN rfl (by decide) (E.pickT f46 rfl rfl) fun a47 f47 => ?_
        clear f46 a46
        refine L.val f47 wantedN rfl (by decide) (E.assign f47 rfl) fun a48 f48 => ?_
        clear f47 a47
        refine wpList_nil (hK11 _ _ ?_)
        try clear hK11 K11
        have f49 := f48.sub (sub_cons (i := 2) rfl (sub_cons (i := 3) rfl (sub_cons (i := 9) rfl (sub_cons (i := 10) rfl (sub_cons (i := 11) rfl (sub_cons (i := 12) rfl (sub_cons (i := 13) rfl (sub_cons (i := 30) rfl (sub_cons (i := 31) rfl (sub_cons (i := 32) rfl (sub_cons (i := 33) rfl (sub_cons (i := 36) rfl (sub_cons (i := 37) rfl (sub_cons (i := 38) rfl (sub_cons (i := 39) rfl (sub_cons (i := 40) rfl (sub_cons (i := 41) rfl (sub_cons (i := 42) rfl (sub_cons (i := 43) rfl (sub_cons (i := 44) rfl (sub_cons (i := 45) rfl sub_nil)))))))))))))))))))))
        clear f48
        refine C.region ?_
        refine L.val f49 wantedN rfl (by decide) (E.move f49 rfl) fun a50 f50 => ?_
        clear f49 a48
        refine L.val f50 wantedN rfl (by decide) (E.add f50 rfl rfl (IntWalk.i64_in _ (by omega))) fun a51 f51 => ?_
        clear f50 a50
        refine L.val f51 wantedN rfl (by decide) (E.assign f51 rfl) fun a52 f52 => ?_
        clear f51 a51
        refine wpList_nil (hKL8 _ _ (gk9 - 1) ?_ ?_)
        · omega
        · exact ⟨k + 1, by omega, HS, PK, HK, by simpa using (Fr.as f52 (i := 12) (v' := .bool (thereB pks id (k + 1))) rfl (by rw [there_old hth])).sub (sub_cons rfl (sub_cons rfl (sub_cons rfl (sub_cons rfl (sub_cons rfl (sub_cons rfl (sub_cons rfl sub_nil)))))))⟩
      · clear f38
        have hth := h1
        refine L.val f39 (f39.yes rfl rfl) rfl (by decide) (E.move f39 rfl) fun a40 f40 => ?_
        clear f39 a38
        refine L.val f40 (f40.yes rfl rfl) rfl (by decide) (E.move f40 rfl) fun a41 f41 => ?_
        clear f40 a40
        refine L.val f41 (f41.yes rfl rfl) rfl (by decide) (E.indexA f41 (by first | rfl | assumption) Try.underlying27 wsz35_r rfl rfl (by omega) (by omega)) fun a42 f42 => ?_
        clear f41 a41
        refine L.val f42 (f42.yes rfl rfl) rfl (by decide) (E.fieldAddr f42 Try.underlying35 rfl rfl wsz3_r) fun a43 f43 => ?_
        clear f42 a42
        refine L.val f43 (f43.yes rfl rfl) rfl (by decide) (E.load f43 Try.underlying3 rfl rfl (pk_cell PK.fr.own hAP (i := k) (x := x) hx 4 rfl (show offP + k * 24 + 4 = _ by omega))) fun a44 f44 => ?_
        clear f43 a43
        refine L.val f44 (f44.yes rfl rfl) rfl (by decide) (E.move f44 rfl) fun a45 f45 => ?_
        clear f44 a44
        refine L.val f45 (f45.yes rfl rfl) rfl (by decide) (E.eql f45 rfl rfl) fun a46 f46 => ?_
        clear f45 a45
        refine L.val f46 wantedN rfl (by decide) (E.pickF f46 rfl rfl) fun a47 f47 => ?_
        clear f46 a46
        refine L.val f47 wantedN rfl (by decide) (E.assign f47 rfl) fun a48 f48 => ?_
        clear f47 a47
        refine wpList_nil (hK11 _ _ ?_)
        try clear hK11 K11
        have f49 := f48.sub (sub_cons (i := 2) rfl (sub_cons (i := 3) rfl (sub_cons (i := 9) rfl (sub_cons (i := 10) rfl (sub_cons (i := 11) rfl (sub_cons (i := 12) rfl (sub_cons (i := 13) rfl (sub_cons (i := 30) rfl (sub_cons (i := 31) rfl (sub_cons (i := 32) rfl (sub_cons (i := 33) rfl (sub_cons (i := 36) rfl (sub_cons (i := 37) rfl (sub_cons (i := 38) rfl (sub_cons (i := 39) rfl (sub_cons (i := 40) rfl (sub_cons (i := 41) rfl (sub_cons (i := 42) rfl (sub_cons (i := 43) rfl (sub_cons (i := 44) rfl (sub_cons (i := 45) rfl sub_nil)))))))))))))))))))))
        clear f48
        refine C.region ?_
        refine L.val f49 wantedN rfl (by decide) (E.move f49 rfl) fun a50 f50 => ?_
        clear f49 a48
        refine L.val f50 wantedN rfl (by decide) (E.add f50 rfl rfl (IntWalk.i64_in _ (by omega))) fun a51 f51 => ?_
        clear f50 a50
        refine L.val f51 wantedN rfl (by decide) (E.assign f51 rfl) fun a52 f52 => ?_
        clear f51 a51
        refine wpList_nil (hKL8 _ _ (gk9 - 1) ?_ ?_)
        · omega
        · exact ⟨k + 1, by omega, HS, PK, HK, by simpa using (Fr.as f52 (i := 12) (v' := .bool (thereB pks id (k + 1))) rfl (by rw [there_new hth hx])).sub (sub_cons rfl (sub_cons rfl (sub_cons rfl (sub_cons rfl (sub_cons rfl (sub_cons rfl (sub_cons rfl sub_nil)))))))⟩
    · clear f34
      refine C.condF f35 rfl ?_
      refine wp_exit (hK6 _ _ ?_)
      try clear hK6 K6
      have f36 := f35.sub (sub_cons (i := 2) rfl (sub_cons (i := 3) rfl (sub_cons (i := 9) rfl (sub_cons (i := 10) rfl (sub_cons (i := 11) rfl (sub_cons (i := 12) rfl sub_nil))))))
      clear f35
      refine wp_seq_k fun K12 hK12 => ?_
      obtain rfl : k = pks.length := by omega
      obtain ⟨b, hb⟩ : ∃ b, b = thereB pks id pks.length := ⟨_, rfl⟩
      have hids : thereI (flyS m qos).2 id = b := by rw [hb, ← hp]; exact there_all pks id
      rw [← hb] at f36
      refine C.region ?_
      refine L.val f36 wantedN rfl (by decide) (E.move f36 rfl) fun a37 f37 => ?_
      clear f36 a33
      refine L.val f37 wantedN rfl (by decide) (E.rem f37 rfl rfl (by omega) (Int.tmod_eq_emod_of_nonneg (by omega))) fun a38 f38 => ?_
      clear f37 a37
      refine L.val f38 wantedN rfl (by decide) (E.conv f38 Try.underlying5 Try.underlying3 rfl (IntWalk.i64_in _ (by omega))) fun a39 f39 => ?_
      clear f38 a38
      refine L.val f39 wantedN rfl (by decide) (E.move f39 rfl) fun a40 f40 => ?_
      clear f39 a39
      refine L.val f40 wantedN rfl (by decide) (E.build f40 (parts2 f40 rfl rfl) (wbl35_0_4_r _ _)) fun a41 f41 => ?_
      clear f40 a40
      refine L.alloc f41 wantedN (by decide) (z := (.agg #[(.int .i64 0), (.bool false), (.bool false), (.int .i64 0), (.int .i64 0), (.string ⟨#[]⟩), (.slice none 0 0), (.int .i64 0), (.string ⟨#[]⟩), (.bool false), (.int .i64 0), (.bool false), (.string ⟨#[]⟩), (.slice none 0 0), (.int .i64 0), (.bool false), (.bool false), (.bool false), (.string ⟨#[]⟩), (.slice none 0 0), (.bool false), (.int .i64 0), (.slice none 0 0), (.slice none 0 0)])) (fun _ => by kernel_rfl) rfl fun a42 w4 g3 N3 f42 => ?_
      have Bg3 := N3.blk
      have kg3 := N3.kept
      have log3 := N3.lo
      have ltg3 := Bg3.lt
      have szw4 := kg3.size
      have hne_PK_g3 := PK.ne_new log3
      replace HK := blwm HK (.of_kept0 (T := []) (M := []) kg3)
      replace HS := HS.mod (Mod.of_kept0 (T := []) (M := []) (B := (w.heap.size)) kg3) (by decide)
      replace PK := PK.mod (Mod.of_kept0 (T := []) (M := []) (B := (w.heap.size)) kg3) (by decide)
      clear N3 kg3
      clear f41 a41
      refine L.storeR f42 wantedN wsz35_r rfl rfl rfl Bg3 rfl rfl fun a43 w5 f43 NB5 ks5 => ?_
      have szw5 := ks5.size
      replace HK := blwm HK (Mod.of_blk1 (M := []) ks5 Bg3 (by omega))
      replace HS := HS.mod (Mod.of_blk1 (M := []) (B := (w.heap.size)) ks5 Bg3 (by omega)) (by decide)
      replace PK := PK.kept1 ks5 hne_PK_g3 Bg3 (by omega)
      replace Bg3 := NB5
      clear ks5 f42 a42
      refine wpList_nil (hK12 _ _ ?_)
      try clear hK12 K12
      have f44 := f43.sub (sub_cons (i := 9) rfl (sub_cons (i := 10) rfl (sub_cons (i := 11) rfl (sub_cons (i := 12) rfl (sub_cons (i := 14) rfl sub_nil)))))
      clear f43
      refine wp_seq_k fun K13 hK13 => ?_
      refine C.region ?_
      refine L.val f44 wantedN rfl (by decide) (E.move f44 rfl) fun a45 f45 => ?_
      clear f44 a43
      refine L.val f45 wantedN rfl (by decide) (by exact E.loadB f45 Try.underlying35 rfl wsz35_r rfl (Bg3) rfl) fun a46 f46 => ?_
      clear f45 a45
      have hC := ack_any w.heap.size p u (kd % 16) id 0 #[(.int .i64 (kd % 16)), (.bool false), (.bool false), (.int .i64 0), (.int .i64 id), (.string ⟨#[]⟩), (.slice none 0 0), (.int .i64 0), (.string ⟨#[]⟩), (.bool false), (.int .i64 0), (.bool false), (.string ⟨#[]⟩), (.slice none 0 0), (.int .i64 0), (.bool false), (.bool false), (.bool false), (.string ⟨#[]⟩), (.slice none 0 0), (.bool false), (.int .i64 0), (.slice none 0 0), (.slice none 0 0)] rfl rfl w5 HS HK.size
      rw [hab] at hC
      obtain ⟨S3, L3, hR, hR1, hR2, hR0⟩ := acks_res hm5 hq12 (kd := kd % 16) (by omega) id
      rw [hR] at hC
      refine L.call f46 wantedN rfl (by decide) (run_call Try.call13 (args3 f46 rfl rfl rfl)) hC ?_
      rintro e w6 ⟨u3, A3, c3, pk3, rfl, HS3, hr3, hL3, kc6, -, -⟩
      injection hr3 with hab3 hp3
      have hl3 : pk3.length = L3.length := by rw [← hp3, List.length_map]
      have hf3 : u3.fly.length = S3.fly.length := fly_of hab3
      rw [hids] at hR1 hR2 hR0
      refine ⟨_, rfl, fun a47 f47 => ?_⟩
      clear f46 a46
      have szw6 := kc6.size
      replace HK := blwm HK kc6
      replace PK := PK.mod kc6 (by decide)
      replace Bg3 := Bg3.mod kc6 (by decide)
      clear kc6
      refine L.val f47 wantedN rfl (by decide) (E.assign f47 rfl) fun a48 f48 => ?_
      clear f47 a47
      refine wpList_nil (hK13 _ _ ?_)
      try clear hK13 K13
      have f49 := f48.sub (sub_cons (i := 9) rfl (sub_cons (i := 10) rfl (sub_cons (i := 11) rfl (sub_cons (i := 12) rfl (sub_cons (i := 14) rfl (sub_cons (i := 15) rfl sub_nil))))))
      clear f48
      refine wp_seq_k fun K14 hK14 => ?_
      refine wp_seq_k fun K15 hK15 => ?_
      refine C.region ?_
      refine L.val f49 wantedN rfl (by decide) (E.move f49 rfl) fun a50 f50 => ?_
      clear f49 a48
      refine L.val f50 wantedN rfl (by decide) (E.move f50 rfl) fun a51 f51 => ?_
      clear f50 a50
      first | refine f51.splitD 55 rfl (fun h2 f52 => ?_) (fun h2 f52 => ?_) | refine f51.splitN 55 rfl (fun h2 f52 => ?_) (fun h2 f52 => ?_) | refine f51.splitNB 55 rfl (fun h2 f52 => ?_) (fun h2 f52 => ?_) | refine f51.split 55 rfl (fun h2 f52 => ?_) (fun h2 f52 => ?_)
      · clear f51
        have hb1 := h2
        refine L.val f52 (f52.yes rfl rfl) rfl (by decide) (E.fieldAddr f52 Try.underlying35 rfl rfl wsz3_r) fun a53 f53 => ?_
        clear f52 a51
        refine L.val f53 (f53.yes rfl rfl) rfl (by decide) (by exact E.load f53 Try.underlying3 rfl rfl ((Bg3).cl rfl)) fun a54 f54 => ?_
        clear f53 a53
        refine L.val f54 (f54.yes rfl rfl) rfl (by decide) (E.eql f54 rfl rfl) fun a55 f55 => ?_
        clear f54 a54
        refine L.val f55 wantedN rfl (by decide) (E.pickT f55 rfl rfl) fun a56 f56 => ?_
        clear f55 a55
        refine L.val f56 wantedN rfl (by decide) (E.move f56 rfl) fun a57 f57 => ?_
        clear f56 a56
        first | refine f57.splitD 60 rfl (fun h3 f58 => ?_) (fun h3 f58 => ?_) | refine f57.splitN 60 rfl (fun h3 f58 => ?_) (fun h3 f58 => ?_) | refine f57.splitNB 60 rfl (fun h3 f58 => ?_) (fun h3 f58 => ?_) | refine f57.split 60 rfl (fun h3 f58 => ?_) (fun h3 f58 => ?_)
        · clear f57
          have hk4 := h3
          refine L.val f58 (f58.yes rfl rfl) rfl (by decide) (E.move f58 rfl) fun a59 f59 => ?_
          clear f58 a57
          refine L.val f59 (f59.yes rfl rfl) rfl (by decide) (E.eql f59 rfl rfl) fun a60 f60 => ?_
          clear f59 a59
          refine L.val f60 wantedN rfl (by decide) (E.pickT f60 rfl rfl) fun a61 f61 => ?_
          clear f60 a60
          refine wpList_nil (hK15 _ _ ?_)
          try clear hK15 K15
          have f62 := f61.sub (sub_cons (i := 9) rfl (sub_cons (i := 10) rfl (sub_cons (i := 11) rfl (sub_cons (i := 12) rfl (sub_cons (i := 14) rfl (sub_cons (i := 15) rfl (sub_cons (i := 63) rfl sub_nil)))))))
          clear f61
          first | refine f62.splitD 63 rfl (fun h4 f63 => ?_) (fun h4 f63 => ?_) | refine f62.splitN 63 rfl (fun h4 f63 => ?_) (fun h4 f63 => ?_) | refine f62.splitNB 63 rfl (fun h4 f63 => ?_) (fun h4 f63 => ?_) | refine f62.split 63 rfl (fun h4 f63 => ?_) (fun h4 f63 => ?_)
          · clear f62
            have hq1 := h4
            refine C.condT f63 rfl ?_
            refine wp_seq_k fun K16 hK16 => ?_
            refine C.region ?_
            refine L.val f63 wantedN rfl (by decide) (E.move f63 rfl) fun a64 f64 => ?_
            clear f63 a61
            refine L.val f64 wantedN rfl (by decide) (E.lenL f64 Try.underlying27 rfl) fun a65 f65 => ?_
            clear f64 a64
            refine L.val f65 wantedN rfl (by decide) (E.eql f65 rfl rfl) fun a66 f66 => ?_
            clear f65 a65
            have f67 := f66.as (i := 66) (v' := .bool true) rfl (by exact lit_eq (by first | (exact absurd (hb1.symm.trans hb2) (by decide)) | (rw [if_neg (by rintro ⟨-, h5, -⟩; omega)] at hR1; omega)))
            clear f66
            refine L.val f67 wantedN rfl (by decide) (E.move f67 rfl) fun a68 f68 => ?_
            clear f67 a66
            refine L.val f68 (f68.yes rfl rfl) rfl (by decide) (E.move f68 rfl) fun a69 f69 => ?_
            clear f68 a68
            refine L.call f69 (f69.yes rfl rfl) rfl (by decide) (run_call Try.call14 (args1 f69 rfl)) (flying_any p u3.fly.length u3.fc u3.FA _ _ _ _ _ _ HS3.top) ?_
            rintro e w6x ⟨rfl, rfl⟩
            refine ⟨_, rfl, fun a70 f70 => ?_⟩
            clear f69 a69
            refine L.val f70 (f70.yes rfl rfl) rfl (by decide) (E.move f70 rfl) fun a71 f71 => ?_
            clear f70 a70
            refine L.val f71 (f71.yes rfl rfl) rfl (by decide) (E.lenL f71 Try.underlying27 rfl) fun a72 f72 => ?_
            clear f71 a71
            refine L.val f72 (f72.yes rfl rfl) rfl (by decide) (E.sub f72 rfl rfl (IntWalk.i64_in _ (by omega))) fun a73 f73 => ?_
            clear f72 a72
            refine L.val f73 (f73.yes rfl rfl) rfl (by decide) (E.eql f73 rfl rfl) fun a74 f74 => ?_
            clear f73 a73
            have f75 := f74.as (i := 73) (v' := .bool true) rfl (by exact lit_eq (by first | (exact absurd (hb1.symm.trans hb2) (by decide)) | (rw [if_pos ⟨hb1, hk4, hq1⟩] at hR2; have := hR0 hb1; omega)))
            clear f74
            refine L.val f75 wantedN rfl (by decide) (E.pickT f75 rfl rfl) fun a76 f76 => ?_
            clear f75 a74
            refine L.val f76 wantedN rfl (by decide) (E.assign f76 rfl) fun a77 f77 => ?_
            clear f76 a76
            refine wpList_nil (hK16 _ _ ?_)
            try clear hK16 K16
            have f78 := f77.sub (sub_cons (i := 8) rfl (sub_cons (i := 9) rfl (sub_cons (i := 10) rfl (sub_cons (i := 11) rfl (sub_cons (i := 12) rfl (sub_cons (i := 14) rfl (sub_cons (i := 15) rfl sub_nil)))))))
            clear f77
            refine wp_ret ?_
            try simp only [Exit.inBlock, Exit.then]
            refine C.ret (P := Try.prog) (fn := Try.f4) f78 rfl rfl ?_
            exact ⟨rfl, HK⟩
          · clear f62
            have hq1 := h4
            refine C.condF f63 rfl ?_
            refine wp_skip (hK14 _ _ ?_)
            try clear hK14 K14
            have f64 := f63.sub (sub_cons (i := 9) rfl (sub_cons (i := 10) rfl (sub_cons (i := 11) rfl (sub_cons (i := 12) rfl (sub_cons (i := 14) rfl (sub_cons (i := 15) rfl sub_nil))))))
            clear f63
            refine wp_seq_k fun K17 hK17 => ?_
            refine wp_seq_k fun K18 hK18 => ?_
            refine C.region ?_
            refine L.val f64 wantedN rfl (by decide) (E.move f64 rfl) fun a65 f65 => ?_
            clear f64 a61
            refine L.val f65 wantedN rfl (by decide) (E.move f65 rfl) fun a66 f66 => ?_
            clear f65 a65
            first | refine f66.splitD 76 rfl (fun h5 f67 => ?_) (fun h5 f67 => ?_) | refine f66.splitN 76 rfl (fun h5 f67 => ?_) (fun h5 f67 => ?_) | refine f66.splitNB 76 rfl (fun h5 f67 => ?_) (fun h5 f67 => ?_) | refine f66.split 76 rfl (fun h5 f67 => ?_) (fun h5 f67 => ?_)
            · clear f66
              have hb2 := h5
              refine L.val f67 (f67.yes rfl rfl) rfl (by decide) (E.fieldAddr f67 Try.underlying35 rfl rfl wsz3_r) fun a68 f68 => ?_
              clear f67 a66
              refine L.val f68 (f68.yes rfl rfl) rfl (by decide) (by exact E.load f68 Try.underlying3 rfl rfl ((Bg3).cl rfl)) fun a69 f69 => ?_
              clear f68 a68
              refine L.val f69 (f69.yes rfl rfl) rfl (by decide) (E.eql f69 rfl rfl) fun a70 f70 => ?_
              clear f69 a69
              refine L.val f70 wantedN rfl (by decide) (E.pickT f70 rfl rfl) fun a71 f71 => ?_
              clear f70 a70
              refine L.val f71 wantedN rfl (by decide) (E.move f71 rfl) fun a72 f72 => ?_
              clear f71 a71
              first | refine f72.splitD 81 rfl (fun h6 f73 => ?_) (fun h6 f73 => ?_) | refine f72.splitN 81 rfl (fun h6 f73 => ?_) (fun h6 f73 => ?_) | refine f72.splitNB 81 rfl (fun h6 f73 => ?_) (fun h6 f73 => ?_) | refine f72.split 81 rfl (fun h6 f73 => ?_) (fun h6 f73 => ?_)
              · clear f72
                have hk5 := h6
                refine L.val f73 (f73.yes rfl rfl) rfl (by decide) (E.move f73 rfl) fun a74 f74 => ?_
                clear f73 a72
                refine L.val f74 (f74.yes rfl rfl) rfl (by decide) (E.eql f74 rfl rfl) fun a75 f75 => ?_
                clear f74 a74
                refine L.val f75 wantedN rfl (by decide) (E.pickT f75 rfl rfl) fun a76 f76 => ?_
                clear f75 a75
                refine wpList_nil (hK18 _ _ ?_)
                try clear hK18 K18
                have f77 := f76.sub (sub_cons (i := 10) rfl (sub_cons (i := 11) rfl (sub_cons (i := 15) rfl (sub_cons (i := 84) rfl sub_nil))))
                clear f76
                first | refine f77.splitD 84 rfl (fun h7 f78 => ?_) (fun h7 f78 => ?_) | refine f77.splitN 84 rfl (fun h7 f78 => ?_) (fun h7 f78 => ?_) | refine f77.splitNB 84 rfl (fun h7 f78 => ?_) (fun h7 f78 => ?_) | refine f77.split 84 rfl (fun h7 f78 => ?_) (fun h7 f78 => ?_)
                · clear f77
                  have hq2 := h7
                  refine C.condT f78 rfl ?_
                  refine wp_seq_k fun K19 hK19 => ?_
                  refine C.region ?_
                  refine L.val f78 wantedN rfl (by decide) (E.move f78 rfl) fun a79 f79 => ?_
                  clear f78 a76
                  refine L.val f79 wantedN rfl (by decide) (E.lenL f79 Try.underlying27 rfl) fun a80 f80 => ?_
                  clear f79 a79
                  refine L.val f80 wantedN rfl (by decide) (E.eql f80 rfl rfl) fun a81 f81 => ?_
                  clear f80 a80
                  have f82 := f81.as (i := 87) (v' := .bool true) rfl (by exact lit_eq (by first | (exact absurd (hb1.symm.trans hb2) (by decide)) | (rw [if_pos ⟨hb2, hk5, hq2⟩] at hR1; omega)))
                  clear f81
                  refine L.val f82 wantedN rfl (by decide) (E.move f82 rfl) fun a83 f83 => ?_
                  clear f82 a81
                  refine L.val f83 (f83.yes rfl rfl) rfl (by decide) (E.move f83 rfl) fun a84 f84 => ?_
                  clear f83 a83
                  refine L.call f84 (f84.yes rfl rfl) rfl (by decide) (run_call Try.call14 (args1 f84 rfl)) (flying_any p u3.fly.length u3.fc u3.FA _ _ _ _ _ _ HS3.top) ?_
                  rintro e w6x ⟨rfl, rfl⟩
                  refine ⟨_, rfl, fun a85 f85 => ?_⟩
                  clear f84 a84
                  refine L.val f85 (f85.yes rfl rfl) rfl (by decide) (E.move f85 rfl) fun a86 f86 => ?_
                  clear f85 a85
                  refine L.val f86 (f86.yes rfl rfl) rfl (by decide) (E.lenL f86 Try.underlying27 rfl) fun a87 f87 => ?_
                  clear f86 a86
                  refine L.val f87 (f87.yes rfl rfl) rfl (by decide) (E.eql f87 rfl rfl) fun a88 f88 => ?_
                  clear f87 a87
                  have f89 := f88.as (i := 93) (v' := .bool true) rfl (by exact lit_eq (by first | (exact absurd (hb1.symm.trans hb2) (by decide)) | (rw [if_neg (by rintro ⟨-, h4, -⟩; omega)] at hR2; omega)))
                  clear f88
                  refine L.val f89 wantedN rfl (by decide) (E.pickT f89 rfl rfl) fun a90 f90 => ?_
                  clear f89 a88
                  refine L.val f90 wantedN rfl (by decide) (E.assign f90 rfl) fun a91 f91 => ?_
                  clear f90 a90
                  refine wpList_nil (hK19 _ _ ?_)
                  try clear hK19 K19
                  have f92 := f91.sub (sub_cons (i := 8) rfl (sub_cons (i := 10) rfl (sub_cons (i := 11) rfl (sub_cons (i := 15) rfl sub_nil))))
                  clear f91
                  refine wp_ret ?_
                  try simp only [Exit.inBlock, Exit.then]
                  refine C.ret (P := Try.prog) (fn := Try.f4) f92 rfl rfl ?_
                  exact ⟨rfl, HK⟩
                · clear f77
                  have hq2 := h7
                  refine C.condF f78 rfl ?_
                  refine wp_skip (hK17 _ _ ?_)
                  try clear hK17 K17
                  have f79 := f78.sub (sub_cons (i := 10) rfl (sub_cons (i := 11) rfl (sub_cons (i := 15) rfl sub_nil)))
                  clear f78
                  refine wp_seq_k fun K20 hK20 => ?_
                  refine C.region ?_
                  refine L.val f79 wantedN rfl (by decide) (E.move f79 rfl) fun a80 f80 => ?_
                  clear f79 a76
                  refine L.val f80 wantedN rfl (by decide) (E.lenL f80 Try.underlying27 rfl) fun a81 f81 => ?_
                  clear f80 a80
                  refine L.val f81 wantedN rfl (by decide) (E.eql f81 rfl rfl) fun a82 f82 => ?_
                  clear f81 a81
                  have f83 := f82.as (i := 97) (v' := .bool true) rfl (by exact lit_eq (by first | (exact absurd (hb1.symm.trans hb2) (by decide)) | (rw [if_neg (by rintro ⟨h1, h2, h3⟩; first | omega | (exact absurd (h1.symm.trans hb2) (by decide)))] at hR1; omega)))
                  clear f82
                  refine L.val f83 wantedN rfl (by decide) (E.move f83 rfl) fun a84 f84 => ?_
                  clear f83 a82
                  refine L.val f84 (f84.yes rfl rfl) rfl (by decide) (E.move f84 rfl) fun a85 f85 => ?_
                  clear f84 a84
                  refine L.call f85 (f85.yes rfl rfl) rfl (by decide) (run_call Try.call14 (args1 f85 rfl)) (flying_any p u3.fly.length u3.fc u3.FA _ _ _ _ _ _ HS3.top) ?_
                  rintro e w6x ⟨rfl, rfl⟩
                  refine ⟨_, rfl, fun a86 f86 => ?_⟩
                  clear f85 a85
                  refine L.val f86 (f86.yes rfl rfl) rfl (by decide) (E.move f86 rfl) fun a87 f87 => ?_
                  clear f86 a86
                  refine L.val f87 (f87.yes rfl rfl) rfl (by decide) (E.lenL f87 Try.underlying27 rfl) fun a88 f88 => ?_
                  clear f87 a87
                  refine L.val f88 (f88.yes rfl rfl) rfl (by decide) (E.eql f88 rfl rfl) fun a89 f89 => ?_
                  clear f88 a88
                  have f90 := f89.as (i := 103) (v' := .bool true) rfl (by exact lit_eq (by first | (exact absurd (hb1.symm.trans hb2) (by decide)) | (rw [if_neg (by rintro ⟨h1, h2, h3⟩; first | omega | (exact absurd (h1.symm.trans hb1) (by decide)))] at hR2; omega)))
                  clear f89
                  refine L.val f90 wantedN rfl (by decide) (E.pickT f90 rfl rfl) fun a91 f91 => ?_
                  clear f90 a89
                  refine L.val f91 wantedN rfl (by decide) (E.assign f91 rfl) fun a92 f92 => ?_
                  clear f91 a91
                  refine wpList_nil (hK20 _ _ ?_)
                  try clear hK20 K20
                  have f93 := f92.sub (sub_cons (i := 8) rfl sub_nil)
                  clear f92
                  refine wp_ret ?_
                  try simp only [Exit.inBlock, Exit.then]
                  refine C.ret (P := Try.prog) (fn := Try.f4) f93 rfl rfl ?_
                  exact ⟨rfl, HK⟩
              · clear f72
                have hk5 := h6
                refine L.skip f73 (f73.noT rfl rfl) rfl (by decide) fun a74 f74 => ?_
                clear f73 a72
                refine L.skip f74 (f74.noT rfl rfl) rfl (by decide) fun a75 f75 => ?_
                clear f74 a74
                refine L.val f75 wantedN rfl (by decide) (E.pickF f75 rfl rfl) fun a76 f76 => ?_
                clear f75 a75
                refine wpList_nil (hK18 _ _ ?_)
                try clear hK18 K18
                have f77 := f76.sub (sub_cons (i := 10) rfl (sub_cons (i := 11) rfl (sub_cons (i := 15) rfl (sub_cons (i := 84) rfl sub_nil))))
                clear f76
                refine C.condF f77 rfl ?_
                refine wp_skip (hK17 _ _ ?_)
                try clear hK17 K17
                have f78 := f77.sub (sub_cons (i := 10) rfl (sub_cons (i := 11) rfl (sub_cons (i := 15) rfl sub_nil)))
                clear f77
                refine wp_seq_k fun K21 hK21 => ?_
                refine C.region ?_
                refine L.val f78 wantedN rfl (by decide) (E.move f78 rfl) fun a79 f79 => ?_
                clear f78 a76
                refine L.val f79 wantedN rfl (by decide) (E.lenL f79 Try.underlying27 rfl) fun a80 f80 => ?_
                clear f79 a79
                refine L.val f80 wantedN rfl (by decide) (E.eql f80 rfl rfl) fun a81 f81 => ?_
                clear f80 a80
                have f82 := f81.as (i := 97) (v' := .bool true) rfl (by exact lit_eq (by first | (exact absurd (hb1.symm.trans hb2) (by decide)) | (rw [if_neg (by rintro ⟨h1, h2, h3⟩; first | omega | (exact absurd (h1.symm.trans hb2) (by decide)))] at hR1; omega)))
                clear f81
                refine L.val f82 wantedN rfl (by decide) (E.move f82 rfl) fun a83 f83 => ?_
                clear f82 a81
                refine L.val f83 (f83.yes rfl rfl) rfl (by decide) (E.move f83 rfl) fun a84 f84 => ?_
                clear f83 a83
                refine L.call f84 (f84.yes rfl rfl) rfl (by decide) (run_call Try.call14 (args1 f84 rfl)) (flying_any p u3.fly.length u3.fc u3.FA _ _ _ _ _ _ HS3.top) ?_
                rintro e w6x ⟨rfl, rfl⟩
                refine ⟨_, rfl, fun a85 f85 => ?_⟩
                clear f84 a84
                refine L.val f85 (f85.yes rfl rfl) rfl (by decide) (E.move f85 rfl) fun a86 f86 => ?_
                clear f85 a85
                refine L.val f86 (f86.yes rfl rfl) rfl (by decide) (E.lenL f86 Try.underlying27 rfl) fun a87 f87 => ?_
                clear f86 a86
                refine L.val f87 (f87.yes rfl rfl) rfl (by decide) (E.eql f87 rfl rfl) fun a88 f88 => ?_
                clear f87 a87
                have f89 := f88.as (i := 103) (v' := .bool true) rfl (by exact lit_eq (by first | (exact absurd (hb1.symm.trans hb2) (by decide)) | (rw [if_neg (by rintro ⟨h1, h2, h3⟩; first | omega | (exact absurd (h1.symm.trans hb1) (by decide)))] at hR2; omega)))
                clear f88
                refine L.val f89 wantedN rfl (by decide) (E.pickT f89 rfl rfl) fun a90 f90 => ?_
                clear f89 a88
                refine L.val f90 wantedN rfl (by decide) (E.assign f90 rfl) fun a91 f91 => ?_
                clear f90 a90
                refine wpList_nil (hK21 _ _ ?_)
                try clear hK21 K21
                have f92 := f91.sub (sub_cons (i := 8) rfl sub_nil)
                clear f91
                refine wp_ret ?_
                try simp only [Exit.inBlock, Exit.then]
                refine C.ret (P := Try.prog) (fn := Try.f4) f92 rfl rfl ?_
                exact ⟨rfl, HK⟩
            · clear f66
              have hb2 := h5
              refine L.skip f67 (f67.noT rfl rfl) rfl (by decide) fun a68 f68 => ?_
              clear f67 a66
              refine L.skip f68 (f68.noT rfl rfl) rfl (by decide) fun a69 f69 => ?_
              clear f68 a68
              refine L.skip f69 (f69.noT rfl rfl) rfl (by decide) fun a70 f70 => ?_
              clear f69 a69
              refine L.val f70 wantedN rfl (by decide) (E.pickF f70 rfl rfl) fun a71 f71 => ?_
              clear f70 a70
              refine L.val f71 wantedN rfl (by decide) (E.move f71 rfl) fun a72 f72 => ?_
              clear f71 a71
              refine L.skip f72 (f72.noT rfl rfl) rfl (by decide) fun a73 f73 => ?_
              clear f72 a72
              refine L.skip f73 (f73.noT rfl rfl) rfl (by decide) fun a74 f74 => ?_
              clear f73 a73
              refine L.val f74 wantedN rfl (by decide) (E.pickF f74 rfl rfl) fun a75 f75 => ?_
              clear f74 a74
              refine wpList_nil (hK18 _ _ ?_)
              try clear hK18 K18
              have f76 := f75.sub (sub_cons (i := 10) rfl (sub_cons (i := 11) rfl (sub_cons (i := 15) rfl (sub_cons (i := 84) rfl sub_nil))))
              clear f75
              refine C.condF f76 rfl ?_
              refine wp_skip (hK17 _ _ ?_)
              try clear hK17 K17
              have f77 := f76.sub (sub_cons (i := 10) rfl (sub_cons (i := 11) rfl (sub_cons (i := 15) rfl sub_nil)))
              clear f76
              refine wp_seq_k fun K22 hK22 => ?_
              refine C.region ?_
              refine L.val f77 wantedN rfl (by decide) (E.move f77 rfl) fun a78 f78 => ?_
              clear f77 a75
              refine L.val f78 wantedN rfl (by decide) (E.lenL f78 Try.underlying27 rfl) fun a79 f79 => ?_
              clear f78 a78
              refine L.val f79 wantedN rfl (by decide) (E.eql f79 rfl rfl) fun a80 f80 => ?_
              clear f79 a79
              have f81 := f80.as (i := 97) (v' := .bool true) rfl (by exact lit_eq (by first | (exact absurd (hb1.symm.trans hb2) (by decide)) | (rw [if_neg (by rintro ⟨h1, h2, h3⟩; first | omega | (exact absurd (h1.symm.trans hb2) (by decide)))] at hR1; omega)))
              clear f80
              refine L.val f81 wantedN rfl (by decide) (E.move f81 rfl) fun a82 f82 => ?_
              clear f81 a80
              refine L.val f82 (f82.yes rfl rfl) rfl (by decide) (E.move f82 rfl) fun a83 f83 => ?_
              clear f82 a82
              refine L.call f83 (f83.yes rfl rfl) rfl (by decide) (run_call Try.call14 (args1 f83 rfl)) (flying_any p u3.fly.length u3.fc u3.FA _ _ _ _ _ _ HS3.top) ?_
              rintro e w6x ⟨rfl, rfl⟩
              refine ⟨_, rfl, fun a84 f84 => ?_⟩
              clear f83 a83
              refine L.val f84 (f84.yes rfl rfl) rfl (by decide) (E.move f84 rfl) fun a85 f85 => ?_
              clear f84 a84
              refine L.val f85 (f85.yes rfl rfl) rfl (by decide) (E.lenL f85 Try.underlying27 rfl) fun a86 f86 => ?_
              clear f85 a85
              refine L.val f86 (f86.yes rfl rfl) rfl (by decide) (E.eql f86 rfl rfl) fun a87 f87 => ?_
              clear f86 a86
              have f88 := f87.as (i := 103) (v' := .bool true) rfl (by exact lit_eq (by first | (exact absurd (hb1.symm.trans hb2) (by decide)) | (rw [if_neg (by rintro ⟨h1, h2, h3⟩; first | omega | (exact absurd (h1.symm.trans hb1) (by decide)))] at hR2; omega)))
              clear f87
              refine L.val f88 wantedN rfl (by decide) (E.pickT f88 rfl rfl) fun a89 f89 => ?_
              clear f88 a87
              refine L.val f89 wantedN rfl (by decide) (E.assign f89 rfl) fun a90 f90 => ?_
              clear f89 a89
              refine wpList_nil (hK22 _ _ ?_)
              try clear hK22 K22
              have f91 := f90.sub (sub_cons (i := 8) rfl sub_nil)
              clear f90
              refine wp_ret ?_
              try simp only [Exit.inBlock, Exit.then]
              refine C.ret (P := Try.prog) (fn := Try.f4) f91 rfl rfl ?_
              exact ⟨rfl, HK⟩
        · clear f57
          have hk4 := h3
          refine L.skip f58 (f58.noT rfl rfl) rfl (by decide) fun a59 f59 => ?_
          clear f58 a57
          refine L.skip f59 (f59.noT rfl rfl) rfl (by decide) fun a60 f60 => ?_
          clear f59 a59
          refine L.val f60 wantedN rfl (by decide) (E.pickF f60 rfl rfl) fun a61 f61 => ?_
          clear f60 a60
          refine wpList_nil (hK15 _ _ ?_)
          try clear hK15 K15
          have f62 := f61.sub (sub_cons (i := 9) rfl (sub_cons (i := 10) rfl (sub_cons (i := 11) rfl (sub_cons (i := 12) rfl (sub_cons (i := 14) rfl (sub_cons (i := 15) rfl (sub_cons (i := 63) rfl sub_nil)))))))
          clear f61
          refine C.condF f62 rfl ?_
          refine wp_skip (hK14 _ _ ?_)
          try clear hK14 K14
          have f63 := f62.sub (sub_cons (i := 9) rfl (sub_cons (i := 10) rfl (sub_cons (i := 11) rfl (sub_cons (i := 12) rfl (sub_cons (i := 14) rfl (sub_cons (i := 15) rfl sub_nil))))))
          clear f62
          refine wp_seq_k fun K23 hK23 => ?_
          refine wp_seq_k fun K24 hK24 => ?_
          refine C.region ?_
          refine L.val f63 wantedN rfl (by decide) (E.move f63 rfl) fun a64 f64 => ?_
          clear f63 a61
          refine L.val f64 wantedN rfl (by decide) (E.move f64 rfl) fun a65 f65 => ?_
          clear f64 a64
          first | refine f65.splitD 76 rfl (fun h8 f66 => ?_) (fun h8 f66 => ?_) | refine f65.splitN 76 rfl (fun h8 f66 => ?_) (fun h8 f66 => ?_) | refine f65.splitNB 76 rfl (fun h8 f66 => ?_) (fun h8 f66 => ?_) | refine f65.split 76 rfl (fun h8 f66 => ?_) (fun h8 f66 => ?_)
          · clear f65
            have hb2 := h8
            refine L.val f66 (f66.yes rfl rfl) rfl (by decide) (E.fieldAddr f66 Try.underlying35 rfl rfl wsz3_r) fun a67 f67 => ?_
            clear f66 a65
            refine L.val f67 (f67.yes rfl rfl) rfl (by decide) (by exact E.load f67 Try.underlying3 rfl rfl ((Bg3).cl rfl)) fun a68 f68 => ?_
            clear f67 a67
            refine L.val f68 (f68.yes rfl rfl) rfl (by decide) (E.eql f68 rfl rfl) fun a69 f69 => ?_
            clear f68 a68
            refine L.val f69 wantedN rfl (by decide) (E.pickT f69 rfl rfl) fun a70 f70 => ?_
            clear f69 a69
            refine L.val f70 wantedN rfl (by decide) (E.move f70 rfl) fun a71 f71 => ?_
            clear f70 a70
            first | refine f71.splitD 81 rfl (fun h9 f72 => ?_) (fun h9 f72 => ?_) | refine f71.splitN 81 rfl (fun h9 f72 => ?_) (fun h9 f72 => ?_) | refine f71.splitNB 81 rfl (fun h9 f72 => ?_) (fun h9 f72 => ?_) | refine f71.split 81 rfl (fun h9 f72 => ?_) (fun h9 f72 => ?_)
            · clear f71
              have hk5 := h9
              refine L.val f72 (f72.yes rfl rfl) rfl (by decide) (E.move f72 rfl) fun a73 f73 => ?_
              clear f72 a71
              refine L.val f73 (f73.yes rfl rfl) rfl (by decide) (E.eql f73 rfl rfl) fun a74 f74 => ?_
              clear f73 a73
              refine L.val f74 wantedN rfl (by decide) (E.pickT f74 rfl rfl) fun a75 f75 => ?_
              clear f74 a74
              refine wpList_nil (hK24 _ _ ?_)
              try clear hK24 K24
              have f76 := f75.sub (sub_cons (i := 10) rfl (sub_cons (i := 11) rfl (sub_cons (i := 15) rfl (sub_cons (i := 84) rfl sub_nil))))
              clear f75
              first | refine f76.splitD 84 rfl (fun h10 f77 => ?_) (fun h10 f77 => ?_) | refine f76.splitN 84 rfl (fun h10 f77 => ?_) (fun h10 f77 => ?_) | refine f76.splitNB 84 rfl (fun h10 f77 => ?_) (fun h10 f77 => ?_) | refine f76.split 84 rfl (fun h10 f77 => ?_) (fun h10 f77 => ?_)
              · clear f76
                have hq2 := h10
                refine C.condT f77 rfl ?_
                refine wp_seq_k fun K25 hK25 => ?_
                refine C.region ?_
                refine L.val f77 wantedN rfl (by decide) (E.move f77 rfl) fun a78 f78 => ?_
                clear f77 a75
                refine L.val f78 wantedN rfl (by decide) (E.lenL f78 Try.underlying27 rfl) fun a79 f79 => ?_
                clear f78 a78
                refine L.val f79 wantedN rfl (by decide) (E.eql f79 rfl rfl) fun a80 f80 => ?_
                clear f79 a79
                have f81 := f80.as (i := 87) (v' := .bool true) rfl (by exact lit_eq (by first | (exact absurd (hb1.symm.trans hb2) (by decide)) | (rw [if_pos ⟨hb2, hk5, hq2⟩] at hR1; omega)))
                clear f80
                refine L.val f81 wantedN rfl (by decide) (E.move f81 rfl) fun a82 f82 => ?_
                clear f81 a80
                refine L.val f82 (f82.yes rfl rfl) rfl (by decide) (E.move f82 rfl) fun a83 f83 => ?_
                clear f82 a82
                refine L.call f83 (f83.yes rfl rfl) rfl (by decide) (run_call Try.call14 (args1 f83 rfl)) (flying_any p u3.fly.length u3.fc u3.FA _ _ _ _ _ _ HS3.top) ?_
                rintro e w6x ⟨rfl, rfl⟩
                refine ⟨_, rfl, fun a84 f84 => ?_⟩
                clear f83 a83
                refine L.val f84 (f84.yes rfl rfl) rfl (by decide) (E.move f84 rfl) fun a85 f85 => ?_
                clear f84 a84
                refine L.val f85 (f85.yes rfl rfl) rfl (by decide) (E.lenL f85 Try.underlying27 rfl) fun a86 f86 => ?_
                clear f85 a85
                refine L.val f86 (f86.yes rfl rfl) rfl (by decide) (E.eql f86 rfl rfl) fun a87 f87 => ?_
                clear f86 a86
                have f88 := f87.as (i := 93) (v' := .bool true) rfl (by exact lit_eq (by first | (exact absurd (hb1.symm.trans hb2) (by decide)) | (rw [if_neg (by rintro ⟨-, h4, -⟩; omega)] at hR2; omega)))
                clear f87
                refine L.val f88 wantedN rfl (by decide) (E.pickT f88 rfl rfl) fun a89 f89 => ?_
                clear f88 a87
                refine L.val f89 wantedN rfl (by decide) (E.assign f89 rfl) fun a90 f90 => ?_
                clear f89 a89
                refine wpList_nil (hK25 _ _ ?_)
                try clear hK25 K25
                have f91 := f90.sub (sub_cons (i := 8) rfl (sub_cons (i := 10) rfl (sub_cons (i := 11) rfl (sub_cons (i := 15) rfl sub_nil))))
                clear f90
                refine wp_ret ?_
                try simp only [Exit.inBlock, Exit.then]
                refine C.ret (P := Try.prog) (fn := Try.f4) f91 rfl rfl ?_
                exact ⟨rfl, HK⟩
              · clear f76
                have hq2 := h10
                refine C.condF f77 rfl ?_
                refine wp_skip (hK23 _ _ ?_)
                try clear hK23 K23
                have f78 := f77.sub (sub_cons (i := 10) rfl (sub_cons (i := 11) rfl (sub_cons (i := 15) rfl sub_nil)))
                clear f77
                refine wp_seq_k fun K26 hK26 => ?_
                refine C.region ?_
                refine L.val f78 wantedN rfl (by decide) (E.move f78 rfl) fun a79 f79 => ?_
                clear f78 a75
                refine L.val f79 wantedN rfl (by decide) (E.lenL f79 Try.underlying27 rfl) fun a80 f80 => ?_
                clear f79 a79
                refine L.val f80 wantedN rfl (by decide) (E.eql f80 rfl rfl) fun a81 f81 => ?_
                clear f80 a80
                have f82 := f81.as (i := 97) (v' := .bool true) rfl (by exact lit_eq (by first | (exact absurd (hb1.symm.trans hb2) (by decide)) | (rw [if_neg (by rintro ⟨h1, h2, h3⟩; first | omega | (exact absurd (h1.symm.trans hb2) (by decide)))] at hR1; omega)))
                clear f81
                refine L.val f82 wantedN rfl (by decide) (E.move f82 rfl) fun a83 f83 => ?_
                clear f82 a81
                refine L.val f83 (f83.yes rfl rfl) rfl (by decide) (E.move f83 rfl) fun a84 f84 => ?_
                clear f83 a83
                refine L.call f84 (f84.yes rfl rfl) rfl (by decide) (run_call Try.call14 (args1 f84 rfl)) (flying_any p u3.fly.length u3.fc u3.FA _ _ _ _ _ _ HS3.top) ?_
                rintro e w6x ⟨rfl, rfl⟩
                refine ⟨_, rfl, fun a85 f85 => ?_⟩
                clear f84 a84
                refine L.val f85 (f85.yes rfl rfl) rfl (by decide) (E.move f85 rfl) fun a86 f86 => ?_
                clear f85 a85
                refine L.val f86 (f86.yes rfl rfl) rfl (by decide) (E.lenL f86 Try.underlying27 rfl) fun a87 f87 => ?_
                clear f86 a86
                refine L.val f87 (f87.yes rfl rfl) rfl (by decide) (E.eql f87 rfl rfl) fun a88 f88 => ?_
                clear f87 a87
                have f89 := f88.as (i := 103) (v' := .bool true) rfl (by exact lit_eq (by first | (exact absurd (hb1.symm.trans hb2) (by decide)) | (rw [if_neg (by rintro ⟨h1, h2, h3⟩; first | omega | (exact absurd (h1.symm.trans hb1) (by decide)))] at hR2; omega)))
                clear f88
                refine L.val f89 wantedN rfl (by decide) (E.pickT f89 rfl rfl) fun a90 f90 => ?_
                clear f89 a88
                refine L.val f90 wantedN rfl (by decide) (E.assign f90 rfl) fun a91 f91 => ?_
                clear f90 a90
                refine wpList_nil (hK26 _ _ ?_)
                try clear hK26 K26
                have f92 := f91.sub (sub_cons (i := 8) rfl sub_nil)
                clear f91
                refine wp_ret ?_
                try simp only [Exit.inBlock, Exit.then]
                refine C.ret (P := Try.prog) (fn := Try.f4) f92 rfl rfl ?_
                exact ⟨rfl, HK⟩
            · clear f71
              have hk5 := h9
              refine L.skip f72 (f72.noT rfl rfl) rfl (by decide) fun a73 f73 => ?_
              clear f72 a71
              refine L.skip f73 (f73.noT rfl rfl) rfl (by decide) fun a74 f74 => ?_
              clear f73 a73
              refine L.val f74 wantedN rfl (by decide) (E.pickF f74 rfl rfl) fun a75 f75 => ?_
              clear f74 a74
              refine wpList_nil (hK24 _ _ ?_)
              try clear hK24 K24
              have f76 := f75.sub (sub_cons (i := 10) rfl (sub_cons (i := 11) rfl (sub_cons (i := 15) rfl (sub_cons (i := 84) rfl sub_nil))))
              clear f75
              refine C.condF f76 rfl ?_
              refine wp_skip (hK23 _ _ ?_)
              try clear hK23 K23
              have f77 := f76.sub (sub_cons (i := 10) rfl (sub_cons (i := 11) rfl (sub_cons (i := 15) rfl sub_nil)))
              clear f76
              refine wp_seq_k fun K27 hK27 => ?_
              refine C.region ?_
              refine L.val f77 wantedN rfl (by decide) (E.move f77 rfl) fun a78 f78 => ?_
              clear f77 a75
              refine L.val f78 wantedN rfl (by decide) (E.lenL f78 Try.underlying27 rfl) fun a79 f79 => ?_
              clear f78 a78
              refine L.val f79 wantedN rfl (by decide) (E.eql f79 rfl rfl) fun a80 f80 => ?_
              clear f79 a79
              have f81 := f80.as (i := 97) (v' := .bool true) rfl (by exact lit_eq (by first | (exact absurd (hb1.symm.trans hb2) (by decide)) | (rw [if_neg (by rintro ⟨h1, h2, h3⟩; first | omega | (exact absurd (h1.symm.trans hb2) (by decide)))] at hR1; omega)))
              clear f80
              refine L.val f81 wantedN rfl (by decide) (E.move f81 rfl) fun a82 f82 => ?_
              clear f81 a80
              refine L.val f82 (f82.yes rfl rfl) rfl (by decide) (E.move f82 rfl) fun a83 f83 => ?_
              clear f82 a82
              refine L.call f83 (f83.yes rfl rfl) rfl (by decide) (run_call Try.call14 (args1 f83 rfl)) (flying_any p u3.fly.length u3.fc u3.FA _ _ _ _ _ _ HS3.top) ?_
              rintro e w6x ⟨rfl, rfl⟩
              refine ⟨_, rfl, fun a84 f84 => ?_⟩
              clear f83 a83
              refine L.val f84 (f84.yes rfl rfl) rfl (by decide) (E.move f84 rfl) fun a85 f85 => ?_
              clear f84 a84
              refine L.val f85 (f85.yes rfl rfl) rfl (by decide) (E.lenL f85 Try.underlying27 rfl) fun a86 f86 => ?_
              clear f85 a85
              refine L.val f86 (f86.yes rfl rfl) rfl (by decide) (E.eql f86 rfl rfl) fun a87 f87 => ?_
              clear f86 a86
              have f88 := f87.as (i := 103) (v' := .bool true) rfl (by exact lit_eq (by first | (exact absurd (hb1.symm.trans hb2) (by decide)) | (rw [if_neg (by rintro ⟨h1, h2, h3⟩; first | omega | (exact absurd (h1.symm.trans hb1) (by decide)))] at hR2; omega)))
              clear f87
              refine L.val f88 wantedN rfl (by decide) (E.pickT f88 rfl rfl) fun a89 f89 => ?_
              clear f88 a87
              refine L.val f89 wantedN rfl (by decide) (E.assign f89 rfl) fun a90 f90 => ?_
              clear f89 a89
              refine wpList_nil (hK27 _ _ ?_)
              try clear hK27 K27
              have f91 := f90.sub (sub_cons (i := 8) rfl sub_nil)
              clear f90
              refine wp_ret ?_
              try simp only [Exit.inBlock, Exit.then]
              refine C.ret (P := Try.prog) (fn := Try.f4) f91 rfl rfl ?_
              exact ⟨rfl, HK⟩
          · clear f65
            have hb2 := h8
            refine L.skip f66 (f66.noT rfl rfl) rfl (by decide) fun a67 f67 => ?_
            clear f66 a65
            refine L.skip f67 (f67.noT rfl rfl) rfl (by decide) fun a68 f68 => ?_
            clear f67 a67
            refine L.skip f68 (f68.noT rfl rfl) rfl (by decide) fun a69 f69 => ?_
            clear f68 a68
            refine L.val f69 wantedN rfl (by decide) (E.pickF f69 rfl rfl) fun a70 f70 => ?_
            clear f69 a69
            refine L.val f70 wantedN rfl (by decide) (E.move f70 rfl) fun a71 f71 => ?_
            clear f70 a70
            refine L.skip f71 (f71.noT rfl rfl) rfl (by decide) fun a72 f72 => ?_
            clear f71 a71
            refine L.skip f72 (f72.noT rfl rfl) rfl (by decide) fun a73 f73 => ?_
            clear f72 a72
            refine L.val f73 wantedN rfl (by decide) (E.pickF f73 rfl rfl) fun a74 f74 => ?_
            clear f73 a73
            refine wpList_nil (hK24 _ _ ?_)
            try clear hK24 K24
            have f75 := f74.sub (sub_cons (i := 10) rfl (sub_cons (i := 11) rfl (sub_cons (i := 15) rfl (sub_cons (i := 84) rfl sub_nil))))
            clear f74
            refine C.condF f75 rfl ?_
            refine wp_skip (hK23 _ _ ?_)
            try clear hK23 K23
            have f76 := f75.sub (sub_cons (i := 10) rfl (sub_cons (i := 11) rfl (sub_cons (i := 15) rfl sub_nil)))
            clear f75
            refine wp_seq_k fun K28 hK28 => ?_
            refine C.region ?_
            refine L.val f76 wantedN rfl (by decide) (E.move f76 rfl) fun a77 f77 => ?_
            clear f76 a74
            refine L.val f77 wantedN rfl (by decide) (E.lenL f77 Try.underlying27 rfl) fun a78 f78 => ?_
            clear f77 a77
            refine L.val f78 wantedN rfl (by decide) (E.eql f78 rfl rfl) fun a79 f79 => ?_
            clear f78 a78
            have f80 := f79.as (i := 97) (v' := .bool true) rfl (by exact lit_eq (by first | (exact absurd (hb1.symm.trans hb2) (by decide)) | (rw [if_neg (by rintro ⟨h1, h2, h3⟩; first | omega | (exact absurd (h1.symm.trans hb2) (by decide)))] at hR1; omega)))
            clear f79
            refine L.val f80 wantedN rfl (by decide) (E.move f80 rfl) fun a81 f81 => ?_
            clear f80 a79
            refine L.val f81 (f81.yes rfl rfl) rfl (by decide) (E.move f81 rfl) fun a82 f82 => ?_
            clear f81 a81
            refine L.call f82 (f82.yes rfl rfl) rfl (by decide) (run_call Try.call14 (args1 f82 rfl)) (flying_any p u3.fly.length u3.fc u3.FA _ _ _ _ _ _ HS3.top) ?_
            rintro e w6x ⟨rfl, rfl⟩
            refine ⟨_, rfl, fun a83 f83 => ?_⟩
            clear f82 a82
            refine L.val f83 (f83.yes rfl rfl) rfl (by decide) (E.move f83 rfl) fun a84 f84 => ?_
            clear f83 a83
            refine L.val f84 (f84.yes rfl rfl) rfl (by decide) (E.lenL f84 Try.underlying27 rfl) fun a85 f85 => ?_
            clear f84 a84
            refine L.val f85 (f85.yes rfl rfl) rfl (by decide) (E.eql f85 rfl rfl) fun a86 f86 => ?_
            clear f85 a85
            have f87 := f86.as (i := 103) (v' := .bool true) rfl (by exact lit_eq (by first | (exact absurd (hb1.symm.trans hb2) (by decide)) | (rw [if_neg (by rintro ⟨h1, h2, h3⟩; first | omega | (exact absurd (h1.symm.trans hb1) (by decide)))] at hR2; omega)))
            clear f86
            refine L.val f87 wantedN rfl (by decide) (E.pickT f87 rfl rfl) fun a88 f88 => ?_
            clear f87 a86
            refine L.val f88 wantedN rfl (by decide) (E.assign f88 rfl) fun a89 f89 => ?_
            clear f88 a88
            refine wpList_nil (hK28 _ _ ?_)
            try clear hK28 K28
            have f90 := f89.sub (sub_cons (i := 8) rfl sub_nil)
            clear f89
            refine wp_ret ?_
            try simp only [Exit.inBlock, Exit.then]
            refine C.ret (P := Try.prog) (fn := Try.f4) f90 rfl rfl ?_
            exact ⟨rfl, HK⟩
      · clear f51
        have hb1 := h2
        refine L.skip f52 (f52.noT rfl rfl) rfl (by decide) fun a53 f53 => ?_
        clear f52 a51
        refine L.skip f53 (f53.noT rfl rfl) rfl (by decide) fun a54 f54 => ?_
        clear f53 a53
        refine L.skip f54 (f54.noT rfl rfl) rfl (by decide) fun a55 f55 => ?_
        clear f54 a54
        refine L.val f55 wantedN rfl (by decide) (E.pickF f55 rfl rfl) fun a56 f56 => ?_
        clear f55 a55
        refine L.val f56 wantedN rfl (by decide) (E.move f56 rfl) fun a57 f57 => ?_
        clear f56 a56
        refine L.skip f57 (f57.noT rfl rfl) rfl (by decide) fun a58 f58 => ?_
        clear f57 a57
        refine L.skip f58 (f58.noT rfl rfl) rfl (by decide) fun a59 f59 => ?_
        clear f58 a58
        refine L.val f59 wantedN rfl (by decide) (E.pickF f59 rfl rfl) fun a60 f60 => ?_
        clear f59 a59
        refine wpList_nil (hK15 _ _ ?_)
        try clear hK15 K15
        have f61 := f60.sub (sub_cons (i := 9) rfl (sub_cons (i := 10) rfl (sub_cons (i := 11) rfl (sub_cons (i := 12) rfl (sub_cons (i := 14) rfl (sub_cons (i := 15) rfl (sub_cons (i := 63) rfl sub_nil)))))))
        clear f60
        refine C.condF f61 rfl ?_
        refine wp_skip (hK14 _ _ ?_)
        try clear hK14 K14
        have f62 := f61.sub (sub_cons (i := 9) rfl (sub_cons (i := 10) rfl (sub_cons (i := 11) rfl (sub_cons (i := 12) rfl (sub_cons (i := 14) rfl (sub_cons (i := 15) rfl sub_nil))))))
        clear f61
        refine wp_seq_k fun K29 hK29 => ?_
        refine wp_seq_k fun K30 hK30 => ?_
        refine C.region ?_
        refine L.val f62 wantedN rfl (by decide) (E.move f62 rfl) fun a63 f63 => ?_
        clear f62 a60
        refine L.val f63 wantedN rfl (by decide) (E.move f63 rfl) fun a64 f64 => ?_
        clear f63 a63
        first | refine f64.splitD 76 rfl (fun h11 f65 => ?_) (fun h11 f65 => ?_) | refine f64.splitN 76 rfl (fun h11 f65 => ?_) (fun h11 f65 => ?_) | refine f64.splitNB 76 rfl (fun h11 f65 => ?_) (fun h11 f65 => ?_) | refine f64.split 76 rfl (fun h11 f65 => ?_) (fun h11 f65 => ?_)
        · clear f64
          have hb2 := h11
          refine L.val f65 (f65.yes rfl rfl) rfl (by decide) (E.fieldAddr f65 Try.underlying35 rfl rfl wsz3_r) fun a66 f66 => ?_
          clear f65 a64
          refine L.val f66 (f66.yes rfl rfl) rfl (by decide) (by exact E.load f66 Try.underlying3 rfl rfl ((Bg3).cl rfl)) fun a67 f67 => ?_
          clear f66 a66
          refine L.val f67 (f67.yes rfl rfl) rfl (by decide) (E.eql f67 rfl rfl) fun a68 f68 => ?_
          clear f67 a67
          refine L.val f68 wantedN rfl (by decide) (E.pickT f68 rfl rfl) fun a69 f69 => ?_
          clear f68 a68
          refine L.val f69 wantedN rfl (by decide) (E.move f69 rfl) fun a70 f70 => ?_
          clear f69 a69
          first | refine f70.splitD 81 rfl (fun h12 f71 => ?_) (fun h12 f71 => ?_) | refine f70.splitN 81 rfl (fun h12 f71 => ?_) (fun h12 f71 => ?_) | refine f70.splitNB 81 rfl (fun h12 f71 => ?_) (fun h12 f71 => ?_) | refine f70.split 81 rfl (fun h12 f71 => ?_) (fun h12 f71 => ?_)
          · clear f70
            have hk5 := h12
            refine L.val f71 (f71.yes rfl rfl) rfl (by decide) (E.move f71 rfl) fun a72 f72 => ?_
            clear f71 a70
            refine L.val f72 (f72.yes rfl rfl) rfl (by decide) (E.eql f72 rfl rfl) fun a73 f73 => ?_
            clear f72 a72
            refine L.val f73 wantedN rfl (by decide) (E.pickT f73 rfl rfl) fun a74 f74 => ?_
            clear f73 a73
            refine wpList_nil (hK30 _ _ ?_)
            try clear hK30 K30
            have f75 := f74.sub (sub_cons (i := 10) rfl (sub_cons (i := 11) rfl (sub_cons (i := 15) rfl (sub_cons (i := 84) rfl sub_nil))))
            clear f74
            first | refine f75.splitD 84 rfl (fun h13 f76 => ?_) (fun h13 f76 => ?_) | refine f75.splitN 84 rfl (fun h13 f76 => ?_) (fun h13 f76 => ?_) | refine f75.splitNB 84 rfl (fun h13 f76 => ?_) (fun h13 f76 => ?_) | refine f75.split 84 rfl (fun h13 f76 => ?_) (fun h13 f76 => ?_)
            · clear f75
              have hq2 := h13
              refine C.condT f76 rfl ?_
              refine wp_seq_k fun K31 hK31 => ?_
              refine C.region ?_
              refine L.val f76 wantedN rfl (by decide) (E.move f76 rfl) fun a77 f77 => ?_
              clear f76 a74
              refine L.val f77 wantedN rfl (by decide) (E.lenL f77 Try.underlying27 rfl) fun a78 f78 => ?_
              clear f77 a77
              refine L.val f78 wantedN rfl (by decide) (E.eql f78 rfl rfl) fun a79 f79 => ?_
              clear f78 a78
              have f80 := f79.as (i := 87) (v' := .bool true) rfl (by exact lit_eq (by first | (exact absurd (hb1.symm.trans hb2) (by decide)) | (rw [if_pos ⟨hb2, hk5, hq2⟩] at hR1; omega)))
              clear f79
              refine L.val f80 wantedN rfl (by decide) (E.move f80 rfl) fun a81 f81 => ?_
              clear f80 a79
              refine L.val f81 (f81.yes rfl rfl) rfl (by decide) (E.move f81 rfl) fun a82 f82 => ?_
              clear f81 a81
              refine L.call f82 (f82.yes rfl rfl) rfl (by decide) (run_call Try.call14 (args1 f82 rfl)) (flying_any p u3.fly.length u3.fc u3.FA _ _ _ _ _ _ HS3.top) ?_
              rintro e w6x ⟨rfl, rfl⟩
              refine ⟨_, rfl, fun a83 f83 => ?_⟩
              clear f82 a82
              refine L.val f83 (f83.yes rfl rfl) rfl (by decide) (E.move f83 rfl) fun a84 f84 => ?_
              clear f83 a83
              refine L.val f84 (f84.yes rfl rfl) rfl (by decide) (E.lenL f84 Try.underlying27 rfl) fun a85 f85 => ?_
              clear f84 a84
              refine L.val f85 (f85.yes rfl rfl) rfl (by decide) (E.eql f85 rfl rfl) fun a86 f86 => ?_
              clear f85 a85
              have f87 := f86.as (i := 93) (v' := .bool true) rfl (by exact lit_eq (by first | (exact absurd (hb1.symm.trans hb2) (by decide)) | (rw [if_neg (by rintro ⟨-, h4, -⟩; omega)] at hR2; omega)))
              clear f86
              refine L.val f87 wantedN rfl (by decide) (E.pickT f87 rfl rfl) fun a88 f88 => ?_
              clear f87 a86
              refine L.val f88 wantedN rfl (by decide) (E.assign f88 rfl) fun a89 f89 => ?_
              clear f88 a88
              refine wpList_nil (hK31 _ _ ?_)
              try clear hK31 K31
              have f90 := f89.sub (sub_cons (i := 8) rfl (sub_cons (i := 10) rfl (sub_cons (i := 11) rfl (sub_cons (i := 15) rfl sub_nil))))
              clear f89
              refine wp_ret ?_
              try simp only [Exit.inBlock, Exit.then]
              refine C.ret (P := Try.prog) (fn := Try.f4) f90 rfl rfl ?_
              exact ⟨rfl, HK⟩
            · clear f75
              have hq2 := h13
              refine C.condF f76 rfl ?_
              refine wp_skip (hK29 _ _ ?_)
              try clear hK29 K29
              have f77 := f76.sub (sub_cons (i := 10) rfl (sub_cons (i := 11) rfl (sub_cons (i := 15) rfl sub_nil)))
              clear f76
              refine wp_seq_k fun K32 hK32 => ?_
              refine C.region ?_
              refine L.val f77 wantedN rfl (by decide) (E.move f77 rfl) fun a78 f78 => ?_
              clear f77 a74
              refine L.val f78 wantedN rfl (by decide) (E.lenL f78 Try.underlying27 rfl) fun a79 f79 => ?_
              clear f78 a78
              refine L.val f79 wantedN rfl (by decide) (E.eql f79 rfl rfl) fun a80 f80 => ?_
              clear f79 a79
              have f81 := f80.as (i := 97) (v' := .bool true) rfl (by exact lit_eq (by first | (exact absurd (hb1.symm.trans hb2) (by decide)) | (rw [if_neg (by rintro ⟨h1, h2, h3⟩; first | omega | (exact absurd (h1.symm.trans hb2) (by decide)))] at hR1; omega)))
              clear f80
              refine L.val f81 wantedN rfl (by decide) (E.move f81 rfl) fun a82 f82 => ?_
              clear f81 a80
              refine L.val f82 (f82.yes rfl rfl) rfl (by decide) (E.move f82 rfl) fun a83 f83 => ?_
              clear f82 a82
              refine L.call f83 (f83.yes rfl rfl) rfl (by decide) (run_call Try.call14 (args1 f83 rfl)) (flying_any p u3.fly.length u3.fc u3.FA _ _ _ _ _ _ HS3.top) ?_
              rintro e w6x ⟨rfl, rfl⟩
              refine ⟨_, rfl, fun a84 f84 => ?_⟩
              clear f83 a83
              refine L.val f84 (f84.yes rfl rfl) rfl (by decide) (E.move f84 rfl) fun a85 f85 => ?_
              clear f84 a84
              refine L.val f85 (f85.yes rfl rfl) rfl (by decide) (E.lenL f85 Try.underlying27 rfl) fun a86 f86 => ?_
              clear f85 a85
              refine L.val f86 (f86.yes rfl rfl) rfl (by decide) (E.eql f86 rfl rfl) fun a87 f87 => ?_
              clear f86 a86
              have f88 := f87.as (i := 103) (v' := .bool true) rfl (by exact lit_eq (by first | (exact absurd (hb1.symm.trans hb2) (by decide)) | (rw [if_neg (by rintro ⟨h1, h2, h3⟩; first | omega | (exact absurd (h1.symm.trans hb1) (by decide)))] at hR2; omega)))
              clear f87
              refine L.val f88 wantedN rfl (by decide) (E.pickT f88 rfl rfl) fun a89 f89 => ?_
              clear f88 a87
              refine L.val f89 wantedN rfl (by decide) (E.assign f89 rfl) fun a90 f90 => ?_
              clear f89 a89
              refine wpList_nil (hK32 _ _ ?_)
              try clear hK32 K32
              have f91 := f90.sub (sub_cons (i := 8) rfl sub_nil)
              clear f90
              refine wp_ret ?_
              try simp only [Exit.inBlock, Exit.then]
              refine C.ret (P := Try.prog) (fn := Try.f4) f91 rfl rfl ?_
              exact ⟨rfl, HK⟩
          · clear f70
            have hk5 := h12
            refine L.skip f71 (f71.noT rfl rfl) rfl (by decide) fun a72 f72 => ?_
            clear f71 a70
            refine L.skip f72 (f72.noT rfl rfl) rfl (by decide) fun a73 f73 => ?_
            clear f72 a72
            refine L.val f73 wantedN rfl (by decide) (E.pickF f73 rfl rfl) fun a74 f74 => ?_
            clear f73 a73
            refine wpList_nil (hK30 _ _ ?_)
            try clear hK30 K30
            have f75 := f74.sub (sub_cons (i := 10) rfl (sub_cons (i := 11) rfl (sub_cons (i := 15) rfl (sub_cons (i := 84) rfl sub_nil))))
            clear f74
            refine C.condF f75 rfl ?_
            refine wp_skip (hK29 _ _ ?_)
            try clear hK29 K29
            have f76 := f75.sub (sub_cons (i := 10) rfl (sub_cons (i := 11) rfl (sub_cons (i := 15) rfl sub_nil)))
            clear f75
            refine wp_seq_k fun K33 hK33 => ?_
            refine C.region ?_
            refine L.val f76 wantedN rfl (by decide) (E.move f76 rfl) fun a77 f77 => ?_
            clear f76 a74
            refine L.val f77 wantedN rfl (by decide) (E.lenL f77 Try.underlying27 rfl) fun a78 f78 => ?_
            clear f77 a77
            refine L.val f78 wantedN rfl (by decide) (E.eql f78 rfl rfl) fun a79 f79 => ?_
            clear f78 a78
            have f80 := f79.as (i := 97) (v' := .bool true) rfl (by exact lit_eq (by first | (exact absurd (hb1.symm.trans hb2) (by decide)) | (rw [if_neg (by rintro ⟨h1, h2, h3⟩; first | omega | (exact absurd (h1.symm.trans hb2) (by decide)))] at hR1; omega)))
            clear f79
            refine L.val f80 wantedN rfl (by decide) (E.move f80 rfl) fun a81 f81 => ?_
            clear f80 a79
            refine L.val f81 (f81.yes rfl rfl) rfl (by decide) (E.move f81 rfl) fun a82 f82 => ?_
            clear f81 a81
            refine L.call f82 (f82.yes rfl rfl) rfl (by decide) (run_call Try.call14 (args1 f82 rfl)) (flying_any p u3.fly.length u3.fc u3.FA _ _ _ _ _ _ HS3.top) ?_
            rintro e w6x ⟨rfl, rfl⟩
            refine ⟨_, rfl, fun a83 f83 => ?_⟩
            clear f82 a82
            refine L.val f83 (f83.yes rfl rfl) rfl (by decide) (E.move f83 rfl) fun a84 f84 => ?_
            clear f83 a83
            refine L.val f84 (f84.yes rfl rfl) rfl (by decide) (E.lenL f84 Try.underlying27 rfl) fun a85 f85 => ?_
            clear f84 a84
            refine L.val f85 (f85.yes rfl rfl) rfl (by decide) (E.eql f85 rfl rfl) fun a86 f86 => ?_
            clear f85 a85
            have f87 := f86.as (i := 103) (v' := .bool true) rfl (by exact lit_eq (by first | (exact absurd (hb1.symm.trans hb2) (by decide)) | (rw [if_neg (by rintro ⟨h1, h2, h3⟩; first | omega | (exact absurd (h1.symm.trans hb1) (by decide)))] at hR2; omega)))
            clear f86
            refine L.val f87 wantedN rfl (by decide) (E.pickT f87 rfl rfl) fun a88 f88 => ?_
            clear f87 a86
            refine L.val f88 wantedN rfl (by decide) (E.assign f88 rfl) fun a89 f89 => ?_
            clear f88 a88
            refine wpList_nil (hK33 _ _ ?_)
            try clear hK33 K33
            have f90 := f89.sub (sub_cons (i := 8) rfl sub_nil)
            clear f89
            refine wp_ret ?_
            try simp only [Exit.inBlock, Exit.then]
            refine C.ret (P := Try.prog) (fn := Try.f4) f90 rfl rfl ?_
            exact ⟨rfl, HK⟩
        · clear f64
          have hb2 := h11
          refine L.skip f65 (f65.noT rfl rfl) rfl (by decide) fun a66 f66 => ?_
          clear f65 a64
          refine L.skip f66 (f66.noT rfl rfl) rfl (by decide) fun a67 f67 => ?_
          clear f66 a66
          refine L.skip f67 (f67.noT rfl rfl) rfl (by decide) fun a68 f68 => ?_
          clear f67 a67
          refine L.val f68 wantedN rfl (by decide) (E.pickF f68 rfl rfl) fun a69 f69 => ?_
          clear f68 a68
          refine L.val f69 wantedN rfl (by decide) (E.move f69 rfl) fun a70 f70 => ?_
          clear f69 a69
          refine L.skip f70 (f70.noT rfl rfl) rfl (by decide) fun a71 f71 => ?_
          clear f70 a70
          refine L.skip f71 (f71.noT rfl rfl) rfl (by decide) fun a72 f72 => ?_
          clear f71 a71
          refine L.val f72 wantedN rfl (by decide) (E.pickF f72 rfl rfl) fun a73 f73 => ?_
          clear f72 a72
          refine wpList_nil (hK30 _ _ ?_)
          try clear hK30 K30
          have f74 := f73.sub (sub_cons (i := 10) rfl (sub_cons (i := 11) rfl (sub_cons (i := 15) rfl (sub_cons (i := 84) rfl sub_nil))))
          clear f73
          refine C.condF f74 rfl ?_
          refine wp_skip (hK29 _ _ ?_)
          try clear hK29 K29
          have f75 := f74.sub (sub_cons (i := 10) rfl (sub_cons (i := 11) rfl (sub_cons (i := 15) rfl sub_nil)))
          clear f74
          refine wp_seq_k fun K34 hK34 => ?_
          refine C.region ?_
          refine L.val f75 wantedN rfl (by decide) (E.move f75 rfl) fun a76 f76 => ?_
          clear f75 a73
          refine L.val f76 wantedN rfl (by decide) (E.lenL f76 Try.underlying27 rfl) fun a77 f77 => ?_
          clear f76 a76
          refine L.val f77 wantedN rfl (by decide) (E.eql f77 rfl rfl) fun a78 f78 => ?_
          clear f77 a77
          have f79 := f78.as (i := 97) (v' := .bool true) rfl (by exact lit_eq (by first | (exact absurd (hb1.symm.trans hb2) (by decide)) | (rw [if_neg (by rintro ⟨h1, h2, h3⟩; first | omega | (exact absurd (h1.symm.trans hb2) (by decide)))] at hR1; omega)))
          clear f78
          refine L.val f79 wantedN rfl (by decide) (E.move f79 rfl) fun a80 f80 => ?_
          clear f79 a78
          refine L.val f80 (f80.yes rfl rfl) rfl (by decide) (E.move f80 rfl) fun a81 f81 => ?_
          clear f80 a80
          refine L.call f81 (f81.yes rfl rfl) rfl (by decide) (run_call Try.call14 (args1 f81 rfl)) (flying_any p u3.fly.length u3.fc u3.FA _ _ _ _ _ _ HS3.top) ?_
          rintro e w6x ⟨rfl, rfl⟩
          refine ⟨_, rfl, fun a82 f82 => ?_⟩
          clear f81 a81
          refine L.val f82 (f82.yes rfl rfl) rfl (by decide) (E.move f82 rfl) fun a83 f83 => ?_
          clear f82 a82
          refine L.val f83 (f83.yes rfl rfl) rfl (by decide) (E.lenL f83 Try.underlying27 rfl) fun a84 f84 => ?_
          clear f83 a83
          refine L.val f84 (f84.yes rfl rfl) rfl (by decide) (E.eql f84 rfl rfl) fun a85 f85 => ?_
          clear f84 a84
          have f86 := f85.as (i := 103) (v' := .bool true) rfl (by exact lit_eq (by first | (exact absurd (hb1.symm.trans hb2) (by decide)) | (rw [if_neg (by rintro ⟨h1, h2, h3⟩; first | omega | (exact absurd (h1.symm.trans hb1) (by decide)))] at hR2; omega)))
          clear f85
          refine L.val f86 wantedN rfl (by decide) (E.pickT f86 rfl rfl) fun a87 f87 => ?_
          clear f86 a85
          refine L.val f87 wantedN rfl (by decide) (E.assign f87 rfl) fun a88 f88 => ?_
          clear f87 a87
          refine wpList_nil (hK34 _ _ ?_)
          try clear hK34 K34
          have f89 := f88.sub (sub_cons (i := 8) rfl sub_nil)
          clear f88
          refine wp_ret ?_
          try simp only [Exit.inBlock, Exit.then]
          refine C.ret (P := Try.prog) (fn := Try.f4) f89 rfl rfl ?_
          exact ⟨rfl, HK⟩

end Go.Proofs.Ytdfllmiokgoekaa
