/- SessionOff: the walk. -/
import Derived.Test.YtdfllmiokgoekaaSq
set_option linter.all false
namespace Go.Proofs.Ytdfllmiokgoekaa
open Go.RowKit Go.Hub
theorem wzi5_p : (Try.prog.info? 5).map (fun i => (i.zero, i.size)) = some (some (.int .u8 0), 1) := by kernel_rfl
theorem wbs22_1_p (x0 : Int) : Instr.fill (fun i => some (i * 1, 1)) ((Array.range (1 * 1)).map fun j => (Value.cells (.int .u8 0))[j % (Value.cells (.int .u8 0)).size]!) [(0, .int .u8 x0)] = some #[.int .u8 x0] := by kernel_rfl
theorem wsz3_p : (Try.prog.info? 3).map (·.size) = some 1 := by kernel_rfl
theorem wsz4_p : (Try.prog.info? 4).map (·.size) = some 1 := by kernel_rfl
theorem wsz5_p : (Try.prog.info? 5).map (·.size) = some 1 := by kernel_rfl
theorem wsz22_p : (Try.prog.info? 22).map (·.size) = some 1 := by kernel_rfl
theorem wsz35_p : (Try.prog.info? 35).map (·.size) = some 24 := by kernel_rfl
theorem wbl43_0_1_2_p (x0 : ByteArray) (x1 : Option Addr) (y1 z1 : Nat) (x2 : Int) : Try.prog.built 43 [(0, .string x0), (1, .slice x1 y1 z1), (2, .int .i64 x2)] = some #[.string x0, .slice x1 y1 z1, .int .i64 x2, (.bool false)] := by kernel_rfl

theorem Bs_kept0 {E : List TypeId} {B n : Nat} {w w' : World} {A : Option Addr} {l : List UInt8} (h : Bs E B w A n l) (hk : Kept [] w w') : Bs E B w' A n l := h.mod (T := []) (M := []) (.of_kept0 hk) (by simp)
def mOf (j : Nat × Int) : Ms := ⟨⟨#[97]⟩, [UInt8.ofNat j.1], j.2, false⟩
structure OffW (k n : Nat) (W : List Ms) (L : Int) : Prop where
  ex : ∃ js : List (Nat × Int), W = js.map mOf ∧ js.Pairwise (·.1 < ·.1) ∧ ∀ j ∈ js, j.1 < k ∧ (j.2 = 1 ∨ j.2 = 2)
  len : W.length = Min.min n 8
  lost : L = Max.max ((n : Int) - 8) 0 ∧ k ≤ 30
  nk : n ≤ k
  cnt : n ≤ 30
theorem off_start : OffW 0 0 [] 0 := ⟨⟨[], rfl, List.Pairwise.nil, by simp⟩, rfl, by omega, by omega, by omega⟩
def offS (W : List Ms) (L : Int) : SA := ⟨[], 0, [], W, L, []⟩
def offNext (W : List Ms) (L : Int) (k : Nat) (q : Int) : List Ms × Int := if q = 0 then (W, L) else if W.length < 8 then (W ++ [mOf (k, q)], L) else (W, L + 1)
theorem OffW.send {k n : Nat} {W : List Ms} {L b : Int} (_ : OffW k n W L) (hb : 0 ≤ b ∧ b ≤ 255) : sendS ⟨[], 0, [], W, L, []⟩ ⟨⟨#[97]⟩, [UInt8.ofNat k], b % 3, false⟩ false 0 = (⟨[], 0, [], (offNext W L k (b % 3)).1, (offNext W L k (b % 3)).2, []⟩, []) := by
  unfold sendS offNext
  rw [if_neg (by simp)]
  by_cases h0 : b % 3 = 0
  · rw [if_pos (.inl (by show b % 3 < 1; omega)), if_pos h0]
  · rw [if_neg (by show ¬ (b % 3 < 1 ∨ 2 < b % 3); omega), if_neg (by simp), if_neg h0]
    unfold pushS
    simp only
    split <;> rfl
theorem OffW.next0 {k n : Nat} {W : List Ms} {L q : Int} (h : OffW k n W L) (hq : q = 0 ∧ k < 30) : OffW (k + 1) n (offNext W L k q).1 (offNext W L k q).2 := by
  unfold offNext
  rw [if_pos hq.1]
  obtain ⟨js, h1, h2, h3⟩ := h.ex
  exact ⟨⟨js, h1, h2, fun j hj => ⟨Nat.lt_succ_of_lt (h3 j hj).1, (h3 j hj).2⟩⟩, h.len, ⟨h.lost.1, by omega⟩, by have := h.nk; omega, h.cnt⟩
theorem OffW.next1 {k n : Nat} {W : List Ms} {L q : Int} (h : OffW k n W L) (hq : (q = 1 ∨ q = 2) ∧ k < 30) : OffW (k + 1) (n + 1) (offNext W L k q).1 (offNext W L k q).2 := by
  unfold offNext
  rw [if_neg (by omega)]
  obtain ⟨js, h1, h2, h3⟩ := h.ex
  have hl := h.len
  have hL := h.lost
  have hn := h.nk
  split
  · refine ⟨⟨js ++ [(k, q)], by rw [h1, List.map_append]; rfl, ?_, fun j hj => ?_⟩, by simp; omega, ⟨by show L = _; omega, by omega⟩, by omega, by omega⟩
    · rw [List.pairwise_append]
      refine ⟨h2, by simp, fun a ha b hb => ?_⟩
      obtain rfl := List.mem_singleton.1 hb
      exact (h3 a ha).1
    · rcases List.mem_append.1 hj with hj | hj
      · exact ⟨Nat.lt_succ_of_lt (h3 j hj).1, (h3 j hj).2⟩
      · obtain rfl := List.mem_singleton.1 hj
        exact ⟨Nat.lt_succ_self k, hq.1⟩
  · exact ⟨⟨js, h1, h2, fun j hj => ⟨Nat.lt_succ_of_lt (h3 j hj).1, (h3 j hj).2⟩⟩, by show W.length = _; omega, ⟨by show L + 1 = _; omega, by omega⟩, by omega, by omega⟩
structure OffR (k : Nat) (W : List Ms) (js : List (Nat × Int)) (S : SA) (l : List Pa) : Prop where
  len : l.length = Min.min W.length 4
  fly : S.fly.length = l.length
  pw : js.Pairwise (·.1 < ·.1)
  bdj : ∀ j ∈ js, j.1 < k
  k30 : k ≤ 30
  at_ : ∀ (i : Nat) (x : Pa), l[i]? = some x → x.kind = 3 ∧ x.dup = false ∧ x.id = (i : Int) + 1 ∧ ∃ j, js[i]? = some j ∧ x.pay = [UInt8.ofNat j.1]
def pubA (j : Nat × Int) (id : Int) : Pa := ⟨3, false, false, j.2, id, ⟨#[97]⟩, [UInt8.ofNat j.1]⟩
theorem off_res (js : List (Nat × Int)) (L : Int) : ∃ S l, resumeS ⟨[], 0, [], js.map mOf, L, []⟩ 1 = (S, l) ∧ l.length = Min.min js.length 4 ∧ S.fly.length = l.length ∧ ∀ (i : Nat) (x : Pa), l[i]? = some x → x.kind = 3 ∧ x.dup = false ∧ x.id = (i : Int) + 1 ∧ ∃ j, js[i]? = some j ∧ x.pay = [UInt8.ofNat j.1] := by
  match js with
  | [] => exact ⟨_, [], rfl, rfl, rfl, by simp⟩
  | [a] => exact ⟨_, [pubA a 1], rfl, rfl, rfl, fun i x hx => by
      match i, hx with
      | 0, hx => simp at hx; subst hx; exact ⟨rfl, rfl, rfl, a, rfl, rfl⟩⟩
  | [a, b] => exact ⟨_, [pubA a 1, pubA b 2], rfl, rfl, rfl, fun i x hx => by
      match i, hx with
      | 0, hx => simp at hx; subst hx; exact ⟨rfl, rfl, rfl, a, rfl, rfl⟩
      | 1, hx => simp at hx; subst hx; exact ⟨rfl, rfl, rfl, b, rfl, rfl⟩⟩
  | [a, b, c] => exact ⟨_, [pubA a 1, pubA b 2, pubA c 3], rfl, rfl, rfl, fun i x hx => by
      match i, hx with
      | 0, hx => simp at hx; subst hx; exact ⟨rfl, rfl, rfl, a, rfl, rfl⟩
      | 1, hx => simp at hx; subst hx; exact ⟨rfl, rfl, rfl, b, rfl, rfl⟩
      | 2, hx => simp at hx; subst hx; exact ⟨rfl, rfl, rfl, c, rfl, rfl⟩⟩
  | a :: b :: c :: d :: r => exact ⟨_, [pubA a 1, pubA b 2, pubA c 3, pubA d 4], rfl, by simp <;> omega, rfl, fun i x hx => by
      match i, hx with
      | 0, hx => simp at hx; subst hx; exact ⟨rfl, rfl, rfl, a, rfl, rfl⟩
      | 1, hx => simp at hx; subst hx; exact ⟨rfl, rfl, rfl, b, rfl, rfl⟩
      | 2, hx => simp at hx; subst hx; exact ⟨rfl, rfl, rfl, c, rfl, rfl⟩
      | 3, hx => simp at hx; subst hx; exact ⟨rfl, rfl, rfl, d, rfl, rfl⟩⟩
theorem OffW.resume {k n : Nat} {W : List Ms} {L : Int} (h : OffW k n W L) : ∃ js S l, resumeS ⟨[], 0, [], W, L, []⟩ 1 = (S, l) ∧ OffR k W js S l := by
  obtain ⟨js, rfl, h2, h3⟩ := h.ex
  obtain ⟨S, l, e, h4, h5, h6⟩ := off_res js L
  exact ⟨js, S, l, e, by rw [List.length_map]; exact h4, h5, h2, fun j hj => (h3 j hj).1, h.lost.2, h6⟩
theorem OffR.lt {k i i' : Nat} {W : List Ms} {js : List (Nat × Int)} {S : SA} {l : List Pa} {j j' : Nat × Int} (h : OffR k W js S l) (hj' : js[i']? = some j') (hj : js[i]? = some j) (hi : i' < i) : j'.1 < j.1 := by
  obtain ⟨h1, h2⟩ := List.getElem?_eq_some_iff.1 hj'
  obtain ⟨h3, h4⟩ := List.getElem?_eq_some_iff.1 hj
  have := List.pairwise_iff_getElem.1 h.pw i' i h1 h3 hi
  rwa [h2, h4] at this
theorem OffR.bd {k i : Nat} {W : List Ms} {js : List (Nat × Int)} {S : SA} {l : List Pa} {j : Nat × Int} (h : OffR k W js S l) (hj : js[i]? = some j) : j.1 < 256 := by
  have h1 := h.bdj j (List.mem_of_getElem? hj)
  have h2 := h.k30
  omega
theorem off_less {a b : Nat} (h : a < b) (hb : b < 256) : Value.bool (!Op.bytesLess (⟨[UInt8.ofNat a].toArray⟩ : ByteArray).toList (⟨[UInt8.ofNat b].toArray⟩ : ByteArray).toList) = .bool false := by
  rw [ByteArray.toList_eq, ByteArray.toList_eq]
  have h1 : (UInt8.ofNat a) < (UInt8.ofNat b) := by
    rw [UInt8.lt_iff_toNat_lt]
    simp [Nat.mod_eq_of_lt hb, Nat.mod_eq_of_lt (Nat.lt_trans h hb)]
    exact h
  simp [Op.bytesLess, h1]

set_option maxRecDepth 100000 in
set_option maxHeartbeats 4000000 in
theorem off_any (bs : List Int) (Ab : Option Addr) (cb : Nat) (w : World) (A1 : Ys w Ab bs) (hbb : ∀ x ∈ bs, 0 ≤ x ∧ x ≤ 255) (hlb : bs.length ≤ maxLen) : Calls Try.prog 8 #[.slice Ab bs.length cb] w (fun e w' => e = .returned (.bool true) ∧ Below w.heap.size w w') := by
  have HK : Below w.heap.size w w := Below.refl _ _
  unfold maxLen at hlb
  refine C.enter Try.func8 rfl Try.ntmps8 rfl ?_
  intro a0 f0
  have f1 : Fr 123 a0 [(0, .slice Ab bs.length cb)] := f0
  clear f0
  refine wp_seq_k fun K0 hK0 => ?_
  refine C.region ?_
  refine L.val f1 wantedN rfl (by decide) (E.assign f1 rfl) fun a2 f2 => ?_
  clear f1 a0
  refine wpList_nil (hK0 _ _ ?_)
  try clear hK0 K0
  have f3 := f2.sub (sub_cons (i := 0) rfl (sub_cons (i := 2) rfl sub_nil))
  clear f2
  refine wp_seq_k fun K1 hK1 => ?_
  refine wp_seq_k fun K2 hK2 => ?_
  refine C.region ?_
  refine L.call f3 wantedN rfl (by decide) (run_call Try.call9 (args0 f3)) (known_any _) ?_
  rintro e w1 ⟨rfl, kb⟩
  have kc1 : Mod [] [] w.heap.size w w1 := of_below kb
  refine ⟨_, rfl, fun a4 f4 => ?_⟩
  clear f3 a2
  have szw1 := kc1.size
  replace HK := blwm HK kc1
  clear kc1
  refine L.val f4 wantedN rfl (by decide) (E.not f4 rfl) fun a5 f5 => ?_
  clear f4 a4
  refine wpList_nil (hK2 _ _ ?_)
  try clear hK2 K2
  have f6 := f5.sub (sub_cons (i := 0) rfl (sub_cons (i := 2) rfl (sub_cons (i := 9) rfl sub_nil)))
  clear f5
  refine C.condF f6 rfl ?_
  refine wp_skip (hK1 _ _ ?_)
  try clear hK1 K1
  have f7 := f6.sub (sub_cons (i := 0) rfl (sub_cons (i := 2) rfl sub_nil))
  clear f6
  refine wp_seq_k fun K3 hK3 => ?_
  refine wp_seq_k fun K4 hK4 => ?_
  refine C.region ?_
  refine L.val f7 wantedN rfl (by decide) (E.move f7 rfl) fun a8 f8 => ?_
  clear f7 a5
  refine L.val f8 wantedN rfl (by decide) (E.lenL f8 Try.underlying22 rfl) fun a9 f9 => ?_
  clear f8 a8
  refine L.val f9 wantedN rfl (by decide) (E.gtr f9 rfl rfl) fun a10 f10 => ?_
  clear f9 a9
  refine wpList_nil (hK4 _ _ ?_)
  try clear hK4 K4
  have f11 := f10.sub (sub_cons (i := 0) rfl (sub_cons (i := 2) rfl (sub_cons (i := 12) rfl sub_nil)))
  clear f10
  first | refine f11.splitD 12 rfl (fun h0 f12 => ?_) (fun h0 f12 => ?_) | refine f11.splitN 12 rfl (fun h0 f12 => ?_) (fun h0 f12 => ?_) | refine f11.splitNB 12 rfl (fun h0 f12 => ?_) (fun h0 f12 => ?_) | refine f11.split 12 rfl (fun h0 f12 => ?_) (fun h0 f12 => ?_)
  · clear f11
    refine C.condT f12 rfl ?_
    refine wp_seq_k fun K5 hK5 => ?_
    refine C.region ?_
    refine L.val f12 wantedN rfl (by decide) (E.assign f12 rfl) fun a13 f13 => ?_
    clear f12 a10
    refine wpList_nil (hK5 _ _ ?_)
    try clear hK5 K5
    have f14 := f13.sub (sub_cons (i := 0) rfl (sub_cons (i := 2) rfl sub_nil))
    clear f13
    refine wp_ret ?_
    try simp only [Exit.inBlock, Exit.then]
    refine C.ret (P := Try.prog) (fn := Try.f8) f14 rfl rfl ?_
    exact ⟨rfl, HK⟩
  · clear f11
    refine C.condF f12 rfl ?_
    refine wp_skip (hK3 _ _ ?_)
    try clear hK3 K3
    have f13 := f12.sub (sub_cons (i := 0) rfl (sub_cons (i := 2) rfl sub_nil))
    clear f12
    refine wp_seq_k fun K6 hK6 => ?_
    refine C.region ?_
    refine L.call f13 wantedN rfl (by decide) (run_call Try.call10 (args1 f13 rfl)) (new_any ⟨#[107]⟩ w.heap.size _ HK.size) ?_
    rintro e w2 ⟨p, s, rfl, HS, hab, hcl, kc2⟩
    refine ⟨_, rfl, fun a14 f14 => ?_⟩
    clear f13 a10
    have szw2 := kc2.size
    replace HK := blwm HK kc2
    clear kc2
    refine L.val f14 wantedN rfl (by decide) (E.assign f14 rfl) fun a15 f15 => ?_
    clear f14 a14
    refine wpList_nil (hK6 _ _ ?_)
    try clear hK6 K6
    have f16 := f15.sub (sub_cons (i := 0) rfl (sub_cons (i := 2) rfl (sub_cons (i := 3) rfl sub_nil)))
    clear f15
    refine wp_seq_k fun K7 hK7 => ?_
    refine C.region ?_
    refine L.val f16 wantedN rfl (by decide) (E.assign f16 rfl) fun a17 f17 => ?_
    clear f16 a15
    refine wpList_nil (hK7 _ _ ?_)
    try clear hK7 K7
    have f18 := f17.sub (sub_cons (i := 0) rfl (sub_cons (i := 2) rfl (sub_cons (i := 3) rfl (sub_cons (i := 4) rfl sub_nil))))
    clear f17
    refine wp_seq_k fun K8 hK8 => ?_
    refine wp_seq_k fun K9 hK9 => ?_
    refine C.region ?_
    refine L.val f18 wantedN rfl (by decide) (E.assign f18 rfl) fun a19 f19 => ?_
    clear f18 a17
    refine wpList_nil (hK9 _ _ ?_)
    try clear hK9 K9
    have f20 := f19.sub (sub_cons (i := 0) rfl (sub_cons (i := 2) rfl (sub_cons (i := 3) rfl (sub_cons (i := 4) rfl (sub_cons (i := 5) rfl sub_nil)))))
    clear f19
    refine wp_block ?_
    refine C.loop (fun gk a W => ∃ (k n : Nat) (u : Ses) (W' : List Ms) (L : Int), k + gk = bs.length ∧ SesAt w.heap.size W p u ∧ u.abs = ⟨[], 0, [], W', L, []⟩ ∧ OffW k n W' L ∧ Below w.heap.size w W ∧ Fr 123 a [(0, .slice Ab bs.length cb), (3, .pointer (some ⟨p, 0, none⟩)), (4, .int .i64 n), (5, .int .i64 k)]) (bs.length) ?_ ?_
    · exact ⟨0, 0, s, [], 0, by omega, HS, hab, off_start, HK, f20.sub (sub_cons rfl (sub_cons rfl (sub_cons rfl (sub_cons rfl sub_nil))))⟩
    · intro gk11 a21 w3 hI KL10 hKL10
      obtain ⟨k, n, u, V, Lo, hk, HS, hab, hO, HK, f21⟩ := hI
      try clear f20
      have szw1x := HK.size
      have hnk := hO.nk
      refine wp_seq_k fun K11 hK11 => ?_
      refine wp_seq_k fun K12 hK12 => ?_
      refine C.region ?_
      refine L.val f21 wantedN rfl (by decide) (E.move f21 rfl) fun a22 f22 => ?_
      clear f21 a21
      refine L.val f22 wantedN rfl (by decide) (E.move f22 rfl) fun a23 f23 => ?_
      clear f22 a22
      refine L.val f23 wantedN rfl (by decide) (E.lenL f23 Try.underlying22 rfl) fun a24 f24 => ?_
      clear f23 a23
      refine L.val f24 wantedN rfl (by decide) (E.lss f24 rfl rfl) fun a25 f25 => ?_
      clear f24 a24
      refine wpList_nil (hK12 _ _ ?_)
      try clear hK12 K12
      have f26 := f25.sub (sub_cons (i := 0) rfl (sub_cons (i := 3) rfl (sub_cons (i := 4) rfl (sub_cons (i := 5) rfl (sub_cons (i := 14) rfl (sub_cons (i := 15) rfl (sub_cons (i := 16) rfl (sub_cons (i := 17) rfl sub_nil))))))))
      clear f25
      first | refine f26.splitD 17 rfl (fun h1 f27 => ?_) (fun h1 f27 => ?_) | refine f26.splitN 17 rfl (fun h1 f27 => ?_) (fun h1 f27 => ?_) | refine f26.splitNB 17 rfl (fun h1 f27 => ?_) (fun h1 f27 => ?_) | refine f26.split 17 rfl (fun h1 f27 => ?_) (fun h1 f27 => ?_)
      · clear f26
        obtain ⟨b, hb⟩ : ∃ b, bs[k]? = some b := ⟨bs[k]'(by omega), List.getElem?_eq_getElem _⟩
        have hbx := hbb b (List.mem_of_getElem? hb)
        obtain ⟨bk, off, hB⟩ := Sl.addr A1 (by omega)
        refine C.condT f27 rfl ?_
        refine wp_skip (hK11 _ _ ?_)
        try clear hK11 K11
        have f28 := f27.sub (sub_cons (i := 0) rfl (sub_cons (i := 3) rfl (sub_cons (i := 4) rfl (sub_cons (i := 5) rfl (sub_cons (i := 14) rfl (sub_cons (i := 15) rfl (sub_cons (i := 16) rfl (sub_cons (i := 17) rfl sub_nil))))))))
        clear f27
        refine wp_seq_k fun K13 hK13 => ?_
        refine wp_block ?_
        refine wp_seq_k fun K14 hK14 => ?_
        refine wp_seq_k fun K15 hK15 => ?_
        refine C.region ?_
        refine L.val f28 wantedN rfl (by decide) (E.move f28 rfl) fun a29 f29 => ?_
        clear f28 a25
        refine L.val f29 wantedN rfl (by decide) (E.move f29 rfl) fun a30 f30 => ?_
        clear f29 a29
        refine L.val f30 wantedN rfl (by decide) (E.conv f30 Try.underlying3 Try.underlying5 rfl (IntWalk.u8_in _ (by omega))) fun a31 f31 => ?_
        clear f30 a30
        refine L.buildSlice f31 wantedN (by decide) (parts1 f31 rfl) Try.underlying22 wzi5_p rfl rfl (wbs22_1_p _) fun a32 w4 g3 N3 f32 => ?_
        have OB := N3.own (k := 1) (size := 1) rfl (by decide)
        have HPb : Pay w.heap.size w4 (some ⟨g3, 0, none⟩) [UInt8.ofNat k] := pay_one OB (by omega)
        have Bg3 := N3.blk
        have kg3 := N3.kept
        have log3 := N3.lo
        have ltg3 := Bg3.lt
        have szw4 := kg3.size
        replace HK := blwm HK (.of_kept0 (T := []) (M := []) kg3)
        replace HS := HS.mod (Mod.of_kept0 (T := []) (M := []) (B := (w.heap.size)) kg3) (by decide)
        clear N3 kg3
        clear f31 a31
        refine L.val f32 wantedN rfl (by decide) (E.move f32 rfl) fun a33 f33 => ?_
        clear f32 a32
        refine L.val f33 wantedN rfl (by decide) (E.move f33 rfl) fun a34 f34 => ?_
        clear f33 a33
        refine L.val f34 wantedN rfl (by decide) (E.indexA f34 (by first | rfl | assumption) Try.underlying22 wsz5_p rfl rfl (by omega) (by omega)) fun a35 f35 => ?_
        clear f34 a34
        refine L.val f35 wantedN rfl (by decide) (by first | exact E.load f35 Try.underlying5 rfl rfl ((Bg3).cl rfl) | exact E.load f35 Try.underlying5 rfl rfl (ys_cell (A1.below HK) hB hb (by omega))) fun a36 f36 => ?_
        clear f35 a35
        refine L.val f36 wantedN rfl (by decide) (E.rem f36 rfl rfl (by omega) (Int.tmod_eq_emod_of_nonneg (by omega))) fun a37 f37 => ?_
        clear f36 a36
        refine L.val f37 wantedN rfl (by decide) (E.conv f37 Try.underlying5 Try.underlying3 rfl (IntWalk.i64_in _ (by omega))) fun a38 f38 => ?_
        clear f37 a37
        refine L.val f38 wantedN rfl (by decide) (E.build f38 (parts3 f38 rfl rfl rfl) (wbl43_0_1_2_p _ _ _ _ _)) fun a39 f39 => ?_
        clear f38 a38
        have hC := send_any w.heap.size p u ⟨⟨#[97]⟩, [UInt8.ofNat k], b % 3, false⟩ (some ⟨g3, 0, none⟩) 1 false 0 w4 HS HPb HK.size (by have h1 := hO.lost; have h2 : u.lost = Lo := lost_of hab; omega)
        rw [hab, hO.send hbx (k := k)] at hC
        refine L.call f39 wantedN rfl (by decide) (run_call Try.call15 (args4 f39 rfl rfl rfl rfl)) hC ?_
        rintro e w5 ⟨u2, A2, c2, pk2, rfl, HS2, hr2, hL2, kc5, -, -⟩
        injection hr2 with hab2 hp2
        obtain rfl := List.map_eq_nil_iff.1 hp2
        refine ⟨_, rfl, fun a40 f40 => ?_⟩
        clear f39 a39
        have szw5 := kc5.size
        replace HK := blwm HK kc5
        replace Bg3 := Bg3.mod kc5 (by decide)
        clear kc5
        refine L.val f40 wantedN rfl (by decide) (E.lenL f40 Try.underlying27 rfl) fun a41 f41 => ?_
        clear f40 a40
        refine L.val f41 wantedN rfl (by decide) (E.neq f41 rfl rfl) fun a42 f42 => ?_
        clear f41 a41
        have f43 := f42.as (i := 33) (v' := .bool false) rfl (by rfl)
        clear f42
        refine wpList_nil (hK15 _ _ ?_)
        try clear hK15 K15
        have f44 := f43.sub (sub_cons (i := 0) rfl (sub_cons (i := 3) rfl (sub_cons (i := 4) rfl (sub_cons (i := 5) rfl (sub_cons (i := 14) rfl (sub_cons (i := 15) rfl (sub_cons (i := 16) rfl (sub_cons (i := 17) rfl (sub_cons (i := 20) rfl (sub_cons (i := 21) rfl (sub_cons (i := 22) rfl (sub_cons (i := 23) rfl (sub_cons (i := 24) rfl (sub_cons (i := 25) rfl (sub_cons (i := 26) rfl (sub_cons (i := 27) rfl (sub_cons (i := 28) rfl (sub_cons (i := 29) rfl (sub_cons (i := 30) rfl (sub_cons (i := 31) rfl (sub_cons (i := 32) rfl (sub_cons (i := 33) rfl sub_nil))))))))))))))))))))))
        clear f43
        refine C.condF f44 rfl ?_
        refine wp_skip (hK14 _ _ ?_)
        try clear hK14 K14
        have f45 := f44.sub (sub_cons (i := 0) rfl (sub_cons (i := 3) rfl (sub_cons (i := 4) rfl (sub_cons (i := 5) rfl (sub_cons (i := 14) rfl (sub_cons (i := 15) rfl (sub_cons (i := 16) rfl (sub_cons (i := 17) rfl (sub_cons (i := 20) rfl (sub_cons (i := 21) rfl (sub_cons (i := 22) rfl (sub_cons (i := 23) rfl (sub_cons (i := 24) rfl (sub_cons (i := 25) rfl (sub_cons (i := 26) rfl (sub_cons (i := 27) rfl (sub_cons (i := 28) rfl (sub_cons (i := 29) rfl (sub_cons (i := 30) rfl (sub_cons (i := 31) rfl (sub_cons (i := 32) rfl (sub_cons (i := 33) rfl sub_nil))))))))))))))))))))))
        clear f44
        refine wp_seq_k fun K16 hK16 => ?_
        refine C.region ?_
        refine L.val f45 wantedN rfl (by decide) (E.move f45 rfl) fun a46 f46 => ?_
        clear f45 a42
        refine L.val f46 wantedN rfl (by decide) (E.move f46 rfl) fun a47 f47 => ?_
        clear f46 a46
        refine L.val f47 wantedN rfl (by decide) (E.indexA f47 (by first | rfl | assumption) Try.underlying22 wsz5_p rfl rfl (by omega) (by omega)) fun a48 f48 => ?_
        clear f47 a47
        refine L.val f48 wantedN rfl (by decide) (by first | exact E.load f48 Try.underlying5 rfl rfl ((Bg3).cl rfl) | exact E.load f48 Try.underlying5 rfl rfl (ys_cell (A1.below HK) hB hb (by omega))) fun a49 f49 => ?_
        clear f48 a48
        refine L.val f49 wantedN rfl (by decide) (E.rem f49 rfl rfl (by omega) (Int.tmod_eq_emod_of_nonneg (by omega))) fun a50 f50 => ?_
        clear f49 a49
        refine L.val f50 wantedN rfl (by decide) (E.gtr f50 rfl rfl) fun a51 f51 => ?_
        clear f50 a50
        refine wpList_nil (hK16 _ _ ?_)
        try clear hK16 K16
        have f52 := f51.sub (sub_cons (i := 0) rfl (sub_cons (i := 3) rfl (sub_cons (i := 4) rfl (sub_cons (i := 5) rfl (sub_cons (i := 14) rfl (sub_cons (i := 15) rfl (sub_cons (i := 16) rfl (sub_cons (i := 17) rfl (sub_cons (i := 20) rfl (sub_cons (i := 21) rfl (sub_cons (i := 22) rfl (sub_cons (i := 23) rfl (sub_cons (i := 24) rfl (sub_cons (i := 25) rfl (sub_cons (i := 26) rfl (sub_cons (i := 27) rfl (sub_cons (i := 28) rfl (sub_cons (i := 29) rfl (sub_cons (i := 30) rfl (sub_cons (i := 31) rfl (sub_cons (i := 32) rfl (sub_cons (i := 33) rfl (sub_cons (i := 34) rfl (sub_cons (i := 35) rfl (sub_cons (i := 36) rfl (sub_cons (i := 37) rfl (sub_cons (i := 38) rfl (sub_cons (i := 39) rfl sub_nil))))))))))))))))))))))))))))
        clear f51
        first | refine f52.splitD 39 rfl (fun h2 f53 => ?_) (fun h2 f53 => ?_) | refine f52.splitN 39 rfl (fun h2 f53 => ?_) (fun h2 f53 => ?_) | refine f52.splitNB 39 rfl (fun h2 f53 => ?_) (fun h2 f53 => ?_) | refine f52.split 39 rfl (fun h2 f53 => ?_) (fun h2 f53 => ?_)
        · clear f52
          have hpos := h2
          refine C.condT f53 rfl ?_
          refine C.region ?_
          refine L.val f53 wantedN rfl (by decide) (E.move f53 rfl) fun a54 f54 => ?_
          clear f53 a51
          refine L.val f54 wantedN rfl (by decide) (E.add f54 rfl rfl (IntWalk.i64_in _ (by omega))) fun a55 f55 => ?_
          clear f54 a54
          refine L.val f55 wantedN rfl (by decide) (E.assign f55 rfl) fun a56 f56 => ?_
          clear f55 a55
          refine wpList_nil (hK13 _ _ ?_)
          try clear hK13 K13
          have f57 := f56.sub (sub_cons (i := 0) rfl (sub_cons (i := 3) rfl (sub_cons (i := 4) rfl (sub_cons (i := 5) rfl (sub_cons (i := 14) rfl (sub_cons (i := 15) rfl (sub_cons (i := 16) rfl (sub_cons (i := 17) rfl (sub_cons (i := 20) rfl (sub_cons (i := 21) rfl (sub_cons (i := 22) rfl (sub_cons (i := 23) rfl (sub_cons (i := 24) rfl (sub_cons (i := 25) rfl (sub_cons (i := 26) rfl (sub_cons (i := 27) rfl (sub_cons (i := 28) rfl (sub_cons (i := 29) rfl (sub_cons (i := 30) rfl (sub_cons (i := 31) rfl (sub_cons (i := 32) rfl (sub_cons (i := 33) rfl (sub_cons (i := 34) rfl (sub_cons (i := 35) rfl (sub_cons (i := 36) rfl (sub_cons (i := 37) rfl (sub_cons (i := 38) rfl (sub_cons (i := 39) rfl (sub_cons (i := 40) rfl (sub_cons (i := 41) rfl sub_nil))))))))))))))))))))))))))))))
          clear f56
          refine C.region ?_
          refine L.val f57 wantedN rfl (by decide) (E.move f57 rfl) fun a58 f58 => ?_
          clear f57 a56
          refine L.val f58 wantedN rfl (by decide) (E.add f58 rfl rfl (IntWalk.i64_in _ (by omega))) fun a59 f59 => ?_
          clear f58 a58
          refine L.val f59 wantedN rfl (by decide) (E.assign f59 rfl) fun a60 f60 => ?_
          clear f59 a59
          refine wpList_nil (hKL10 _ _ (gk11 - 1) ?_ ?_)
          · omega
          · exact ⟨k + 1, n + 1, u2, _, _, by omega, HS2, hab2, hO.next1 (by omega), HK, by simpa using f60.sub (sub_cons rfl (sub_cons rfl (sub_cons rfl (sub_cons rfl sub_nil))))⟩
        · clear f52
          have hpos := h2
          refine C.condF f53 rfl ?_
          refine wp_skip (hK13 _ _ ?_)
          try clear hK13 K13
          have f54 := f53.sub (sub_cons (i := 0) rfl (sub_cons (i := 3) rfl (sub_cons (i := 4) rfl (sub_cons (i := 5) rfl (sub_cons (i := 14) rfl (sub_cons (i := 15) rfl (sub_cons (i := 16) rfl (sub_cons (i := 17) rfl (sub_cons (i := 20) rfl (sub_cons (i := 21) rfl (sub_cons (i := 22) rfl (sub_cons (i := 23) rfl (sub_cons (i := 24) rfl (sub_cons (i := 25) rfl (sub_cons (i := 26) rfl (sub_cons (i := 27) rfl (sub_cons (i := 28) rfl (sub_cons (i := 29) rfl (sub_cons (i := 30) rfl (sub_cons (i := 31) rfl (sub_cons (i := 32) rfl (sub_cons (i := 33) rfl (sub_cons (i := 34) rfl (sub_cons (i := 35) rfl (sub_cons (i := 36) rfl (sub_cons (i := 37) rfl (sub_cons (i := 38) rfl (sub_cons (i := 39) rfl sub_nil))))))))))))))))))))))))))))
          clear f53
          refine C.region ?_
          refine L.val f54 wantedN rfl (by decide) (E.move f54 rfl) fun a55 f55 => ?_
          clear f54 a51
          refine L.val f55 wantedN rfl (by decide) (E.add f55 rfl rfl (IntWalk.i64_in _ (by omega))) fun a56 f56 => ?_
          clear f55 a55
          refine L.val f56 wantedN rfl (by decide) (E.assign f56 rfl) fun a57 f57 => ?_
          clear f56 a56
          refine wpList_nil (hKL10 _ _ (gk11 - 1) ?_ ?_)
          · omega
          · exact ⟨k + 1, n, u2, _, _, by omega, HS2, hab2, hO.next0 (by omega), HK, by simpa using f57.sub (sub_cons rfl (sub_cons rfl (sub_cons rfl (sub_cons rfl sub_nil))))⟩
      · clear f26
        have hend := h1
        refine C.condF f27 rfl ?_
        refine wp_exit (hK8 _ _ ?_)
        try clear hK8 K8
        have f28 := f27.sub (sub_cons (i := 3) rfl (sub_cons (i := 4) rfl sub_nil))
        clear f27
        refine wp_seq_k fun K17 hK17 => ?_
        refine wp_seq_k fun K18 hK18 => ?_
        have hn := hO.cnt
        have hlo := hO.lost
        have hwl := hO.len
        have hk1 : u.wait.length = V.length := wait_of hab
        have hk2 : u.lost = Lo := lost_of hab
        have hk3 : u.fly.length = 0 := fly_of hab
        refine C.region ?_
        refine L.val f28 wantedN rfl (by decide) (E.move f28 rfl) fun a29 f29 => ?_
        clear f28 a25
        refine L.call f29 wantedN rfl (by decide) (run_call Try.call16 (args1 f29 rfl)) (waiting_any p u.q u.wait.length u.qc u.QA _ u.lost _ _ _ _ _ _ HS.top HS.qu.top) ?_
        rintro e w3x ⟨rfl, rfl⟩
        refine ⟨_, rfl, fun a30 f30 => ?_⟩
        clear f29 a29
        refine L.val f30 wantedN rfl (by decide) (E.move f30 rfl) fun a31 f31 => ?_
        clear f30 a30
        refine L.val f31 wantedN rfl (by decide) (E.min f31 rfl rfl) fun a32 f32 => ?_
        clear f31 a31
        refine L.val f32 wantedN rfl (by decide) (E.neq f32 rfl rfl) fun a33 f33 => ?_
        clear f32 a32
        have f34 := f33.as (i := 46) (v' := .bool false) rfl (by exact lit_ne (by omega))
        clear f33
        refine L.val f34 wantedN rfl (by decide) (E.move f34 rfl) fun a35 f35 => ?_
        clear f34 a33
        refine L.val f35 (f35.yes rfl rfl) rfl (by decide) (E.move f35 rfl) fun a36 f36 => ?_
        clear f35 a35
        refine L.call f36 (f36.yes rfl rfl) rfl (by decide) (run_call Try.call17 (args1 f36 rfl)) (lost_any p u.q u.wait.length u.qc u.QA _ u.lost _ _ _ _ _ _ HS.top HS.qu.top) ?_
        rintro e w3x ⟨rfl, rfl⟩
        refine ⟨_, rfl, fun a37 f37 => ?_⟩
        clear f36 a36
        refine L.val f37 (f37.yes rfl rfl) rfl (by decide) (E.move f37 rfl) fun a38 f38 => ?_
        clear f37 a37
        refine L.val f38 (f38.yes rfl rfl) rfl (by decide) (E.sub f38 rfl rfl (IntWalk.i64_in _ (by omega))) fun a39 f39 => ?_
        clear f38 a38
        refine L.val f39 (f39.yes rfl rfl) rfl (by decide) (E.max f39 rfl rfl) fun a40 f40 => ?_
        clear f39 a39
        refine L.val f40 (f40.yes rfl rfl) rfl (by decide) (E.neq f40 rfl rfl) fun a41 f41 => ?_
        clear f40 a40
        have f42 := f41.as (i := 53) (v' := .bool false) rfl (by exact lit_ne (by omega))
        clear f41
        refine L.val f42 wantedN rfl (by decide) (E.pickF f42 rfl rfl) fun a43 f43 => ?_
        clear f42 a41
        refine L.val f43 wantedN rfl (by decide) (E.move f43 rfl) fun a44 f44 => ?_
        clear f43 a43
        refine L.val f44 (f44.yes rfl rfl) rfl (by decide) (E.move f44 rfl) fun a45 f45 => ?_
        clear f44 a44
        refine L.call f45 (f45.yes rfl rfl) rfl (by decide) (run_call Try.call14 (args1 f45 rfl)) (flying_any p u.fly.length u.fc u.FA _ _ _ _ _ _ HS.top) ?_
        rintro e w3x ⟨rfl, rfl⟩
        refine ⟨_, rfl, fun a46 f46 => ?_⟩
        clear f45 a45
        refine L.val f46 (f46.yes rfl rfl) rfl (by decide) (E.neq f46 rfl rfl) fun a47 f47 => ?_
        clear f46 a46
        have f48 := f47.as (i := 58) (v' := .bool false) rfl (by exact lit_ne (by omega))
        clear f47
        refine L.val f48 wantedN rfl (by decide) (E.pickF f48 rfl rfl) fun a49 f49 => ?_
        clear f48 a47
        refine wpList_nil (hK18 _ _ ?_)
        try clear hK18 K18
        have f50 := f49.sub (sub_cons (i := 3) rfl (sub_cons (i := 4) rfl (sub_cons (i := 59) rfl sub_nil)))
        clear f49
        refine C.condF f50 rfl ?_
        refine wp_skip (hK17 _ _ ?_)
        try clear hK17 K17
        have f51 := f50.sub (sub_cons (i := 3) rfl (sub_cons (i := 4) rfl sub_nil))
        clear f50
        refine wp_seq_k fun K19 hK19 => ?_
        refine C.region ?_
        refine L.val f51 wantedN rfl (by decide) (E.move f51 rfl) fun a52 f52 => ?_
        clear f51 a49
        have hC := Resume_any w.heap.size p u 1 w3 HS HK.size
        rw [hab] at hC
        obtain ⟨js, S3, ps3, hres, hR⟩ := hO.resume
        rw [hres] at hC
        refine L.call f52 wantedN rfl (by decide) (run_call Try.call19 (args2 f52 rfl rfl)) hC ?_
        rintro e w4 ⟨u3, A3, c3, pks, rfl, HS3, hr3, hL3, kc4, PK, hl3⟩
        injection hr3 with hab3 hp3
        have szk := HK.size
        replace PK := PK.lower (w1 := w) szk
        have hlen : pks.length = Min.min V.length 4 := by rw [← hR.len, ← hp3, List.length_map]
        have hfl : u3.fly.length = pks.length := by rw [fly_of hab3, hR.fly, ← hp3, List.length_map]
        refine ⟨_, rfl, fun a53 f53 => ?_⟩
        clear f52 a52
        have szw4 := kc4.size
        replace HK := blwm HK kc4
        clear kc4
        refine L.val f53 wantedN rfl (by decide) (E.assign f53 rfl) fun a54 f54 => ?_
        clear f53 a53
        refine wpList_nil (hK19 _ _ ?_)
        try clear hK19 K19
        have f55 := f54.sub (sub_cons (i := 3) rfl (sub_cons (i := 4) rfl (sub_cons (i := 6) rfl sub_nil)))
        clear f54
        refine wp_seq_k fun K20 hK20 => ?_
        refine wp_seq_k fun K21 hK21 => ?_
        refine C.region ?_
        refine L.val f55 wantedN rfl (by decide) (E.assign f55 rfl) fun a56 f56 => ?_
        clear f55 a54
        refine wpList_nil (hK21 _ _ ?_)
        try clear hK21 K21
        have f57 := f56.sub (sub_cons (i := 3) rfl (sub_cons (i := 4) rfl (sub_cons (i := 6) rfl (sub_cons (i := 7) rfl sub_nil))))
        clear f56
        refine wp_block ?_
        refine C.loop (fun gk a W => ∃ k : Nat, k + gk = pks.length ∧ SesAt w.heap.size W p u3 ∧ PkAt w.heap.size w W A3 c3 pks ∧ Below w.heap.size w W ∧ Fr 123 a [(3, .pointer (some ⟨p, 0, none⟩)), (4, .int .i64 n), (6, .slice A3 pks.length c3), (7, .int .i64 k)]) (pks.length) ?_ ?_
        · exact ⟨0, by omega, HS3, PK, HK, f57.sub (sub_cons rfl (sub_cons rfl (sub_cons rfl (sub_cons rfl sub_nil))))⟩
        · intro gk23 a58 w5 hI KL22 hKL22
          obtain ⟨k, hk, HS3, PK, HK, f58⟩ := hI
          try clear f57
          have szw1x := HK.size
          refine wp_seq_k fun K23 hK23 => ?_
          refine wp_seq_k fun K24 hK24 => ?_
          refine C.region ?_
          refine L.val f58 wantedN rfl (by decide) (E.move f58 rfl) fun a59 f59 => ?_
          clear f58 a58
          refine L.val f59 wantedN rfl (by decide) (E.move f59 rfl) fun a60 f60 => ?_
          clear f59 a59
          refine L.val f60 wantedN rfl (by decide) (E.lenL f60 Try.underlying27 rfl) fun a61 f61 => ?_
          clear f60 a60
          refine L.val f61 wantedN rfl (by decide) (E.lss f61 rfl rfl) fun a62 f62 => ?_
          clear f61 a61
          refine wpList_nil (hK24 _ _ ?_)
          try clear hK24 K24
          have f63 := f62.sub (sub_cons (i := 3) rfl (sub_cons (i := 4) rfl (sub_cons (i := 6) rfl (sub_cons (i := 7) rfl (sub_cons (i := 62) rfl (sub_cons (i := 63) rfl (sub_cons (i := 64) rfl (sub_cons (i := 65) rfl sub_nil))))))))
          clear f62
          first | refine f63.splitD 65 rfl (fun h3 f64 => ?_) (fun h3 f64 => ?_) | refine f63.splitN 65 rfl (fun h3 f64 => ?_) (fun h3 f64 => ?_) | refine f63.splitNB 65 rfl (fun h3 f64 => ?_) (fun h3 f64 => ?_) | refine f63.split 65 rfl (fun h3 f64 => ?_) (fun h3 f64 => ?_)
          · clear f63
            obtain ⟨x, hx⟩ : ∃ x, pks[k]? = some x := ⟨pks[k]'(by omega), List.getElem?_eq_getElem _⟩
            obtain ⟨b, off, hA⟩ := (Sl.of_own PK.fr.own).addr (by omega)
            obtain ⟨hxk, hxd, hxi, j, hj, hxp⟩ := hR.at_ k x.p (by rw [← hp3, List.getElem?_map, hx]; rfl)
            refine C.condT f64 rfl ?_
            refine wp_skip (hK23 _ _ ?_)
            try clear hK23 K23
            have f65 := f64.sub (sub_cons (i := 3) rfl (sub_cons (i := 4) rfl (sub_cons (i := 6) rfl (sub_cons (i := 7) rfl (sub_cons (i := 62) rfl (sub_cons (i := 63) rfl (sub_cons (i := 64) rfl (sub_cons (i := 65) rfl sub_nil))))))))
            clear f64
            refine wp_seq_k fun K25 hK25 => ?_
            refine wp_block ?_
            refine wp_seq_k fun K26 hK26 => ?_
            refine R.begin (S := fun W => Kept [] w5 W) (by kernel_rfl) (by exact (Kept.refl _ _).drewN 1) ?_
            have hS20 : Kept [] w5 (w5.drewN 1) := (Kept.refl _ _).drewN 1
            have hd20 : Kept [] w5 (w5.drewN 1) := (Kept.refl _ _).drewN 1
            obtain ⟨w6, hww6⟩ : ∃ W, W = w5.drewN 1 := ⟨_, rfl⟩
            rw [← hww6] at hS20 hd20 ⊢
            clear hww6
            have szw6 := hS20.size
            refine R.take 0 f65 rfl rfl (by decide) (by kernel_rfl) (by kernel_rfl) (by kernel_rfl) (fun _ _ _ _ h => h) wantedN hS20 (fun W hW => (E.move f65 rfl)) fun a66 f66 => ?_
            clear f65 a62
            refine R.take 1 f66 rfl rfl (by decide) (by kernel_rfl) (by kernel_rfl) (by kernel_rfl) (fun _ _ _ _ h => h) wantedN hS20 (fun W hW => (E.move f66 rfl)) fun a67 f67 => ?_
            clear f66 a66
            refine R.take 2 f67 rfl rfl (by decide) (by kernel_rfl) (by kernel_rfl) (by kernel_rfl) (fun _ _ _ _ h => h) wantedN hS20 (fun W hW => (E.indexA f67 (by first | rfl | assumption) Try.underlying27 wsz35_p rfl rfl (by omega) (by omega))) fun a68 f68 => ?_
            clear f67 a67
            refine R.take 3 f68 rfl rfl (by decide) (by kernel_rfl) (by kernel_rfl) (by kernel_rfl) (fun _ _ _ _ h => h) wantedN hS20 (fun W hW => (E.fieldAddr f68 Try.underlying35 rfl rfl wsz3_p)) fun a69 f69 => ?_
            clear f68 a68
            refine R.take 4 f69 rfl rfl (by decide) (by kernel_rfl) (by kernel_rfl) (by kernel_rfl) (fun _ _ _ _ h => h) wantedN hS20 (fun W hW => (E.load f69 Try.underlying3 rfl rfl (pk_cell (PK.fr.own.kept hW (by simp)) hA (i := k) (x := x) hx 0 rfl (show off + k * 24 + 0 = _ by omega)))) fun a70 f70 => ?_
            clear f69 a69
            refine R.take 5 f70 rfl rfl (by decide) (by kernel_rfl) (by kernel_rfl) (by kernel_rfl) (fun _ _ _ _ h => h) wantedN hS20 (fun W hW => (E.neq f70 rfl rfl)) fun a71 f71 => ?_
            clear f70 a70
            have f72 := f71.as (i := 73) (v' := .bool false) rfl (by exact lit_ne hxk)
            clear f71
            refine R.take 6 f72 rfl rfl (by decide) (by kernel_rfl) (by kernel_rfl) (by kernel_rfl) (fun _ _ _ _ h => h) wantedN hS20 (fun W hW => (E.move f72 rfl)) fun a73 f73 => ?_
            clear f72 a71
            refine R.take 7 f73 rfl rfl (by decide) (by kernel_rfl) (by kernel_rfl) (by kernel_rfl) (fun _ _ _ _ h => h) (f73.yes rfl rfl) hS20 (fun W hW => (E.move f73 rfl)) fun a74 f74 => ?_
            clear f73 a73
            refine R.take 8 f74 rfl rfl (by decide) (by kernel_rfl) (by kernel_rfl) (by kernel_rfl) (fun _ _ _ _ h => h) (f74.yes rfl rfl) hS20 (fun W hW => (E.move f74 rfl)) fun a75 f75 => ?_
            clear f74 a74
            refine R.take 9 f75 rfl rfl (by decide) (by kernel_rfl) (by kernel_rfl) (by kernel_rfl) (fun _ _ _ _ h => h) (f75.yes rfl rfl) hS20 (fun W hW => (E.indexA f75 (by first | rfl | assumption) Try.underlying27 wsz35_p rfl rfl (by omega) (by omega))) fun a76 f76 => ?_
            clear f75 a75
            refine R.take 10 f76 rfl rfl (by decide) (by kernel_rfl) (by kernel_rfl) (by kernel_rfl) (fun _ _ _ _ h => h) (f76.yes rfl rfl) hS20 (fun W hW => (E.fieldAddr f76 Try.underlying35 rfl rfl wsz4_p)) fun a77 f77 => ?_
            clear f76 a76
            refine R.take 11 f77 rfl rfl (by decide) (by kernel_rfl) (by kernel_rfl) (by kernel_rfl) (fun _ _ _ _ h => h) (f77.yes rfl rfl) hS20 (fun W hW => (E.load f77 Try.underlying4 rfl rfl (pk_cell (PK.fr.own.kept hW (by simp)) hA (i := k) (x := x) hx 1 rfl (show off + k * 24 + 1 = _ by omega)))) fun a78 f78 => ?_
            clear f77 a77
            have f79 := f78.as (i := 79) (v' := .bool false) rfl (by rw [hxd])
            clear f78
            refine R.take 12 f79 rfl rfl (by decide) (by kernel_rfl) (by kernel_rfl) (by kernel_rfl) (fun _ _ _ _ h => h) wantedN hS20 (fun W hW => (E.pickF f79 rfl rfl)) fun a80 f80 => ?_
            clear f79 a78
            refine R.take 13 f80 rfl rfl (by decide) (by kernel_rfl) (by kernel_rfl) (by kernel_rfl) (fun _ _ _ _ h => h) wantedN hS20 (fun W hW => (E.move f80 rfl)) fun a81 f81 => ?_
            clear f80 a80
            refine R.take 14 f81 rfl rfl (by decide) (by kernel_rfl) (by kernel_rfl) (by kernel_rfl) (fun _ _ _ _ h => h) (f81.yes rfl rfl) hS20 (fun W hW => (E.move f81 rfl)) fun a82 f82 => ?_
            clear f81 a81
            refine R.take 15 f82 rfl rfl (by decide) (by kernel_rfl) (by kernel_rfl) (by kernel_rfl) (fun _ _ _ _ h => h) (f82.yes rfl rfl) hS20 (fun W hW => (E.move f82 rfl)) fun a83 f83 => ?_
            clear f82 a82
            refine R.take 16 f83 rfl rfl (by decide) (by kernel_rfl) (by kernel_rfl) (by kernel_rfl) (fun _ _ _ _ h => h) (f83.yes rfl rfl) hS20 (fun W hW => (E.indexA f83 (by first | rfl | assumption) Try.underlying27 wsz35_p rfl rfl (by omega) (by omega))) fun a84 f84 => ?_
            clear f83 a83
            refine R.take 17 f84 rfl rfl (by decide) (by kernel_rfl) (by kernel_rfl) (by kernel_rfl) (fun _ _ _ _ h => h) (f84.yes rfl rfl) hS20 (fun W hW => (E.fieldAddr f84 Try.underlying35 rfl rfl wsz3_p)) fun a85 f85 => ?_
            clear f84 a84
            refine R.take 18 f85 rfl rfl (by decide) (by kernel_rfl) (by kernel_rfl) (by kernel_rfl) (fun _ _ _ _ h => h) (f85.yes rfl rfl) hS20 (fun W hW => (E.load f85 Try.underlying3 rfl rfl (pk_cell (PK.fr.own.kept hW (by simp)) hA (i := k) (x := x) hx 4 rfl (show off + k * 24 + 4 = _ by omega)))) fun a86 f86 => ?_
            clear f85 a85
            refine R.take 19 f86 rfl rfl (by decide) (by kernel_rfl) (by kernel_rfl) (by kernel_rfl) (fun _ _ _ _ h => h) (f86.yes rfl rfl) hS20 (fun W hW => (E.move f86 rfl)) fun a87 f87 => ?_
            clear f86 a86
            refine R.take 20 f87 rfl rfl (by decide) (by kernel_rfl) (by kernel_rfl) (by kernel_rfl) (fun _ _ _ _ h => h) (f87.yes rfl rfl) hS20 (fun W hW => (E.add f87 rfl rfl (IntWalk.i64_in _ (by omega)))) fun a88 f88 => ?_
            clear f87 a87
            refine R.take 21 f88 rfl rfl (by decide) (by kernel_rfl) (by kernel_rfl) (by kernel_rfl) (fun _ _ _ _ h => h) (f88.yes rfl rfl) hS20 (fun W hW => (E.neq f88 rfl rfl)) fun a89 f89 => ?_
            clear f88 a88
            have f90 := f89.as (i := 89) (v' := .bool false) rfl (by exact lit_ne (by omega))
            clear f89
            refine R.take 22 f90 rfl rfl (by decide) (by kernel_rfl) (by kernel_rfl) (by kernel_rfl) (fun _ _ _ _ h => h) wantedN hS20 (fun W hW => (E.pickF f90 rfl rfl)) fun a91 f91 => ?_
            clear f90 a89
            refine R.take 23 f91 rfl rfl (by decide) (by kernel_rfl) (by kernel_rfl) (by kernel_rfl) (fun _ _ _ _ h => h) wantedN hS20 (fun W hW => (E.move f91 rfl)) fun a92 f92 => ?_
            clear f91 a91
            refine R.take 24 f92 rfl rfl (by decide) (by kernel_rfl) (by kernel_rfl) (by kernel_rfl) (fun _ _ _ _ h => h) (f92.yes rfl rfl) hS20 (fun W hW => (E.move f92 rfl)) fun a93 f93 => ?_
            clear f92 a92
            refine R.take 25 f93 rfl rfl (by decide) (by kernel_rfl) (by kernel_rfl) (by kernel_rfl) (fun _ _ _ _ h => h) (f93.yes rfl rfl) hS20 (fun W hW => (E.gtr f93 rfl rfl)) fun a94 f94 => ?_
            clear f93 a93
            refine R.take 26 f94 rfl rfl (by decide) (by kernel_rfl) (by kernel_rfl) (by kernel_rfl) (fun _ _ _ _ h => h) (f94.yes rfl rfl) hS20 (fun W hW => (E.move f94 rfl)) fun a95 f95 => ?_
            clear f94 a94
            first | refine f95.splitD 94 rfl (fun h4 f96 => ?_) (fun h4 f96 => ?_) | refine f95.splitN 94 rfl (fun h4 f96 => ?_) (fun h4 f96 => ?_) | refine f95.splitNB 94 rfl (fun h4 f96 => ?_) (fun h4 f96 => ?_) | refine f95.split 94 rfl (fun h4 f96 => ?_) (fun h4 f96 => ?_)
            · clear f95
              have hk0 := h4
              obtain ⟨y, hy⟩ : ∃ y, pks[k - 1]? = some y := ⟨pks[k - 1]'(by omega), List.getElem?_eq_getElem _⟩
              obtain ⟨-, -, -, j', hj', hyp⟩ := hR.at_ (k - 1) y.p (by rw [← hp3, List.getElem?_map, hy]; rfl)
              refine R.take 27 f96 rfl rfl (by decide) (by kernel_rfl) (by kernel_rfl) (by kernel_rfl) (fun _ _ _ _ h => h) (f96.yes rfl rfl) hS20 (fun W hW => (E.move f96 rfl)) fun a97 f97 => ?_
              clear f96 a95
              refine R.take 28 f97 rfl rfl (by decide) (by kernel_rfl) (by kernel_rfl) (by kernel_rfl) (fun _ _ _ _ h => h) (f97.yes rfl rfl) hS20 (fun W hW => (E.move f97 rfl)) fun a98 f98 => ?_
              clear f97 a97
              refine R.take 29 f98 rfl rfl (by decide) (by kernel_rfl) (by kernel_rfl) (by kernel_rfl) (fun _ _ _ _ h => h) (f98.yes rfl rfl) hS20 (fun W hW => (E.sub f98 rfl rfl (IntWalk.i64_in _ (by omega)))) fun a99 f99 => ?_
              clear f98 a98
              refine R.take 30 f99 rfl rfl (by decide) (by kernel_rfl) (by kernel_rfl) (by kernel_rfl) (fun _ _ _ _ h => h) (f99.yes rfl rfl) hS20 (fun W hW => (E.indexA f99 (by first | rfl | assumption) Try.underlying27 wsz35_p rfl rfl (by omega) (by omega))) fun a100 f100 => ?_
              clear f99 a99
              refine R.take 31 f100 rfl rfl (by decide) (by kernel_rfl) (by kernel_rfl) (by kernel_rfl) (fun _ _ _ _ h => h) (f100.yes rfl rfl) hS20 (fun W hW => (E.fieldAddr f100 Try.underlying35 rfl rfl wsz22_p)) fun a101 f101 => ?_
              clear f100 a100
              refine R.take 32 f101 rfl rfl (by decide) (by kernel_rfl) (by kernel_rfl) (by kernel_rfl) (fun _ _ _ _ h => h) (f101.yes rfl rfl) hS20 (fun W hW => (E.load f101 Try.underlying22 rfl rfl (pk_cell (PK.fr.own.kept hW (by simp)) hA (i := (k - 1)) (x := y) hy 6 rfl (show off + ((k : Int) - 1).toNat * 24 + 6 = _ by omega)))) fun a102 f102 => ?_
              clear f101 a101
              refine R.take 33 f102 rfl rfl (by decide) (by kernel_rfl) (by kernel_rfl) (by kernel_rfl) (fun _ _ _ _ h => h) (f102.yes rfl rfl) hS20 (fun W hW => (E.convV f102 rfl ((Bs_kept0 (PK.pay y (List.mem_of_getElem? hy)).1 hW).conv Try.underlying22 Try.underlying5 Try.underlying9))) fun a103 f103 => ?_
              clear f102 a102
              refine R.take 34 f103 rfl rfl (by decide) (by kernel_rfl) (by kernel_rfl) (by kernel_rfl) (fun _ _ _ _ h => h) (f103.yes rfl rfl) hS20 (fun W hW => (E.move f103 rfl)) fun a104 f104 => ?_
              clear f103 a103
              refine R.take 35 f104 rfl rfl (by decide) (by kernel_rfl) (by kernel_rfl) (by kernel_rfl) (fun _ _ _ _ h => h) (f104.yes rfl rfl) hS20 (fun W hW => (E.move f104 rfl)) fun a105 f105 => ?_
              clear f104 a104
              refine R.take 36 f105 rfl rfl (by decide) (by kernel_rfl) (by kernel_rfl) (by kernel_rfl) (fun _ _ _ _ h => h) (f105.yes rfl rfl) hS20 (fun W hW => (E.indexA f105 (by first | rfl | assumption) Try.underlying27 wsz35_p rfl rfl (by omega) (by omega))) fun a106 f106 => ?_
              clear f105 a105
              refine R.take 37 f106 rfl rfl (by decide) (by kernel_rfl) (by kernel_rfl) (by kernel_rfl) (fun _ _ _ _ h => h) (f106.yes rfl rfl) hS20 (fun W hW => (E.fieldAddr f106 Try.underlying35 rfl rfl wsz22_p)) fun a107 f107 => ?_
              clear f106 a106
              refine R.take 38 f107 rfl rfl (by decide) (by kernel_rfl) (by kernel_rfl) (by kernel_rfl) (fun _ _ _ _ h => h) (f107.yes rfl rfl) hS20 (fun W hW => (E.load f107 Try.underlying22 rfl rfl (pk_cell (PK.fr.own.kept hW (by simp)) hA (i := k) (x := x) hx 6 rfl (show off + k * 24 + 6 = _ by omega)))) fun a108 f108 => ?_
              clear f107 a107
              refine R.take 39 f108 rfl rfl (by decide) (by kernel_rfl) (by kernel_rfl) (by kernel_rfl) (fun _ _ _ _ h => h) (f108.yes rfl rfl) hS20 (fun W hW => (E.convV f108 rfl ((Bs_kept0 (PK.pay x (List.mem_of_getElem? hx)).1 hW).conv Try.underlying22 Try.underlying5 Try.underlying9))) fun a109 f109 => ?_
              clear f108 a108
              refine R.take 40 f109 rfl rfl (by decide) (by kernel_rfl) (by kernel_rfl) (by kernel_rfl) (fun _ _ _ _ h => h) (f109.yes rfl rfl) hS20 (fun W hW => (E.geqS f109 rfl rfl)) fun a110 f110 => ?_
              clear f109 a109
              have f111 := f110.as (i := 108) (v' := .bool false) rfl (by rw [hyp, hxp]; exact off_less (hR.lt hj' hj (by omega)) (hR.bd hj))
              clear f110
              refine R.take 41 f111 rfl rfl (by decide) (by kernel_rfl) (by kernel_rfl) (by kernel_rfl) (fun _ _ _ _ h => h) (f111.yes rfl rfl) hS20 (fun W hW => (E.pickT f111 rfl rfl)) fun a112 f112 => ?_
              clear f111 a110
              refine R.take 42 f112 rfl rfl (by decide) (by kernel_rfl) (by kernel_rfl) (by kernel_rfl) (fun _ _ _ _ h => h) wantedN hS20 (fun W hW => (E.pickF f112 rfl rfl)) fun a113 f113 => ?_
              clear f112 a112
              have szw6r := hS20.size
              replace HK := blwm HK (.of_kept0 (T := []) (M := []) hS20)
              replace HS3 := HS3.mod (Mod.of_kept0 (T := []) (M := []) (B := (w.heap.size)) hS20) (by decide)
              replace PK := PK.mod (Mod.of_kept0 (T := []) (M := []) (B := (w.heap.size)) hS20) (by decide)
              clear hS20
              refine R.done (by kernel_rfl) (hK26 _ _ ?_)
              try clear hK26 K26
              have f114 := f113.sub (sub_cons (i := 3) rfl (sub_cons (i := 4) rfl (sub_cons (i := 6) rfl (sub_cons (i := 7) rfl (sub_cons (i := 62) rfl (sub_cons (i := 63) rfl (sub_cons (i := 64) rfl (sub_cons (i := 65) rfl (sub_cons (i := 68) rfl (sub_cons (i := 69) rfl (sub_cons (i := 70) rfl (sub_cons (i := 71) rfl (sub_cons (i := 72) rfl (sub_cons (i := 73) rfl (sub_cons (i := 74) rfl (sub_cons (i := 75) rfl (sub_cons (i := 76) rfl (sub_cons (i := 77) rfl (sub_cons (i := 78) rfl (sub_cons (i := 79) rfl (sub_cons (i := 80) rfl (sub_cons (i := 81) rfl (sub_cons (i := 82) rfl (sub_cons (i := 83) rfl (sub_cons (i := 84) rfl (sub_cons (i := 85) rfl (sub_cons (i := 86) rfl (sub_cons (i := 87) rfl (sub_cons (i := 88) rfl (sub_cons (i := 89) rfl (sub_cons (i := 90) rfl (sub_cons (i := 91) rfl (sub_cons (i := 92) rfl (sub_cons (i := 93) rfl (sub_cons (i := 94) rfl (sub_cons (i := 95) rfl (sub_cons (i := 96) rfl (sub_cons (i := 97) rfl (sub_cons (i := 98) rfl (sub_cons (i := 99) rfl (sub_cons (i := 100) rfl (sub_cons (i := 101) rfl (sub_cons (i := 102) rfl (sub_cons (i := 103) rfl (sub_cons (i := 104) rfl (sub_cons (i := 105) rfl (sub_cons (i := 106) rfl (sub_cons (i := 107) rfl (sub_cons (i := 108) rfl (sub_cons (i := 109) rfl (sub_cons (i := 110) rfl sub_nil)))))))))))))))))))))))))))))))))))))))))))))))))))
              clear f113
              refine C.condF f114 rfl ?_
              refine wp_skip (hK25 _ _ ?_)
              try clear hK25 K25
              have f115 := f114.sub (sub_cons (i := 3) rfl (sub_cons (i := 4) rfl (sub_cons (i := 6) rfl (sub_cons (i := 7) rfl (sub_cons (i := 62) rfl (sub_cons (i := 63) rfl (sub_cons (i := 64) rfl (sub_cons (i := 65) rfl (sub_cons (i := 68) rfl (sub_cons (i := 69) rfl (sub_cons (i := 70) rfl (sub_cons (i := 71) rfl (sub_cons (i := 72) rfl (sub_cons (i := 73) rfl (sub_cons (i := 74) rfl (sub_cons (i := 75) rfl (sub_cons (i := 76) rfl (sub_cons (i := 77) rfl (sub_cons (i := 78) rfl (sub_cons (i := 79) rfl (sub_cons (i := 80) rfl (sub_cons (i := 81) rfl (sub_cons (i := 82) rfl (sub_cons (i := 83) rfl (sub_cons (i := 84) rfl (sub_cons (i := 85) rfl (sub_cons (i := 86) rfl (sub_cons (i := 87) rfl (sub_cons (i := 88) rfl (sub_cons (i := 89) rfl (sub_cons (i := 90) rfl (sub_cons (i := 91) rfl (sub_cons (i := 92) rfl (sub_cons (i := 93) rfl (sub_cons (i := 94) rfl (sub_cons (i := 95) rfl (sub_cons (i := 96) rfl (sub_cons (i := 97) rfl (sub_cons (i := 98) rfl (sub_cons (i := 99) rfl (sub_cons (i := 100) rfl (sub_cons (i := 101) rfl (sub_cons (i := 102) rfl (sub_cons (i := 103) rfl (sub_cons (i := 104) rfl (sub_cons (i := 105) rfl (sub_cons (i := 106) rfl (sub_cons (i := 107) rfl (sub_cons (i := 108) rfl (sub_cons (i := 109) rfl (sub_cons (i := 110) rfl sub_nil)))))))))))))))))))))))))))))))))))))))))))))))))))
              clear f114
              refine C.region ?_
              refine L.val f115 wantedN rfl (by decide) (E.move f115 rfl) fun a116 f116 => ?_
              clear f115 a113
              refine L.val f116 wantedN rfl (by decide) (E.add f116 rfl rfl (IntWalk.i64_in _ (by omega))) fun a117 f117 => ?_
              clear f116 a116
              refine L.val f117 wantedN rfl (by decide) (E.assign f117 rfl) fun a118 f118 => ?_
              clear f117 a117
              refine wpList_nil (hKL22 _ _ (gk23 - 1) ?_ ?_)
              · omega
              · exact ⟨k + 1, by omega, HS3, PK, HK, by simpa using f118.sub (sub_cons rfl (sub_cons rfl (sub_cons rfl (sub_cons rfl sub_nil))))⟩
            · clear f95
              refine R.takeSkip 27 f96 rfl rfl (by decide) (by kernel_rfl) (by kernel_rfl) (by kernel_rfl) (fun _ _ _ _ h => h) (f96.noT rfl rfl) hS20 fun a97 f97 => ?_
              clear f96 a95
              refine R.takeSkip 28 f97 rfl rfl (by decide) (by kernel_rfl) (by kernel_rfl) (by kernel_rfl) (fun _ _ _ _ h => h) (f97.noT rfl rfl) hS20 fun a98 f98 => ?_
              clear f97 a97
              refine R.takeSkip 29 f98 rfl rfl (by decide) (by kernel_rfl) (by kernel_rfl) (by kernel_rfl) (fun _ _ _ _ h => h) (f98.noT rfl rfl) hS20 fun a99 f99 => ?_
              clear f98 a98
              refine R.takeSkip 30 f99 rfl rfl (by decide) (by kernel_rfl) (by kernel_rfl) (by kernel_rfl) (fun _ _ _ _ h => h) (f99.noT rfl rfl) hS20 fun a100 f100 => ?_
              clear f99 a99
              refine R.takeSkip 31 f100 rfl rfl (by decide) (by kernel_rfl) (by kernel_rfl) (by kernel_rfl) (fun _ _ _ _ h => h) (f100.noT rfl rfl) hS20 fun a101 f101 => ?_
              clear f100 a100
              refine R.takeSkip 32 f101 rfl rfl (by decide) (by kernel_rfl) (by kernel_rfl) (by kernel_rfl) (fun _ _ _ _ h => h) (f101.noT rfl rfl) hS20 fun a102 f102 => ?_
              clear f101 a101
              refine R.takeSkip 33 f102 rfl rfl (by decide) (by kernel_rfl) (by kernel_rfl) (by kernel_rfl) (fun _ _ _ _ h => h) (f102.noT rfl rfl) hS20 fun a103 f103 => ?_
              clear f102 a102
              refine R.takeSkip 34 f103 rfl rfl (by decide) (by kernel_rfl) (by kernel_rfl) (by kernel_rfl) (fun _ _ _ _ h => h) (f103.noT rfl rfl) hS20 fun a104 f104 => ?_
              clear f103 a103
              refine R.takeSkip 35 f104 rfl rfl (by decide) (by kernel_rfl) (by kernel_rfl) (by kernel_rfl) (fun _ _ _ _ h => h) (f104.noT rfl rfl) hS20 fun a105 f105 => ?_
              clear f104 a104
              refine R.takeSkip 36 f105 rfl rfl (by decide) (by kernel_rfl) (by kernel_rfl) (by kernel_rfl) (fun _ _ _ _ h => h) (f105.noT rfl rfl) hS20 fun a106 f106 => ?_
              clear f105 a105
              refine R.takeSkip 37 f106 rfl rfl (by decide) (by kernel_rfl) (by kernel_rfl) (by kernel_rfl) (fun _ _ _ _ h => h) (f106.noT rfl rfl) hS20 fun a107 f107 => ?_
              clear f106 a106
              refine R.takeSkip 38 f107 rfl rfl (by decide) (by kernel_rfl) (by kernel_rfl) (by kernel_rfl) (fun _ _ _ _ h => h) (f107.noT rfl rfl) hS20 fun a108 f108 => ?_
              clear f107 a107
              refine R.takeSkip 39 f108 rfl rfl (by decide) (by kernel_rfl) (by kernel_rfl) (by kernel_rfl) (fun _ _ _ _ h => h) (f108.noT rfl rfl) hS20 fun a109 f109 => ?_
              clear f108 a108
              refine R.takeSkip 40 f109 rfl rfl (by decide) (by kernel_rfl) (by kernel_rfl) (by kernel_rfl) (fun _ _ _ _ h => h) (f109.noT rfl rfl) hS20 fun a110 f110 => ?_
              clear f109 a109
              refine R.take 41 f110 rfl rfl (by decide) (by kernel_rfl) (by kernel_rfl) (by kernel_rfl) (fun _ _ _ _ h => h) (f110.yes rfl rfl) hS20 (fun W hW => (E.pickF f110 rfl rfl)) fun a111 f111 => ?_
              clear f110 a110
              refine R.take 42 f111 rfl rfl (by decide) (by kernel_rfl) (by kernel_rfl) (by kernel_rfl) (fun _ _ _ _ h => h) wantedN hS20 (fun W hW => (E.pickF f111 rfl rfl)) fun a112 f112 => ?_
              clear f111 a111
              have szw6r := hS20.size
              replace HK := blwm HK (.of_kept0 (T := []) (M := []) hS20)
              replace HS3 := HS3.mod (Mod.of_kept0 (T := []) (M := []) (B := (w.heap.size)) hS20) (by decide)
              replace PK := PK.mod (Mod.of_kept0 (T := []) (M := []) (B := (w.heap.size)) hS20) (by decide)
              clear hS20
              refine R.done (by kernel_rfl) (hK26 _ _ ?_)
              try clear hK26 K26
              have f113 := f112.sub (sub_cons (i := 3) rfl (sub_cons (i := 4) rfl (sub_cons (i := 6) rfl (sub_cons (i := 7) rfl (sub_cons (i := 62) rfl (sub_cons (i := 63) rfl (sub_cons (i := 64) rfl (sub_cons (i := 65) rfl (sub_cons (i := 68) rfl (sub_cons (i := 69) rfl (sub_cons (i := 70) rfl (sub_cons (i := 71) rfl (sub_cons (i := 72) rfl (sub_cons (i := 73) rfl (sub_cons (i := 74) rfl (sub_cons (i := 75) rfl (sub_cons (i := 76) rfl (sub_cons (i := 77) rfl (sub_cons (i := 78) rfl (sub_cons (i := 79) rfl (sub_cons (i := 80) rfl (sub_cons (i := 81) rfl (sub_cons (i := 82) rfl (sub_cons (i := 83) rfl (sub_cons (i := 84) rfl (sub_cons (i := 85) rfl (sub_cons (i := 86) rfl (sub_cons (i := 87) rfl (sub_cons (i := 88) rfl (sub_cons (i := 89) rfl (sub_cons (i := 90) rfl (sub_cons (i := 91) rfl (sub_cons (i := 92) rfl (sub_cons (i := 93) rfl (sub_cons (i := 94) rfl (sub_cons (i := 95) rfl (sub_cons (i := 96) rfl (sub_cons (i := 97) rfl (sub_cons (i := 98) rfl (sub_cons (i := 99) rfl (sub_cons (i := 100) rfl (sub_cons (i := 101) rfl (sub_cons (i := 102) rfl (sub_cons (i := 103) rfl (sub_cons (i := 104) rfl (sub_cons (i := 105) rfl (sub_cons (i := 106) rfl (sub_cons (i := 107) rfl (sub_cons (i := 108) rfl (sub_cons (i := 109) rfl (sub_cons (i := 110) rfl sub_nil)))))))))))))))))))))))))))))))))))))))))))))))))))
              clear f112
              refine C.condF f113 rfl ?_
              refine wp_skip (hK25 _ _ ?_)
              try clear hK25 K25
              have f114 := f113.sub (sub_cons (i := 3) rfl (sub_cons (i := 4) rfl (sub_cons (i := 6) rfl (sub_cons (i := 7) rfl (sub_cons (i := 62) rfl (sub_cons (i := 63) rfl (sub_cons (i := 64) rfl (sub_cons (i := 65) rfl (sub_cons (i := 68) rfl (sub_cons (i := 69) rfl (sub_cons (i := 70) rfl (sub_cons (i := 71) rfl (sub_cons (i := 72) rfl (sub_cons (i := 73) rfl (sub_cons (i := 74) rfl (sub_cons (i := 75) rfl (sub_cons (i := 76) rfl (sub_cons (i := 77) rfl (sub_cons (i := 78) rfl (sub_cons (i := 79) rfl (sub_cons (i := 80) rfl (sub_cons (i := 81) rfl (sub_cons (i := 82) rfl (sub_cons (i := 83) rfl (sub_cons (i := 84) rfl (sub_cons (i := 85) rfl (sub_cons (i := 86) rfl (sub_cons (i := 87) rfl (sub_cons (i := 88) rfl (sub_cons (i := 89) rfl (sub_cons (i := 90) rfl (sub_cons (i := 91) rfl (sub_cons (i := 92) rfl (sub_cons (i := 93) rfl (sub_cons (i := 94) rfl (sub_cons (i := 95) rfl (sub_cons (i := 96) rfl (sub_cons (i := 97) rfl (sub_cons (i := 98) rfl (sub_cons (i := 99) rfl (sub_cons (i := 100) rfl (sub_cons (i := 101) rfl (sub_cons (i := 102) rfl (sub_cons (i := 103) rfl (sub_cons (i := 104) rfl (sub_cons (i := 105) rfl (sub_cons (i := 106) rfl (sub_cons (i := 107) rfl (sub_cons (i := 108) rfl (sub_cons (i := 109) rfl (sub_cons (i := 110) rfl sub_nil)))))))))))))))))))))))))))))))))))))))))))))))))))
              clear f113
              refine C.region ?_
              refine L.val f114 wantedN rfl (by decide) (E.move f114 rfl) fun a115 f115 => ?_
              clear f114 a112
              refine L.val f115 wantedN rfl (by decide) (E.add f115 rfl rfl (IntWalk.i64_in _ (by omega))) fun a116 f116 => ?_
              clear f115 a115
              refine L.val f116 wantedN rfl (by decide) (E.assign f116 rfl) fun a117 f117 => ?_
              clear f116 a116
              refine wpList_nil (hKL22 _ _ (gk23 - 1) ?_ ?_)
              · omega
              · exact ⟨k + 1, by omega, HS3, PK, HK, by simpa using f117.sub (sub_cons rfl (sub_cons rfl (sub_cons rfl (sub_cons rfl sub_nil))))⟩
          · clear f63
            refine C.condF f64 rfl ?_
            refine wp_exit (hK20 _ _ ?_)
            try clear hK20 K20
            have f65 := f64.sub (sub_cons (i := 3) rfl (sub_cons (i := 4) rfl (sub_cons (i := 6) rfl sub_nil)))
            clear f64
            refine wp_seq_k fun K27 hK27 => ?_
            refine C.region ?_
            refine L.val f65 wantedN rfl (by decide) (E.move f65 rfl) fun a66 f66 => ?_
            clear f65 a62
            refine L.val f66 wantedN rfl (by decide) (E.lenL f66 Try.underlying27 rfl) fun a67 f67 => ?_
            clear f66 a66
            refine L.val f67 wantedN rfl (by decide) (E.move f67 rfl) fun a68 f68 => ?_
            clear f67 a67
            refine L.val f68 wantedN rfl (by decide) (E.min f68 rfl rfl) fun a69 f69 => ?_
            clear f68 a68
            refine L.val f69 wantedN rfl (by decide) (E.eql f69 rfl rfl) fun a70 f70 => ?_
            clear f69 a69
            have f71 := f70.as (i := 115) (v' := .bool true) rfl (by exact lit_eq (by omega))
            clear f70
            refine L.val f71 wantedN rfl (by decide) (E.move f71 rfl) fun a72 f72 => ?_
            clear f71 a70
            refine L.val f72 (f72.yes rfl rfl) rfl (by decide) (E.move f72 rfl) fun a73 f73 => ?_
            clear f72 a72
            refine L.call f73 (f73.yes rfl rfl) rfl (by decide) (run_call Try.call14 (args1 f73 rfl)) (flying_any p u3.fly.length u3.fc u3.FA _ _ _ _ _ _ HS3.top) ?_
            rintro e w5x ⟨rfl, rfl⟩
            refine ⟨_, rfl, fun a74 f74 => ?_⟩
            clear f73 a73
            refine L.val f74 (f74.yes rfl rfl) rfl (by decide) (E.move f74 rfl) fun a75 f75 => ?_
            clear f74 a74
            refine L.val f75 (f75.yes rfl rfl) rfl (by decide) (E.lenL f75 Try.underlying27 rfl) fun a76 f76 => ?_
            clear f75 a75
            refine L.val f76 (f76.yes rfl rfl) rfl (by decide) (E.eql f76 rfl rfl) fun a77 f77 => ?_
            clear f76 a76
            have f78 := f77.as (i := 121) (v' := .bool true) rfl (by exact lit_eq (by omega))
            clear f77
            refine L.val f78 wantedN rfl (by decide) (E.pickT f78 rfl rfl) fun a79 f79 => ?_
            clear f78 a77
            refine L.val f79 wantedN rfl (by decide) (E.assign f79 rfl) fun a80 f80 => ?_
            clear f79 a79
            refine wpList_nil (hK27 _ _ ?_)
            try clear hK27 K27
            have f81 := f80.sub (sub_cons (i := 2) rfl sub_nil)
            clear f80
            refine wp_ret ?_
            try simp only [Exit.inBlock, Exit.then]
            refine C.ret (P := Try.prog) (fn := Try.f8) f81 rfl rfl ?_
            exact ⟨rfl, HK⟩

end Go.Proofs.Ytdfllmiokgoekaa
