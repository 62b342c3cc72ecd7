/- Contracts: texts ranged over. -/
import Derived.Test.YtpdacegpjofdeaaDoorTb
set_option linter.all false
namespace Go.Proofs.YtpdacegpjofdeaaDoor
open Go.RowKit Go.Hub


def wildU (b : UInt8) : Bool := wildI b.toNat
def anyW (s : ByteArray) : Bool := s.toList.any wildU
theorem get_some {s : ByteArray} {j : Nat} {b : UInt8} (h : s[j]? = some b) : s.get! j = b := by
  by_cases hj : j < s.size
  · rw [getElem?_pos s j hj] at h
    injection h with h
    rw [← h]
    exact get_at s j hj
  · rw [getElem?_neg s j hj] at h
    cases h
theorem at_some {s : ByteArray} {j : Nat} (h : j < s.size) : ∃ b, s[j]? = some b := ⟨s[j]'h, getElem?_pos s j h⟩
theorem dec_span {s : ByteArray} {pos : Nat} (hp : pos < s.size) : (∃ b, s[pos]? = some b ∧ b.toNat < 128 ∧ (Utf8.decode s pos).1 = b.toNat ∧ (Utf8.decode s pos).2 = 1) ∨
    (128 ≤ (Utf8.decode s pos).1 ∧ 1 ≤ (Utf8.decode s pos).2 ∧ pos + (Utf8.decode s pos).2 ≤ s.size ∧ ∀ j b, pos ≤ j → j < pos + (Utf8.decode s pos).2 → s[j]? = some b → 128 ≤ b.toNat) := by
  by_cases ha : (s[pos]'hp).toNat < 128
  · exact .inl ⟨_, getElem?_pos s pos hp, ha, by rw [decode_ascii s pos hp ha], by rw [decode_ascii s pos hp ha]⟩
  · have hh := decode_high s pos hp (by omega)
    refine .inr ⟨hh.1, hh.2, ?_⟩
    have h0 : ∀ b, s[pos]? = some b → 128 ≤ b.toNat := fun b hb => by
      rw [getElem?_pos s pos hp] at hb
      injection hb with hb
      rw [← hb]; omega
    have key : ∀ k, (∀ i, 1 ≤ i → i < k → pos + i < s.size ∧ (s.get! (pos + i)).toNat / 64 = 2) → pos + k ≤ s.size ∨ k = 0 ∨ k = 1 → ∀ j b, pos ≤ j → j < pos + k → s[j]? = some b → 128 ≤ b.toNat := by
      intro k hk _ j b h1 h2 hb
      by_cases e : j = pos
      · subst e
        exact h0 b hb
      · have := (hk (j - pos) (by omega) (by omega)).2
        rw [show pos + (j - pos) = j by omega, get_some hb] at this
        omega
    have sz : ∀ k, 1 ≤ k → (∀ i, 1 ≤ i → i < k → pos + i < s.size ∧ (s.get! (pos + i)).toNat / 64 = 2) → pos + k ≤ s.size := by
      intro k h1 hk
      by_cases e : k = 1
      · omega
      · have := (hk (k - 1) (by omega) (by omega)).1
        omega
    suffices hs : ∀ i, 1 ≤ i → i < (Utf8.decode s pos).2 → pos + i < s.size ∧ (s.get! (pos + i)).toNat / 64 = 2 from ⟨sz _ hh.2 hs, key _ hs (.inl (sz _ hh.2 hs))⟩
    have hn : ¬ (s[pos]'hp).toNat < 128 := ha
    simp only [Utf8.decode, get_at s pos hp, hn, if_false]
    intro i h1
    repeat' split
    all_goals intro h2
    all_goals simp only [Bool.and_eq_true, decide_eq_true_eq, beq_iff_eq] at *
    all_goals have hi : i = 1 ∨ i = 2 ∨ i = 3 := by omega
    all_goals rcases hi with rfl | rfl | rfl
    all_goals first
      | (exfalso; omega)
      | exact ⟨by omega, by omega⟩
theorem wild_hi {b : UInt8} (h : 128 ≤ b.toNat) : wildU b = false := by unfold wildU wildI; simp; omega
theorem skip_to {s : ByteArray} {pos : Nat} (hp : pos < s.size) : pos + (Utf8.decode s pos).2 ≤ s.size ∧ 1 ≤ (Utf8.decode s pos).2 := by
  rcases dec_span hp with ⟨b, _, _, _, h⟩ | ⟨_, h1, h2, _⟩ <;> omega
theorem skip_next {s : ByteArray} {pos : Nat} (hp : pos < s.size) (hq : ∀ j b, j < pos → s[j]? = some b → wildU b = false) (h : wildI (((Utf8.decode s pos).1 : Nat) : Int) = false) : ∀ j b, j < pos + (Utf8.decode s pos).2 → s[j]? = some b → wildU b = false := by
  intro j b hj hb
  by_cases e : j < pos
  · exact hq j b e hb
  · rcases dec_span hp with ⟨b', hb', _, h1, h2⟩ | ⟨_, _, _, h3⟩
    · obtain rfl : j = pos := by omega
      rw [hb] at hb'
      cases hb'
      rw [h1] at h
      exact h
    · exact wild_hi (h3 j b (by omega) hj hb)
theorem skip_yes {s : ByteArray} {pos : Nat} (hp : pos < s.size) (h : wildI (((Utf8.decode s pos).1 : Nat) : Int) = true) : anyW s = true := by
  rcases dec_span hp with ⟨b, hb, _, h1, h2⟩ | ⟨h1, _⟩
  · rw [h1] at h
    unfold anyW
    rw [ByteArray.toList_eq]
    rw [byte_at, ← Array.getElem?_toList] at hb
    exact List.any_eq_true.2 ⟨b, List.mem_of_getElem? hb, h⟩
  · unfold wildI at h
    simp at h
    omega
theorem skip_no {s : ByteArray} {pos : Nat} (hp : ¬ pos < s.size) (hq : ∀ j b, j < pos → s[j]? = some b → wildU b = false) : anyW s = false := by
  unfold anyW
  rw [ByteArray.toList_eq]
  rw [List.any_eq_false]
  intro b hb
  obtain ⟨j, hj, he⟩ := List.getElem_of_mem hb
  have := hq j b (by simp at hj; have : s.data.size = s.size := rfl; omega) (by rw [byte_at, ← Array.getElem?_toList, List.getElem?_eq_getElem hj, he])
  simp [this]
def IdxPost (s : ByteArray) (w : World) (e : Ending) (w' : World) : Prop := Kept [] w w' ∧ ∃ i, e = .returned (.int .i64 i) ∧ decide (0 ≤ i) = anyW s

set_option maxHeartbeats 1000000 in
theorem idxF_any (s : ByteArray) (w : World) : Calls Tryd.prog 41 #[.string s, .func (.func 23) #[] #[], .bool true] w (IdxPost s w) := by
  have HK : Kept [] w w := Kept.refl [] w
  refine C.enter Tryd.func41 rfl Tryd.ntmps41 rfl ?_
  intro a0 f0
  have f1 : Fr 21 a0 [(0, .string s), (1, .func (.func 23) #[] #[]), (2, .bool true)] := f0
  clear f0
  refine wp_seq_k fun K0 hK0 => ?_
  refine C.region ?_
  refine L.val f1 wantedN rfl (by decide) (E.assign f1 rfl) fun a2 f2 => ?_
  clear f1 a0
  refine wpList_nil (hK0 _ _ ?_)
  try clear hK0 K0
  have f3 := f2.sub (sub_cons (i := 0) rfl (sub_cons (i := 1) rfl (sub_cons (i := 2) rfl (sub_cons (i := 6) rfl sub_nil))))
  clear f2
  refine wp_seq_k fun K1 hK1 => ?_
  refine wp_seq_k fun K2 hK2 => ?_
  refine C.region ?_
  refine L.val f3 wantedN rfl (by decide) (E.move f3 rfl) fun a4 f4 => ?_
  clear f3 a2
  refine L.range f4 wantedN (by decide) Tryd.underlying9 rfl fun a5 w1 g0 Ig0 kg0 log0 f5 => ?_
  clear f4 a4
  have szw1 := kg0.size
  have ltg0 := Ig0.lt
  replace HK := HK.trans kg0 (by simp)
  clear kg0
  refine wpList_nil (hK2 _ _ ?_)
  try clear hK2 K2
  have f6 := f5.sub (sub_cons (i := 1) rfl (sub_cons (i := 2) rfl (sub_cons (i := 6) rfl (sub_cons (i := 10) rfl sub_nil))))
  clear f5
  refine wp_block ?_
  refine C.loop (fun gk a W => ∃ pos : Nat, pos ≤ s.size ∧ s.size ≤ pos + gk ∧ (∀ j b, j < pos → s[j]? = some b → wildU b = false) ∧ Kept [] w W ∧ Iter W g0 s pos ∧ Fr 21 a [(1, .func (.func 23) #[] #[]), (2, .bool true), (10, .pointer (some ⟨g0, 0, none⟩))]) (s.size) ?_ ?_
  · exact ⟨0, by omega, by omega, fun j b h => by omega, HK, Ig0, f6.sub (sub_cons rfl (sub_cons rfl (sub_cons rfl sub_nil)))⟩
  · intro gk4 a7 w2 hI KL3 hKL3
    obtain ⟨pos, hpl, hk, hq, HK, Ig0, f7⟩ := hI
    try clear f6
    refine wp_seq_k fun K4 hK4 => ?_
    refine C.region ?_
    refine L.next f7 wantedN (by decide) rfl Ig0 fun a8 w3 IN3 ki3 f8 => ?_
    clear f7 a7
    have szw3 := ki3.size
    replace HK := HK.trans ki3 (by intro x hx hlt; simp at hx; subst hx; first | (exfalso; omega) | simp)
    replace Ig0 := IN3
    clear ki3
    refine L.val f8 wantedN rfl (by decide) (E.extract f8 rfl nextV_ok) fun a9 f9 => ?_
    clear f8 a8
    refine wpList_nil (hK4 _ _ ?_)
    try clear hK4 K4
    have f10 := f9.sub (sub_cons (i := 1) rfl (sub_cons (i := 2) rfl (sub_cons (i := 10) rfl (sub_cons (i := 11) rfl (sub_cons (i := 12) rfl sub_nil)))))
    clear f9
    refine wp_seq_k fun K5 hK5 => ?_
    first | refine f10.splitD 12 rfl (fun h0 f11 => ?_) (fun h0 f11 => ?_) | refine f10.splitN 12 rfl (fun h0 f11 => ?_) (fun h0 f11 => ?_) | refine f10.splitNB 12 rfl (fun h0 f11 => ?_) (fun h0 f11 => ?_) | refine f10.split 12 rfl (fun h0 f11 => ?_) (fun h0 f11 => ?_)
    · clear f10
      have hp : pos < s.size := by simpa using h0
      refine C.condT f11 rfl ?_
      refine wp_skip (hK5 _ _ ?_)
      try clear hK5 K5
      have f12 := f11.sub (sub_cons (i := 1) rfl (sub_cons (i := 2) rfl (sub_cons (i := 10) rfl (sub_cons (i := 11) rfl (sub_cons (i := 12) rfl sub_nil)))))
      clear f11
      refine wp_block ?_
      refine wp_seq_k fun K6 hK6 => ?_
      refine C.region ?_
      refine L.val f12 wantedN rfl (by decide) (E.extract f12 rfl (nextV_pos hp)) fun a13 f13 => ?_
      clear f12 a9
      refine L.val f13 wantedN rfl (by decide) (E.extract f13 rfl (nextV_rune hp)) fun a14 f14 => ?_
      clear f13 a13
      refine L.val f14 wantedN rfl (by decide) (E.assign f14 rfl) fun a15 f15 => ?_
      clear f14 a14
      refine L.val f15 wantedN rfl (by decide) (E.assign f15 rfl) fun a16 f16 => ?_
      clear f15 a15
      refine wpList_nil (hK6 _ _ ?_)
      try clear hK6 K6
      have f17 := f16.sub (sub_cons (i := 1) rfl (sub_cons (i := 2) rfl (sub_cons (i := 7) rfl (sub_cons (i := 8) rfl (sub_cons (i := 10) rfl (sub_cons (i := 11) rfl (sub_cons (i := 12) rfl (sub_cons (i := 13) rfl (sub_cons (i := 14) rfl sub_nil)))))))))
      clear f16
      refine wp_seq_k fun K7 hK7 => ?_
      refine C.region ?_
      refine L.val f17 wantedN rfl (by decide) (E.move f17 rfl) fun a18 f18 => ?_
      clear f17 a16
      refine L.val f18 wantedN rfl (by decide) (E.move f18 rfl) fun a19 f19 => ?_
      clear f18 a18
      refine L.call f19 wantedN rfl (by decide) (cv1_0 f19 rfl Tryd.call23 rfl) (wild_any _ _) ?_
      rintro e w3x ⟨rfl, rfl⟩
      refine ⟨_, rfl, fun a20 f20 => ?_⟩
      clear f19 a19
      refine L.val f20 wantedN rfl (by decide) (E.move f20 rfl) fun a21 f21 => ?_
      clear f20 a20
      refine L.val f21 wantedN rfl (by decide) (E.eqlB f21 Tryd.underlying4 rfl rfl) fun a22 f22 => ?_
      clear f21 a21
      refine wpList_nil (hK7 _ _ ?_)
      try clear hK7 K7
      have f23 := f22.sub (sub_cons (i := 1) rfl (sub_cons (i := 2) rfl (sub_cons (i := 7) rfl (sub_cons (i := 8) rfl (sub_cons (i := 10) rfl (sub_cons (i := 11) rfl (sub_cons (i := 12) rfl (sub_cons (i := 13) rfl (sub_cons (i := 14) rfl (sub_cons (i := 15) rfl (sub_cons (i := 16) rfl (sub_cons (i := 17) rfl (sub_cons (i := 18) rfl (sub_cons (i := 19) rfl sub_nil))))))))))))))
      clear f22
      first | refine f23.splitD 19 rfl (fun h1 f24 => ?_) (fun h1 f24 => ?_) | refine f23.splitN 19 rfl (fun h1 f24 => ?_) (fun h1 f24 => ?_) | refine f23.splitNB 19 rfl (fun h1 f24 => ?_) (fun h1 f24 => ?_) | refine f23.split 19 rfl (fun h1 f24 => ?_) (fun h1 f24 => ?_)
      · clear f23
        have h19 := h1
        refine C.condT f24 rfl ?_
        refine wp_seq_k fun K8 hK8 => ?_
        refine C.region ?_
        refine L.val f24 wantedN rfl (by decide) (E.move f24 rfl) fun a25 f25 => ?_
        clear f24 a22
        refine L.val f25 wantedN rfl (by decide) (E.assign f25 rfl) fun a26 f26 => ?_
        clear f25 a25
        refine wpList_nil (hK8 _ _ ?_)
        try clear hK8 K8
        have f27 := f26.sub (sub_cons (i := 1) rfl (sub_cons (i := 2) rfl (sub_cons (i := 6) rfl (sub_cons (i := 7) rfl (sub_cons (i := 8) rfl (sub_cons (i := 10) rfl (sub_cons (i := 11) rfl (sub_cons (i := 12) rfl (sub_cons (i := 13) rfl (sub_cons (i := 14) rfl (sub_cons (i := 15) rfl (sub_cons (i := 16) rfl (sub_cons (i := 17) rfl (sub_cons (i := 18) rfl (sub_cons (i := 19) rfl (sub_cons (i := 20) rfl sub_nil))))))))))))))))
        clear f26
        refine wp_ret ?_
        try simp only [Exit.inBlock, Exit.then]
        refine C.ret (P := Tryd.prog) (fn := Tryd.f41) f27 rfl rfl ?_
        exact ⟨HK, _, rfl, by rw [skip_yes hp h19]; simp⟩
      · clear f23
        have h19 := h1
        refine C.condF f24 rfl ?_
        refine wp_skip (hKL3 _ _ (gk4 - 1) ?_ ?_)
        · omega
        · exact ⟨pos + (Utf8.decode s pos).2, (skip_to hp).1, by have := (skip_to hp).2; omega, skip_next hp hq (by simpa using h19), HK, by rw [nextP_at hp] at Ig0; exact Ig0, f24.sub (sub_cons rfl (sub_cons rfl (sub_cons rfl sub_nil)))⟩
    · clear f10
      have hp : ¬ pos < s.size := by simpa using h0
      refine C.condF f11 rfl ?_
      refine wp_exit (hK1 _ _ ?_)
      try clear hK1 K1
      have f12 := f11.sub sub_nil
      clear f11
      refine wp_seq_k fun K9 hK9 => ?_
      refine C.region ?_
      refine L.val f12 wantedN rfl (by decide) (E.assign f12 rfl) fun a13 f13 => ?_
      clear f12 a9
      refine wpList_nil (hK9 _ _ ?_)
      try clear hK9 K9
      have f14 := f13.sub (sub_cons (i := 6) rfl sub_nil)
      clear f13
      refine wp_ret ?_
      try simp only [Exit.inBlock, Exit.then]
      refine C.ret (P := Tryd.prog) (fn := Tryd.f41) f14 rfl rfl ?_
      exact ⟨HK, _, rfl, by rw [skip_no hp hq]; rfl⟩

set_option maxHeartbeats 1000000 in
theorem idx_any (s : ByteArray) (w : World) : Calls Tryd.prog 36 #[.string s, .func (.func 23) #[] #[]] w (IdxPost s w) := by
  have HK : Kept [] w w := Kept.refl [] w
  refine C.enter Tryd.func36 rfl Tryd.ntmps36 rfl ?_
  intro a0 f0
  have f1 : Fr 8 a0 [(0, .string s), (1, .func (.func 23) #[] #[])] := f0
  clear f0
  refine wp_seq_k fun K0 hK0 => ?_
  refine C.region ?_
  refine L.val f1 wantedN rfl (by decide) (E.assign f1 rfl) fun a2 f2 => ?_
  clear f1 a0
  refine wpList_nil (hK0 _ _ ?_)
  try clear hK0 K0
  have f3 := f2.sub (sub_cons (i := 0) rfl (sub_cons (i := 1) rfl (sub_cons (i := 4) rfl sub_nil)))
  clear f2
  refine wp_seq_k fun K1 hK1 => ?_
  refine C.region ?_
  refine L.val f3 wantedN rfl (by decide) (E.move f3 rfl) fun a4 f4 => ?_
  clear f3 a2
  refine L.val f4 wantedN rfl (by decide) (E.move f4 rfl) fun a5 f5 => ?_
  clear f4 a4
  refine L.call f5 wantedN rfl (by decide) (run_call Tryd.call41 (args3 f5 rfl rfl rfl)) (idxF_any s _) ?_
  rintro e w1 ⟨kc1, i, rfl, hi⟩
  refine ⟨_, rfl, fun a6 f6 => ?_⟩
  clear f5 a5
  have szw1 := kc1.size
  replace HK := HK.trans kc1 (by simp)
  clear kc1
  refine L.val f6 wantedN rfl (by decide) (E.assign f6 rfl) fun a7 f7 => ?_
  clear f6 a6
  refine wpList_nil (hK1 _ _ ?_)
  try clear hK1 K1
  have f8 := f7.sub (sub_cons (i := 4) rfl sub_nil)
  clear f7
  refine wp_ret ?_
  try simp only [Exit.inBlock, Exit.then]
  refine C.ret (P := Tryd.prog) (fn := Tryd.f36) f8 rfl rfl ?_
  exact ⟨HK, i, rfl, hi⟩

set_option maxHeartbeats 1000000 in
theorem cont_any (s : ByteArray) (w : World) : Calls Tryd.prog 27 #[.string s, .func (.func 23) #[] #[]] w (fun e w' => Kept [] w w' ∧ e = .returned (.bool (anyW s))) := by
  have HK : Kept [] w w := Kept.refl [] w
  refine C.enter Tryd.func27 rfl Tryd.ntmps27 rfl ?_
  intro a0 f0
  have f1 : Fr 9 a0 [(0, .string s), (1, .func (.func 23) #[] #[])] := f0
  clear f0
  refine wp_seq_k fun K0 hK0 => ?_
  refine C.region ?_
  refine L.val f1 wantedN rfl (by decide) (E.assign f1 rfl) fun a2 f2 => ?_
  clear f1 a0
  refine wpList_nil (hK0 _ _ ?_)
  try clear hK0 K0
  have f3 := f2.sub (sub_cons (i := 0) rfl (sub_cons (i := 1) rfl (sub_cons (i := 4) rfl sub_nil)))
  clear f2
  refine wp_seq_k fun K1 hK1 => ?_
  refine C.region ?_
  refine L.val f3 wantedN rfl (by decide) (E.move f3 rfl) fun a4 f4 => ?_
  clear f3 a2
  refine L.val f4 wantedN rfl (by decide) (E.move f4 rfl) fun a5 f5 => ?_
  clear f4 a4
  refine L.call f5 wantedN rfl (by decide) (run_call Tryd.call36 (args2 f5 rfl rfl)) (idx_any s _) ?_
  rintro e w1 ⟨kc1, i, rfl, hi⟩
  refine ⟨_, rfl, fun a6 f6 => ?_⟩
  clear f5 a5
  have szw1 := kc1.size
  replace HK := HK.trans kc1 (by simp)
  clear kc1
  refine L.val f6 wantedN rfl (by decide) (E.geq f6 rfl rfl) fun a7 f7 => ?_
  clear f6 a6
  refine L.val f7 wantedN rfl (by decide) (E.assign f7 rfl) fun a8 f8 => ?_
  clear f7 a7
  refine wpList_nil (hK1 _ _ ?_)
  try clear hK1 K1
  have f9 := f8.sub (sub_cons (i := 4) rfl sub_nil)
  clear f8
  refine wp_ret ?_
  try simp only [Exit.inBlock, Exit.then]
  refine C.ret (P := Tryd.prog) (fn := Tryd.f27) f9 rfl rfl ?_
  exact ⟨HK, by rw [← hi]⟩

end Go.Proofs.YtpdacegpjofdeaaDoor
