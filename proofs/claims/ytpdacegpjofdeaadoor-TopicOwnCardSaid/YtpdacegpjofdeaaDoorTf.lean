/- Contracts: names. -/
import Derived.Test.YtpdacegpjofdeaaDoorTd
import Derived.Test.YtpdacegpjofdeaaDoorTe
set_option linter.all false
namespace Go.Proofs.YtpdacegpjofdeaaDoor
open Go.RowKit Go.Hub Go.Lib


def nameB (s : ByteArray) : Bool := textB s && !anyW s
theorem any_has (s : ByteArray) : anyW s = (hasB s 43 || hasB s 35) := by
  unfold anyW hasB
  induction s.toList with
  | nil => rfl
  | cons b l ih =>
    rw [List.any_cons, ih, List.contains_cons, List.contains_cons]
    have h1 : wildU b = (43 == b || 35 == b) := by
      unfold wildU wildI
      have e : ∀ c : UInt8, (c == b) = decide (((b.toNat : Nat) : Int) = c.toNat) := fun c => by
        by_cases h : c = b
        · subst h; simp
        · have : ¬ ((b.toNat : Nat) : Int) = c.toNat := fun hh => h (UInt8.toNat_inj.1 (by omega)).symm
          simp [h, this]
      rw [e 43, e 35]
      rfl
    rw [h1]
    cases (43 == b) <;> cases (35 == b) <;> cases (List.contains l 43) <;> cases (List.contains l 35) <;> rfl

set_option maxHeartbeats 1000000 in
theorem name_any (s : ByteArray) (w : World) (G : Glob w) (hs : s.size ≤ 1000000) : Calls Tryd.prog 12 #[.string s] w (fun e w' => Kept [] w w' ∧ e = .returned (.bool (nameB s))) := by
  have HK : Kept [] w w := Kept.refl [] w
  refine C.enter Tryd.func12 rfl Tryd.ntmps12 rfl ?_
  intro a0 f0
  have f1 : Fr 14 a0 [(0, .string s)] := f0
  clear f0
  refine wp_seq_k fun K0 hK0 => ?_
  refine C.region ?_
  refine L.val f1 wantedN rfl (by decide) (E.assign f1 rfl) fun a2 f2 => ?_
  clear f1 a0
  refine wpList_nil (hK0 _ _ ?_)
  try clear hK0 K0
  have f3 := f2.sub (sub_cons (i := 0) rfl (sub_cons (i := 2) rfl sub_nil))
  clear f2
  refine wp_seq_k fun K1 hK1 => ?_
  refine wp_seq_k fun K2 hK2 => ?_
  refine C.region ?_
  refine L.val f3 wantedN rfl (by decide) (E.move f3 rfl) fun a4 f4 => ?_
  clear f3 a2
  refine L.range f4 wantedN (by decide) Tryd.underlying9 rfl fun a5 w1 g0 Ig0 kg0 log0 f5 => ?_
  clear f4 a4
  have szw1 := kg0.size
  have ltg0 := Ig0.lt
  replace HK := HK.trans kg0 (by simp)
  clear kg0
  refine wpList_nil (hK2 _ _ ?_)
  try clear hK2 K2
  have f6 := f5.sub (sub_cons (i := 0) rfl (sub_cons (i := 2) rfl (sub_cons (i := 6) rfl sub_nil)))
  clear f5
  refine wp_block ?_
  refine C.loop (fun gk a W => ∃ pos : Nat, pos ≤ s.size ∧ s.size ≤ pos + gk ∧ (∀ j b, j < pos → s[j]? = some b → wildU b = false) ∧ Kept [] w W ∧ Iter W g0 s pos ∧ Fr 14 a [(0, .string s), (6, .pointer (some ⟨g0, 0, none⟩))]) (s.size) ?_ ?_
  · exact ⟨0, by omega, by omega, fun j b h => by omega, HK, Ig0, f6.sub (sub_cons rfl (sub_cons rfl sub_nil))⟩
  · intro gk4 a7 w2 hI KL3 hKL3
    obtain ⟨pos, hpl, hk, hq, HK, Ig0, f7⟩ := hI
    try clear f6
    refine wp_seq_k fun K4 hK4 => ?_
    refine C.region ?_
    refine L.next f7 wantedN (by decide) rfl Ig0 fun a8 w3 IN3 ki3 f8 => ?_
    clear f7 a7
    have szw3 := ki3.size
    replace HK := HK.trans ki3 (by intro x hx hlt; simp at hx; subst hx; first | (exfalso; omega) | simp)
    replace Ig0 := IN3
    clear ki3
    refine L.val f8 wantedN rfl (by decide) (E.extract f8 rfl nextV_ok) fun a9 f9 => ?_
    clear f8 a8
    refine wpList_nil (hK4 _ _ ?_)
    try clear hK4 K4
    have f10 := f9.sub (sub_cons (i := 0) rfl (sub_cons (i := 6) rfl (sub_cons (i := 7) rfl (sub_cons (i := 8) rfl sub_nil))))
    clear f9
    refine wp_seq_k fun K5 hK5 => ?_
    first | refine f10.splitD 8 rfl (fun h0 f11 => ?_) (fun h0 f11 => ?_) | refine f10.splitN 8 rfl (fun h0 f11 => ?_) (fun h0 f11 => ?_) | refine f10.splitNB 8 rfl (fun h0 f11 => ?_) (fun h0 f11 => ?_) | refine f10.split 8 rfl (fun h0 f11 => ?_) (fun h0 f11 => ?_)
    · clear f10
      have hp : pos < s.size := by simpa using h0
      refine C.condT f11 rfl ?_
      refine wp_skip (hK5 _ _ ?_)
      try clear hK5 K5
      have f12 := f11.sub (sub_cons (i := 0) rfl (sub_cons (i := 6) rfl (sub_cons (i := 7) rfl (sub_cons (i := 8) rfl sub_nil))))
      clear f11
      refine wp_block ?_
      refine wp_seq_k fun K6 hK6 => ?_
      refine C.region ?_
      refine L.val f12 wantedN rfl (by decide) (E.extract f12 rfl (nextV_rune hp)) fun a13 f13 => ?_
      clear f12 a9
      refine L.val f13 wantedN rfl (by decide) (E.assign f13 rfl) fun a14 f14 => ?_
      clear f13 a13
      refine wpList_nil (hK6 _ _ ?_)
      try clear hK6 K6
      have f15 := f14.sub (sub_cons (i := 0) rfl (sub_cons (i := 4) rfl (sub_cons (i := 6) rfl (sub_cons (i := 7) rfl (sub_cons (i := 8) rfl (sub_cons (i := 9) rfl sub_nil))))))
      clear f14
      refine wp_seq_k fun K7 hK7 => ?_
      refine C.region ?_
      refine L.val f15 wantedN rfl (by decide) (E.move f15 rfl) fun a16 f16 => ?_
      clear f15 a14
      refine L.call f16 wantedN rfl (by decide) (run_call Tryd.call23 (args1 f16 rfl)) (wild_any _ _) ?_
      rintro e w3x ⟨rfl, rfl⟩
      refine ⟨_, rfl, fun a17 f17 => ?_⟩
      clear f16 a16
      refine wpList_nil (hK7 _ _ ?_)
      try clear hK7 K7
      have f18 := f17.sub (sub_cons (i := 0) rfl (sub_cons (i := 4) rfl (sub_cons (i := 6) rfl (sub_cons (i := 7) rfl (sub_cons (i := 8) rfl (sub_cons (i := 9) rfl (sub_cons (i := 10) rfl (sub_cons (i := 11) rfl sub_nil))))))))
      clear f17
      first | refine f18.splitD 11 rfl (fun h1 f19 => ?_) (fun h1 f19 => ?_) | refine f18.splitN 11 rfl (fun h1 f19 => ?_) (fun h1 f19 => ?_) | refine f18.splitNB 11 rfl (fun h1 f19 => ?_) (fun h1 f19 => ?_) | refine f18.split 11 rfl (fun h1 f19 => ?_) (fun h1 f19 => ?_)
      · clear f18
        have h11 := h1
        refine C.condT f19 rfl ?_
        refine wp_seq_k fun K8 hK8 => ?_
        refine C.region ?_
        refine L.val f19 wantedN rfl (by decide) (E.assign f19 rfl) fun a20 f20 => ?_
        clear f19 a17
        refine wpList_nil (hK8 _ _ ?_)
        try clear hK8 K8
        have f21 := f20.sub (sub_cons (i := 0) rfl (sub_cons (i := 2) rfl (sub_cons (i := 4) rfl (sub_cons (i := 6) rfl (sub_cons (i := 7) rfl (sub_cons (i := 8) rfl (sub_cons (i := 9) rfl (sub_cons (i := 10) rfl (sub_cons (i := 11) rfl sub_nil)))))))))
        clear f20
        refine wp_ret ?_
        try simp only [Exit.inBlock, Exit.then]
        refine C.ret (P := Tryd.prog) (fn := Tryd.f12) f21 rfl rfl ?_
        exact ⟨HK, by unfold nameB; rw [skip_yes hp h11]; simp⟩
      · clear f18
        have h11 := h1
        refine C.condF f19 rfl ?_
        refine wp_skip (hKL3 _ _ (gk4 - 1) ?_ ?_)
        · omega
        · exact ⟨pos + (Utf8.decode s pos).2, (skip_to hp).1, by have := (skip_to hp).2; omega, skip_next hp hq (by simpa using h11), HK, by rw [nextP_at hp] at Ig0; exact Ig0, f19.sub (sub_cons rfl (sub_cons rfl sub_nil))⟩
    · clear f10
      have hp : ¬ pos < s.size := by simpa using h0
      refine C.condF f11 rfl ?_
      refine wp_exit (hK1 _ _ ?_)
      try clear hK1 K1
      have f12 := f11.sub (sub_cons (i := 0) rfl sub_nil)
      clear f11
      refine wp_seq_k fun K9 hK9 => ?_
      refine C.region ?_
      refine L.val f12 wantedN rfl (by decide) (E.move f12 rfl) fun a13 f13 => ?_
      clear f12 a9
      refine L.call f13 wantedN rfl (by decide) (run_call Tryd.call24 (args1 f13 rfl)) (text_any s w3 (G.kept HK).1 hs) ?_
      rintro e w4 ⟨kc4, rfl⟩
      refine ⟨_, rfl, fun a14 f14 => ?_⟩
      clear f13 a13
      have szw4 := kc4.size
      replace HK := HK.trans kc4 (by simp)
      replace Ig0 := Ig0.kept kc4 (by simp)
      clear kc4
      refine L.val f14 wantedN rfl (by decide) (E.assign f14 rfl) fun a15 f15 => ?_
      clear f14 a14
      refine wpList_nil (hK9 _ _ ?_)
      try clear hK9 K9
      have f16 := f15.sub (sub_cons (i := 2) rfl sub_nil)
      clear f15
      refine wp_ret ?_
      try simp only [Exit.inBlock, Exit.then]
      refine C.ret (P := Tryd.prog) (fn := Tryd.f12) f16 rfl rfl ?_
      exact ⟨HK, by unfold nameB; rw [skip_no hp hq]; simp⟩

set_option maxHeartbeats 1000000 in
theorem nameR_any (s : ByteArray) (w : World) (G : Glob w) (hs : s.size ≤ 1000000) : Calls Tryd.prog 13 #[.string s] w (fun e w' => Kept [] w w' ∧ e = .returned (.bool (nameB s))) := by
  have HK : Kept [] w w := Kept.refl [] w
  refine C.enter Tryd.func13 rfl Tryd.ntmps13 rfl ?_
  intro a0 f0
  have f1 : Fr 15 a0 [(0, .string s)] := f0
  clear f0
  refine wp_seq_k fun K0 hK0 => ?_
  refine C.region ?_
  refine L.val f1 wantedN rfl (by decide) (E.assign f1 rfl) fun a2 f2 => ?_
  clear f1 a0
  refine wpList_nil (hK0 _ _ ?_)
  try clear hK0 K0
  have f3 := f2.sub (sub_cons (i := 0) rfl (sub_cons (i := 2) rfl sub_nil))
  clear f2
  refine wp_seq_k fun K1 hK1 => ?_
  refine C.region ?_
  refine L.val f3 wantedN rfl (by decide) (E.move f3 rfl) fun a4 f4 => ?_
  clear f3 a2
  refine L.call f4 wantedN rfl (by decide) (run_call Tryd.call25 (args1 f4 rfl)) (textR_any s w (G.kept HK).1 hs) ?_
  rintro e w1 ⟨kc1, rfl⟩
  refine ⟨_, rfl, fun a5 f5 => ?_⟩
  clear f4 a4
  have szw1 := kc1.size
  replace HK := HK.trans kc1 (by simp)
  clear kc1
  refine L.val f5 wantedN rfl (by decide) (E.move f5 rfl) fun a6 f6 => ?_
  clear f5 a5
  first | refine f6.splitD 5 rfl (fun h0 f7 => ?_) (fun h0 f7 => ?_) | refine f6.splitN 5 rfl (fun h0 f7 => ?_) (fun h0 f7 => ?_) | refine f6.splitNB 5 rfl (fun h0 f7 => ?_) (fun h0 f7 => ?_) | refine f6.split 5 rfl (fun h0 f7 => ?_) (fun h0 f7 => ?_)
  · clear f6
    have h5 := h0
    refine L.val f7 (f7.yes rfl rfl) rfl (by decide) (E.move f7 rfl) fun a8 f8 => ?_
    clear f7 a6
    refine L.call f8 (f8.yes rfl rfl) rfl (by decide) (run_call Tryd.call26 (args2 f8 rfl rfl)) (has_any s 43 _ hs) ?_
    rintro e w1x ⟨rfl, rfl⟩
    refine ⟨_, rfl, fun a9 f9 => ?_⟩
    clear f8 a8
    refine L.val f9 (f9.yes rfl rfl) rfl (by decide) (E.not f9 rfl) fun a10 f10 => ?_
    clear f9 a9
    refine L.val f10 wantedN rfl (by decide) (E.pickT f10 rfl rfl) fun a11 f11 => ?_
    clear f10 a10
    refine L.val f11 wantedN rfl (by decide) (E.move f11 rfl) fun a12 f12 => ?_
    clear f11 a11
    first | refine f12.splitD 10 rfl (fun h1 f13 => ?_) (fun h1 f13 => ?_) | refine f12.splitN 10 rfl (fun h1 f13 => ?_) (fun h1 f13 => ?_) | refine f12.splitNB 10 rfl (fun h1 f13 => ?_) (fun h1 f13 => ?_) | refine f12.split 10 rfl (fun h1 f13 => ?_) (fun h1 f13 => ?_)
    · clear f12
      have h10 := h1
      refine L.val f13 (f13.yes rfl rfl) rfl (by decide) (E.move f13 rfl) fun a14 f14 => ?_
      clear f13 a12
      refine L.call f14 (f14.yes rfl rfl) rfl (by decide) (run_call Tryd.call26 (args2 f14 rfl rfl)) (has_any s 35 _ hs) ?_
      rintro e w1x ⟨rfl, rfl⟩
      refine ⟨_, rfl, fun a15 f15 => ?_⟩
      clear f14 a14
      refine L.val f15 (f15.yes rfl rfl) rfl (by decide) (E.not f15 rfl) fun a16 f16 => ?_
      clear f15 a15
      refine L.val f16 wantedN rfl (by decide) (E.pickT f16 rfl rfl) fun a17 f17 => ?_
      clear f16 a16
      refine L.val f17 wantedN rfl (by decide) (E.assign f17 rfl) fun a18 f18 => ?_
      clear f17 a17
      refine wpList_nil (hK1 _ _ ?_)
      try clear hK1 K1
      have f19 := f18.sub (sub_cons (i := 2) rfl sub_nil)
      clear f18
      refine wp_ret ?_
      try simp only [Exit.inBlock, Exit.then]
      refine C.ret (P := Tryd.prog) (fn := Tryd.f13) f19 rfl rfl ?_
      exact ⟨HK, by unfold nameB; rw [any_has]; simp [*]⟩
    · clear f12
      have h10 := h1
      refine L.skip f13 (f13.noT rfl rfl) rfl (by decide) fun a14 f14 => ?_
      clear f13 a12
      refine L.skip f14 (f14.noT rfl rfl) rfl (by decide) fun a15 f15 => ?_
      clear f14 a14
      refine L.skip f15 (f15.noT rfl rfl) rfl (by decide) fun a16 f16 => ?_
      clear f15 a15
      refine L.val f16 wantedN rfl (by decide) (E.pickF f16 rfl rfl) fun a17 f17 => ?_
      clear f16 a16
      refine L.val f17 wantedN rfl (by decide) (E.assign f17 rfl) fun a18 f18 => ?_
      clear f17 a17
      refine wpList_nil (hK1 _ _ ?_)
      try clear hK1 K1
      have f19 := f18.sub (sub_cons (i := 2) rfl sub_nil)
      clear f18
      refine wp_ret ?_
      try simp only [Exit.inBlock, Exit.then]
      refine C.ret (P := Tryd.prog) (fn := Tryd.f13) f19 rfl rfl ?_
      exact ⟨HK, by unfold nameB; rw [any_has]; simp [*]⟩
  · clear f6
    have h5 := h0
    refine L.skip f7 (f7.noT rfl rfl) rfl (by decide) fun a8 f8 => ?_
    clear f7 a6
    refine L.skip f8 (f8.noT rfl rfl) rfl (by decide) fun a9 f9 => ?_
    clear f8 a8
    refine L.skip f9 (f9.noT rfl rfl) rfl (by decide) fun a10 f10 => ?_
    clear f9 a9
    refine L.val f10 wantedN rfl (by decide) (E.pickF f10 rfl rfl) fun a11 f11 => ?_
    clear f10 a10
    refine L.val f11 wantedN rfl (by decide) (E.move f11 rfl) fun a12 f12 => ?_
    clear f11 a11
    refine L.skip f12 (f12.noT rfl rfl) rfl (by decide) fun a13 f13 => ?_
    clear f12 a12
    refine L.skip f13 (f13.noT rfl rfl) rfl (by decide) fun a14 f14 => ?_
    clear f13 a13
    refine L.skip f14 (f14.noT rfl rfl) rfl (by decide) fun a15 f15 => ?_
    clear f14 a14
    refine L.val f15 wantedN rfl (by decide) (E.pickF f15 rfl rfl) fun a16 f16 => ?_
    clear f15 a15
    refine L.val f16 wantedN rfl (by decide) (E.assign f16 rfl) fun a17 f17 => ?_
    clear f16 a16
    refine wpList_nil (hK1 _ _ ?_)
    try clear hK1 K1
    have f18 := f17.sub (sub_cons (i := 2) rfl sub_nil)
    clear f17
    refine wp_ret ?_
    try simp only [Exit.inBlock, Exit.then]
    refine C.ret (P := Tryd.prog) (fn := Tryd.f13) f18 rfl rfl ?_
    exact ⟨HK, by unfold nameB; rw [any_has]; simp [*]⟩

end Go.Proofs.YtpdacegpjofdeaaDoor
