/- Contracts: topic's small tests of texts. -/
import Derived.Test.YtpdacegpjofdeaaDoorRows
import Derived.Test.YtpdacegpjofdeaaDoorIt
set_option linter.all false
namespace Go.Proofs.YtpdacegpjofdeaaDoor
open Go.RowKit Go.Hub


def wildI (r : Int) : Bool := decide (r = 43) || decide (r = 35)
def hasB (s : ByteArray) (c : UInt8) : Bool := s.toList.contains c
def prefB (s p : ByteArray) : Bool := decide (p.size ≤ s.size) && decide (s.extract 0 p.size = p)
theorem byte_at (s : ByteArray) (j : Nat) : s[j]? = s.data[j]? := by
  by_cases h : j < s.size
  · rw [getElem?_pos s j h, Array.getElem?_eq_getElem (xs := s.data) h]; rfl
  · rw [getElem?_neg s j h, Array.getElem?_eq_none (xs := s.data) (by simpa using h)]
theorem has_no {s : ByteArray} {c : UInt8} {k : Nat} (hq : ∀ j b, j < k → s[j]? = some b → b ≠ c) (h : s.size ≤ k) : hasB s c = false := by
  unfold hasB
  rw [List.contains_eq_mem]
  simp only [decide_eq_false_iff_not]
  intro hm
  rw [ByteArray.toList_eq] at hm
  obtain ⟨j, hj, he⟩ := List.getElem_of_mem hm
  have hj' : j < s.size := by simpa using hj
  refine hq j c (by omega) ?_ rfl
  rw [byte_at, ← Array.getElem?_toList, List.getElem?_eq_getElem hj, he]
theorem has_yes {s : ByteArray} {c : UInt8} {k : Nat} {b : UInt8} (hb : s[(k : Int).toNat]? = some b) (h : ((b.toNat : Nat) : Int) = ((c.toNat : Nat) : Int)) : hasB s c = true := by
  have e : b = c := UInt8.toNat_inj.1 (by omega)
  subst e
  unfold hasB
  rw [List.contains_eq_mem, ByteArray.toList_eq]
  rw [Int.toNat_natCast, byte_at, ← Array.getElem?_toList] at hb
  simpa using List.mem_of_getElem? hb
theorem has_next {s : ByteArray} {c : UInt8} {k : Nat} {b : UInt8} (hq : ∀ j b, j < k → s[j]? = some b → b ≠ c) (hb : s[k]? = some b) (h : ¬ ((b.toNat : Nat) : Int) = ((c.toNat : Nat) : Int)) : ∀ j b, j < k + 1 → s[j]? = some b → b ≠ c := by
  intro j b' hj hb'
  by_cases e : j = k
  · subst e
    rw [hb] at hb'
    cases hb'
    exact fun e => h (by rw [e])
  · exact hq j b' (by omega) hb'

set_option maxHeartbeats 1000000 in
theorem wild_any (r : Int) (w : World) : Calls Tryd.prog 23 #[.int .i32 r] w (fun e w' => w = w' ∧ e = .returned (.bool (wildI r))) := by
  refine C.enter Tryd.func23 rfl Tryd.ntmps23 rfl ?_
  intro a0 f0
  have f1 : Fr 9 a0 [(0, .int .i32 r)] := f0
  clear f0
  refine wp_seq_k fun K0 hK0 => ?_
  refine C.region ?_
  refine L.val f1 wantedN rfl (by decide) (E.assign f1 rfl) fun a2 f2 => ?_
  clear f1 a0
  refine wpList_nil (hK0 _ _ ?_)
  try clear hK0 K0
  have f3 := f2.sub (sub_cons (i := 0) rfl (sub_cons (i := 2) rfl sub_nil))
  clear f2
  refine wp_seq_k fun K1 hK1 => ?_
  refine C.region ?_
  refine L.val f3 wantedN rfl (by decide) (E.move f3 rfl) fun a4 f4 => ?_
  clear f3 a2
  refine L.val f4 wantedN rfl (by decide) (E.eql f4 rfl rfl) fun a5 f5 => ?_
  clear f4 a4
  refine L.val f5 wantedN rfl (by decide) (E.move f5 rfl) fun a6 f6 => ?_
  clear f5 a5
  first | refine f6.splitD 5 rfl (fun h0 f7 => ?_) (fun h0 f7 => ?_) | refine f6.splitN 5 rfl (fun h0 f7 => ?_) (fun h0 f7 => ?_) | refine f6.splitNB 5 rfl (fun h0 f7 => ?_) (fun h0 f7 => ?_) | refine f6.split 5 rfl (fun h0 f7 => ?_) (fun h0 f7 => ?_)
  · clear f6
    refine L.skip f7 (f7.noF rfl rfl) rfl (by decide) fun a8 f8 => ?_
    clear f7 a6
    refine L.skip f8 (f8.noF rfl rfl) rfl (by decide) fun a9 f9 => ?_
    clear f8 a8
    refine L.val f9 wantedN rfl (by decide) (E.pickT f9 rfl rfl) fun a10 f10 => ?_
    clear f9 a9
    refine L.val f10 wantedN rfl (by decide) (E.assign f10 rfl) fun a11 f11 => ?_
    clear f10 a10
    refine wpList_nil (hK1 _ _ ?_)
    try clear hK1 K1
    have f12 := f11.sub (sub_cons (i := 2) rfl sub_nil)
    clear f11
    refine wp_ret ?_
    try simp only [Exit.inBlock, Exit.then]
    refine C.ret (P := Tryd.prog) (fn := Tryd.f23) f12 rfl rfl ?_
    exact ⟨rfl, by simp [wildI, *]⟩
  · clear f6
    refine L.val f7 (f7.yes rfl rfl) rfl (by decide) (E.move f7 rfl) fun a8 f8 => ?_
    clear f7 a6
    refine L.val f8 (f8.yes rfl rfl) rfl (by decide) (E.eql f8 rfl rfl) fun a9 f9 => ?_
    clear f8 a8
    refine L.val f9 wantedN rfl (by decide) (E.pickF f9 rfl rfl) fun a10 f10 => ?_
    clear f9 a9
    refine L.val f10 wantedN rfl (by decide) (E.assign f10 rfl) fun a11 f11 => ?_
    clear f10 a10
    refine wpList_nil (hK1 _ _ ?_)
    try clear hK1 K1
    have f12 := f11.sub (sub_cons (i := 2) rfl sub_nil)
    clear f11
    refine wp_ret ?_
    try simp only [Exit.inBlock, Exit.then]
    refine C.ret (P := Tryd.prog) (fn := Tryd.f23) f12 rfl rfl ?_
    exact ⟨rfl, by simp [wildI, *]⟩

set_option maxHeartbeats 1000000 in
theorem has_any (s : ByteArray) (c : UInt8) (w : World) (hs : s.size ≤ 1000000) : Calls Tryd.prog 26 #[.string s, .int .u8 c.toNat] w (fun e w' => w = w' ∧ e = .returned (.bool (hasB s c))) := by
  refine C.enter Tryd.func26 rfl Tryd.ntmps26 rfl ?_
  intro a0 f0
  have f1 : Fr 17 a0 [(0, .string s), (1, .int .u8 c.toNat)] := f0
  clear f0
  refine wp_seq_k fun K0 hK0 => ?_
  refine C.region ?_
  refine L.val f1 wantedN rfl (by decide) (E.assign f1 rfl) fun a2 f2 => ?_
  clear f1 a0
  refine wpList_nil (hK0 _ _ ?_)
  try clear hK0 K0
  have f3 := f2.sub (sub_cons (i := 0) rfl (sub_cons (i := 1) rfl (sub_cons (i := 4) rfl sub_nil)))
  clear f2
  refine wp_seq_k fun K1 hK1 => ?_
  refine wp_seq_k fun K2 hK2 => ?_
  refine C.region ?_
  refine L.val f3 wantedN rfl (by decide) (E.assign f3 rfl) fun a4 f4 => ?_
  clear f3 a2
  refine wpList_nil (hK2 _ _ ?_)
  try clear hK2 K2
  have f5 := f4.sub (sub_cons (i := 0) rfl (sub_cons (i := 1) rfl (sub_cons (i := 4) rfl (sub_cons (i := 5) rfl sub_nil))))
  clear f4
  refine wp_block ?_
  refine C.loop (fun gk a W => w = W ∧ ∃ k : Nat, k + gk = s.size ∧ (∀ j b, j < k → s[j]? = some b → b ≠ c) ∧ Fr 17 a [(0, .string s), (1, .int .u8 c.toNat), (5, .int .i64 k)]) (s.size) ?_ ?_
  · exact ⟨rfl, 0, by omega, by omega, f5.sub (sub_cons rfl (sub_cons rfl (sub_cons rfl sub_nil)))⟩
  · intro gk4 a6 w1 hI KL3 hKL3
    obtain ⟨hW, k, hk, hq, f6⟩ := hI
    subst hW
    try clear f5
    refine wp_seq_k fun K4 hK4 => ?_
    refine wp_seq_k fun K5 hK5 => ?_
    refine C.region ?_
    refine L.val f6 wantedN rfl (by decide) (E.move f6 rfl) fun a7 f7 => ?_
    clear f6 a6
    refine L.val f7 wantedN rfl (by decide) (E.move f7 rfl) fun a8 f8 => ?_
    clear f7 a7
    refine L.val f8 wantedN rfl (by decide) (E.lenS f8 Tryd.underlying9 rfl) fun a9 f9 => ?_
    clear f8 a8
    refine L.val f9 wantedN rfl (by decide) (E.lss f9 rfl rfl) fun a10 f10 => ?_
    clear f9 a9
    refine wpList_nil (hK5 _ _ ?_)
    try clear hK5 K5
    have f11 := f10.sub (sub_cons (i := 0) rfl (sub_cons (i := 1) rfl (sub_cons (i := 5) rfl (sub_cons (i := 6) rfl (sub_cons (i := 7) rfl (sub_cons (i := 8) rfl (sub_cons (i := 9) rfl sub_nil)))))))
    clear f10
    first | refine f11.splitD 9 rfl (fun h0 f12 => ?_) (fun h0 f12 => ?_) | refine f11.splitN 9 rfl (fun h0 f12 => ?_) (fun h0 f12 => ?_) | refine f11.splitNB 9 rfl (fun h0 f12 => ?_) (fun h0 f12 => ?_) | refine f11.split 9 rfl (fun h0 f12 => ?_) (fun h0 f12 => ?_)
    · clear f11
      obtain ⟨b, hb⟩ : ∃ b, s[k]? = some b := ⟨s[k]'(by omega), getElem?_pos s k (by omega)⟩
      refine C.condT f12 rfl ?_
      refine wp_skip (hK4 _ _ ?_)
      try clear hK4 K4
      have f13 := f12.sub (sub_cons (i := 0) rfl (sub_cons (i := 1) rfl (sub_cons (i := 5) rfl (sub_cons (i := 6) rfl (sub_cons (i := 7) rfl (sub_cons (i := 8) rfl (sub_cons (i := 9) rfl sub_nil)))))))
      clear f12
      refine wp_seq_k fun K6 hK6 => ?_
      refine wp_block ?_
      refine wp_seq_k fun K7 hK7 => ?_
      refine C.region ?_
      refine L.val f13 wantedN rfl (by decide) (E.move f13 rfl) fun a14 f14 => ?_
      clear f13 a10
      refine L.val f14 wantedN rfl (by decide) (E.move f14 rfl) fun a15 f15 => ?_
      clear f14 a14
      refine L.val f15 wantedN rfl (by decide) (E.indexS f15 Tryd.underlying9 rfl rfl (by omega) (by assumption)) fun a16 f16 => ?_
      clear f15 a15
      refine L.val f16 wantedN rfl (by decide) (E.move f16 rfl) fun a17 f17 => ?_
      clear f16 a16
      refine L.val f17 wantedN rfl (by decide) (E.eql f17 rfl rfl) fun a18 f18 => ?_
      clear f17 a17
      refine wpList_nil (hK7 _ _ ?_)
      try clear hK7 K7
      have f19 := f18.sub (sub_cons (i := 0) rfl (sub_cons (i := 1) rfl (sub_cons (i := 5) rfl (sub_cons (i := 6) rfl (sub_cons (i := 7) rfl (sub_cons (i := 8) rfl (sub_cons (i := 9) rfl (sub_cons (i := 12) rfl (sub_cons (i := 13) rfl (sub_cons (i := 14) rfl (sub_cons (i := 15) rfl (sub_cons (i := 16) rfl sub_nil))))))))))))
      clear f18
      first | refine f19.splitD 16 rfl (fun h1 f20 => ?_) (fun h1 f20 => ?_) | refine f19.splitN 16 rfl (fun h1 f20 => ?_) (fun h1 f20 => ?_) | refine f19.splitNB 16 rfl (fun h1 f20 => ?_) (fun h1 f20 => ?_) | refine f19.split 16 rfl (fun h1 f20 => ?_) (fun h1 f20 => ?_)
      · clear f19
        have hbc := h1
        refine C.condT f20 rfl ?_
        refine wp_seq_k fun K8 hK8 => ?_
        refine C.region ?_
        refine L.val f20 wantedN rfl (by decide) (E.assign f20 rfl) fun a21 f21 => ?_
        clear f20 a18
        refine wpList_nil (hK8 _ _ ?_)
        try clear hK8 K8
        have f22 := f21.sub (sub_cons (i := 0) rfl (sub_cons (i := 1) rfl (sub_cons (i := 4) rfl (sub_cons (i := 5) rfl (sub_cons (i := 6) rfl (sub_cons (i := 7) rfl (sub_cons (i := 8) rfl (sub_cons (i := 9) rfl (sub_cons (i := 12) rfl (sub_cons (i := 13) rfl (sub_cons (i := 14) rfl (sub_cons (i := 15) rfl (sub_cons (i := 16) rfl sub_nil)))))))))))))
        clear f21
        refine wp_ret ?_
        try simp only [Exit.inBlock, Exit.then]
        refine C.ret (P := Tryd.prog) (fn := Tryd.f26) f22 rfl rfl ?_
        exact ⟨rfl, by rw [has_yes hb hbc]⟩
      · clear f19
        have hbc := h1
        refine C.condF f20 rfl ?_
        refine wp_skip (hK6 _ _ ?_)
        try clear hK6 K6
        have f21 := f20.sub (sub_cons (i := 0) rfl (sub_cons (i := 1) rfl (sub_cons (i := 5) rfl (sub_cons (i := 6) rfl (sub_cons (i := 7) rfl (sub_cons (i := 8) rfl (sub_cons (i := 9) rfl (sub_cons (i := 12) rfl (sub_cons (i := 13) rfl (sub_cons (i := 14) rfl (sub_cons (i := 15) rfl (sub_cons (i := 16) rfl sub_nil))))))))))))
        clear f20
        refine C.region ?_
        refine L.val f21 wantedN rfl (by decide) (E.move f21 rfl) fun a22 f22 => ?_
        clear f21 a18
        refine L.val f22 wantedN rfl (by decide) (E.add f22 rfl rfl (IntWalk.i64_in _ (by omega))) fun a23 f23 => ?_
        clear f22 a22
        refine L.val f23 wantedN rfl (by decide) (E.assign f23 rfl) fun a24 f24 => ?_
        clear f23 a23
        refine wpList_nil (hKL3 _ _ (gk4 - 1) ?_ ?_)
        · omega
        · exact ⟨rfl, k + 1, by omega, has_next hq hb hbc, f24.sub (sub_cons rfl (sub_cons rfl (sub_cons rfl sub_nil)))⟩
    · clear f11
      refine C.condF f12 rfl ?_
      refine wp_exit (hK1 _ _ ?_)
      try clear hK1 K1
      have f13 := f12.sub sub_nil
      clear f12
      refine wp_seq_k fun K9 hK9 => ?_
      refine C.region ?_
      refine L.val f13 wantedN rfl (by decide) (E.assign f13 rfl) fun a14 f14 => ?_
      clear f13 a10
      refine wpList_nil (hK9 _ _ ?_)
      try clear hK9 K9
      have f15 := f14.sub (sub_cons (i := 4) rfl sub_nil)
      clear f14
      refine wp_ret ?_
      try simp only [Exit.inBlock, Exit.then]
      refine C.ret (P := Tryd.prog) (fn := Tryd.f26) f15 rfl rfl ?_
      exact ⟨rfl, by rw [has_no hq (by omega)]⟩

set_option maxHeartbeats 1000000 in
theorem prefl_any (s p : ByteArray) (w : World) : Calls Tryd.prog 45 #[.string s, .string p] w (fun e w' => w = w' ∧ e = .returned (.bool (prefB s p))) := by
  refine C.enter Tryd.func45 rfl Tryd.ntmps45 rfl ?_
  intro a0 f0
  have f1 : Fr 18 a0 [(0, .string s), (1, .string p)] := f0
  clear f0
  refine wp_seq_k fun K0 hK0 => ?_
  refine C.region ?_
  refine L.val f1 wantedN rfl (by decide) (E.assign f1 rfl) fun a2 f2 => ?_
  clear f1 a0
  refine wpList_nil (hK0 _ _ ?_)
  try clear hK0 K0
  have f3 := f2.sub (sub_cons (i := 0) rfl (sub_cons (i := 1) rfl (sub_cons (i := 4) rfl sub_nil)))
  clear f2
  refine wp_seq_k fun K1 hK1 => ?_
  refine C.region ?_
  refine L.val f3 wantedN rfl (by decide) (E.move f3 rfl) fun a4 f4 => ?_
  clear f3 a2
  refine L.val f4 wantedN rfl (by decide) (E.lenS f4 Tryd.underlying9 rfl) fun a5 f5 => ?_
  clear f4 a4
  refine L.val f5 wantedN rfl (by decide) (E.move f5 rfl) fun a6 f6 => ?_
  clear f5 a5
  refine L.val f6 wantedN rfl (by decide) (E.lenS f6 Tryd.underlying9 rfl) fun a7 f7 => ?_
  clear f6 a6
  refine L.val f7 wantedN rfl (by decide) (E.geq f7 rfl rfl) fun a8 f8 => ?_
  clear f7 a7
  refine L.val f8 wantedN rfl (by decide) (E.move f8 rfl) fun a9 f9 => ?_
  clear f8 a8
  first | refine f9.splitD 10 rfl (fun h0 f10 => ?_) (fun h0 f10 => ?_) | refine f9.splitN 10 rfl (fun h0 f10 => ?_) (fun h0 f10 => ?_) | refine f9.splitNB 10 rfl (fun h0 f10 => ?_) (fun h0 f10 => ?_) | refine f9.split 10 rfl (fun h0 f10 => ?_) (fun h0 f10 => ?_)
  · clear f9
    refine L.val f10 (f10.yes rfl rfl) rfl (by decide) (E.move f10 rfl) fun a11 f11 => ?_
    clear f10 a9
    refine L.val f11 (f11.yes rfl rfl) rfl (by decide) (E.move f11 rfl) fun a12 f12 => ?_
    clear f11 a11
    refine L.val f12 (f12.yes rfl rfl) rfl (by decide) (E.lenS f12 Tryd.underlying9 rfl) fun a13 f13 => ?_
    clear f12 a12
    refine L.val f13 (f13.yes rfl rfl) rfl (by decide) (E.slShi f13 Tryd.underlying9 rfl rfl (by omega) (by omega) ) fun a14 f14 => ?_
    clear f13 a13
    refine L.val f14 (f14.yes rfl rfl) rfl (by decide) (E.move f14 rfl) fun a15 f15 => ?_
    clear f14 a14
    refine L.val f15 (f15.yes rfl rfl) rfl (by decide) (E.eqlS f15 rfl rfl) fun a16 f16 => ?_
    clear f15 a15
    refine L.val f16 wantedN rfl (by decide) (E.pickT f16 rfl rfl) fun a17 f17 => ?_
    clear f16 a16
    refine L.val f17 wantedN rfl (by decide) (E.assign f17 rfl) fun a18 f18 => ?_
    clear f17 a17
    refine wpList_nil (hK1 _ _ ?_)
    try clear hK1 K1
    have f19 := f18.sub (sub_cons (i := 4) rfl sub_nil)
    clear f18
    refine wp_ret ?_
    try simp only [Exit.inBlock, Exit.then]
    refine C.ret (P := Tryd.prog) (fn := Tryd.f45) f19 rfl rfl ?_
    exact ⟨rfl, by have h0' := h0; simp only [Int.ofNat_le] at h0'; simp [prefB, h0']⟩
  · clear f9
    refine L.skip f10 (f10.noT rfl rfl) rfl (by decide) fun a11 f11 => ?_
    clear f10 a9
    refine L.skip f11 (f11.noT rfl rfl) rfl (by decide) fun a12 f12 => ?_
    clear f11 a11
    refine L.skip f12 (f12.noT rfl rfl) rfl (by decide) fun a13 f13 => ?_
    clear f12 a12
    refine L.skip f13 (f13.noT rfl rfl) rfl (by decide) fun a14 f14 => ?_
    clear f13 a13
    refine L.skip f14 (f14.noT rfl rfl) rfl (by decide) fun a15 f15 => ?_
    clear f14 a14
    refine L.skip f15 (f15.noT rfl rfl) rfl (by decide) fun a16 f16 => ?_
    clear f15 a15
    refine L.val f16 wantedN rfl (by decide) (E.pickF f16 rfl rfl) fun a17 f17 => ?_
    clear f16 a16
    refine L.val f17 wantedN rfl (by decide) (E.assign f17 rfl) fun a18 f18 => ?_
    clear f17 a17
    refine wpList_nil (hK1 _ _ ?_)
    try clear hK1 K1
    have f19 := f18.sub (sub_cons (i := 4) rfl sub_nil)
    clear f18
    refine wp_ret ?_
    try simp only [Exit.inBlock, Exit.then]
    refine C.ret (P := Tryd.prog) (fn := Tryd.f45) f19 rfl rfl ?_
    exact ⟨rfl, by have h0' := h0; simp only [Int.ofNat_le] at h0'; simp [prefB, h0']⟩

set_option maxHeartbeats 1000000 in
theorem pref_any (s p : ByteArray) (w : World) : Calls Tryd.prog 38 #[.string s, .string p] w (fun e w' => w = w' ∧ e = .returned (.bool (prefB s p))) := by
  refine C.enter Tryd.func38 rfl Tryd.ntmps38 rfl ?_
  intro a0 f0
  have f1 : Fr 8 a0 [(0, .string s), (1, .string p)] := f0
  clear f0
  refine wp_seq_k fun K0 hK0 => ?_
  refine C.region ?_
  refine L.val f1 wantedN rfl (by decide) (E.assign f1 rfl) fun a2 f2 => ?_
  clear f1 a0
  refine wpList_nil (hK0 _ _ ?_)
  try clear hK0 K0
  have f3 := f2.sub (sub_cons (i := 0) rfl (sub_cons (i := 1) rfl (sub_cons (i := 4) rfl sub_nil)))
  clear f2
  refine wp_seq_k fun K1 hK1 => ?_
  refine C.region ?_
  refine L.val f3 wantedN rfl (by decide) (E.move f3 rfl) fun a4 f4 => ?_
  clear f3 a2
  refine L.val f4 wantedN rfl (by decide) (E.move f4 rfl) fun a5 f5 => ?_
  clear f4 a4
  refine L.call f5 wantedN rfl (by decide) (run_call Tryd.call45 (args2 f5 rfl rfl)) (prefl_any s p _) ?_
  rintro e wx ⟨rfl, rfl⟩
  refine ⟨_, rfl, fun a6 f6 => ?_⟩
  clear f5 a5
  refine L.val f6 wantedN rfl (by decide) (E.assign f6 rfl) fun a7 f7 => ?_
  clear f6 a6
  refine wpList_nil (hK1 _ _ ?_)
  try clear hK1 K1
  have f8 := f7.sub (sub_cons (i := 4) rfl sub_nil)
  clear f7
  refine wp_ret ?_
  try simp only [Exit.inBlock, Exit.then]
  refine C.ret (P := Tryd.prog) (fn := Tryd.f38) f8 rfl rfl ?_
  exact ⟨rfl, rfl⟩

set_option maxHeartbeats 1000000 in
theorem hidden_any (s : ByteArray) (w : World) : Calls Tryd.prog 29 #[.string s] w (fun e w' => w = w' ∧ e = .returned (.bool (prefB s ⟨#[36]⟩))) := by
  refine C.enter Tryd.func29 rfl Tryd.ntmps29 rfl ?_
  intro a0 f0
  have f1 : Fr 5 a0 [(0, .string s)] := f0
  clear f0
  refine wp_seq_k fun K0 hK0 => ?_
  refine C.region ?_
  refine L.val f1 wantedN rfl (by decide) (E.assign f1 rfl) fun a2 f2 => ?_
  clear f1 a0
  refine wpList_nil (hK0 _ _ ?_)
  try clear hK0 K0
  have f3 := f2.sub (sub_cons (i := 0) rfl (sub_cons (i := 2) rfl sub_nil))
  clear f2
  refine wp_seq_k fun K1 hK1 => ?_
  refine C.region ?_
  refine L.val f3 wantedN rfl (by decide) (E.move f3 rfl) fun a4 f4 => ?_
  clear f3 a2
  refine L.call f4 wantedN rfl (by decide) (run_call Tryd.call38 (args2 f4 rfl rfl)) (pref_any s _ _) ?_
  rintro e wx ⟨rfl, rfl⟩
  refine ⟨_, rfl, fun a5 f5 => ?_⟩
  clear f4 a4
  refine L.val f5 wantedN rfl (by decide) (E.assign f5 rfl) fun a6 f6 => ?_
  clear f5 a5
  refine wpList_nil (hK1 _ _ ?_)
  try clear hK1 K1
  have f7 := f6.sub (sub_cons (i := 2) rfl sub_nil)
  clear f6
  refine wp_ret ?_
  try simp only [Exit.inBlock, Exit.then]
  refine C.ret (P := Tryd.prog) (fn := Tryd.f29) f7 rfl rfl ?_
  exact ⟨rfl, rfl⟩

end Go.Proofs.YtpdacegpjofdeaaDoor
