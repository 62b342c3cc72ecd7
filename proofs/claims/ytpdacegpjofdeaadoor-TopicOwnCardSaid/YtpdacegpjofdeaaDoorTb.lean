/- Contracts: levels against levels. -/
import Derived.Test.YtpdacegpjofdeaaDoorTa
set_option linter.all false
namespace Go.Proofs.YtpdacegpjofdeaaDoor
open Go.RowKit Go.Hub
theorem wsz9_tb : (Tryd.prog.info? 9).map (·.size) = some 1 := by kernel_rfl

def Ss (w : World) (A : Option Addr) (l : List ByteArray) : Prop := Sl w A l.length 1 (l.map .string)
def tailA (A : Option Addr) (c : Nat) : Option Addr := if c = 1 then A else A.map (·.add 1)
section
variable {w w' : World} {A : Option Addr} {l : List ByteArray} {x : ByteArray} {b off k c : Nat}
theorem Ss.kept (h : Ss w A l) (hk : Kept [] w w') : Ss w' A l := Sl.kept h hk
theorem Ss.addr (h : Ss w A l) (hk : k < l.length) : ∃ b off, A = some ⟨b, off, none⟩ := Sl.addr h (by omega)
theorem ss_cell (h : Ss w A l) (hA : A = some ⟨b, off, none⟩) (hx : l[k]? = some x) : w.cell? ⟨b, off + Int.toNat (k : Int) * 1, none⟩ = some (.string x) := by
  have hk := (List.getElem?_eq_some_iff.1 hx).1
  rw [Int.toNat_natCast, Nat.mul_one]
  exact Sl.cell h (by omega) hA (by simp [hx])
theorem ss_cell0 (h : Ss w A l) (hA : A = some ⟨b, off, none⟩) (hx : l[0]? = some x) : w.cell? ⟨b, off + Int.toNat 0 * 1, none⟩ = some (.string x) := ss_cell h hA hx
theorem Ss.nil (w : World) (A : Option Addr) : Ss w A [] := Sl.nil w A 1
theorem Ss.tail (h : Ss w A l) (hc : l.length ≤ c) : Ss w (tailA A c) (l.drop 1) := by
  unfold tailA
  match l with
  | [] => exact Ss.nil _ _
  | x :: l =>
    by_cases e : c = 1
    · have : l = [] := by
        simp at hc
        exact List.eq_nil_of_length_eq_zero (by omega)
      subst this
      exact Ss.nil _ _
    · rw [if_neg e]
      refine ⟨by simp, fun hn => ?_⟩
      obtain ⟨b, off, hA, hb, hq⟩ := h.2 (by simp)
      refine ⟨b, off + 1, by rw [hA]; rfl, hb, fun j u hu => ?_⟩
      rw [Nat.add_assoc, Nat.add_comm 1 j]
      exact hq (j + 1) u (by simpa using hu)
end
def goesB : List ByteArray → List ByteArray → Bool
  | [], t => decide (((t.length : Nat) : Int) = 0)
  | x :: f, t => decide (x = ⟨#[35]⟩) || match t with
    | [] => false
    | y :: t => (decide (x = ⟨#[43]⟩) || decide (x = y)) && goesB f t
def withinB : List ByteArray → List ByteArray → Bool
  | t, [] => decide (((t.length : Nat) : Int) = 0)
  | t, y :: g => decide (y = ⟨#[35]⟩) || match t with
    | [] => false
    | x :: t => !decide (x = ⟨#[35]⟩) && ((decide (y = ⟨#[43]⟩) || decide (x = y)) && withinB t g)
section
variable {us vs : List ByteArray} {x y : ByteArray}
theorem nil_of {l : List ByteArray} (h : l.length = 0) : l = [] := List.eq_nil_of_length_eq_zero h
theorem cons_of {l : List ByteArray} (h : l[0]? = some x) : l = x :: l.drop 1 := by
  match l with
  | [] => simp at h
  | a :: r => simp at h; simp [h]
theorem goes_nil (h : us.length = 0) : goesB us vs = decide (((vs.length : Nat) : Int) = 0) := by rw [nil_of h]; rfl
theorem goes_hash (hx : us[0]? = some x) (h : x = ⟨#[35]⟩) : goesB us vs = true := by rw [cons_of hx]; cases vs <;> simp [goesB, h]
theorem goes_end (hx : us[0]? = some x) (h : ¬ x = ⟨#[35]⟩) (h' : vs.length = 0) : goesB us vs = false := by rw [cons_of hx, nil_of h', goesB]; simp [h]
theorem goes_step (hx : us[0]? = some x) (hy : vs[0]? = some y) (h : ¬ x = ⟨#[35]⟩) : goesB us vs = ((decide (x = ⟨#[43]⟩) || decide (x = y)) && goesB (us.drop 1) (vs.drop 1)) := by
  conv => lhs; rw [cons_of hx, cons_of hy, goesB]
  simp [h]
theorem goes_len0 (h : us.length = 0) : goesB us vs = decide (((us.length : Nat) : Int) = vs.length) := by
  rw [goes_nil h, h]
  exact decide_eq_decide.2 (by omega)
theorem goes_len (hx : us[0]? = some x) (h : ¬ x = ⟨#[35]⟩) (h' : vs.length = 0) : goesB us vs = decide (((us.length : Nat) : Int) = vs.length) := by
  have := (List.getElem?_eq_some_iff.1 hx).1
  rw [goes_end hx h h', h']
  exact (decide_eq_false (by omega)).symm
theorem within_nil (h : vs.length = 0) : withinB us vs = decide (((us.length : Nat) : Int) = 0) := by rw [nil_of h]; cases us <;> rfl
theorem within_hash (hy : vs[0]? = some y) (h : y = ⟨#[35]⟩) : withinB us vs = true := by rw [cons_of hy]; cases us <;> simp [withinB, h]
theorem within_end (hy : vs[0]? = some y) (h : ¬ y = ⟨#[35]⟩) (h' : us.length = 0) : withinB us vs = false := by rw [cons_of hy, nil_of h', withinB]; simp [h]
theorem within_len0 (h : vs.length = 0) : withinB us vs = decide (((us.length : Nat) : Int) = vs.length) := by rw [within_nil h, h]; rfl
theorem within_len (hy : vs[0]? = some y) (h : ¬ y = ⟨#[35]⟩) (h' : us.length = 0) : withinB us vs = decide (((us.length : Nat) : Int) = vs.length) := by
  have := (List.getElem?_eq_some_iff.1 hy).1
  rw [within_end hy h h', h']
  exact (decide_eq_false (by omega)).symm
theorem within_step (hx : us[0]? = some x) (hy : vs[0]? = some y) (h : ¬ y = ⟨#[35]⟩) : withinB us vs = (!decide (x = ⟨#[35]⟩) && ((decide (y = ⟨#[43]⟩) || decide (x = y)) && withinB (us.drop 1) (vs.drop 1))) := by
  conv => lhs; rw [cons_of hx, cons_of hy, withinB]
  simp [h]
end

set_option maxHeartbeats 1000000 in
theorem goes_one (us vs : List ByteArray) (A A' : Option Addr) (c c' : Nat) (w : World) (A1 : Ss w A us) (A2 : Ss w A' vs) (hc : us.length ≤ c) (hc' : vs.length ≤ c') (hl : us.length ≤ 1000000) (hl' : vs.length ≤ 1000000) (ih : ∀ (us' vs' : List ByteArray) (A A' : Option Addr) (c c' : Nat) (w : World), us'.length < us.length → Ss w A us' → Ss w A' vs' → us'.length ≤ c → vs'.length ≤ c' → us'.length ≤ 1000000 → vs'.length ≤ 1000000 → Calls Tryd.prog 30 #[.slice A us'.length c, .slice A' vs'.length c'] w (fun e w' => Kept [] w w' ∧ e = .returned (.bool (goesB us' vs')))) : Calls Tryd.prog 30 #[.slice A us.length c, .slice A' vs.length c'] w (fun e w' => Kept [] w w' ∧ e = .returned (.bool (goesB us vs))) := by
  have HK : Kept [] w w := Kept.refl [] w
  refine C.enter Tryd.func30 rfl Tryd.ntmps30 rfl ?_
  intro a0 f0
  have f1 : Fr 41 a0 [(0, .slice A us.length c), (1, .slice A' vs.length c')] := f0
  clear f0
  refine wp_seq_k fun K0 hK0 => ?_
  refine C.region ?_
  refine L.val f1 wantedN rfl (by decide) (E.assign f1 rfl) fun a2 f2 => ?_
  clear f1 a0
  refine wpList_nil (hK0 _ _ ?_)
  try clear hK0 K0
  have f3 := f2.sub (sub_cons (i := 0) rfl (sub_cons (i := 1) rfl (sub_cons (i := 4) rfl sub_nil)))
  clear f2
  refine wp_seq_k fun K1 hK1 => ?_
  refine wp_block ?_
  refine wp_seq_k fun K2 hK2 => ?_
  refine C.region ?_
  refine L.val f3 wantedN rfl (by decide) (E.move f3 rfl) fun a4 f4 => ?_
  clear f3 a2
  refine L.val f4 wantedN rfl (by decide) (E.lenL f4 Tryd.underlying26 rfl) fun a5 f5 => ?_
  clear f4 a4
  refine L.val f5 wantedN rfl (by decide) (E.eql f5 rfl rfl) fun a6 f6 => ?_
  clear f5 a5
  refine L.val f6 wantedN rfl (by decide) (E.assign f6 rfl) fun a7 f7 => ?_
  clear f6 a6
  refine wpList_nil (hK2 _ _ ?_)
  try clear hK2 K2
  have f8 := f7.sub (sub_cons (i := 0) rfl (sub_cons (i := 1) rfl (sub_cons (i := 4) rfl (sub_cons (i := 5) rfl sub_nil))))
  clear f7
  first | refine f8.splitD 5 rfl (fun h0 f9 => ?_) (fun h0 f9 => ?_) | refine f8.splitN 5 rfl (fun h0 f9 => ?_) (fun h0 f9 => ?_) | refine f8.splitNB 5 rfl (fun h0 f9 => ?_) (fun h0 f9 => ?_) | refine f8.split 5 rfl (fun h0 f9 => ?_) (fun h0 f9 => ?_)
  · clear f8
    refine C.condT f9 rfl ?_
    refine wp_seq_k fun K3 hK3 => ?_
    refine C.region ?_
    refine L.val f9 wantedN rfl (by decide) (E.move f9 rfl) fun a10 f10 => ?_
    clear f9 a7
    refine L.val f10 wantedN rfl (by decide) (E.lenL f10 Tryd.underlying26 rfl) fun a11 f11 => ?_
    clear f10 a10
    refine L.val f11 wantedN rfl (by decide) (E.eql f11 rfl rfl) fun a12 f12 => ?_
    clear f11 a11
    refine L.val f12 wantedN rfl (by decide) (E.assign f12 rfl) fun a13 f13 => ?_
    clear f12 a12
    refine wpList_nil (hK3 _ _ ?_)
    try clear hK3 K3
    have f14 := f13.sub (sub_cons (i := 0) rfl (sub_cons (i := 1) rfl (sub_cons (i := 4) rfl sub_nil)))
    clear f13
    refine wp_ret ?_
    try simp only [Exit.inBlock, Exit.then]
    refine C.ret (P := Tryd.prog) (fn := Tryd.f30) f14 rfl rfl ?_
    exact ⟨HK, by rw [goes_nil (by omega)]⟩
  · clear f8
    obtain ⟨x, hx⟩ : ∃ x, us[0]? = some x := ⟨us[0]'(by omega), List.getElem?_eq_getElem _⟩
    obtain ⟨b1, o1, hA⟩ := A1.addr (k := 0) (by omega)
    refine C.condF f9 rfl ?_
    refine wp_seq_k fun K4 hK4 => ?_
    refine C.region ?_
    refine L.val f9 wantedN rfl (by decide) (E.move f9 rfl) fun a10 f10 => ?_
    clear f9 a7
    refine L.val f10 wantedN rfl (by decide) (E.indexA f10 (by first | rfl | assumption) Tryd.underlying26 wsz9_tb rfl rfl (by omega) (by omega)) fun a11 f11 => ?_
    clear f10 a10
    refine L.val f11 wantedN rfl (by decide) (by first | exact E.load f11 Tryd.underlying9 rfl rfl (ss_cell0 (A1.kept HK) hA hx) | exact E.load f11 Tryd.underlying9 rfl rfl (ss_cell0 (A2.kept HK) hA' hy)) fun a12 f12 => ?_
    clear f11 a11
    refine L.val f12 wantedN rfl (by decide) (E.eqlS f12 rfl rfl) fun a13 f13 => ?_
    clear f12 a12
    refine L.val f13 wantedN rfl (by decide) (E.assign f13 rfl) fun a14 f14 => ?_
    clear f13 a13
    refine wpList_nil (hK4 _ _ ?_)
    try clear hK4 K4
    have f15 := f14.sub (sub_cons (i := 0) rfl (sub_cons (i := 1) rfl (sub_cons (i := 4) rfl (sub_cons (i := 12) rfl sub_nil))))
    clear f14
    first | refine f15.splitD 12 rfl (fun h1 f16 => ?_) (fun h1 f16 => ?_) | refine f15.splitN 12 rfl (fun h1 f16 => ?_) (fun h1 f16 => ?_) | refine f15.splitNB 12 rfl (fun h1 f16 => ?_) (fun h1 f16 => ?_) | refine f15.split 12 rfl (fun h1 f16 => ?_) (fun h1 f16 => ?_)
    · clear f15
      have h12 := h1
      refine C.condT f16 rfl ?_
      refine wp_seq_k fun K5 hK5 => ?_
      refine C.region ?_
      refine L.val f16 wantedN rfl (by decide) (E.assign f16 rfl) fun a17 f17 => ?_
      clear f16 a14
      refine wpList_nil (hK5 _ _ ?_)
      try clear hK5 K5
      have f18 := f17.sub (sub_cons (i := 0) rfl (sub_cons (i := 1) rfl (sub_cons (i := 4) rfl sub_nil)))
      clear f17
      refine wp_ret ?_
      try simp only [Exit.inBlock, Exit.then]
      refine C.ret (P := Tryd.prog) (fn := Tryd.f30) f18 rfl rfl ?_
      exact ⟨HK, by rw [goes_hash hx h12]⟩
    · clear f15
      have h12 := h1
      refine C.condF f16 rfl ?_
      refine wp_seq_k fun K6 hK6 => ?_
      refine C.region ?_
      refine L.val f16 wantedN rfl (by decide) (E.move f16 rfl) fun a17 f17 => ?_
      clear f16 a14
      refine L.val f17 wantedN rfl (by decide) (E.lenL f17 Tryd.underlying26 rfl) fun a18 f18 => ?_
      clear f17 a17
      refine L.val f18 wantedN rfl (by decide) (E.eql f18 rfl rfl) fun a19 f19 => ?_
      clear f18 a18
      refine L.val f19 wantedN rfl (by decide) (E.assign f19 rfl) fun a20 f20 => ?_
      clear f19 a19
      refine wpList_nil (hK6 _ _ ?_)
      try clear hK6 K6
      have f21 := f20.sub (sub_cons (i := 0) rfl (sub_cons (i := 1) rfl (sub_cons (i := 4) rfl (sub_cons (i := 17) rfl sub_nil))))
      clear f20
      first | refine f21.splitD 17 rfl (fun h2 f22 => ?_) (fun h2 f22 => ?_) | refine f21.splitN 17 rfl (fun h2 f22 => ?_) (fun h2 f22 => ?_) | refine f21.splitNB 17 rfl (fun h2 f22 => ?_) (fun h2 f22 => ?_) | refine f21.split 17 rfl (fun h2 f22 => ?_) (fun h2 f22 => ?_)
      · clear f21
        refine C.condT f22 rfl ?_
        refine wp_seq_k fun K7 hK7 => ?_
        refine C.region ?_
        refine L.val f22 wantedN rfl (by decide) (E.assign f22 rfl) fun a23 f23 => ?_
        clear f22 a20
        refine wpList_nil (hK7 _ _ ?_)
        try clear hK7 K7
        have f24 := f23.sub (sub_cons (i := 0) rfl (sub_cons (i := 1) rfl (sub_cons (i := 4) rfl sub_nil)))
        clear f23
        refine wp_ret ?_
        try simp only [Exit.inBlock, Exit.then]
        refine C.ret (P := Tryd.prog) (fn := Tryd.f30) f24 rfl rfl ?_
        exact ⟨HK, by rw [goes_end hx h12 (by omega)]⟩
      · clear f21
        obtain ⟨y, hy⟩ : ∃ y, vs[0]? = some y := ⟨vs[0]'(by omega), List.getElem?_eq_getElem _⟩
        obtain ⟨b2, o2, hA'⟩ := A2.addr (k := 0) (by omega)
        refine C.condF f22 rfl ?_
        refine wp_skip (hK1 _ _ ?_)
        try clear hK1 K1
        have f23 := f22.sub (sub_cons (i := 0) rfl (sub_cons (i := 1) rfl (sub_cons (i := 4) rfl sub_nil)))
        clear f22
        refine wp_seq_k fun K8 hK8 => ?_
        refine R.begin (S := fun W => Kept [] w W) (by kernel_rfl) (by exact (Kept.refl _ _).drewN 1) ?_
        have hS7 : Kept [] w (w.drewN 1) := (Kept.refl _ _).drewN 1
        have hd7 : Kept [] w (w.drewN 1) := (Kept.refl _ _).drewN 1
        obtain ⟨w1, hww1⟩ : ∃ W, W = w.drewN 1 := ⟨_, rfl⟩
        rw [← hww1] at hS7 hd7 ⊢
        clear hww1
        have szw1 := hS7.size
        refine R.take 0 f23 rfl rfl (by decide) (by kernel_rfl) (by kernel_rfl) (by kernel_rfl) (fun _ _ _ _ h => h) wantedN hS7 (fun W hW => (E.move f23 rfl)) fun a24 f24 => ?_
        clear f23 a20
        refine R.take 1 f24 rfl rfl (by decide) (by kernel_rfl) (by kernel_rfl) (by kernel_rfl) (fun _ _ _ _ h => h) wantedN hS7 (fun W hW => (E.indexA f24 (by first | rfl | assumption) Tryd.underlying26 wsz9_tb rfl rfl (by omega) (by omega))) fun a25 f25 => ?_
        clear f24 a24
        refine R.take 2 f25 rfl rfl (by decide) (by kernel_rfl) (by kernel_rfl) (by kernel_rfl) (fun _ _ _ _ h => h) wantedN hS7 (fun W hW => (by first | exact E.load f25 Tryd.underlying9 rfl rfl (ss_cell0 (A1.kept (HK.trans hW (by simp))) hA hx) | exact E.load f25 Tryd.underlying9 rfl rfl (ss_cell0 (A2.kept (HK.trans hW (by simp))) hA' hy))) fun a26 f26 => ?_
        clear f25 a25
        refine R.take 3 f26 rfl rfl (by decide) (by kernel_rfl) (by kernel_rfl) (by kernel_rfl) (fun _ _ _ _ h => h) wantedN hS7 (fun W hW => (E.eqlS f26 rfl rfl)) fun a27 f27 => ?_
        clear f26 a26
        refine R.take 4 f27 rfl rfl (by decide) (by kernel_rfl) (by kernel_rfl) (by kernel_rfl) (fun _ _ _ _ h => h) wantedN hS7 (fun W hW => (E.move f27 rfl)) fun a28 f28 => ?_
        clear f27 a27
        first | refine f28.splitD 25 rfl (fun h3 f29 => ?_) (fun h3 f29 => ?_) | refine f28.splitN 25 rfl (fun h3 f29 => ?_) (fun h3 f29 => ?_) | refine f28.splitNB 25 rfl (fun h3 f29 => ?_) (fun h3 f29 => ?_) | refine f28.split 25 rfl (fun h3 f29 => ?_) (fun h3 f29 => ?_)
        · clear f28
          refine R.takeSkip 5 f29 rfl rfl (by decide) (by kernel_rfl) (by kernel_rfl) (by kernel_rfl) (fun _ _ _ _ h => h) (f29.noF rfl rfl) hS7 fun a30 f30 => ?_
          clear f29 a28
          refine R.takeSkip 6 f30 rfl rfl (by decide) (by kernel_rfl) (by kernel_rfl) (by kernel_rfl) (fun _ _ _ _ h => h) (f30.noF rfl rfl) hS7 fun a31 f31 => ?_
          clear f30 a30
          refine R.takeSkip 7 f31 rfl rfl (by decide) (by kernel_rfl) (by kernel_rfl) (by kernel_rfl) (fun _ _ _ _ h => h) (f31.noF rfl rfl) hS7 fun a32 f32 => ?_
          clear f31 a31
          refine R.takeSkip 8 f32 rfl rfl (by decide) (by kernel_rfl) (by kernel_rfl) (by kernel_rfl) (fun _ _ _ _ h => h) (f32.noF rfl rfl) hS7 fun a33 f33 => ?_
          clear f32 a32
          refine R.takeSkip 9 f33 rfl rfl (by decide) (by kernel_rfl) (by kernel_rfl) (by kernel_rfl) (fun _ _ _ _ h => h) (f33.noF rfl rfl) hS7 fun a34 f34 => ?_
          clear f33 a33
          refine R.takeSkip 10 f34 rfl rfl (by decide) (by kernel_rfl) (by kernel_rfl) (by kernel_rfl) (fun _ _ _ _ h => h) (f34.noF rfl rfl) hS7 fun a35 f35 => ?_
          clear f34 a34
          refine R.takeSkip 11 f35 rfl rfl (by decide) (by kernel_rfl) (by kernel_rfl) (by kernel_rfl) (fun _ _ _ _ h => h) (f35.noF rfl rfl) hS7 fun a36 f36 => ?_
          clear f35 a35
          refine R.take 12 f36 rfl rfl (by decide) (by kernel_rfl) (by kernel_rfl) (by kernel_rfl) (fun _ _ _ _ h => h) wantedN hS7 (fun W hW => (E.pickT f36 rfl rfl)) fun a37 f37 => ?_
          clear f36 a36
          refine R.take 13 f37 rfl rfl (by decide) (by kernel_rfl) (by kernel_rfl) (by kernel_rfl) (fun _ _ _ _ h => h) wantedN hS7 (fun W hW => (E.move f37 rfl)) fun a38 f38 => ?_
          clear f37 a37
          refine R.take 14 f38 rfl rfl (by decide) (by kernel_rfl) (by kernel_rfl) (by kernel_rfl) (fun _ _ _ _ h => h) (f38.yes rfl rfl) hS7 (fun W hW => (E.move f38 rfl)) fun a39 f39 => ?_
          clear f38 a38
          refine R.take 15 f39 rfl rfl (by decide) (by kernel_rfl) (by kernel_rfl) (by kernel_rfl) (fun _ _ _ _ h => h) (f39.yes rfl rfl) hS7 (fun W hW => (E.slLlo f39 Tryd.underlying26 wsz9_tb rfl rfl (by omega) (by omega) )) fun a40 f40 => ?_
          clear f39 a39
          refine R.take 16 f40 rfl rfl (by decide) (by kernel_rfl) (by kernel_rfl) (by kernel_rfl) (fun _ _ _ _ h => h) (f40.yes rfl rfl) hS7 (fun W hW => (E.move f40 rfl)) fun a41 f41 => ?_
          clear f40 a40
          refine R.take 17 f41 rfl rfl (by decide) (by kernel_rfl) (by kernel_rfl) (by kernel_rfl) (fun _ _ _ _ h => h) (f41.yes rfl rfl) hS7 (fun W hW => (E.slLlo f41 Tryd.underlying26 wsz9_tb rfl rfl (by omega) (by omega) )) fun a42 f42 => ?_
          clear f41 a41
          replace f42 := f42.as (i := 36) (v' := .slice (tailA A c) (us.drop 1).length (c - 1)) rfl (by rw [List.length_drop]; rfl)
          replace f42 := f42.as (i := 38) (v' := .slice (tailA A' c') (vs.drop 1).length (c' - 1)) rfl (by rw [List.length_drop]; rfl)
          refine R.call 18 f42 rfl rfl (by decide) (by kernel_rfl) (f42.yes rfl rfl) (run_call Tryd.call30 (args2 f42 rfl rfl)) (ih (us.drop 1) (vs.drop 1) _ _ _ _ w1 (by rw [List.length_drop]; omega) ((A1.kept (HK.trans hS7 (by simp))).tail hc) ((A2.kept (HK.trans hS7 (by simp))).tail hc') (by rw [List.length_drop]; omega) (by rw [List.length_drop]; omega) (by rw [List.length_drop]; omega) (by rw [List.length_drop]; omega)) ?_
          rintro e w2 ⟨kc2, rfl⟩
          replace hS7 := hS7.trans kc2 (by simp)
          refine ⟨_, rfl, hS7, fun a43 f43 => ?_⟩
          clear f42 a42
          have szw2 := kc2.size
          clear kc2
          refine R.take 19 f43 rfl rfl (by decide) (by kernel_rfl) (by kernel_rfl) (by kernel_rfl) (fun _ _ _ _ h => h) wantedN hS7 (fun W hW => (E.pickT f43 rfl rfl)) fun a44 f44 => ?_
          clear f43 a43
          refine R.take 20 f44 rfl rfl (by decide) (by kernel_rfl) (by kernel_rfl) (by kernel_rfl) (fun _ _ _ _ h => h) wantedN hS7 (fun W hW => (E.assign f44 rfl)) fun a45 f45 => ?_
          clear f44 a44
          have szw2r := hS7.size
          replace HK := HK.trans hS7 (by simp)
          clear hS7
          refine R.done (by kernel_rfl) (hK8 _ _ ?_)
          try clear hK8 K8
          have f46 := f45.sub (sub_cons (i := 4) rfl sub_nil)
          clear f45
          refine wp_ret ?_
          try simp only [Exit.inBlock, Exit.then]
          refine C.ret (P := Tryd.prog) (fn := Tryd.f30) f46 rfl rfl ?_
          exact ⟨HK, by rw [goes_step hx hy h12]; simp [*]⟩
        · clear f28
          refine R.take 5 f29 rfl rfl (by decide) (by kernel_rfl) (by kernel_rfl) (by kernel_rfl) (fun _ _ _ _ h => h) (f29.yes rfl rfl) hS7 (fun W hW => (E.move f29 rfl)) fun a30 f30 => ?_
          clear f29 a28
          refine R.take 6 f30 rfl rfl (by decide) (by kernel_rfl) (by kernel_rfl) (by kernel_rfl) (fun _ _ _ _ h => h) (f30.yes rfl rfl) hS7 (fun W hW => (E.indexA f30 (by first | rfl | assumption) Tryd.underlying26 wsz9_tb rfl rfl (by omega) (by omega))) fun a31 f31 => ?_
          clear f30 a30
          refine R.take 7 f31 rfl rfl (by decide) (by kernel_rfl) (by kernel_rfl) (by kernel_rfl) (fun _ _ _ _ h => h) (f31.yes rfl rfl) hS7 (fun W hW => (by first | exact E.load f31 Tryd.underlying9 rfl rfl (ss_cell0 (A1.kept (HK.trans hW (by simp))) hA hx) | exact E.load f31 Tryd.underlying9 rfl rfl (ss_cell0 (A2.kept (HK.trans hW (by simp))) hA' hy))) fun a32 f32 => ?_
          clear f31 a31
          refine R.take 8 f32 rfl rfl (by decide) (by kernel_rfl) (by kernel_rfl) (by kernel_rfl) (fun _ _ _ _ h => h) (f32.yes rfl rfl) hS7 (fun W hW => (E.move f32 rfl)) fun a33 f33 => ?_
          clear f32 a32
          refine R.take 9 f33 rfl rfl (by decide) (by kernel_rfl) (by kernel_rfl) (by kernel_rfl) (fun _ _ _ _ h => h) (f33.yes rfl rfl) hS7 (fun W hW => (E.indexA f33 (by first | rfl | assumption) Tryd.underlying26 wsz9_tb rfl rfl (by omega) (by omega))) fun a34 f34 => ?_
          clear f33 a33
          refine R.take 10 f34 rfl rfl (by decide) (by kernel_rfl) (by kernel_rfl) (by kernel_rfl) (fun _ _ _ _ h => h) (f34.yes rfl rfl) hS7 (fun W hW => (by first | exact E.load f34 Tryd.underlying9 rfl rfl (ss_cell0 (A1.kept (HK.trans hW (by simp))) hA hx) | exact E.load f34 Tryd.underlying9 rfl rfl (ss_cell0 (A2.kept (HK.trans hW (by simp))) hA' hy))) fun a35 f35 => ?_
          clear f34 a34
          refine R.take 11 f35 rfl rfl (by decide) (by kernel_rfl) (by kernel_rfl) (by kernel_rfl) (fun _ _ _ _ h => h) (f35.yes rfl rfl) hS7 (fun W hW => (E.eqlS f35 rfl rfl)) fun a36 f36 => ?_
          clear f35 a35
          refine R.take 12 f36 rfl rfl (by decide) (by kernel_rfl) (by kernel_rfl) (by kernel_rfl) (fun _ _ _ _ h => h) wantedN hS7 (fun W hW => (E.pickF f36 rfl rfl)) fun a37 f37 => ?_
          clear f36 a36
          refine R.take 13 f37 rfl rfl (by decide) (by kernel_rfl) (by kernel_rfl) (by kernel_rfl) (fun _ _ _ _ h => h) wantedN hS7 (fun W hW => (E.move f37 rfl)) fun a38 f38 => ?_
          clear f37 a37
          first | refine f38.splitD 34 rfl (fun h4 f39 => ?_) (fun h4 f39 => ?_) | refine f38.splitN 34 rfl (fun h4 f39 => ?_) (fun h4 f39 => ?_) | refine f38.splitNB 34 rfl (fun h4 f39 => ?_) (fun h4 f39 => ?_) | refine f38.split 34 rfl (fun h4 f39 => ?_) (fun h4 f39 => ?_)
          · clear f38
            have h34 := h4
            refine R.take 14 f39 rfl rfl (by decide) (by kernel_rfl) (by kernel_rfl) (by kernel_rfl) (fun _ _ _ _ h => h) (f39.yes rfl rfl) hS7 (fun W hW => (E.move f39 rfl)) fun a40 f40 => ?_
            clear f39 a38
            refine R.take 15 f40 rfl rfl (by decide) (by kernel_rfl) (by kernel_rfl) (by kernel_rfl) (fun _ _ _ _ h => h) (f40.yes rfl rfl) hS7 (fun W hW => (E.slLlo f40 Tryd.underlying26 wsz9_tb rfl rfl (by omega) (by omega) )) fun a41 f41 => ?_
            clear f40 a40
            refine R.take 16 f41 rfl rfl (by decide) (by kernel_rfl) (by kernel_rfl) (by kernel_rfl) (fun _ _ _ _ h => h) (f41.yes rfl rfl) hS7 (fun W hW => (E.move f41 rfl)) fun a42 f42 => ?_
            clear f41 a41
            refine R.take 17 f42 rfl rfl (by decide) (by kernel_rfl) (by kernel_rfl) (by kernel_rfl) (fun _ _ _ _ h => h) (f42.yes rfl rfl) hS7 (fun W hW => (E.slLlo f42 Tryd.underlying26 wsz9_tb rfl rfl (by omega) (by omega) )) fun a43 f43 => ?_
            clear f42 a42
            replace f43 := f43.as (i := 36) (v' := .slice (tailA A c) (us.drop 1).length (c - 1)) rfl (by rw [List.length_drop]; rfl)
            replace f43 := f43.as (i := 38) (v' := .slice (tailA A' c') (vs.drop 1).length (c' - 1)) rfl (by rw [List.length_drop]; rfl)
            refine R.call 18 f43 rfl rfl (by decide) (by kernel_rfl) (f43.yes rfl rfl) (run_call Tryd.call30 (args2 f43 rfl rfl)) (ih (us.drop 1) (vs.drop 1) _ _ _ _ w1 (by rw [List.length_drop]; omega) ((A1.kept (HK.trans hS7 (by simp))).tail hc) ((A2.kept (HK.trans hS7 (by simp))).tail hc') (by rw [List.length_drop]; omega) (by rw [List.length_drop]; omega) (by rw [List.length_drop]; omega) (by rw [List.length_drop]; omega)) ?_
            rintro e w2 ⟨kc2, rfl⟩
            replace hS7 := hS7.trans kc2 (by simp)
            refine ⟨_, rfl, hS7, fun a44 f44 => ?_⟩
            clear f43 a43
            have szw2 := kc2.size
            clear kc2
            refine R.take 19 f44 rfl rfl (by decide) (by kernel_rfl) (by kernel_rfl) (by kernel_rfl) (fun _ _ _ _ h => h) wantedN hS7 (fun W hW => (E.pickT f44 rfl rfl)) fun a45 f45 => ?_
            clear f44 a44
            refine R.take 20 f45 rfl rfl (by decide) (by kernel_rfl) (by kernel_rfl) (by kernel_rfl) (fun _ _ _ _ h => h) wantedN hS7 (fun W hW => (E.assign f45 rfl)) fun a46 f46 => ?_
            clear f45 a45
            have szw2r := hS7.size
            replace HK := HK.trans hS7 (by simp)
            clear hS7
            refine R.done (by kernel_rfl) (hK8 _ _ ?_)
            try clear hK8 K8
            have f47 := f46.sub (sub_cons (i := 4) rfl sub_nil)
            clear f46
            refine wp_ret ?_
            try simp only [Exit.inBlock, Exit.then]
            refine C.ret (P := Tryd.prog) (fn := Tryd.f30) f47 rfl rfl ?_
            exact ⟨HK, by rw [goes_step hx hy h12]; simp [*]⟩
          · clear f38
            have h34 := h4
            refine R.takeSkip 14 f39 rfl rfl (by decide) (by kernel_rfl) (by kernel_rfl) (by kernel_rfl) (fun _ _ _ _ h => h) (f39.noT rfl rfl) hS7 fun a40 f40 => ?_
            clear f39 a38
            refine R.takeSkip 15 f40 rfl rfl (by decide) (by kernel_rfl) (by kernel_rfl) (by kernel_rfl) (fun _ _ _ _ h => h) (f40.noT rfl rfl) hS7 fun a41 f41 => ?_
            clear f40 a40
            refine R.takeSkip 16 f41 rfl rfl (by decide) (by kernel_rfl) (by kernel_rfl) (by kernel_rfl) (fun _ _ _ _ h => h) (f41.noT rfl rfl) hS7 fun a42 f42 => ?_
            clear f41 a41
            refine R.takeSkip 17 f42 rfl rfl (by decide) (by kernel_rfl) (by kernel_rfl) (by kernel_rfl) (fun _ _ _ _ h => h) (f42.noT rfl rfl) hS7 fun a43 f43 => ?_
            clear f42 a42
            refine R.takeSkip 18 f43 rfl rfl (by decide) (by kernel_rfl) (by kernel_rfl) (by kernel_rfl) (fun _ _ _ _ h => h) (f43.noT rfl rfl) hS7 fun a44 f44 => ?_
            clear f43 a43
            refine R.take 19 f44 rfl rfl (by decide) (by kernel_rfl) (by kernel_rfl) (by kernel_rfl) (fun _ _ _ _ h => h) wantedN hS7 (fun W hW => (E.pickF f44 rfl rfl)) fun a45 f45 => ?_
            clear f44 a44
            refine R.take 20 f45 rfl rfl (by decide) (by kernel_rfl) (by kernel_rfl) (by kernel_rfl) (fun _ _ _ _ h => h) wantedN hS7 (fun W hW => (E.assign f45 rfl)) fun a46 f46 => ?_
            clear f45 a45
            have szw1r := hS7.size
            replace HK := HK.trans hS7 (by simp)
            clear hS7
            refine R.done (by kernel_rfl) (hK8 _ _ ?_)
            try clear hK8 K8
            have f47 := f46.sub (sub_cons (i := 4) rfl sub_nil)
            clear f46
            refine wp_ret ?_
            try simp only [Exit.inBlock, Exit.then]
            refine C.ret (P := Tryd.prog) (fn := Tryd.f30) f47 rfl rfl ?_
            exact ⟨HK, by rw [goes_step hx hy h12]; simp [*]⟩

set_option maxHeartbeats 1000000 in
theorem within_one (us vs : List ByteArray) (A A' : Option Addr) (c c' : Nat) (w : World) (A1 : Ss w A us) (A2 : Ss w A' vs) (hc : us.length ≤ c) (hc' : vs.length ≤ c') (hl : us.length ≤ 1000000) (hl' : vs.length ≤ 1000000) (ih : ∀ (us' vs' : List ByteArray) (A A' : Option Addr) (c c' : Nat) (w : World), us'.length < us.length → Ss w A us' → Ss w A' vs' → us'.length ≤ c → vs'.length ≤ c' → us'.length ≤ 1000000 → vs'.length ≤ 1000000 → Calls Tryd.prog 32 #[.slice A us'.length c, .slice A' vs'.length c'] w (fun e w' => Kept [] w w' ∧ e = .returned (.bool (withinB us' vs')))) : Calls Tryd.prog 32 #[.slice A us.length c, .slice A' vs.length c'] w (fun e w' => Kept [] w w' ∧ e = .returned (.bool (withinB us vs))) := by
  have HK : Kept [] w w := Kept.refl [] w
  refine C.enter Tryd.func32 rfl Tryd.ntmps32 rfl ?_
  intro a0 f0
  have f1 : Fr 47 a0 [(0, .slice A us.length c), (1, .slice A' vs.length c')] := f0
  clear f0
  refine wp_seq_k fun K0 hK0 => ?_
  refine C.region ?_
  refine L.val f1 wantedN rfl (by decide) (E.assign f1 rfl) fun a2 f2 => ?_
  clear f1 a0
  refine wpList_nil (hK0 _ _ ?_)
  try clear hK0 K0
  have f3 := f2.sub (sub_cons (i := 0) rfl (sub_cons (i := 1) rfl (sub_cons (i := 4) rfl sub_nil)))
  clear f2
  refine wp_seq_k fun K1 hK1 => ?_
  refine wp_block ?_
  refine wp_seq_k fun K2 hK2 => ?_
  refine C.region ?_
  refine L.val f3 wantedN rfl (by decide) (E.move f3 rfl) fun a4 f4 => ?_
  clear f3 a2
  refine L.val f4 wantedN rfl (by decide) (E.lenL f4 Tryd.underlying26 rfl) fun a5 f5 => ?_
  clear f4 a4
  refine L.val f5 wantedN rfl (by decide) (E.eql f5 rfl rfl) fun a6 f6 => ?_
  clear f5 a5
  refine L.val f6 wantedN rfl (by decide) (E.assign f6 rfl) fun a7 f7 => ?_
  clear f6 a6
  refine wpList_nil (hK2 _ _ ?_)
  try clear hK2 K2
  have f8 := f7.sub (sub_cons (i := 0) rfl (sub_cons (i := 1) rfl (sub_cons (i := 4) rfl (sub_cons (i := 5) rfl sub_nil))))
  clear f7
  first | refine f8.splitD 5 rfl (fun h0 f9 => ?_) (fun h0 f9 => ?_) | refine f8.splitN 5 rfl (fun h0 f9 => ?_) (fun h0 f9 => ?_) | refine f8.splitNB 5 rfl (fun h0 f9 => ?_) (fun h0 f9 => ?_) | refine f8.split 5 rfl (fun h0 f9 => ?_) (fun h0 f9 => ?_)
  · clear f8
    refine C.condT f9 rfl ?_
    refine wp_seq_k fun K3 hK3 => ?_
    refine C.region ?_
    refine L.val f9 wantedN rfl (by decide) (E.move f9 rfl) fun a10 f10 => ?_
    clear f9 a7
    refine L.val f10 wantedN rfl (by decide) (E.lenL f10 Tryd.underlying26 rfl) fun a11 f11 => ?_
    clear f10 a10
    refine L.val f11 wantedN rfl (by decide) (E.eql f11 rfl rfl) fun a12 f12 => ?_
    clear f11 a11
    refine L.val f12 wantedN rfl (by decide) (E.assign f12 rfl) fun a13 f13 => ?_
    clear f12 a12
    refine wpList_nil (hK3 _ _ ?_)
    try clear hK3 K3
    have f14 := f13.sub (sub_cons (i := 0) rfl (sub_cons (i := 1) rfl (sub_cons (i := 4) rfl sub_nil)))
    clear f13
    refine wp_ret ?_
    try simp only [Exit.inBlock, Exit.then]
    refine C.ret (P := Tryd.prog) (fn := Tryd.f32) f14 rfl rfl ?_
    exact ⟨HK, by rw [within_nil (by omega)]⟩
  · clear f8
    obtain ⟨y, hy⟩ : ∃ y, vs[0]? = some y := ⟨vs[0]'(by omega), List.getElem?_eq_getElem _⟩
    obtain ⟨b2, o2, hA'⟩ := A2.addr (k := 0) (by omega)
    refine C.condF f9 rfl ?_
    refine wp_seq_k fun K4 hK4 => ?_
    refine C.region ?_
    refine L.val f9 wantedN rfl (by decide) (E.move f9 rfl) fun a10 f10 => ?_
    clear f9 a7
    refine L.val f10 wantedN rfl (by decide) (E.indexA f10 (by first | rfl | assumption) Tryd.underlying26 wsz9_tb rfl rfl (by omega) (by omega)) fun a11 f11 => ?_
    clear f10 a10
    refine L.val f11 wantedN rfl (by decide) (by first | exact E.load f11 Tryd.underlying9 rfl rfl (ss_cell0 (A1.kept HK) hA hx) | exact E.load f11 Tryd.underlying9 rfl rfl (ss_cell0 (A2.kept HK) hA' hy)) fun a12 f12 => ?_
    clear f11 a11
    refine L.val f12 wantedN rfl (by decide) (E.eqlS f12 rfl rfl) fun a13 f13 => ?_
    clear f12 a12
    refine L.val f13 wantedN rfl (by decide) (E.assign f13 rfl) fun a14 f14 => ?_
    clear f13 a13
    refine wpList_nil (hK4 _ _ ?_)
    try clear hK4 K4
    have f15 := f14.sub (sub_cons (i := 0) rfl (sub_cons (i := 1) rfl (sub_cons (i := 4) rfl (sub_cons (i := 12) rfl sub_nil))))
    clear f14
    first | refine f15.splitD 12 rfl (fun h1 f16 => ?_) (fun h1 f16 => ?_) | refine f15.splitN 12 rfl (fun h1 f16 => ?_) (fun h1 f16 => ?_) | refine f15.splitNB 12 rfl (fun h1 f16 => ?_) (fun h1 f16 => ?_) | refine f15.split 12 rfl (fun h1 f16 => ?_) (fun h1 f16 => ?_)
    · clear f15
      have h12 := h1
      refine C.condT f16 rfl ?_
      refine wp_seq_k fun K5 hK5 => ?_
      refine C.region ?_
      refine L.val f16 wantedN rfl (by decide) (E.assign f16 rfl) fun a17 f17 => ?_
      clear f16 a14
      refine wpList_nil (hK5 _ _ ?_)
      try clear hK5 K5
      have f18 := f17.sub (sub_cons (i := 0) rfl (sub_cons (i := 1) rfl (sub_cons (i := 4) rfl sub_nil)))
      clear f17
      refine wp_ret ?_
      try simp only [Exit.inBlock, Exit.then]
      refine C.ret (P := Tryd.prog) (fn := Tryd.f32) f18 rfl rfl ?_
      exact ⟨HK, by rw [within_hash hy h12]⟩
    · clear f15
      have h12 := h1
      refine C.condF f16 rfl ?_
      refine wp_seq_k fun K6 hK6 => ?_
      refine C.region ?_
      refine L.val f16 wantedN rfl (by decide) (E.move f16 rfl) fun a17 f17 => ?_
      clear f16 a14
      refine L.val f17 wantedN rfl (by decide) (E.lenL f17 Tryd.underlying26 rfl) fun a18 f18 => ?_
      clear f17 a17
      refine L.val f18 wantedN rfl (by decide) (E.eql f18 rfl rfl) fun a19 f19 => ?_
      clear f18 a18
      refine L.val f19 wantedN rfl (by decide) (E.move f19 rfl) fun a20 f20 => ?_
      clear f19 a19
      first | refine f20.splitD 21 rfl (fun h2 f21 => ?_) (fun h2 f21 => ?_) | refine f20.splitN 21 rfl (fun h2 f21 => ?_) (fun h2 f21 => ?_) | refine f20.splitNB 21 rfl (fun h2 f21 => ?_) (fun h2 f21 => ?_) | refine f20.split 21 rfl (fun h2 f21 => ?_) (fun h2 f21 => ?_)
      · clear f20
        have h21 := h2
        refine L.skip f21 (f21.noF rfl rfl) rfl (by decide) fun a22 f22 => ?_
        clear f21 a20
        refine L.skip f22 (f22.noF rfl rfl) rfl (by decide) fun a23 f23 => ?_
        clear f22 a22
        refine L.skip f23 (f23.noF rfl rfl) rfl (by decide) fun a24 f24 => ?_
        clear f23 a23
        refine L.skip f24 (f24.noF rfl rfl) rfl (by decide) fun a25 f25 => ?_
        clear f24 a24
        refine L.val f25 wantedN rfl (by decide) (E.pickT f25 rfl rfl) fun a26 f26 => ?_
        clear f25 a25
        refine L.val f26 wantedN rfl (by decide) (E.assign f26 rfl) fun a27 f27 => ?_
        clear f26 a26
        refine wpList_nil (hK6 _ _ ?_)
        try clear hK6 K6
        have f28 := f27.sub (sub_cons (i := 0) rfl (sub_cons (i := 1) rfl (sub_cons (i := 4) rfl (sub_cons (i := 17) rfl sub_nil))))
        clear f27
        refine C.condT f28 rfl ?_
        refine wp_seq_k fun K7 hK7 => ?_
        refine C.region ?_
        refine L.val f28 wantedN rfl (by decide) (E.assign f28 rfl) fun a29 f29 => ?_
        clear f28 a27
        refine wpList_nil (hK7 _ _ ?_)
        try clear hK7 K7
        have f30 := f29.sub (sub_cons (i := 0) rfl (sub_cons (i := 1) rfl (sub_cons (i := 4) rfl sub_nil)))
        clear f29
        refine wp_ret ?_
        try simp only [Exit.inBlock, Exit.then]
        refine C.ret (P := Tryd.prog) (fn := Tryd.f32) f30 rfl rfl ?_
        exact ⟨HK, by rw [within_end hy h12 (by omega)]⟩
      · clear f20
        have h21 := h2
        obtain ⟨x, hx⟩ : ∃ x, us[0]? = some x := ⟨us[0]'(by omega), List.getElem?_eq_getElem _⟩
        obtain ⟨b1, o1, hA⟩ := A1.addr (k := 0) (by omega)
        refine L.val f21 (f21.yes rfl rfl) rfl (by decide) (E.move f21 rfl) fun a22 f22 => ?_
        clear f21 a20
        refine L.val f22 (f22.yes rfl rfl) rfl (by decide) (E.indexA f22 (by first | rfl | assumption) Tryd.underlying26 wsz9_tb rfl rfl (by omega) (by omega)) fun a23 f23 => ?_
        clear f22 a22
        refine L.val f23 (f23.yes rfl rfl) rfl (by decide) (by first | exact E.load f23 Tryd.underlying9 rfl rfl (ss_cell0 (A1.kept HK) hA hx) | exact E.load f23 Tryd.underlying9 rfl rfl (ss_cell0 (A2.kept HK) hA' hy)) fun a24 f24 => ?_
        clear f23 a23
        refine L.val f24 (f24.yes rfl rfl) rfl (by decide) (E.eqlS f24 rfl rfl) fun a25 f25 => ?_
        clear f24 a24
        refine L.val f25 wantedN rfl (by decide) (E.pickF f25 rfl rfl) fun a26 f26 => ?_
        clear f25 a25
        refine L.val f26 wantedN rfl (by decide) (E.assign f26 rfl) fun a27 f27 => ?_
        clear f26 a26
        refine wpList_nil (hK6 _ _ ?_)
        try clear hK6 K6
        have f28 := f27.sub (sub_cons (i := 0) rfl (sub_cons (i := 1) rfl (sub_cons (i := 4) rfl (sub_cons (i := 17) rfl sub_nil))))
        clear f27
        first | refine f28.splitD 17 rfl (fun h3 f29 => ?_) (fun h3 f29 => ?_) | refine f28.splitN 17 rfl (fun h3 f29 => ?_) (fun h3 f29 => ?_) | refine f28.splitNB 17 rfl (fun h3 f29 => ?_) (fun h3 f29 => ?_) | refine f28.split 17 rfl (fun h3 f29 => ?_) (fun h3 f29 => ?_)
        · clear f28
          have h17 := h3
          refine C.condT f29 rfl ?_
          refine wp_seq_k fun K8 hK8 => ?_
          refine C.region ?_
          refine L.val f29 wantedN rfl (by decide) (E.assign f29 rfl) fun a30 f30 => ?_
          clear f29 a27
          refine wpList_nil (hK8 _ _ ?_)
          try clear hK8 K8
          have f31 := f30.sub (sub_cons (i := 0) rfl (sub_cons (i := 1) rfl (sub_cons (i := 4) rfl sub_nil)))
          clear f30
          refine wp_ret ?_
          try simp only [Exit.inBlock, Exit.then]
          refine C.ret (P := Tryd.prog) (fn := Tryd.f32) f31 rfl rfl ?_
          exact ⟨HK, by rw [within_step hx hy h12]; simp [*]⟩
        · clear f28
          have h17 := h3
          refine C.condF f29 rfl ?_
          refine wp_skip (hK1 _ _ ?_)
          try clear hK1 K1
          have f30 := f29.sub (sub_cons (i := 0) rfl (sub_cons (i := 1) rfl (sub_cons (i := 4) rfl sub_nil)))
          clear f29
          refine wp_seq_k fun K9 hK9 => ?_
          refine R.begin (S := fun W => Kept [] w W) (by kernel_rfl) (by exact (Kept.refl _ _).drewN 1) ?_
          have hS7 : Kept [] w (w.drewN 1) := (Kept.refl _ _).drewN 1
          have hd7 : Kept [] w (w.drewN 1) := (Kept.refl _ _).drewN 1
          obtain ⟨w1, hww1⟩ : ∃ W, W = w.drewN 1 := ⟨_, rfl⟩
          rw [← hww1] at hS7 hd7 ⊢
          clear hww1
          have szw1 := hS7.size
          refine R.take 0 f30 rfl rfl (by decide) (by kernel_rfl) (by kernel_rfl) (by kernel_rfl) (fun _ _ _ _ h => h) wantedN hS7 (fun W hW => (E.move f30 rfl)) fun a31 f31 => ?_
          clear f30 a27
          refine R.take 1 f31 rfl rfl (by decide) (by kernel_rfl) (by kernel_rfl) (by kernel_rfl) (fun _ _ _ _ h => h) wantedN hS7 (fun W hW => (E.indexA f31 (by first | rfl | assumption) Tryd.underlying26 wsz9_tb rfl rfl (by omega) (by omega))) fun a32 f32 => ?_
          clear f31 a31
          refine R.take 2 f32 rfl rfl (by decide) (by kernel_rfl) (by kernel_rfl) (by kernel_rfl) (fun _ _ _ _ h => h) wantedN hS7 (fun W hW => (by first | exact E.load f32 Tryd.underlying9 rfl rfl (ss_cell0 (A1.kept (HK.trans hW (by simp))) hA hx) | exact E.load f32 Tryd.underlying9 rfl rfl (ss_cell0 (A2.kept (HK.trans hW (by simp))) hA' hy))) fun a33 f33 => ?_
          clear f32 a32
          refine R.take 3 f33 rfl rfl (by decide) (by kernel_rfl) (by kernel_rfl) (by kernel_rfl) (fun _ _ _ _ h => h) wantedN hS7 (fun W hW => (E.eqlS f33 rfl rfl)) fun a34 f34 => ?_
          clear f33 a33
          refine R.take 4 f34 rfl rfl (by decide) (by kernel_rfl) (by kernel_rfl) (by kernel_rfl) (fun _ _ _ _ h => h) wantedN hS7 (fun W hW => (E.move f34 rfl)) fun a35 f35 => ?_
          clear f34 a34
          first | refine f35.splitD 31 rfl (fun h4 f36 => ?_) (fun h4 f36 => ?_) | refine f35.splitN 31 rfl (fun h4 f36 => ?_) (fun h4 f36 => ?_) | refine f35.splitNB 31 rfl (fun h4 f36 => ?_) (fun h4 f36 => ?_) | refine f35.split 31 rfl (fun h4 f36 => ?_) (fun h4 f36 => ?_)
          · clear f35
            have h31 := h4
            refine R.takeSkip 5 f36 rfl rfl (by decide) (by kernel_rfl) (by kernel_rfl) (by kernel_rfl) (fun _ _ _ _ h => h) (f36.noF rfl rfl) hS7 fun a37 f37 => ?_
            clear f36 a35
            refine R.takeSkip 6 f37 rfl rfl (by decide) (by kernel_rfl) (by kernel_rfl) (by kernel_rfl) (fun _ _ _ _ h => h) (f37.noF rfl rfl) hS7 fun a38 f38 => ?_
            clear f37 a37
            refine R.takeSkip 7 f38 rfl rfl (by decide) (by kernel_rfl) (by kernel_rfl) (by kernel_rfl) (fun _ _ _ _ h => h) (f38.noF rfl rfl) hS7 fun a39 f39 => ?_
            clear f38 a38
            refine R.takeSkip 8 f39 rfl rfl (by decide) (by kernel_rfl) (by kernel_rfl) (by kernel_rfl) (fun _ _ _ _ h => h) (f39.noF rfl rfl) hS7 fun a40 f40 => ?_
            clear f39 a39
            refine R.takeSkip 9 f40 rfl rfl (by decide) (by kernel_rfl) (by kernel_rfl) (by kernel_rfl) (fun _ _ _ _ h => h) (f40.noF rfl rfl) hS7 fun a41 f41 => ?_
            clear f40 a40
            refine R.takeSkip 10 f41 rfl rfl (by decide) (by kernel_rfl) (by kernel_rfl) (by kernel_rfl) (fun _ _ _ _ h => h) (f41.noF rfl rfl) hS7 fun a42 f42 => ?_
            clear f41 a41
            refine R.takeSkip 11 f42 rfl rfl (by decide) (by kernel_rfl) (by kernel_rfl) (by kernel_rfl) (fun _ _ _ _ h => h) (f42.noF rfl rfl) hS7 fun a43 f43 => ?_
            clear f42 a42
            refine R.take 12 f43 rfl rfl (by decide) (by kernel_rfl) (by kernel_rfl) (by kernel_rfl) (fun _ _ _ _ h => h) wantedN hS7 (fun W hW => (E.pickT f43 rfl rfl)) fun a44 f44 => ?_
            clear f43 a43
            refine R.take 13 f44 rfl rfl (by decide) (by kernel_rfl) (by kernel_rfl) (by kernel_rfl) (fun _ _ _ _ h => h) wantedN hS7 (fun W hW => (E.move f44 rfl)) fun a45 f45 => ?_
            clear f44 a44
            refine R.take 14 f45 rfl rfl (by decide) (by kernel_rfl) (by kernel_rfl) (by kernel_rfl) (fun _ _ _ _ h => h) (f45.yes rfl rfl) hS7 (fun W hW => (E.move f45 rfl)) fun a46 f46 => ?_
            clear f45 a45
            refine R.take 15 f46 rfl rfl (by decide) (by kernel_rfl) (by kernel_rfl) (by kernel_rfl) (fun _ _ _ _ h => h) (f46.yes rfl rfl) hS7 (fun W hW => (E.slLlo f46 Tryd.underlying26 wsz9_tb rfl rfl (by omega) (by omega) )) fun a47 f47 => ?_
            clear f46 a46
            refine R.take 16 f47 rfl rfl (by decide) (by kernel_rfl) (by kernel_rfl) (by kernel_rfl) (fun _ _ _ _ h => h) (f47.yes rfl rfl) hS7 (fun W hW => (E.move f47 rfl)) fun a48 f48 => ?_
            clear f47 a47
            refine R.take 17 f48 rfl rfl (by decide) (by kernel_rfl) (by kernel_rfl) (by kernel_rfl) (fun _ _ _ _ h => h) (f48.yes rfl rfl) hS7 (fun W hW => (E.slLlo f48 Tryd.underlying26 wsz9_tb rfl rfl (by omega) (by omega) )) fun a49 f49 => ?_
            clear f48 a48
            replace f49 := f49.as (i := 42) (v' := .slice (tailA A c) (us.drop 1).length (c - 1)) rfl (by rw [List.length_drop]; rfl)
            replace f49 := f49.as (i := 44) (v' := .slice (tailA A' c') (vs.drop 1).length (c' - 1)) rfl (by rw [List.length_drop]; rfl)
            refine R.call 18 f49 rfl rfl (by decide) (by kernel_rfl) (f49.yes rfl rfl) (run_call Tryd.call32 (args2 f49 rfl rfl)) (ih (us.drop 1) (vs.drop 1) _ _ _ _ w1 (by rw [List.length_drop]; omega) ((A1.kept (HK.trans hS7 (by simp))).tail hc) ((A2.kept (HK.trans hS7 (by simp))).tail hc') (by rw [List.length_drop]; omega) (by rw [List.length_drop]; omega) (by rw [List.length_drop]; omega) (by rw [List.length_drop]; omega)) ?_
            rintro e w2 ⟨kc2, rfl⟩
            replace hS7 := hS7.trans kc2 (by simp)
            refine ⟨_, rfl, hS7, fun a50 f50 => ?_⟩
            clear f49 a49
            have szw2 := kc2.size
            clear kc2
            refine R.take 19 f50 rfl rfl (by decide) (by kernel_rfl) (by kernel_rfl) (by kernel_rfl) (fun _ _ _ _ h => h) wantedN hS7 (fun W hW => (E.pickT f50 rfl rfl)) fun a51 f51 => ?_
            clear f50 a50
            refine R.take 20 f51 rfl rfl (by decide) (by kernel_rfl) (by kernel_rfl) (by kernel_rfl) (fun _ _ _ _ h => h) wantedN hS7 (fun W hW => (E.assign f51 rfl)) fun a52 f52 => ?_
            clear f51 a51
            have szw2r := hS7.size
            replace HK := HK.trans hS7 (by simp)
            clear hS7
            refine R.done (by kernel_rfl) (hK9 _ _ ?_)
            try clear hK9 K9
            have f53 := f52.sub (sub_cons (i := 4) rfl sub_nil)
            clear f52
            refine wp_ret ?_
            try simp only [Exit.inBlock, Exit.then]
            refine C.ret (P := Tryd.prog) (fn := Tryd.f32) f53 rfl rfl ?_
            exact ⟨HK, by rw [within_step hx hy h12]; simp [*]⟩
          · clear f35
            have h31 := h4
            refine R.take 5 f36 rfl rfl (by decide) (by kernel_rfl) (by kernel_rfl) (by kernel_rfl) (fun _ _ _ _ h => h) (f36.yes rfl rfl) hS7 (fun W hW => (E.move f36 rfl)) fun a37 f37 => ?_
            clear f36 a35
            refine R.take 6 f37 rfl rfl (by decide) (by kernel_rfl) (by kernel_rfl) (by kernel_rfl) (fun _ _ _ _ h => h) (f37.yes rfl rfl) hS7 (fun W hW => (E.indexA f37 (by first | rfl | assumption) Tryd.underlying26 wsz9_tb rfl rfl (by omega) (by omega))) fun a38 f38 => ?_
            clear f37 a37
            refine R.take 7 f38 rfl rfl (by decide) (by kernel_rfl) (by kernel_rfl) (by kernel_rfl) (fun _ _ _ _ h => h) (f38.yes rfl rfl) hS7 (fun W hW => (by first | exact E.load f38 Tryd.underlying9 rfl rfl (ss_cell0 (A1.kept (HK.trans hW (by simp))) hA hx) | exact E.load f38 Tryd.underlying9 rfl rfl (ss_cell0 (A2.kept (HK.trans hW (by simp))) hA' hy))) fun a39 f39 => ?_
            clear f38 a38
            refine R.take 8 f39 rfl rfl (by decide) (by kernel_rfl) (by kernel_rfl) (by kernel_rfl) (fun _ _ _ _ h => h) (f39.yes rfl rfl) hS7 (fun W hW => (E.move f39 rfl)) fun a40 f40 => ?_
            clear f39 a39
            refine R.take 9 f40 rfl rfl (by decide) (by kernel_rfl) (by kernel_rfl) (by kernel_rfl) (fun _ _ _ _ h => h) (f40.yes rfl rfl) hS7 (fun W hW => (E.indexA f40 (by first | rfl | assumption) Tryd.underlying26 wsz9_tb rfl rfl (by omega) (by omega))) fun a41 f41 => ?_
            clear f40 a40
            refine R.take 10 f41 rfl rfl (by decide) (by kernel_rfl) (by kernel_rfl) (by kernel_rfl) (fun _ _ _ _ h => h) (f41.yes rfl rfl) hS7 (fun W hW => (by first | exact E.load f41 Tryd.underlying9 rfl rfl (ss_cell0 (A1.kept (HK.trans hW (by simp))) hA hx) | exact E.load f41 Tryd.underlying9 rfl rfl (ss_cell0 (A2.kept (HK.trans hW (by simp))) hA' hy))) fun a42 f42 => ?_
            clear f41 a41
            refine R.take 11 f42 rfl rfl (by decide) (by kernel_rfl) (by kernel_rfl) (by kernel_rfl) (fun _ _ _ _ h => h) (f42.yes rfl rfl) hS7 (fun W hW => (E.eqlS f42 rfl rfl)) fun a43 f43 => ?_
            clear f42 a42
            refine R.take 12 f43 rfl rfl (by decide) (by kernel_rfl) (by kernel_rfl) (by kernel_rfl) (fun _ _ _ _ h => h) wantedN hS7 (fun W hW => (E.pickF f43 rfl rfl)) fun a44 f44 => ?_
            clear f43 a43
            refine R.take 13 f44 rfl rfl (by decide) (by kernel_rfl) (by kernel_rfl) (by kernel_rfl) (fun _ _ _ _ h => h) wantedN hS7 (fun W hW => (E.move f44 rfl)) fun a45 f45 => ?_
            clear f44 a44
            first | refine f45.splitD 40 rfl (fun h5 f46 => ?_) (fun h5 f46 => ?_) | refine f45.splitN 40 rfl (fun h5 f46 => ?_) (fun h5 f46 => ?_) | refine f45.splitNB 40 rfl (fun h5 f46 => ?_) (fun h5 f46 => ?_) | refine f45.split 40 rfl (fun h5 f46 => ?_) (fun h5 f46 => ?_)
            · clear f45
              have h40 := h5
              refine R.take 14 f46 rfl rfl (by decide) (by kernel_rfl) (by kernel_rfl) (by kernel_rfl) (fun _ _ _ _ h => h) (f46.yes rfl rfl) hS7 (fun W hW => (E.move f46 rfl)) fun a47 f47 => ?_
              clear f46 a45
              refine R.take 15 f47 rfl rfl (by decide) (by kernel_rfl) (by kernel_rfl) (by kernel_rfl) (fun _ _ _ _ h => h) (f47.yes rfl rfl) hS7 (fun W hW => (E.slLlo f47 Tryd.underlying26 wsz9_tb rfl rfl (by omega) (by omega) )) fun a48 f48 => ?_
              clear f47 a47
              refine R.take 16 f48 rfl rfl (by decide) (by kernel_rfl) (by kernel_rfl) (by kernel_rfl) (fun _ _ _ _ h => h) (f48.yes rfl rfl) hS7 (fun W hW => (E.move f48 rfl)) fun a49 f49 => ?_
              clear f48 a48
              refine R.take 17 f49 rfl rfl (by decide) (by kernel_rfl) (by kernel_rfl) (by kernel_rfl) (fun _ _ _ _ h => h) (f49.yes rfl rfl) hS7 (fun W hW => (E.slLlo f49 Tryd.underlying26 wsz9_tb rfl rfl (by omega) (by omega) )) fun a50 f50 => ?_
              clear f49 a49
              replace f50 := f50.as (i := 42) (v' := .slice (tailA A c) (us.drop 1).length (c - 1)) rfl (by rw [List.length_drop]; rfl)
              replace f50 := f50.as (i := 44) (v' := .slice (tailA A' c') (vs.drop 1).length (c' - 1)) rfl (by rw [List.length_drop]; rfl)
              refine R.call 18 f50 rfl rfl (by decide) (by kernel_rfl) (f50.yes rfl rfl) (run_call Tryd.call32 (args2 f50 rfl rfl)) (ih (us.drop 1) (vs.drop 1) _ _ _ _ w1 (by rw [List.length_drop]; omega) ((A1.kept (HK.trans hS7 (by simp))).tail hc) ((A2.kept (HK.trans hS7 (by simp))).tail hc') (by rw [List.length_drop]; omega) (by rw [List.length_drop]; omega) (by rw [List.length_drop]; omega) (by rw [List.length_drop]; omega)) ?_
              rintro e w2 ⟨kc2, rfl⟩
              replace hS7 := hS7.trans kc2 (by simp)
              refine ⟨_, rfl, hS7, fun a51 f51 => ?_⟩
              clear f50 a50
              have szw2 := kc2.size
              clear kc2
              refine R.take 19 f51 rfl rfl (by decide) (by kernel_rfl) (by kernel_rfl) (by kernel_rfl) (fun _ _ _ _ h => h) wantedN hS7 (fun W hW => (E.pickT f51 rfl rfl)) fun a52 f52 => ?_
              clear f51 a51
              refine R.take 20 f52 rfl rfl (by decide) (by kernel_rfl) (by kernel_rfl) (by kernel_rfl) (fun _ _ _ _ h => h) wantedN hS7 (fun W hW => (E.assign f52 rfl)) fun a53 f53 => ?_
              clear f52 a52
              have szw2r := hS7.size
              replace HK := HK.trans hS7 (by simp)
              clear hS7
              refine R.done (by kernel_rfl) (hK9 _ _ ?_)
              try clear hK9 K9
              have f54 := f53.sub (sub_cons (i := 4) rfl sub_nil)
              clear f53
              refine wp_ret ?_
              try simp only [Exit.inBlock, Exit.then]
              refine C.ret (P := Tryd.prog) (fn := Tryd.f32) f54 rfl rfl ?_
              exact ⟨HK, by rw [within_step hx hy h12]; simp [*]⟩
            · clear f45
              have h40 := h5
              refine R.takeSkip 14 f46 rfl rfl (by decide) (by kernel_rfl) (by kernel_rfl) (by kernel_rfl) (fun _ _ _ _ h => h) (f46.noT rfl rfl) hS7 fun a47 f47 => ?_
              clear f46 a45
              refine R.takeSkip 15 f47 rfl rfl (by decide) (by kernel_rfl) (by kernel_rfl) (by kernel_rfl) (fun _ _ _ _ h => h) (f47.noT rfl rfl) hS7 fun a48 f48 => ?_
              clear f47 a47
              refine R.takeSkip 16 f48 rfl rfl (by decide) (by kernel_rfl) (by kernel_rfl) (by kernel_rfl) (fun _ _ _ _ h => h) (f48.noT rfl rfl) hS7 fun a49 f49 => ?_
              clear f48 a48
              refine R.takeSkip 17 f49 rfl rfl (by decide) (by kernel_rfl) (by kernel_rfl) (by kernel_rfl) (fun _ _ _ _ h => h) (f49.noT rfl rfl) hS7 fun a50 f50 => ?_
              clear f49 a49
              refine R.takeSkip 18 f50 rfl rfl (by decide) (by kernel_rfl) (by kernel_rfl) (by kernel_rfl) (fun _ _ _ _ h => h) (f50.noT rfl rfl) hS7 fun a51 f51 => ?_
              clear f50 a50
              refine R.take 19 f51 rfl rfl (by decide) (by kernel_rfl) (by kernel_rfl) (by kernel_rfl) (fun _ _ _ _ h => h) wantedN hS7 (fun W hW => (E.pickF f51 rfl rfl)) fun a52 f52 => ?_
              clear f51 a51
              refine R.take 20 f52 rfl rfl (by decide) (by kernel_rfl) (by kernel_rfl) (by kernel_rfl) (fun _ _ _ _ h => h) wantedN hS7 (fun W hW => (E.assign f52 rfl)) fun a53 f53 => ?_
              clear f52 a52
              have szw1r := hS7.size
              replace HK := HK.trans hS7 (by simp)
              clear hS7
              refine R.done (by kernel_rfl) (hK9 _ _ ?_)
              try clear hK9 K9
              have f54 := f53.sub (sub_cons (i := 4) rfl sub_nil)
              clear f53
              refine wp_ret ?_
              try simp only [Exit.inBlock, Exit.then]
              refine C.ret (P := Tryd.prog) (fn := Tryd.f32) f54 rfl rfl ?_
              exact ⟨HK, by rw [within_step hx hy h12]; simp [*]⟩

set_option maxHeartbeats 1000000 in
theorem matches_one (us vs : List ByteArray) (A A' : Option Addr) (c c' : Nat) (w : World) (A1 : Ss w A us) (A2 : Ss w A' vs) (hc : us.length ≤ c) (hc' : vs.length ≤ c') (hl : us.length ≤ 1000000) (hl' : vs.length ≤ 1000000) (ih : ∀ (us' vs' : List ByteArray) (A A' : Option Addr) (c c' : Nat) (w : World), us'.length < us.length → Ss w A us' → Ss w A' vs' → us'.length ≤ c → vs'.length ≤ c' → us'.length ≤ 1000000 → vs'.length ≤ 1000000 → Calls Tryd.prog 31 #[.slice A us'.length c, .slice A' vs'.length c'] w (fun e w' => Kept [] w w' ∧ e = .returned (.bool (goesB us' vs')))) : Calls Tryd.prog 31 #[.slice A us.length c, .slice A' vs.length c'] w (fun e w' => Kept [] w w' ∧ e = .returned (.bool (goesB us vs))) := by
  have HK : Kept [] w w := Kept.refl [] w
  refine C.enter Tryd.func31 rfl Tryd.ntmps31 rfl ?_
  intro a0 f0
  have f1 : Fr 47 a0 [(0, .slice A us.length c), (1, .slice A' vs.length c')] := f0
  clear f0
  refine wp_seq_k fun K0 hK0 => ?_
  refine C.region ?_
  refine L.val f1 wantedN rfl (by decide) (E.assign f1 rfl) fun a2 f2 => ?_
  clear f1 a0
  refine wpList_nil (hK0 _ _ ?_)
  try clear hK0 K0
  have f3 := f2.sub (sub_cons (i := 0) rfl (sub_cons (i := 1) rfl (sub_cons (i := 4) rfl sub_nil)))
  clear f2
  refine wp_seq_k fun K1 hK1 => ?_
  refine wp_seq_k fun K2 hK2 => ?_
  refine C.region ?_
  refine L.val f3 wantedN rfl (by decide) (E.move f3 rfl) fun a4 f4 => ?_
  clear f3 a2
  refine L.val f4 wantedN rfl (by decide) (E.lenL f4 Tryd.underlying26 rfl) fun a5 f5 => ?_
  clear f4 a4
  refine L.val f5 wantedN rfl (by decide) (E.gtr f5 rfl rfl) fun a6 f6 => ?_
  clear f5 a5
  refine L.val f6 wantedN rfl (by decide) (E.move f6 rfl) fun a7 f7 => ?_
  clear f6 a6
  first | refine f7.splitD 8 rfl (fun h0 f8 => ?_) (fun h0 f8 => ?_) | refine f7.splitN 8 rfl (fun h0 f8 => ?_) (fun h0 f8 => ?_) | refine f7.splitNB 8 rfl (fun h0 f8 => ?_) (fun h0 f8 => ?_) | refine f7.split 8 rfl (fun h0 f8 => ?_) (fun h0 f8 => ?_)
  · clear f7
    obtain ⟨x, hx⟩ : ∃ x, us[0]? = some x := ⟨us[0]'(by omega), List.getElem?_eq_getElem _⟩
    obtain ⟨b1, o1, hA⟩ := A1.addr (k := 0) (by omega)
    refine L.val f8 (f8.yes rfl rfl) rfl (by decide) (E.move f8 rfl) fun a9 f9 => ?_
    clear f8 a7
    refine L.val f9 (f9.yes rfl rfl) rfl (by decide) (E.indexA f9 (by first | rfl | assumption) Tryd.underlying26 wsz9_tb rfl rfl (by omega) (by omega)) fun a10 f10 => ?_
    clear f9 a9
    refine L.val f10 (f10.yes rfl rfl) rfl (by decide) (by first | exact E.load f10 Tryd.underlying9 rfl rfl (ss_cell0 (A1.kept HK) hA hx) | exact E.load f10 Tryd.underlying9 rfl rfl (ss_cell0 (A2.kept HK) hA' hy)) fun a11 f11 => ?_
    clear f10 a10
    refine L.val f11 (f11.yes rfl rfl) rfl (by decide) (E.eqlS f11 rfl rfl) fun a12 f12 => ?_
    clear f11 a11
    refine L.val f12 wantedN rfl (by decide) (E.pickT f12 rfl rfl) fun a13 f13 => ?_
    clear f12 a12
    refine wpList_nil (hK2 _ _ ?_)
    try clear hK2 K2
    have f14 := f13.sub (sub_cons (i := 0) rfl (sub_cons (i := 1) rfl (sub_cons (i := 4) rfl (sub_cons (i := 13) rfl sub_nil))))
    clear f13
    first | refine f14.splitD 13 rfl (fun h1 f15 => ?_) (fun h1 f15 => ?_) | refine f14.splitN 13 rfl (fun h1 f15 => ?_) (fun h1 f15 => ?_) | refine f14.splitNB 13 rfl (fun h1 f15 => ?_) (fun h1 f15 => ?_) | refine f14.split 13 rfl (fun h1 f15 => ?_) (fun h1 f15 => ?_)
    · clear f14
      have h13 := h1
      refine C.condT f15 rfl ?_
      refine wp_seq_k fun K3 hK3 => ?_
      refine C.region ?_
      refine L.val f15 wantedN rfl (by decide) (E.assign f15 rfl) fun a16 f16 => ?_
      clear f15 a13
      refine wpList_nil (hK3 _ _ ?_)
      try clear hK3 K3
      have f17 := f16.sub (sub_cons (i := 0) rfl (sub_cons (i := 1) rfl (sub_cons (i := 4) rfl sub_nil)))
      clear f16
      refine wp_ret ?_
      try simp only [Exit.inBlock, Exit.then]
      refine C.ret (P := Tryd.prog) (fn := Tryd.f31) f17 rfl rfl ?_
      exact ⟨HK, by rw [goes_hash hx (by simpa using h13)]⟩
    · clear f14
      have h13 := h1
      refine C.condF f15 rfl ?_
      refine wp_skip (hK1 _ _ ?_)
      try clear hK1 K1
      have f16 := f15.sub (sub_cons (i := 0) rfl (sub_cons (i := 1) rfl (sub_cons (i := 4) rfl sub_nil)))
      clear f15
      refine wp_seq_k fun K4 hK4 => ?_
      refine wp_seq_k fun K5 hK5 => ?_
      refine C.region ?_
      refine L.val f16 wantedN rfl (by decide) (E.move f16 rfl) fun a17 f17 => ?_
      clear f16 a13
      refine L.val f17 wantedN rfl (by decide) (E.lenL f17 Tryd.underlying26 rfl) fun a18 f18 => ?_
      clear f17 a17
      refine L.val f18 wantedN rfl (by decide) (E.eql f18 rfl rfl) fun a19 f19 => ?_
      clear f18 a18
      refine L.val f19 wantedN rfl (by decide) (E.move f19 rfl) fun a20 f20 => ?_
      clear f19 a19
      first | refine f20.splitD 17 rfl (fun h2 f21 => ?_) (fun h2 f21 => ?_) | refine f20.splitN 17 rfl (fun h2 f21 => ?_) (fun h2 f21 => ?_) | refine f20.splitNB 17 rfl (fun h2 f21 => ?_) (fun h2 f21 => ?_) | refine f20.split 17 rfl (fun h2 f21 => ?_) (fun h2 f21 => ?_)
      · clear f20
        have h17 := h2
        refine L.skip f21 (f21.noF rfl rfl) rfl (by decide) fun a22 f22 => ?_
        clear f21 a20
        refine L.skip f22 (f22.noF rfl rfl) rfl (by decide) fun a23 f23 => ?_
        clear f22 a22
        refine L.skip f23 (f23.noF rfl rfl) rfl (by decide) fun a24 f24 => ?_
        clear f23 a23
        refine L.val f24 wantedN rfl (by decide) (E.pickT f24 rfl rfl) fun a25 f25 => ?_
        clear f24 a24
        refine wpList_nil (hK5 _ _ ?_)
        try clear hK5 K5
        have f26 := f25.sub (sub_cons (i := 0) rfl (sub_cons (i := 1) rfl (sub_cons (i := 4) rfl (sub_cons (i := 21) rfl sub_nil))))
        clear f25
        refine C.condT f26 rfl ?_
        refine wp_seq_k fun K6 hK6 => ?_
        refine C.region ?_
        refine L.val f26 wantedN rfl (by decide) (E.move f26 rfl) fun a27 f27 => ?_
        clear f26 a25
        refine L.val f27 wantedN rfl (by decide) (E.lenL f27 Tryd.underlying26 rfl) fun a28 f28 => ?_
        clear f27 a27
        refine L.val f28 wantedN rfl (by decide) (E.move f28 rfl) fun a29 f29 => ?_
        clear f28 a28
        refine L.val f29 wantedN rfl (by decide) (E.lenL f29 Tryd.underlying26 rfl) fun a30 f30 => ?_
        clear f29 a29
        refine L.val f30 wantedN rfl (by decide) (E.eql f30 rfl rfl) fun a31 f31 => ?_
        clear f30 a30
        refine L.val f31 wantedN rfl (by decide) (E.assign f31 rfl) fun a32 f32 => ?_
        clear f31 a31
        refine wpList_nil (hK6 _ _ ?_)
        try clear hK6 K6
        have f33 := f32.sub (sub_cons (i := 0) rfl (sub_cons (i := 1) rfl (sub_cons (i := 4) rfl sub_nil)))
        clear f32
        refine wp_ret ?_
        try simp only [Exit.inBlock, Exit.then]
        refine C.ret (P := Tryd.prog) (fn := Tryd.f31) f33 rfl rfl ?_
        exact ⟨HK, by rw [goes_len0 (by omega)]⟩
      · clear f20
        have h17 := h2
        refine L.val f21 (f21.yes rfl rfl) rfl (by decide) (E.move f21 rfl) fun a22 f22 => ?_
        clear f21 a20
        refine L.val f22 (f22.yes rfl rfl) rfl (by decide) (E.lenL f22 Tryd.underlying26 rfl) fun a23 f23 => ?_
        clear f22 a22
        refine L.val f23 (f23.yes rfl rfl) rfl (by decide) (E.eql f23 rfl rfl) fun a24 f24 => ?_
        clear f23 a23
        refine L.val f24 wantedN rfl (by decide) (E.pickF f24 rfl rfl) fun a25 f25 => ?_
        clear f24 a24
        refine wpList_nil (hK5 _ _ ?_)
        try clear hK5 K5
        have f26 := f25.sub (sub_cons (i := 0) rfl (sub_cons (i := 1) rfl (sub_cons (i := 4) rfl (sub_cons (i := 21) rfl sub_nil))))
        clear f25
        first | refine f26.splitD 21 rfl (fun h3 f27 => ?_) (fun h3 f27 => ?_) | refine f26.splitN 21 rfl (fun h3 f27 => ?_) (fun h3 f27 => ?_) | refine f26.splitNB 21 rfl (fun h3 f27 => ?_) (fun h3 f27 => ?_) | refine f26.split 21 rfl (fun h3 f27 => ?_) (fun h3 f27 => ?_)
        · clear f26
          have h21 := h3
          refine C.condT f27 rfl ?_
          refine wp_seq_k fun K7 hK7 => ?_
          refine C.region ?_
          refine L.val f27 wantedN rfl (by decide) (E.move f27 rfl) fun a28 f28 => ?_
          clear f27 a25
          refine L.val f28 wantedN rfl (by decide) (E.lenL f28 Tryd.underlying26 rfl) fun a29 f29 => ?_
          clear f28 a28
          refine L.val f29 wantedN rfl (by decide) (E.move f29 rfl) fun a30 f30 => ?_
          clear f29 a29
          refine L.val f30 wantedN rfl (by decide) (E.lenL f30 Tryd.underlying26 rfl) fun a31 f31 => ?_
          clear f30 a30
          refine L.val f31 wantedN rfl (by decide) (E.eql f31 rfl rfl) fun a32 f32 => ?_
          clear f31 a31
          refine L.val f32 wantedN rfl (by decide) (E.assign f32 rfl) fun a33 f33 => ?_
          clear f32 a32
          refine wpList_nil (hK7 _ _ ?_)
          try clear hK7 K7
          have f34 := f33.sub (sub_cons (i := 0) rfl (sub_cons (i := 1) rfl (sub_cons (i := 4) rfl sub_nil)))
          clear f33
          refine wp_ret ?_
          try simp only [Exit.inBlock, Exit.then]
          refine C.ret (P := Tryd.prog) (fn := Tryd.f31) f34 rfl rfl ?_
          exact ⟨HK, by rw [goes_len hx h13 (by omega)]⟩
        · clear f26
          have h21 := h3
          obtain ⟨y, hy⟩ : ∃ y, vs[0]? = some y := ⟨vs[0]'(by omega), List.getElem?_eq_getElem _⟩
          obtain ⟨b2, o2, hA'⟩ := A2.addr (k := 0) (by omega)
          refine C.condF f27 rfl ?_
          refine wp_skip (hK4 _ _ ?_)
          try clear hK4 K4
          have f28 := f27.sub (sub_cons (i := 0) rfl (sub_cons (i := 1) rfl (sub_cons (i := 4) rfl sub_nil)))
          clear f27
          refine wp_seq_k fun K8 hK8 => ?_
          refine R.begin (S := fun W => Kept [] w W) (by kernel_rfl) (by exact (Kept.refl _ _).drewN 1) ?_
          have hS5 : Kept [] w (w.drewN 1) := (Kept.refl _ _).drewN 1
          have hd5 : Kept [] w (w.drewN 1) := (Kept.refl _ _).drewN 1
          obtain ⟨w1, hww1⟩ : ∃ W, W = w.drewN 1 := ⟨_, rfl⟩
          rw [← hww1] at hS5 hd5 ⊢
          clear hww1
          have szw1 := hS5.size
          refine R.take 0 f28 rfl rfl (by decide) (by kernel_rfl) (by kernel_rfl) (by kernel_rfl) (fun _ _ _ _ h => h) wantedN hS5 (fun W hW => (E.move f28 rfl)) fun a29 f29 => ?_
          clear f28 a25
          refine R.take 1 f29 rfl rfl (by decide) (by kernel_rfl) (by kernel_rfl) (by kernel_rfl) (fun _ _ _ _ h => h) wantedN hS5 (fun W hW => (E.indexA f29 (by first | rfl | assumption) Tryd.underlying26 wsz9_tb rfl rfl (by omega) (by omega))) fun a30 f30 => ?_
          clear f29 a29
          refine R.take 2 f30 rfl rfl (by decide) (by kernel_rfl) (by kernel_rfl) (by kernel_rfl) (fun _ _ _ _ h => h) wantedN hS5 (fun W hW => (by first | exact E.load f30 Tryd.underlying9 rfl rfl (ss_cell0 (A1.kept (HK.trans hW (by simp))) hA hx) | exact E.load f30 Tryd.underlying9 rfl rfl (ss_cell0 (A2.kept (HK.trans hW (by simp))) hA' hy))) fun a31 f31 => ?_
          clear f30 a30
          refine R.take 3 f31 rfl rfl (by decide) (by kernel_rfl) (by kernel_rfl) (by kernel_rfl) (fun _ _ _ _ h => h) wantedN hS5 (fun W hW => (E.eqlS f31 rfl rfl)) fun a32 f32 => ?_
          clear f31 a31
          refine R.take 4 f32 rfl rfl (by decide) (by kernel_rfl) (by kernel_rfl) (by kernel_rfl) (fun _ _ _ _ h => h) wantedN hS5 (fun W hW => (E.move f32 rfl)) fun a33 f33 => ?_
          clear f32 a32
          first | refine f33.splitD 31 rfl (fun h4 f34 => ?_) (fun h4 f34 => ?_) | refine f33.splitN 31 rfl (fun h4 f34 => ?_) (fun h4 f34 => ?_) | refine f33.splitNB 31 rfl (fun h4 f34 => ?_) (fun h4 f34 => ?_) | refine f33.split 31 rfl (fun h4 f34 => ?_) (fun h4 f34 => ?_)
          · clear f33
            have h31 := h4
            refine R.takeSkip 5 f34 rfl rfl (by decide) (by kernel_rfl) (by kernel_rfl) (by kernel_rfl) (fun _ _ _ _ h => h) (f34.noF rfl rfl) hS5 fun a35 f35 => ?_
            clear f34 a33
            refine R.takeSkip 6 f35 rfl rfl (by decide) (by kernel_rfl) (by kernel_rfl) (by kernel_rfl) (fun _ _ _ _ h => h) (f35.noF rfl rfl) hS5 fun a36 f36 => ?_
            clear f35 a35
            refine R.takeSkip 7 f36 rfl rfl (by decide) (by kernel_rfl) (by kernel_rfl) (by kernel_rfl) (fun _ _ _ _ h => h) (f36.noF rfl rfl) hS5 fun a37 f37 => ?_
            clear f36 a36
            refine R.takeSkip 8 f37 rfl rfl (by decide) (by kernel_rfl) (by kernel_rfl) (by kernel_rfl) (fun _ _ _ _ h => h) (f37.noF rfl rfl) hS5 fun a38 f38 => ?_
            clear f37 a37
            refine R.takeSkip 9 f38 rfl rfl (by decide) (by kernel_rfl) (by kernel_rfl) (by kernel_rfl) (fun _ _ _ _ h => h) (f38.noF rfl rfl) hS5 fun a39 f39 => ?_
            clear f38 a38
            refine R.takeSkip 10 f39 rfl rfl (by decide) (by kernel_rfl) (by kernel_rfl) (by kernel_rfl) (fun _ _ _ _ h => h) (f39.noF rfl rfl) hS5 fun a40 f40 => ?_
            clear f39 a39
            refine R.takeSkip 11 f40 rfl rfl (by decide) (by kernel_rfl) (by kernel_rfl) (by kernel_rfl) (fun _ _ _ _ h => h) (f40.noF rfl rfl) hS5 fun a41 f41 => ?_
            clear f40 a40
            refine R.take 12 f41 rfl rfl (by decide) (by kernel_rfl) (by kernel_rfl) (by kernel_rfl) (fun _ _ _ _ h => h) wantedN hS5 (fun W hW => (E.pickT f41 rfl rfl)) fun a42 f42 => ?_
            clear f41 a41
            refine R.take 13 f42 rfl rfl (by decide) (by kernel_rfl) (by kernel_rfl) (by kernel_rfl) (fun _ _ _ _ h => h) wantedN hS5 (fun W hW => (E.move f42 rfl)) fun a43 f43 => ?_
            clear f42 a42
            refine R.take 14 f43 rfl rfl (by decide) (by kernel_rfl) (by kernel_rfl) (by kernel_rfl) (fun _ _ _ _ h => h) (f43.yes rfl rfl) hS5 (fun W hW => (E.move f43 rfl)) fun a44 f44 => ?_
            clear f43 a43
            refine R.take 15 f44 rfl rfl (by decide) (by kernel_rfl) (by kernel_rfl) (by kernel_rfl) (fun _ _ _ _ h => h) (f44.yes rfl rfl) hS5 (fun W hW => (E.slLlo f44 Tryd.underlying26 wsz9_tb rfl rfl (by omega) (by omega) )) fun a45 f45 => ?_
            clear f44 a44
            refine R.take 16 f45 rfl rfl (by decide) (by kernel_rfl) (by kernel_rfl) (by kernel_rfl) (fun _ _ _ _ h => h) (f45.yes rfl rfl) hS5 (fun W hW => (E.move f45 rfl)) fun a46 f46 => ?_
            clear f45 a45
            refine R.take 17 f46 rfl rfl (by decide) (by kernel_rfl) (by kernel_rfl) (by kernel_rfl) (fun _ _ _ _ h => h) (f46.yes rfl rfl) hS5 (fun W hW => (E.slLlo f46 Tryd.underlying26 wsz9_tb rfl rfl (by omega) (by omega) )) fun a47 f47 => ?_
            clear f46 a46
            replace f47 := f47.as (i := 42) (v' := .slice (tailA A c) (us.drop 1).length (c - 1)) rfl (by rw [List.length_drop]; rfl)
            replace f47 := f47.as (i := 44) (v' := .slice (tailA A' c') (vs.drop 1).length (c' - 1)) rfl (by rw [List.length_drop]; rfl)
            refine R.call 18 f47 rfl rfl (by decide) (by kernel_rfl) (f47.yes rfl rfl) (run_call Tryd.call31 (args2 f47 rfl rfl)) (ih (us.drop 1) (vs.drop 1) _ _ _ _ w1 (by rw [List.length_drop]; omega) ((A1.kept (HK.trans hS5 (by simp))).tail hc) ((A2.kept (HK.trans hS5 (by simp))).tail hc') (by rw [List.length_drop]; omega) (by rw [List.length_drop]; omega) (by rw [List.length_drop]; omega) (by rw [List.length_drop]; omega)) ?_
            rintro e w2 ⟨kc2, rfl⟩
            replace hS5 := hS5.trans kc2 (by simp)
            refine ⟨_, rfl, hS5, fun a48 f48 => ?_⟩
            clear f47 a47
            have szw2 := kc2.size
            clear kc2
            refine R.take 19 f48 rfl rfl (by decide) (by kernel_rfl) (by kernel_rfl) (by kernel_rfl) (fun _ _ _ _ h => h) wantedN hS5 (fun W hW => (E.pickT f48 rfl rfl)) fun a49 f49 => ?_
            clear f48 a48
            refine R.take 20 f49 rfl rfl (by decide) (by kernel_rfl) (by kernel_rfl) (by kernel_rfl) (fun _ _ _ _ h => h) wantedN hS5 (fun W hW => (E.assign f49 rfl)) fun a50 f50 => ?_
            clear f49 a49
            have szw2r := hS5.size
            replace HK := HK.trans hS5 (by simp)
            clear hS5
            refine R.done (by kernel_rfl) (hK8 _ _ ?_)
            try clear hK8 K8
            have f51 := f50.sub (sub_cons (i := 4) rfl sub_nil)
            clear f50
            refine wp_ret ?_
            try simp only [Exit.inBlock, Exit.then]
            refine C.ret (P := Tryd.prog) (fn := Tryd.f31) f51 rfl rfl ?_
            exact ⟨HK, by rw [goes_step hx hy h13]; simp [*]⟩
          · clear f33
            have h31 := h4
            refine R.take 5 f34 rfl rfl (by decide) (by kernel_rfl) (by kernel_rfl) (by kernel_rfl) (fun _ _ _ _ h => h) (f34.yes rfl rfl) hS5 (fun W hW => (E.move f34 rfl)) fun a35 f35 => ?_
            clear f34 a33
            refine R.take 6 f35 rfl rfl (by decide) (by kernel_rfl) (by kernel_rfl) (by kernel_rfl) (fun _ _ _ _ h => h) (f35.yes rfl rfl) hS5 (fun W hW => (E.indexA f35 (by first | rfl | assumption) Tryd.underlying26 wsz9_tb rfl rfl (by omega) (by omega))) fun a36 f36 => ?_
            clear f35 a35
            refine R.take 7 f36 rfl rfl (by decide) (by kernel_rfl) (by kernel_rfl) (by kernel_rfl) (fun _ _ _ _ h => h) (f36.yes rfl rfl) hS5 (fun W hW => (by first | exact E.load f36 Tryd.underlying9 rfl rfl (ss_cell0 (A1.kept (HK.trans hW (by simp))) hA hx) | exact E.load f36 Tryd.underlying9 rfl rfl (ss_cell0 (A2.kept (HK.trans hW (by simp))) hA' hy))) fun a37 f37 => ?_
            clear f36 a36
            refine R.take 8 f37 rfl rfl (by decide) (by kernel_rfl) (by kernel_rfl) (by kernel_rfl) (fun _ _ _ _ h => h) (f37.yes rfl rfl) hS5 (fun W hW => (E.move f37 rfl)) fun a38 f38 => ?_
            clear f37 a37
            refine R.take 9 f38 rfl rfl (by decide) (by kernel_rfl) (by kernel_rfl) (by kernel_rfl) (fun _ _ _ _ h => h) (f38.yes rfl rfl) hS5 (fun W hW => (E.indexA f38 (by first | rfl | assumption) Tryd.underlying26 wsz9_tb rfl rfl (by omega) (by omega))) fun a39 f39 => ?_
            clear f38 a38
            refine R.take 10 f39 rfl rfl (by decide) (by kernel_rfl) (by kernel_rfl) (by kernel_rfl) (fun _ _ _ _ h => h) (f39.yes rfl rfl) hS5 (fun W hW => (by first | exact E.load f39 Tryd.underlying9 rfl rfl (ss_cell0 (A1.kept (HK.trans hW (by simp))) hA hx) | exact E.load f39 Tryd.underlying9 rfl rfl (ss_cell0 (A2.kept (HK.trans hW (by simp))) hA' hy))) fun a40 f40 => ?_
            clear f39 a39
            refine R.take 11 f40 rfl rfl (by decide) (by kernel_rfl) (by kernel_rfl) (by kernel_rfl) (fun _ _ _ _ h => h) (f40.yes rfl rfl) hS5 (fun W hW => (E.eqlS f40 rfl rfl)) fun a41 f41 => ?_
            clear f40 a40
            refine R.take 12 f41 rfl rfl (by decide) (by kernel_rfl) (by kernel_rfl) (by kernel_rfl) (fun _ _ _ _ h => h) wantedN hS5 (fun W hW => (E.pickF f41 rfl rfl)) fun a42 f42 => ?_
            clear f41 a41
            refine R.take 13 f42 rfl rfl (by decide) (by kernel_rfl) (by kernel_rfl) (by kernel_rfl) (fun _ _ _ _ h => h) wantedN hS5 (fun W hW => (E.move f42 rfl)) fun a43 f43 => ?_
            clear f42 a42
            first | refine f43.splitD 40 rfl (fun h5 f44 => ?_) (fun h5 f44 => ?_) | refine f43.splitN 40 rfl (fun h5 f44 => ?_) (fun h5 f44 => ?_) | refine f43.splitNB 40 rfl (fun h5 f44 => ?_) (fun h5 f44 => ?_) | refine f43.split 40 rfl (fun h5 f44 => ?_) (fun h5 f44 => ?_)
            · clear f43
              have h40 := h5
              refine R.take 14 f44 rfl rfl (by decide) (by kernel_rfl) (by kernel_rfl) (by kernel_rfl) (fun _ _ _ _ h => h) (f44.yes rfl rfl) hS5 (fun W hW => (E.move f44 rfl)) fun a45 f45 => ?_
              clear f44 a43
              refine R.take 15 f45 rfl rfl (by decide) (by kernel_rfl) (by kernel_rfl) (by kernel_rfl) (fun _ _ _ _ h => h) (f45.yes rfl rfl) hS5 (fun W hW => (E.slLlo f45 Tryd.underlying26 wsz9_tb rfl rfl (by omega) (by omega) )) fun a46 f46 => ?_
              clear f45 a45
              refine R.take 16 f46 rfl rfl (by decide) (by kernel_rfl) (by kernel_rfl) (by kernel_rfl) (fun _ _ _ _ h => h) (f46.yes rfl rfl) hS5 (fun W hW => (E.move f46 rfl)) fun a47 f47 => ?_
              clear f46 a46
              refine R.take 17 f47 rfl rfl (by decide) (by kernel_rfl) (by kernel_rfl) (by kernel_rfl) (fun _ _ _ _ h => h) (f47.yes rfl rfl) hS5 (fun W hW => (E.slLlo f47 Tryd.underlying26 wsz9_tb rfl rfl (by omega) (by omega) )) fun a48 f48 => ?_
              clear f47 a47
              replace f48 := f48.as (i := 42) (v' := .slice (tailA A c) (us.drop 1).length (c - 1)) rfl (by rw [List.length_drop]; rfl)
              replace f48 := f48.as (i := 44) (v' := .slice (tailA A' c') (vs.drop 1).length (c' - 1)) rfl (by rw [List.length_drop]; rfl)
              refine R.call 18 f48 rfl rfl (by decide) (by kernel_rfl) (f48.yes rfl rfl) (run_call Tryd.call31 (args2 f48 rfl rfl)) (ih (us.drop 1) (vs.drop 1) _ _ _ _ w1 (by rw [List.length_drop]; omega) ((A1.kept (HK.trans hS5 (by simp))).tail hc) ((A2.kept (HK.trans hS5 (by simp))).tail hc') (by rw [List.length_drop]; omega) (by rw [List.length_drop]; omega) (by rw [List.length_drop]; omega) (by rw [List.length_drop]; omega)) ?_
              rintro e w2 ⟨kc2, rfl⟩
              replace hS5 := hS5.trans kc2 (by simp)
              refine ⟨_, rfl, hS5, fun a49 f49 => ?_⟩
              clear f48 a48
              have szw2 := kc2.size
              clear kc2
              refine R.take 19 f49 rfl rfl (by decide) (by kernel_rfl) (by kernel_rfl) (by kernel_rfl) (fun _ _ _ _ h => h) wantedN hS5 (fun W hW => (E.pickT f49 rfl rfl)) fun a50 f50 => ?_
              clear f49 a49
              refine R.take 20 f50 rfl rfl (by decide) (by kernel_rfl) (by kernel_rfl) (by kernel_rfl) (fun _ _ _ _ h => h) wantedN hS5 (fun W hW => (E.assign f50 rfl)) fun a51 f51 => ?_
              clear f50 a50
              have szw2r := hS5.size
              replace HK := HK.trans hS5 (by simp)
              clear hS5
              refine R.done (by kernel_rfl) (hK8 _ _ ?_)
              try clear hK8 K8
              have f52 := f51.sub (sub_cons (i := 4) rfl sub_nil)
              clear f51
              refine wp_ret ?_
              try simp only [Exit.inBlock, Exit.then]
              refine C.ret (P := Tryd.prog) (fn := Tryd.f31) f52 rfl rfl ?_
              exact ⟨HK, by rw [goes_step hx hy h13]; simp [*]⟩
            · clear f43
              have h40 := h5
              refine R.takeSkip 14 f44 rfl rfl (by decide) (by kernel_rfl) (by kernel_rfl) (by kernel_rfl) (fun _ _ _ _ h => h) (f44.noT rfl rfl) hS5 fun a45 f45 => ?_
              clear f44 a43
              refine R.takeSkip 15 f45 rfl rfl (by decide) (by kernel_rfl) (by kernel_rfl) (by kernel_rfl) (fun _ _ _ _ h => h) (f45.noT rfl rfl) hS5 fun a46 f46 => ?_
              clear f45 a45
              refine R.takeSkip 16 f46 rfl rfl (by decide) (by kernel_rfl) (by kernel_rfl) (by kernel_rfl) (fun _ _ _ _ h => h) (f46.noT rfl rfl) hS5 fun a47 f47 => ?_
              clear f46 a46
              refine R.takeSkip 17 f47 rfl rfl (by decide) (by kernel_rfl) (by kernel_rfl) (by kernel_rfl) (fun _ _ _ _ h => h) (f47.noT rfl rfl) hS5 fun a48 f48 => ?_
              clear f47 a47
              refine R.takeSkip 18 f48 rfl rfl (by decide) (by kernel_rfl) (by kernel_rfl) (by kernel_rfl) (fun _ _ _ _ h => h) (f48.noT rfl rfl) hS5 fun a49 f49 => ?_
              clear f48 a48
              refine R.take 19 f49 rfl rfl (by decide) (by kernel_rfl) (by kernel_rfl) (by kernel_rfl) (fun _ _ _ _ h => h) wantedN hS5 (fun W hW => (E.pickF f49 rfl rfl)) fun a50 f50 => ?_
              clear f49 a49
              refine R.take 20 f50 rfl rfl (by decide) (by kernel_rfl) (by kernel_rfl) (by kernel_rfl) (fun _ _ _ _ h => h) wantedN hS5 (fun W hW => (E.assign f50 rfl)) fun a51 f51 => ?_
              clear f50 a50
              have szw1r := hS5.size
              replace HK := HK.trans hS5 (by simp)
              clear hS5
              refine R.done (by kernel_rfl) (hK8 _ _ ?_)
              try clear hK8 K8
              have f52 := f51.sub (sub_cons (i := 4) rfl sub_nil)
              clear f51
              refine wp_ret ?_
              try simp only [Exit.inBlock, Exit.then]
              refine C.ret (P := Tryd.prog) (fn := Tryd.f31) f52 rfl rfl ?_
              exact ⟨HK, by rw [goes_step hx hy h13]; simp [*]⟩
  · clear f7
    have h8 := h0
    refine L.skip f8 (f8.noT rfl rfl) rfl (by decide) fun a9 f9 => ?_
    clear f8 a7
    refine L.skip f9 (f9.noT rfl rfl) rfl (by decide) fun a10 f10 => ?_
    clear f9 a9
    refine L.skip f10 (f10.noT rfl rfl) rfl (by decide) fun a11 f11 => ?_
    clear f10 a10
    refine L.skip f11 (f11.noT rfl rfl) rfl (by decide) fun a12 f12 => ?_
    clear f11 a11
    refine L.val f12 wantedN rfl (by decide) (E.pickF f12 rfl rfl) fun a13 f13 => ?_
    clear f12 a12
    refine wpList_nil (hK2 _ _ ?_)
    try clear hK2 K2
    have f14 := f13.sub (sub_cons (i := 0) rfl (sub_cons (i := 1) rfl (sub_cons (i := 4) rfl (sub_cons (i := 13) rfl sub_nil))))
    clear f13
    refine C.condF f14 rfl ?_
    refine wp_skip (hK1 _ _ ?_)
    try clear hK1 K1
    have f15 := f14.sub (sub_cons (i := 0) rfl (sub_cons (i := 1) rfl (sub_cons (i := 4) rfl sub_nil)))
    clear f14
    refine wp_seq_k fun K9 hK9 => ?_
    refine wp_seq_k fun K10 hK10 => ?_
    refine C.region ?_
    refine L.val f15 wantedN rfl (by decide) (E.move f15 rfl) fun a16 f16 => ?_
    clear f15 a13
    refine L.val f16 wantedN rfl (by decide) (E.lenL f16 Tryd.underlying26 rfl) fun a17 f17 => ?_
    clear f16 a16
    refine L.val f17 wantedN rfl (by decide) (E.eql f17 rfl rfl) fun a18 f18 => ?_
    clear f17 a17
    refine L.val f18 wantedN rfl (by decide) (E.move f18 rfl) fun a19 f19 => ?_
    clear f18 a18
    first | refine f19.splitD 17 rfl (fun h6 f20 => ?_) (fun h6 f20 => ?_) | refine f19.splitN 17 rfl (fun h6 f20 => ?_) (fun h6 f20 => ?_) | refine f19.splitNB 17 rfl (fun h6 f20 => ?_) (fun h6 f20 => ?_) | refine f19.split 17 rfl (fun h6 f20 => ?_) (fun h6 f20 => ?_)
    · clear f19
      have h17 := h6
      refine L.skip f20 (f20.noF rfl rfl) rfl (by decide) fun a21 f21 => ?_
      clear f20 a19
      refine L.skip f21 (f21.noF rfl rfl) rfl (by decide) fun a22 f22 => ?_
      clear f21 a21
      refine L.skip f22 (f22.noF rfl rfl) rfl (by decide) fun a23 f23 => ?_
      clear f22 a22
      refine L.val f23 wantedN rfl (by decide) (E.pickT f23 rfl rfl) fun a24 f24 => ?_
      clear f23 a23
      refine wpList_nil (hK10 _ _ ?_)
      try clear hK10 K10
      have f25 := f24.sub (sub_cons (i := 0) rfl (sub_cons (i := 1) rfl (sub_cons (i := 4) rfl (sub_cons (i := 21) rfl sub_nil))))
      clear f24
      refine C.condT f25 rfl ?_
      refine wp_seq_k fun K11 hK11 => ?_
      refine C.region ?_
      refine L.val f25 wantedN rfl (by decide) (E.move f25 rfl) fun a26 f26 => ?_
      clear f25 a24
      refine L.val f26 wantedN rfl (by decide) (E.lenL f26 Tryd.underlying26 rfl) fun a27 f27 => ?_
      clear f26 a26
      refine L.val f27 wantedN rfl (by decide) (E.move f27 rfl) fun a28 f28 => ?_
      clear f27 a27
      refine L.val f28 wantedN rfl (by decide) (E.lenL f28 Tryd.underlying26 rfl) fun a29 f29 => ?_
      clear f28 a28
      refine L.val f29 wantedN rfl (by decide) (E.eql f29 rfl rfl) fun a30 f30 => ?_
      clear f29 a29
      refine L.val f30 wantedN rfl (by decide) (E.assign f30 rfl) fun a31 f31 => ?_
      clear f30 a30
      refine wpList_nil (hK11 _ _ ?_)
      try clear hK11 K11
      have f32 := f31.sub (sub_cons (i := 0) rfl (sub_cons (i := 1) rfl (sub_cons (i := 4) rfl sub_nil)))
      clear f31
      refine wp_ret ?_
      try simp only [Exit.inBlock, Exit.then]
      refine C.ret (P := Tryd.prog) (fn := Tryd.f31) f32 rfl rfl ?_
      exact ⟨HK, by rw [goes_len0 (by omega)]⟩
    · clear f19
      exfalso
      omega

set_option maxHeartbeats 1000000 in
theorem inside_one (us vs : List ByteArray) (A A' : Option Addr) (c c' : Nat) (w : World) (A1 : Ss w A us) (A2 : Ss w A' vs) (hc : us.length ≤ c) (hc' : vs.length ≤ c') (hl : us.length ≤ 1000000) (hl' : vs.length ≤ 1000000) (ih : ∀ (us' vs' : List ByteArray) (A A' : Option Addr) (c c' : Nat) (w : World), us'.length < us.length → Ss w A us' → Ss w A' vs' → us'.length ≤ c → vs'.length ≤ c' → us'.length ≤ 1000000 → vs'.length ≤ 1000000 → Calls Tryd.prog 33 #[.slice A us'.length c, .slice A' vs'.length c'] w (fun e w' => Kept [] w w' ∧ e = .returned (.bool (withinB us' vs')))) : Calls Tryd.prog 33 #[.slice A us.length c, .slice A' vs.length c'] w (fun e w' => Kept [] w w' ∧ e = .returned (.bool (withinB us vs))) := by
  have HK : Kept [] w w := Kept.refl [] w
  refine C.enter Tryd.func33 rfl Tryd.ntmps33 rfl ?_
  intro a0 f0
  have f1 : Fr 51 a0 [(0, .slice A us.length c), (1, .slice A' vs.length c')] := f0
  clear f0
  refine wp_seq_k fun K0 hK0 => ?_
  refine C.region ?_
  refine L.val f1 wantedN rfl (by decide) (E.assign f1 rfl) fun a2 f2 => ?_
  clear f1 a0
  refine wpList_nil (hK0 _ _ ?_)
  try clear hK0 K0
  have f3 := f2.sub (sub_cons (i := 0) rfl (sub_cons (i := 1) rfl (sub_cons (i := 4) rfl sub_nil)))
  clear f2
  refine wp_seq_k fun K1 hK1 => ?_
  refine wp_seq_k fun K2 hK2 => ?_
  refine C.region ?_
  refine L.val f3 wantedN rfl (by decide) (E.move f3 rfl) fun a4 f4 => ?_
  clear f3 a2
  refine L.val f4 wantedN rfl (by decide) (E.lenL f4 Tryd.underlying26 rfl) fun a5 f5 => ?_
  clear f4 a4
  refine L.val f5 wantedN rfl (by decide) (E.gtr f5 rfl rfl) fun a6 f6 => ?_
  clear f5 a5
  refine L.val f6 wantedN rfl (by decide) (E.move f6 rfl) fun a7 f7 => ?_
  clear f6 a6
  first | refine f7.splitD 8 rfl (fun h0 f8 => ?_) (fun h0 f8 => ?_) | refine f7.splitN 8 rfl (fun h0 f8 => ?_) (fun h0 f8 => ?_) | refine f7.splitNB 8 rfl (fun h0 f8 => ?_) (fun h0 f8 => ?_) | refine f7.split 8 rfl (fun h0 f8 => ?_) (fun h0 f8 => ?_)
  · clear f7
    obtain ⟨y, hy⟩ : ∃ y, vs[0]? = some y := ⟨vs[0]'(by omega), List.getElem?_eq_getElem _⟩
    obtain ⟨b2, o2, hA'⟩ := A2.addr (k := 0) (by omega)
    refine L.val f8 (f8.yes rfl rfl) rfl (by decide) (E.move f8 rfl) fun a9 f9 => ?_
    clear f8 a7
    refine L.val f9 (f9.yes rfl rfl) rfl (by decide) (E.indexA f9 (by first | rfl | assumption) Tryd.underlying26 wsz9_tb rfl rfl (by omega) (by omega)) fun a10 f10 => ?_
    clear f9 a9
    refine L.val f10 (f10.yes rfl rfl) rfl (by decide) (by first | exact E.load f10 Tryd.underlying9 rfl rfl (ss_cell0 (A1.kept HK) hA hx) | exact E.load f10 Tryd.underlying9 rfl rfl (ss_cell0 (A2.kept HK) hA' hy)) fun a11 f11 => ?_
    clear f10 a10
    refine L.val f11 (f11.yes rfl rfl) rfl (by decide) (E.eqlS f11 rfl rfl) fun a12 f12 => ?_
    clear f11 a11
    refine L.val f12 wantedN rfl (by decide) (E.pickT f12 rfl rfl) fun a13 f13 => ?_
    clear f12 a12
    refine wpList_nil (hK2 _ _ ?_)
    try clear hK2 K2
    have f14 := f13.sub (sub_cons (i := 0) rfl (sub_cons (i := 1) rfl (sub_cons (i := 4) rfl (sub_cons (i := 13) rfl sub_nil))))
    clear f13
    first | refine f14.splitD 13 rfl (fun h1 f15 => ?_) (fun h1 f15 => ?_) | refine f14.splitN 13 rfl (fun h1 f15 => ?_) (fun h1 f15 => ?_) | refine f14.splitNB 13 rfl (fun h1 f15 => ?_) (fun h1 f15 => ?_) | refine f14.split 13 rfl (fun h1 f15 => ?_) (fun h1 f15 => ?_)
    · clear f14
      have h13 := h1
      refine C.condT f15 rfl ?_
      refine wp_seq_k fun K3 hK3 => ?_
      refine C.region ?_
      refine L.val f15 wantedN rfl (by decide) (E.assign f15 rfl) fun a16 f16 => ?_
      clear f15 a13
      refine wpList_nil (hK3 _ _ ?_)
      try clear hK3 K3
      have f17 := f16.sub (sub_cons (i := 0) rfl (sub_cons (i := 1) rfl (sub_cons (i := 4) rfl sub_nil)))
      clear f16
      refine wp_ret ?_
      try simp only [Exit.inBlock, Exit.then]
      refine C.ret (P := Tryd.prog) (fn := Tryd.f33) f17 rfl rfl ?_
      exact ⟨HK, by rw [within_hash hy (by simpa using h13)]⟩
    · clear f14
      have h13 := h1
      refine C.condF f15 rfl ?_
      refine wp_skip (hK1 _ _ ?_)
      try clear hK1 K1
      have f16 := f15.sub (sub_cons (i := 0) rfl (sub_cons (i := 1) rfl (sub_cons (i := 4) rfl sub_nil)))
      clear f15
      refine wp_seq_k fun K4 hK4 => ?_
      refine wp_seq_k fun K5 hK5 => ?_
      refine C.region ?_
      refine L.val f16 wantedN rfl (by decide) (E.move f16 rfl) fun a17 f17 => ?_
      clear f16 a13
      refine L.val f17 wantedN rfl (by decide) (E.lenL f17 Tryd.underlying26 rfl) fun a18 f18 => ?_
      clear f17 a17
      refine L.val f18 wantedN rfl (by decide) (E.eql f18 rfl rfl) fun a19 f19 => ?_
      clear f18 a18
      refine L.val f19 wantedN rfl (by decide) (E.move f19 rfl) fun a20 f20 => ?_
      clear f19 a19
      first | refine f20.splitD 17 rfl (fun h2 f21 => ?_) (fun h2 f21 => ?_) | refine f20.splitN 17 rfl (fun h2 f21 => ?_) (fun h2 f21 => ?_) | refine f20.splitNB 17 rfl (fun h2 f21 => ?_) (fun h2 f21 => ?_) | refine f20.split 17 rfl (fun h2 f21 => ?_) (fun h2 f21 => ?_)
      · clear f20
        have h17 := h2
        refine L.skip f21 (f21.noF rfl rfl) rfl (by decide) fun a22 f22 => ?_
        clear f21 a20
        refine L.skip f22 (f22.noF rfl rfl) rfl (by decide) fun a23 f23 => ?_
        clear f22 a22
        refine L.skip f23 (f23.noF rfl rfl) rfl (by decide) fun a24 f24 => ?_
        clear f23 a23
        refine L.val f24 wantedN rfl (by decide) (E.pickT f24 rfl rfl) fun a25 f25 => ?_
        clear f24 a24
        refine wpList_nil (hK5 _ _ ?_)
        try clear hK5 K5
        have f26 := f25.sub (sub_cons (i := 0) rfl (sub_cons (i := 1) rfl (sub_cons (i := 4) rfl (sub_cons (i := 21) rfl sub_nil))))
        clear f25
        refine C.condT f26 rfl ?_
        refine wp_seq_k fun K6 hK6 => ?_
        refine C.region ?_
        refine L.val f26 wantedN rfl (by decide) (E.move f26 rfl) fun a27 f27 => ?_
        clear f26 a25
        refine L.val f27 wantedN rfl (by decide) (E.lenL f27 Tryd.underlying26 rfl) fun a28 f28 => ?_
        clear f27 a27
        refine L.val f28 wantedN rfl (by decide) (E.move f28 rfl) fun a29 f29 => ?_
        clear f28 a28
        refine L.val f29 wantedN rfl (by decide) (E.lenL f29 Tryd.underlying26 rfl) fun a30 f30 => ?_
        clear f29 a29
        refine L.val f30 wantedN rfl (by decide) (E.eql f30 rfl rfl) fun a31 f31 => ?_
        clear f30 a30
        refine L.val f31 wantedN rfl (by decide) (E.assign f31 rfl) fun a32 f32 => ?_
        clear f31 a31
        refine wpList_nil (hK6 _ _ ?_)
        try clear hK6 K6
        have f33 := f32.sub (sub_cons (i := 0) rfl (sub_cons (i := 1) rfl (sub_cons (i := 4) rfl sub_nil)))
        clear f32
        refine wp_ret ?_
        try simp only [Exit.inBlock, Exit.then]
        refine C.ret (P := Tryd.prog) (fn := Tryd.f33) f33 rfl rfl ?_
        exact ⟨HK, by rw [within_len hy h13 (by omega)]⟩
      · clear f20
        have h17 := h2
        refine L.val f21 (f21.yes rfl rfl) rfl (by decide) (E.move f21 rfl) fun a22 f22 => ?_
        clear f21 a20
        refine L.val f22 (f22.yes rfl rfl) rfl (by decide) (E.lenL f22 Tryd.underlying26 rfl) fun a23 f23 => ?_
        clear f22 a22
        refine L.val f23 (f23.yes rfl rfl) rfl (by decide) (E.eql f23 rfl rfl) fun a24 f24 => ?_
        clear f23 a23
        refine L.val f24 wantedN rfl (by decide) (E.pickF f24 rfl rfl) fun a25 f25 => ?_
        clear f24 a24
        refine wpList_nil (hK5 _ _ ?_)
        try clear hK5 K5
        have f26 := f25.sub (sub_cons (i := 0) rfl (sub_cons (i := 1) rfl (sub_cons (i := 4) rfl (sub_cons (i := 21) rfl sub_nil))))
        clear f25
        first | refine f26.splitD 21 rfl (fun h3 f27 => ?_) (fun h3 f27 => ?_) | refine f26.splitN 21 rfl (fun h3 f27 => ?_) (fun h3 f27 => ?_) | refine f26.splitNB 21 rfl (fun h3 f27 => ?_) (fun h3 f27 => ?_) | refine f26.split 21 rfl (fun h3 f27 => ?_) (fun h3 f27 => ?_)
        · clear f26
          have h21 := h3
          refine C.condT f27 rfl ?_
          refine wp_seq_k fun K7 hK7 => ?_
          refine C.region ?_
          refine L.val f27 wantedN rfl (by decide) (E.move f27 rfl) fun a28 f28 => ?_
          clear f27 a25
          refine L.val f28 wantedN rfl (by decide) (E.lenL f28 Tryd.underlying26 rfl) fun a29 f29 => ?_
          clear f28 a28
          refine L.val f29 wantedN rfl (by decide) (E.move f29 rfl) fun a30 f30 => ?_
          clear f29 a29
          refine L.val f30 wantedN rfl (by decide) (E.lenL f30 Tryd.underlying26 rfl) fun a31 f31 => ?_
          clear f30 a30
          refine L.val f31 wantedN rfl (by decide) (E.eql f31 rfl rfl) fun a32 f32 => ?_
          clear f31 a31
          refine L.val f32 wantedN rfl (by decide) (E.assign f32 rfl) fun a33 f33 => ?_
          clear f32 a32
          refine wpList_nil (hK7 _ _ ?_)
          try clear hK7 K7
          have f34 := f33.sub (sub_cons (i := 0) rfl (sub_cons (i := 1) rfl (sub_cons (i := 4) rfl sub_nil)))
          clear f33
          refine wp_ret ?_
          try simp only [Exit.inBlock, Exit.then]
          refine C.ret (P := Tryd.prog) (fn := Tryd.f33) f34 rfl rfl ?_
          exact ⟨HK, by rw [within_len hy h13 (by omega)]⟩
        · clear f26
          have h21 := h3
          obtain ⟨x, hx⟩ : ∃ x, us[0]? = some x := ⟨us[0]'(by omega), List.getElem?_eq_getElem _⟩
          obtain ⟨b1, o1, hA⟩ := A1.addr (k := 0) (by omega)
          refine C.condF f27 rfl ?_
          refine wp_skip (hK4 _ _ ?_)
          try clear hK4 K4
          have f28 := f27.sub (sub_cons (i := 0) rfl (sub_cons (i := 1) rfl (sub_cons (i := 4) rfl sub_nil)))
          clear f27
          refine wp_seq_k fun K8 hK8 => ?_
          refine wp_seq_k fun K9 hK9 => ?_
          refine R.begin (S := fun W => Kept [] w W) (by kernel_rfl) (by exact (Kept.refl _ _).drewN 1) ?_
          have hS5 : Kept [] w (w.drewN 1) := (Kept.refl _ _).drewN 1
          have hd5 : Kept [] w (w.drewN 1) := (Kept.refl _ _).drewN 1
          obtain ⟨w1, hww1⟩ : ∃ W, W = w.drewN 1 := ⟨_, rfl⟩
          rw [← hww1] at hS5 hd5 ⊢
          clear hww1
          have szw1 := hS5.size
          refine R.take 0 f28 rfl rfl (by decide) (by kernel_rfl) (by kernel_rfl) (by kernel_rfl) (fun _ _ _ _ h => h) wantedN hS5 (fun W hW => (E.move f28 rfl)) fun a29 f29 => ?_
          clear f28 a25
          refine R.take 1 f29 rfl rfl (by decide) (by kernel_rfl) (by kernel_rfl) (by kernel_rfl) (fun _ _ _ _ h => h) wantedN hS5 (fun W hW => (E.indexA f29 (by first | rfl | assumption) Tryd.underlying26 wsz9_tb rfl rfl (by omega) (by omega))) fun a30 f30 => ?_
          clear f29 a29
          refine R.take 2 f30 rfl rfl (by decide) (by kernel_rfl) (by kernel_rfl) (by kernel_rfl) (fun _ _ _ _ h => h) wantedN hS5 (fun W hW => (by first | exact E.load f30 Tryd.underlying9 rfl rfl (ss_cell0 (A1.kept (HK.trans hW (by simp))) hA hx) | exact E.load f30 Tryd.underlying9 rfl rfl (ss_cell0 (A2.kept (HK.trans hW (by simp))) hA' hy))) fun a31 f31 => ?_
          clear f30 a30
          refine R.take 3 f31 rfl rfl (by decide) (by kernel_rfl) (by kernel_rfl) (by kernel_rfl) (fun _ _ _ _ h => h) wantedN hS5 (fun W hW => (E.eqlS f31 rfl rfl)) fun a32 f32 => ?_
          clear f31 a31
          refine R.take 4 f32 rfl rfl (by decide) (by kernel_rfl) (by kernel_rfl) (by kernel_rfl) (fun _ _ _ _ h => h) wantedN hS5 (fun W hW => (E.move f32 rfl)) fun a33 f33 => ?_
          clear f32 a32
          first | refine f33.splitD 31 rfl (fun h4 f34 => ?_) (fun h4 f34 => ?_) | refine f33.splitN 31 rfl (fun h4 f34 => ?_) (fun h4 f34 => ?_) | refine f33.splitNB 31 rfl (fun h4 f34 => ?_) (fun h4 f34 => ?_) | refine f33.split 31 rfl (fun h4 f34 => ?_) (fun h4 f34 => ?_)
          · clear f33
            have h31 := h4
            refine R.takeSkip 5 f34 rfl rfl (by decide) (by kernel_rfl) (by kernel_rfl) (by kernel_rfl) (fun _ _ _ _ h => h) (f34.noF rfl rfl) hS5 fun a35 f35 => ?_
            clear f34 a33
            refine R.takeSkip 6 f35 rfl rfl (by decide) (by kernel_rfl) (by kernel_rfl) (by kernel_rfl) (fun _ _ _ _ h => h) (f35.noF rfl rfl) hS5 fun a36 f36 => ?_
            clear f35 a35
            refine R.takeSkip 7 f36 rfl rfl (by decide) (by kernel_rfl) (by kernel_rfl) (by kernel_rfl) (fun _ _ _ _ h => h) (f36.noF rfl rfl) hS5 fun a37 f37 => ?_
            clear f36 a36
            refine R.takeSkip 8 f37 rfl rfl (by decide) (by kernel_rfl) (by kernel_rfl) (by kernel_rfl) (fun _ _ _ _ h => h) (f37.noF rfl rfl) hS5 fun a38 f38 => ?_
            clear f37 a37
            refine R.takeSkip 9 f38 rfl rfl (by decide) (by kernel_rfl) (by kernel_rfl) (by kernel_rfl) (fun _ _ _ _ h => h) (f38.noF rfl rfl) hS5 fun a39 f39 => ?_
            clear f38 a38
            refine R.takeSkip 10 f39 rfl rfl (by decide) (by kernel_rfl) (by kernel_rfl) (by kernel_rfl) (fun _ _ _ _ h => h) (f39.noU rfl rfl) hS5 fun a40 f40 => ?_
            clear f39 a39
            refine R.takeSkip 11 f40 rfl rfl (by decide) (by kernel_rfl) (by kernel_rfl) (by kernel_rfl) (fun _ _ _ _ h => h) (f40.noU rfl rfl) hS5 fun a41 f41 => ?_
            clear f40 a40
            refine R.takeSkip 12 f41 rfl rfl (by decide) (by kernel_rfl) (by kernel_rfl) (by kernel_rfl) (fun _ _ _ _ h => h) (f41.noU rfl rfl) hS5 fun a42 f42 => ?_
            clear f41 a41
            refine R.takeSkip 13 f42 rfl rfl (by decide) (by kernel_rfl) (by kernel_rfl) (by kernel_rfl) (fun _ _ _ _ h => h) (f42.noU rfl rfl) hS5 fun a43 f43 => ?_
            clear f42 a42
            refine R.takeSkip 14 f43 rfl rfl (by decide) (by kernel_rfl) (by kernel_rfl) (by kernel_rfl) (fun _ _ _ _ h => h) (f43.noU rfl rfl) hS5 fun a44 f44 => ?_
            clear f43 a43
            refine R.takeSkip 15 f44 rfl rfl (by decide) (by kernel_rfl) (by kernel_rfl) (by kernel_rfl) (fun _ _ _ _ h => h) (f44.noU rfl rfl) hS5 fun a45 f45 => ?_
            clear f44 a44
            refine R.takeSkip 16 f45 rfl rfl (by decide) (by kernel_rfl) (by kernel_rfl) (by kernel_rfl) (fun _ _ _ _ h => h) (f45.noU rfl rfl) hS5 fun a46 f46 => ?_
            clear f45 a45
            refine R.takeSkip 17 f46 rfl rfl (by decide) (by kernel_rfl) (by kernel_rfl) (by kernel_rfl) (fun _ _ _ _ h => h) (f46.noF rfl rfl) hS5 fun a47 f47 => ?_
            clear f46 a46
            refine R.take 18 f47 rfl rfl (by decide) (by kernel_rfl) (by kernel_rfl) (by kernel_rfl) (fun _ _ _ _ h => h) wantedN hS5 (fun W hW => (E.pickT f47 rfl rfl)) fun a48 f48 => ?_
            clear f47 a47
            have szw1r := hS5.size
            replace HK := HK.trans hS5 (by simp)
            clear hS5
            refine R.done (by kernel_rfl) (hK9 _ _ ?_)
            try clear hK9 K9
            have f49 := f48.sub (sub_cons (i := 0) rfl (sub_cons (i := 1) rfl (sub_cons (i := 4) rfl (sub_cons (i := 45) rfl sub_nil))))
            clear f48
            refine C.condT f49 rfl ?_
            refine wp_seq_k fun K10 hK10 => ?_
            refine C.region ?_
            refine L.val f49 wantedN rfl (by decide) (E.assign f49 rfl) fun a50 f50 => ?_
            clear f49 a48
            refine wpList_nil (hK10 _ _ ?_)
            try clear hK10 K10
            have f51 := f50.sub (sub_cons (i := 0) rfl (sub_cons (i := 1) rfl (sub_cons (i := 4) rfl sub_nil)))
            clear f50
            refine wp_ret ?_
            try simp only [Exit.inBlock, Exit.then]
            refine C.ret (P := Tryd.prog) (fn := Tryd.f33) f51 rfl rfl ?_
            exact ⟨HK, by rw [within_step hx hy h13]; simp [*]⟩
          · clear f33
            have h31 := h4
            refine R.take 5 f34 rfl rfl (by decide) (by kernel_rfl) (by kernel_rfl) (by kernel_rfl) (fun _ _ _ _ h => h) (f34.yes rfl rfl) hS5 (fun W hW => (E.move f34 rfl)) fun a35 f35 => ?_
            clear f34 a33
            refine R.take 6 f35 rfl rfl (by decide) (by kernel_rfl) (by kernel_rfl) (by kernel_rfl) (fun _ _ _ _ h => h) (f35.yes rfl rfl) hS5 (fun W hW => (E.indexA f35 (by first | rfl | assumption) Tryd.underlying26 wsz9_tb rfl rfl (by omega) (by omega))) fun a36 f36 => ?_
            clear f35 a35
            refine R.take 7 f36 rfl rfl (by decide) (by kernel_rfl) (by kernel_rfl) (by kernel_rfl) (fun _ _ _ _ h => h) (f36.yes rfl rfl) hS5 (fun W hW => (by first | exact E.load f36 Tryd.underlying9 rfl rfl (ss_cell0 (A1.kept (HK.trans hW (by simp))) hA hx) | exact E.load f36 Tryd.underlying9 rfl rfl (ss_cell0 (A2.kept (HK.trans hW (by simp))) hA' hy))) fun a37 f37 => ?_
            clear f36 a36
            refine R.take 8 f37 rfl rfl (by decide) (by kernel_rfl) (by kernel_rfl) (by kernel_rfl) (fun _ _ _ _ h => h) (f37.yes rfl rfl) hS5 (fun W hW => (E.neqS f37 rfl rfl)) fun a38 f38 => ?_
            clear f37 a37
            refine R.take 9 f38 rfl rfl (by decide) (by kernel_rfl) (by kernel_rfl) (by kernel_rfl) (fun _ _ _ _ h => h) (f38.yes rfl rfl) hS5 (fun W hW => (E.move f38 rfl)) fun a39 f39 => ?_
            clear f38 a38
            first | refine f39.splitD 36 rfl (fun h5 f40 => ?_) (fun h5 f40 => ?_) | refine f39.splitN 36 rfl (fun h5 f40 => ?_) (fun h5 f40 => ?_) | refine f39.splitNB 36 rfl (fun h5 f40 => ?_) (fun h5 f40 => ?_) | refine f39.split 36 rfl (fun h5 f40 => ?_) (fun h5 f40 => ?_)
            · clear f39
              have h36 := h5
              refine R.take 10 f40 rfl rfl (by decide) (by kernel_rfl) (by kernel_rfl) (by kernel_rfl) (fun _ _ _ _ h => h) (f40.yes rfl rfl) hS5 (fun W hW => (E.move f40 rfl)) fun a41 f41 => ?_
              clear f40 a39
              refine R.take 11 f41 rfl rfl (by decide) (by kernel_rfl) (by kernel_rfl) (by kernel_rfl) (fun _ _ _ _ h => h) (f41.yes rfl rfl) hS5 (fun W hW => (E.indexA f41 (by first | rfl | assumption) Tryd.underlying26 wsz9_tb rfl rfl (by omega) (by omega))) fun a42 f42 => ?_
              clear f41 a41
              refine R.take 12 f42 rfl rfl (by decide) (by kernel_rfl) (by kernel_rfl) (by kernel_rfl) (fun _ _ _ _ h => h) (f42.yes rfl rfl) hS5 (fun W hW => (by first | exact E.load f42 Tryd.underlying9 rfl rfl (ss_cell0 (A1.kept (HK.trans hW (by simp))) hA hx) | exact E.load f42 Tryd.underlying9 rfl rfl (ss_cell0 (A2.kept (HK.trans hW (by simp))) hA' hy))) fun a43 f43 => ?_
              clear f42 a42
              refine R.take 13 f43 rfl rfl (by decide) (by kernel_rfl) (by kernel_rfl) (by kernel_rfl) (fun _ _ _ _ h => h) (f43.yes rfl rfl) hS5 (fun W hW => (E.move f43 rfl)) fun a44 f44 => ?_
              clear f43 a43
              refine R.take 14 f44 rfl rfl (by decide) (by kernel_rfl) (by kernel_rfl) (by kernel_rfl) (fun _ _ _ _ h => h) (f44.yes rfl rfl) hS5 (fun W hW => (E.indexA f44 (by first | rfl | assumption) Tryd.underlying26 wsz9_tb rfl rfl (by omega) (by omega))) fun a45 f45 => ?_
              clear f44 a44
              refine R.take 15 f45 rfl rfl (by decide) (by kernel_rfl) (by kernel_rfl) (by kernel_rfl) (fun _ _ _ _ h => h) (f45.yes rfl rfl) hS5 (fun W hW => (by first | exact E.load f45 Tryd.underlying9 rfl rfl (ss_cell0 (A1.kept (HK.trans hW (by simp))) hA hx) | exact E.load f45 Tryd.underlying9 rfl rfl (ss_cell0 (A2.kept (HK.trans hW (by simp))) hA' hy))) fun a46 f46 => ?_
              clear f45 a45
              refine R.take 16 f46 rfl rfl (by decide) (by kernel_rfl) (by kernel_rfl) (by kernel_rfl) (fun _ _ _ _ h => h) (f46.yes rfl rfl) hS5 (fun W hW => (E.neqS f46 rfl rfl)) fun a47 f47 => ?_
              clear f46 a46
              refine R.take 17 f47 rfl rfl (by decide) (by kernel_rfl) (by kernel_rfl) (by kernel_rfl) (fun _ _ _ _ h => h) (f47.yes rfl rfl) hS5 (fun W hW => (E.pickT f47 rfl rfl)) fun a48 f48 => ?_
              clear f47 a47
              refine R.take 18 f48 rfl rfl (by decide) (by kernel_rfl) (by kernel_rfl) (by kernel_rfl) (fun _ _ _ _ h => h) wantedN hS5 (fun W hW => (E.pickF f48 rfl rfl)) fun a49 f49 => ?_
              clear f48 a48
              have szw1r := hS5.size
              replace HK := HK.trans hS5 (by simp)
              clear hS5
              refine R.done (by kernel_rfl) (hK9 _ _ ?_)
              try clear hK9 K9
              have f50 := f49.sub (sub_cons (i := 0) rfl (sub_cons (i := 1) rfl (sub_cons (i := 4) rfl (sub_cons (i := 45) rfl sub_nil))))
              clear f49
              first | refine f50.splitD 45 rfl (fun h6 f51 => ?_) (fun h6 f51 => ?_) | refine f50.splitN 45 rfl (fun h6 f51 => ?_) (fun h6 f51 => ?_) | refine f50.splitNB 45 rfl (fun h6 f51 => ?_) (fun h6 f51 => ?_) | refine f50.split 45 rfl (fun h6 f51 => ?_) (fun h6 f51 => ?_)
              · clear f50
                have h45 := h6
                refine C.condT f51 rfl ?_
                refine wp_seq_k fun K11 hK11 => ?_
                refine C.region ?_
                refine L.val f51 wantedN rfl (by decide) (E.assign f51 rfl) fun a52 f52 => ?_
                clear f51 a49
                refine wpList_nil (hK11 _ _ ?_)
                try clear hK11 K11
                have f53 := f52.sub (sub_cons (i := 0) rfl (sub_cons (i := 1) rfl (sub_cons (i := 4) rfl sub_nil)))
                clear f52
                refine wp_ret ?_
                try simp only [Exit.inBlock, Exit.then]
                refine C.ret (P := Tryd.prog) (fn := Tryd.f33) f53 rfl rfl ?_
                exact ⟨HK, by rw [within_step hx hy h13]; simp [*]⟩
              · clear f50
                have h45 := h6
                refine C.condF f51 rfl ?_
                refine wp_skip (hK8 _ _ ?_)
                try clear hK8 K8
                have f52 := f51.sub (sub_cons (i := 0) rfl (sub_cons (i := 1) rfl (sub_cons (i := 4) rfl sub_nil)))
                clear f51
                refine wp_seq_k fun K12 hK12 => ?_
                refine R.begin (S := fun W => Kept [] w1 W) (by kernel_rfl) (by exact (Kept.refl _ _).drewN 1) ?_
                have hS7 : Kept [] w1 (w1.drewN 1) := (Kept.refl _ _).drewN 1
                have hd7 : Kept [] w1 (w1.drewN 1) := (Kept.refl _ _).drewN 1
                obtain ⟨w2, hww2⟩ : ∃ W, W = w1.drewN 1 := ⟨_, rfl⟩
                rw [← hww2] at hS7 hd7 ⊢
                clear hww2
                have szw2 := hS7.size
                refine R.take 0 f52 rfl rfl (by decide) (by kernel_rfl) (by kernel_rfl) (by kernel_rfl) (fun _ _ _ _ h => h) wantedN hS7 (fun W hW => (E.move f52 rfl)) fun a53 f53 => ?_
                clear f52 a49
                refine R.take 1 f53 rfl rfl (by decide) (by kernel_rfl) (by kernel_rfl) (by kernel_rfl) (fun _ _ _ _ h => h) wantedN hS7 (fun W hW => (E.slLlo f53 Tryd.underlying26 wsz9_tb rfl rfl (by omega) (by omega) )) fun a54 f54 => ?_
                clear f53 a53
                refine R.take 2 f54 rfl rfl (by decide) (by kernel_rfl) (by kernel_rfl) (by kernel_rfl) (fun _ _ _ _ h => h) wantedN hS7 (fun W hW => (E.move f54 rfl)) fun a55 f55 => ?_
                clear f54 a54
                refine R.take 3 f55 rfl rfl (by decide) (by kernel_rfl) (by kernel_rfl) (by kernel_rfl) (fun _ _ _ _ h => h) wantedN hS7 (fun W hW => (E.slLlo f55 Tryd.underlying26 wsz9_tb rfl rfl (by omega) (by omega) )) fun a56 f56 => ?_
                clear f55 a55
                replace f56 := f56.as (i := 47) (v' := .slice (tailA A c) (us.drop 1).length (c - 1)) rfl (by rw [List.length_drop]; rfl)
                replace f56 := f56.as (i := 49) (v' := .slice (tailA A' c') (vs.drop 1).length (c' - 1)) rfl (by rw [List.length_drop]; rfl)
                refine R.call 4 f56 rfl rfl (by decide) (by kernel_rfl) wantedN (run_call Tryd.call33 (args2 f56 rfl rfl)) (ih (us.drop 1) (vs.drop 1) _ _ _ _ w2 (by rw [List.length_drop]; omega) ((A1.kept (HK.trans hS7 (by simp))).tail hc) ((A2.kept (HK.trans hS7 (by simp))).tail hc') (by rw [List.length_drop]; omega) (by rw [List.length_drop]; omega) (by rw [List.length_drop]; omega) (by rw [List.length_drop]; omega)) ?_
                rintro e w3 ⟨kc3, rfl⟩
                replace hS7 := hS7.trans kc3 (by simp)
                refine ⟨_, rfl, hS7, fun a57 f57 => ?_⟩
                clear f56 a56
                have szw3 := kc3.size
                clear kc3
                refine R.take 5 f57 rfl rfl (by decide) (by kernel_rfl) (by kernel_rfl) (by kernel_rfl) (fun _ _ _ _ h => h) wantedN hS7 (fun W hW => (E.assign f57 rfl)) fun a58 f58 => ?_
                clear f57 a57
                have szw3r := hS7.size
                replace HK := HK.trans hS7 (by simp)
                clear hS7
                refine R.done (by kernel_rfl) (hK12 _ _ ?_)
                try clear hK12 K12
                have f59 := f58.sub (sub_cons (i := 4) rfl sub_nil)
                clear f58
                refine wp_ret ?_
                try simp only [Exit.inBlock, Exit.then]
                refine C.ret (P := Tryd.prog) (fn := Tryd.f33) f59 rfl rfl ?_
                exact ⟨HK, by rw [within_step hx hy h13]; simp [*]⟩
            · clear f39
              have h36 := h5
              refine R.takeSkip 10 f40 rfl rfl (by decide) (by kernel_rfl) (by kernel_rfl) (by kernel_rfl) (fun _ _ _ _ h => h) (f40.noT rfl rfl) hS5 fun a41 f41 => ?_
              clear f40 a39
              refine R.takeSkip 11 f41 rfl rfl (by decide) (by kernel_rfl) (by kernel_rfl) (by kernel_rfl) (fun _ _ _ _ h => h) (f41.noT rfl rfl) hS5 fun a42 f42 => ?_
              clear f41 a41
              refine R.takeSkip 12 f42 rfl rfl (by decide) (by kernel_rfl) (by kernel_rfl) (by kernel_rfl) (fun _ _ _ _ h => h) (f42.noT rfl rfl) hS5 fun a43 f43 => ?_
              clear f42 a42
              refine R.takeSkip 13 f43 rfl rfl (by decide) (by kernel_rfl) (by kernel_rfl) (by kernel_rfl) (fun _ _ _ _ h => h) (f43.noT rfl rfl) hS5 fun a44 f44 => ?_
              clear f43 a43
              refine R.takeSkip 14 f44 rfl rfl (by decide) (by kernel_rfl) (by kernel_rfl) (by kernel_rfl) (fun _ _ _ _ h => h) (f44.noT rfl rfl) hS5 fun a45 f45 => ?_
              clear f44 a44
              refine R.takeSkip 15 f45 rfl rfl (by decide) (by kernel_rfl) (by kernel_rfl) (by kernel_rfl) (fun _ _ _ _ h => h) (f45.noT rfl rfl) hS5 fun a46 f46 => ?_
              clear f45 a45
              refine R.takeSkip 16 f46 rfl rfl (by decide) (by kernel_rfl) (by kernel_rfl) (by kernel_rfl) (fun _ _ _ _ h => h) (f46.noT rfl rfl) hS5 fun a47 f47 => ?_
              clear f46 a46
              refine R.take 17 f47 rfl rfl (by decide) (by kernel_rfl) (by kernel_rfl) (by kernel_rfl) (fun _ _ _ _ h => h) (f47.yes rfl rfl) hS5 (fun W hW => (E.pickF f47 rfl rfl)) fun a48 f48 => ?_
              clear f47 a47
              refine R.take 18 f48 rfl rfl (by decide) (by kernel_rfl) (by kernel_rfl) (by kernel_rfl) (fun _ _ _ _ h => h) wantedN hS5 (fun W hW => (E.pickF f48 rfl rfl)) fun a49 f49 => ?_
              clear f48 a48
              have szw1r := hS5.size
              replace HK := HK.trans hS5 (by simp)
              clear hS5
              refine R.done (by kernel_rfl) (hK9 _ _ ?_)
              try clear hK9 K9
              have f50 := f49.sub (sub_cons (i := 0) rfl (sub_cons (i := 1) rfl (sub_cons (i := 4) rfl (sub_cons (i := 45) rfl sub_nil))))
              clear f49
              refine C.condF f50 rfl ?_
              refine wp_skip (hK8 _ _ ?_)
              try clear hK8 K8
              have f51 := f50.sub (sub_cons (i := 0) rfl (sub_cons (i := 1) rfl (sub_cons (i := 4) rfl sub_nil)))
              clear f50
              refine wp_seq_k fun K13 hK13 => ?_
              refine R.begin (S := fun W => Kept [] w1 W) (by kernel_rfl) (by exact (Kept.refl _ _).drewN 1) ?_
              have hS7 : Kept [] w1 (w1.drewN 1) := (Kept.refl _ _).drewN 1
              have hd7 : Kept [] w1 (w1.drewN 1) := (Kept.refl _ _).drewN 1
              obtain ⟨w2, hww2⟩ : ∃ W, W = w1.drewN 1 := ⟨_, rfl⟩
              rw [← hww2] at hS7 hd7 ⊢
              clear hww2
              have szw2 := hS7.size
              refine R.take 0 f51 rfl rfl (by decide) (by kernel_rfl) (by kernel_rfl) (by kernel_rfl) (fun _ _ _ _ h => h) wantedN hS7 (fun W hW => (E.move f51 rfl)) fun a52 f52 => ?_
              clear f51 a49
              refine R.take 1 f52 rfl rfl (by decide) (by kernel_rfl) (by kernel_rfl) (by kernel_rfl) (fun _ _ _ _ h => h) wantedN hS7 (fun W hW => (E.slLlo f52 Tryd.underlying26 wsz9_tb rfl rfl (by omega) (by omega) )) fun a53 f53 => ?_
              clear f52 a52
              refine R.take 2 f53 rfl rfl (by decide) (by kernel_rfl) (by kernel_rfl) (by kernel_rfl) (fun _ _ _ _ h => h) wantedN hS7 (fun W hW => (E.move f53 rfl)) fun a54 f54 => ?_
              clear f53 a53
              refine R.take 3 f54 rfl rfl (by decide) (by kernel_rfl) (by kernel_rfl) (by kernel_rfl) (fun _ _ _ _ h => h) wantedN hS7 (fun W hW => (E.slLlo f54 Tryd.underlying26 wsz9_tb rfl rfl (by omega) (by omega) )) fun a55 f55 => ?_
              clear f54 a54
              replace f55 := f55.as (i := 47) (v' := .slice (tailA A c) (us.drop 1).length (c - 1)) rfl (by rw [List.length_drop]; rfl)
              replace f55 := f55.as (i := 49) (v' := .slice (tailA A' c') (vs.drop 1).length (c' - 1)) rfl (by rw [List.length_drop]; rfl)
              refine R.call 4 f55 rfl rfl (by decide) (by kernel_rfl) wantedN (run_call Tryd.call33 (args2 f55 rfl rfl)) (ih (us.drop 1) (vs.drop 1) _ _ _ _ w2 (by rw [List.length_drop]; omega) ((A1.kept (HK.trans hS7 (by simp))).tail hc) ((A2.kept (HK.trans hS7 (by simp))).tail hc') (by rw [List.length_drop]; omega) (by rw [List.length_drop]; omega) (by rw [List.length_drop]; omega) (by rw [List.length_drop]; omega)) ?_
              rintro e w3 ⟨kc3, rfl⟩
              replace hS7 := hS7.trans kc3 (by simp)
              refine ⟨_, rfl, hS7, fun a56 f56 => ?_⟩
              clear f55 a55
              have szw3 := kc3.size
              clear kc3
              refine R.take 5 f56 rfl rfl (by decide) (by kernel_rfl) (by kernel_rfl) (by kernel_rfl) (fun _ _ _ _ h => h) wantedN hS7 (fun W hW => (E.assign f56 rfl)) fun a57 f57 => ?_
              clear f56 a56
              have szw3r := hS7.size
              replace HK := HK.trans hS7 (by simp)
              clear hS7
              refine R.done (by kernel_rfl) (hK13 _ _ ?_)
              try clear hK13 K13
              have f58 := f57.sub (sub_cons (i := 4) rfl sub_nil)
              clear f57
              refine wp_ret ?_
              try simp only [Exit.inBlock, Exit.then]
              refine C.ret (P := Tryd.prog) (fn := Tryd.f33) f58 rfl rfl ?_
              exact ⟨HK, by rw [within_step hx hy h13]; simp [*]⟩
  · clear f7
    have h8 := h0
    refine L.skip f8 (f8.noT rfl rfl) rfl (by decide) fun a9 f9 => ?_
    clear f8 a7
    refine L.skip f9 (f9.noT rfl rfl) rfl (by decide) fun a10 f10 => ?_
    clear f9 a9
    refine L.skip f10 (f10.noT rfl rfl) rfl (by decide) fun a11 f11 => ?_
    clear f10 a10
    refine L.skip f11 (f11.noT rfl rfl) rfl (by decide) fun a12 f12 => ?_
    clear f11 a11
    refine L.val f12 wantedN rfl (by decide) (E.pickF f12 rfl rfl) fun a13 f13 => ?_
    clear f12 a12
    refine wpList_nil (hK2 _ _ ?_)
    try clear hK2 K2
    have f14 := f13.sub (sub_cons (i := 0) rfl (sub_cons (i := 1) rfl (sub_cons (i := 4) rfl (sub_cons (i := 13) rfl sub_nil))))
    clear f13
    refine C.condF f14 rfl ?_
    refine wp_skip (hK1 _ _ ?_)
    try clear hK1 K1
    have f15 := f14.sub (sub_cons (i := 0) rfl (sub_cons (i := 1) rfl (sub_cons (i := 4) rfl sub_nil)))
    clear f14
    refine wp_seq_k fun K14 hK14 => ?_
    refine wp_seq_k fun K15 hK15 => ?_
    refine C.region ?_
    refine L.val f15 wantedN rfl (by decide) (E.move f15 rfl) fun a16 f16 => ?_
    clear f15 a13
    refine L.val f16 wantedN rfl (by decide) (E.lenL f16 Tryd.underlying26 rfl) fun a17 f17 => ?_
    clear f16 a16
    refine L.val f17 wantedN rfl (by decide) (E.eql f17 rfl rfl) fun a18 f18 => ?_
    clear f17 a17
    refine L.val f18 wantedN rfl (by decide) (E.move f18 rfl) fun a19 f19 => ?_
    clear f18 a18
    first | refine f19.splitD 17 rfl (fun h7 f20 => ?_) (fun h7 f20 => ?_) | refine f19.splitN 17 rfl (fun h7 f20 => ?_) (fun h7 f20 => ?_) | refine f19.splitNB 17 rfl (fun h7 f20 => ?_) (fun h7 f20 => ?_) | refine f19.split 17 rfl (fun h7 f20 => ?_) (fun h7 f20 => ?_)
    · clear f19
      have h17 := h7
      refine L.skip f20 (f20.noF rfl rfl) rfl (by decide) fun a21 f21 => ?_
      clear f20 a19
      refine L.skip f21 (f21.noF rfl rfl) rfl (by decide) fun a22 f22 => ?_
      clear f21 a21
      refine L.skip f22 (f22.noF rfl rfl) rfl (by decide) fun a23 f23 => ?_
      clear f22 a22
      refine L.val f23 wantedN rfl (by decide) (E.pickT f23 rfl rfl) fun a24 f24 => ?_
      clear f23 a23
      refine wpList_nil (hK15 _ _ ?_)
      try clear hK15 K15
      have f25 := f24.sub (sub_cons (i := 0) rfl (sub_cons (i := 1) rfl (sub_cons (i := 4) rfl (sub_cons (i := 21) rfl sub_nil))))
      clear f24
      refine C.condT f25 rfl ?_
      refine wp_seq_k fun K16 hK16 => ?_
      refine C.region ?_
      refine L.val f25 wantedN rfl (by decide) (E.move f25 rfl) fun a26 f26 => ?_
      clear f25 a24
      refine L.val f26 wantedN rfl (by decide) (E.lenL f26 Tryd.underlying26 rfl) fun a27 f27 => ?_
      clear f26 a26
      refine L.val f27 wantedN rfl (by decide) (E.move f27 rfl) fun a28 f28 => ?_
      clear f27 a27
      refine L.val f28 wantedN rfl (by decide) (E.lenL f28 Tryd.underlying26 rfl) fun a29 f29 => ?_
      clear f28 a28
      refine L.val f29 wantedN rfl (by decide) (E.eql f29 rfl rfl) fun a30 f30 => ?_
      clear f29 a29
      refine L.val f30 wantedN rfl (by decide) (E.assign f30 rfl) fun a31 f31 => ?_
      clear f30 a30
      refine wpList_nil (hK16 _ _ ?_)
      try clear hK16 K16
      have f32 := f31.sub (sub_cons (i := 0) rfl (sub_cons (i := 1) rfl (sub_cons (i := 4) rfl sub_nil)))
      clear f31
      refine wp_ret ?_
      try simp only [Exit.inBlock, Exit.then]
      refine C.ret (P := Tryd.prog) (fn := Tryd.f33) f32 rfl rfl ?_
      exact ⟨HK, by rw [within_len0 (by omega)]⟩
    · clear f19
      have h17 := h7
      refine L.val f20 (f20.yes rfl rfl) rfl (by decide) (E.move f20 rfl) fun a21 f21 => ?_
      clear f20 a19
      refine L.val f21 (f21.yes rfl rfl) rfl (by decide) (E.lenL f21 Tryd.underlying26 rfl) fun a22 f22 => ?_
      clear f21 a21
      refine L.val f22 (f22.yes rfl rfl) rfl (by decide) (E.eql f22 rfl rfl) fun a23 f23 => ?_
      clear f22 a22
      refine L.val f23 wantedN rfl (by decide) (E.pickF f23 rfl rfl) fun a24 f24 => ?_
      clear f23 a23
      refine wpList_nil (hK15 _ _ ?_)
      try clear hK15 K15
      have f25 := f24.sub (sub_cons (i := 0) rfl (sub_cons (i := 1) rfl (sub_cons (i := 4) rfl (sub_cons (i := 21) rfl sub_nil))))
      clear f24
      first | refine f25.splitD 21 rfl (fun h8 f26 => ?_) (fun h8 f26 => ?_) | refine f25.splitN 21 rfl (fun h8 f26 => ?_) (fun h8 f26 => ?_) | refine f25.splitNB 21 rfl (fun h8 f26 => ?_) (fun h8 f26 => ?_) | refine f25.split 21 rfl (fun h8 f26 => ?_) (fun h8 f26 => ?_)
      · clear f25
        have h21 := h8
        refine C.condT f26 rfl ?_
        refine wp_seq_k fun K17 hK17 => ?_
        refine C.region ?_
        refine L.val f26 wantedN rfl (by decide) (E.move f26 rfl) fun a27 f27 => ?_
        clear f26 a24
        refine L.val f27 wantedN rfl (by decide) (E.lenL f27 Tryd.underlying26 rfl) fun a28 f28 => ?_
        clear f27 a27
        refine L.val f28 wantedN rfl (by decide) (E.move f28 rfl) fun a29 f29 => ?_
        clear f28 a28
        refine L.val f29 wantedN rfl (by decide) (E.lenL f29 Tryd.underlying26 rfl) fun a30 f30 => ?_
        clear f29 a29
        refine L.val f30 wantedN rfl (by decide) (E.eql f30 rfl rfl) fun a31 f31 => ?_
        clear f30 a30
        refine L.val f31 wantedN rfl (by decide) (E.assign f31 rfl) fun a32 f32 => ?_
        clear f31 a31
        refine wpList_nil (hK17 _ _ ?_)
        try clear hK17 K17
        have f33 := f32.sub (sub_cons (i := 0) rfl (sub_cons (i := 1) rfl (sub_cons (i := 4) rfl sub_nil)))
        clear f32
        refine wp_ret ?_
        try simp only [Exit.inBlock, Exit.then]
        refine C.ret (P := Tryd.prog) (fn := Tryd.f33) f33 rfl rfl ?_
        exact ⟨HK, by rw [within_len0 (by omega)]⟩
      · clear f25
        exfalso
        omega


theorem goes_any (us vs : List ByteArray) (A A' : Option Addr) (c c' : Nat) (w : World) (A1 : Ss w A us) (A2 : Ss w A' vs) (hc : us.length ≤ c) (hc' : vs.length ≤ c') (hl : us.length ≤ 1000000) (hl' : vs.length ≤ 1000000) :
    Calls Tryd.prog 30 #[.slice A us.length c, .slice A' vs.length c'] w (fun e w' => Kept [] w w' ∧ e = .returned (.bool (goesB us vs))) := by
  generalize hn : us.length = n
  induction n using Nat.strongRecOn generalizing us vs A A' c c' w with
  | _ n ih =>
    subst hn
    exact goes_one us vs A A' c c' w A1 A2 hc hc' hl hl' fun us' vs' A A' c c' w h a1 a2 a3 a4 a5 a6 => ih us'.length h us' vs' A A' c c' w a1 a2 a3 a4 a5 a6 rfl

theorem withinT_any (us vs : List ByteArray) (A A' : Option Addr) (c c' : Nat) (w : World) (A1 : Ss w A us) (A2 : Ss w A' vs) (hc : us.length ≤ c) (hc' : vs.length ≤ c') (hl : us.length ≤ 1000000) (hl' : vs.length ≤ 1000000) :
    Calls Tryd.prog 32 #[.slice A us.length c, .slice A' vs.length c'] w (fun e w' => Kept [] w w' ∧ e = .returned (.bool (withinB us vs))) := by
  generalize hn : us.length = n
  induction n using Nat.strongRecOn generalizing us vs A A' c c' w with
  | _ n ih =>
    subst hn
    exact within_one us vs A A' c c' w A1 A2 hc hc' hl hl' fun us' vs' A A' c c' w h a1 a2 a3 a4 a5 a6 => ih us'.length h us' vs' A A' c c' w a1 a2 a3 a4 a5 a6 rfl

theorem matches_any (us vs : List ByteArray) (A A' : Option Addr) (c c' : Nat) (w : World) (A1 : Ss w A us) (A2 : Ss w A' vs) (hc : us.length ≤ c) (hc' : vs.length ≤ c') (hl : us.length ≤ 1000000) (hl' : vs.length ≤ 1000000) :
    Calls Tryd.prog 31 #[.slice A us.length c, .slice A' vs.length c'] w (fun e w' => Kept [] w w' ∧ e = .returned (.bool (goesB us vs))) := by
  generalize hn : us.length = n
  induction n using Nat.strongRecOn generalizing us vs A A' c c' w with
  | _ n ih =>
    subst hn
    exact matches_one us vs A A' c c' w A1 A2 hc hc' hl hl' fun us' vs' A A' c c' w h a1 a2 a3 a4 a5 a6 => ih us'.length h us' vs' A A' c c' w a1 a2 a3 a4 a5 a6 rfl

theorem inside_any (us vs : List ByteArray) (A A' : Option Addr) (c c' : Nat) (w : World) (A1 : Ss w A us) (A2 : Ss w A' vs) (hc : us.length ≤ c) (hc' : vs.length ≤ c') (hl : us.length ≤ 1000000) (hl' : vs.length ≤ 1000000) :
    Calls Tryd.prog 33 #[.slice A us.length c, .slice A' vs.length c'] w (fun e w' => Kept [] w w' ∧ e = .returned (.bool (withinB us vs))) := by
  generalize hn : us.length = n
  induction n using Nat.strongRecOn generalizing us vs A A' c c' w with
  | _ n ih =>
    subst hn
    exact inside_one us vs A A' c c' w A1 A2 hc hc' hl hl' fun us' vs' A A' c c' w h a1 a2 a3 a4 a5 a6 => ih us'.length h us' vs' A A' c c' w a1 a2 a3 a4 a5 a6 rfl
end Go.Proofs.YtpdacegpjofdeaaDoor
