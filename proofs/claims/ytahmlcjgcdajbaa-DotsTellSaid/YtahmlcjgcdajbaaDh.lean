/- Contracts: Join, Before; known and of. -/
import Derived.Test.YtahmlcjgcdajbaaDg
set_option linter.all false
namespace Go.Proofs.Ytahmlcjgcdajbaa
open Go.RowKit Go.Hub
theorem wsz32_g8 : (Try.prog.info? 32).map (·.size) = some 3 := by kernel_rfl
theorem wzib32_g8 : (Try.prog.info? 32).map (fun i => (i.zero, i.size, i.bytes)) = some (some (.agg #[(.int .i64 0), (.int .i64 0), (.int .i64 0)]), 3, 24) := by kernel_rfl
theorem wzi3_g8 : (Try.prog.info? 3).map (fun i => (i.zero, i.size)) = some (some (.int .i64 0), 1) := by kernel_rfl
theorem wbs82_2_g8 (x0 : Int) (x1 : Int) : Instr.fill (fun i => some (i * 1, 1)) ((Array.range (2 * 1)).map fun j => (Value.cells (.int .i64 0))[j % (Value.cells (.int .i64 0)).size]!) [(0, .int .i64 x0), (1, .int .i64 x1)] = some #[.int .i64 x0, .int .i64 x1] := by kernel_rfl
theorem wsz3_g8 : (Try.prog.info? 3).map (·.size) = some 1 := by kernel_rfl
theorem wsz30_g8 : (Try.prog.info? 30).map (·.size) = some 1 := by kernel_rfl
theorem wbl32_0_1_2_g8 (x0 : Int) (x1 : Int) (x2 : Int) : Try.prog.built 32 [(0, .int .i64 x0), (1, .int .i64 x1), (2, .int .i64 x2)] = some #[.int .i64 x0, .int .i64 x1, .int .i64 x2] := by kernel_rfl

theorem fold_next {b l : List Dt} {k : Nat} {d : Dt} (h : b[k]? = some d) : addD ((b.take k).foldl addD l) d = (b.take (k + 1)).foldl addD l := by
  rw [List.take_succ, h, List.foldl_append]
  rfl
theorem join_no {a b : List Dt} (h : ¬ (rightB a = true ∧ rightB b = true)) : joinD a b = [] := by rw [joinD, if_neg h]
theorem join_fin {l b acc : List Dt} {k cx : Nat} {Ax : Option Addr} {w W : World} (ha : rightB l = true) (hb : rightB b = true) (h : acc = (b.take k).foldl addD l) (hk : b.length ≤ k) (HK : Kept [] w W) (F : Fresh w W 32 3 Ax acc.length cx (dcells acc)) : DotsPost (joinD l b) w (.returned (.slice Ax acc.length cx)) W := by
  have e : joinD l b = acc := by rw [joinD, if_pos ⟨ha, hb⟩, h, List.take_of_length_le hk]
  rw [e]
  exact ⟨HK, Ax, cx, rfl, F⟩
theorem before_is (p q : Dt) : decide ((if livesI p q = 0 then cmpI p.n q.n else livesI p q) < 0) = decide (lt3 p q) := by
  rw [decide_eq_decide]
  unfold livesI cmpI lt3
  repeat' split
  all_goals omega
theorem befR1 {p q : Dt} (h : ¬ p.node = q.node) : decide (p.node < q.node) = decide (lt3 p q) := by rw [decide_eq_decide]; unfold lt3; omega
theorem befR2 {p q : Dt} (h : p.node = q.node) (h2 : ¬ p.epoch = q.epoch) : decide (p.epoch < q.epoch) = decide (lt3 p q) := by rw [decide_eq_decide]; unfold lt3; omega
theorem befR3 {p q : Dt} (h : p.node = q.node) (h2 : p.epoch = q.epoch) : decide (p.n < q.n) = decide (lt3 p q) := by rw [decide_eq_decide]; unfold lt3; omega
def Us (w : World) (A : Option Addr) (l : List Int) : Prop := Sl w A l.length 1 (l.map (.int .u16))
theorem Us.kept {w w' : World} {A : Option Addr} {l : List Int} (h : Us w A l) (hk : Kept [] w w') : Us w' A l := Sl.kept h hk
theorem us_cell {w : World} {A : Option Addr} {l : List Int} (h : Us w A l) {b off k : Nat} {x : Int} (hA : A = some ⟨b, off, none⟩) (hx : l[k]? = some x) : w.cell? ⟨b, off + Int.toNat (k : Int) * 1, none⟩ = some (.int .u16 x) := by
  have := (List.getElem?_eq_some_iff.1 hx).1
  simpa using Sl.cell h (j := k) (by omega) hA (by simp [hx])
def dotOf (x : Int) : Dt := ⟨x % 4, x / 4 % 3 + 1, x / 12 % 9 + 1⟩
abbrev addN (acc : List Dt) (x : Int) : List Dt := addD acc (dotOf x)
def ofL (l : List Int) : List Dt := l.foldl addN []
theorem of_step {l : List Int} {k : Nat} {x : Int} (h : l[k]? = some x) (acc : List Dt) : (l.drop k).foldl addN acc = (l.drop (k + 1)).foldl addN (addD acc (dotOf x)) := by
  have h := (List.getElem?_eq_some_iff.1 h)
  rw [List.drop_eq_getElem_cons h.1, h.2]
  rfl
theorem of_right : ∀ (us : List Int) (acc : List Dt), rightB acc = true → rightB (us.foldl addN acc) = true
  | [], acc, h => h
  | u :: us, acc, h => of_right us _ (dAddRight h _)
theorem ofL_right (l : List Int) : rightB (ofL l) = true := of_right l [] rfl
theorem of_len : ∀ (us : List Int) (acc : List Dt), (us.foldl addN acc).length ≤ acc.length + us.length
  | [], acc => by simp
  | u :: us, acc => by
    have h1 := of_len us (addN acc u)
    have h2 : (addN acc u).length ≤ acc.length + 1 := add_len acc (dotOf u)
    simp only [List.foldl_cons, List.length_cons] at *
    omega
theorem ofL_len (us : List Int) : (ofL us).length ≤ us.length := by have := of_len us []; simpa [ofL] using this
theorem fold_len : ∀ (b a : List Dt), (b.foldl addD a).length ≤ a.length + b.length
  | [], a => by simp
  | d :: b, a => by
    have h1 := fold_len b (addD a d)
    have h2 := add_len a d
    simp only [List.foldl_cons, List.length_cons] at *
    omega
theorem join_len (a b : List Dt) : (joinD a b).length ≤ a.length + b.length := by
  unfold joinD
  split
  · exact fold_len b a
  · simp

set_option maxHeartbeats 1000000 in
theorem Join_any (l b : List Dt) (A A' : Option Addr) (c c' : Nat) (w : World) (A1 : Ds w A l) (A2 : Ds w A' b) (hm : l.length + b.length ≤ 1000000) : Calls Try.prog 13 #[.slice A l.length c, .slice A' b.length c'] w (DotsPost (joinD l b) w) := by
  have HK : Kept [] w w := Kept.refl [] w
  refine C.enter Try.func13 rfl Try.ntmps13 rfl ?_
  intro a0 f0
  have f1 : Fr 29 a0 [(0, .slice A l.length c), (1, .slice A' b.length c')] := f0
  clear f0
  refine wp_seq_k fun K0 hK0 => ?_
  refine C.region ?_
  refine L.val f1 wantedN rfl (by decide) (E.assign f1 rfl) fun a2 f2 => ?_
  clear f1 a0
  refine wpList_nil (hK0 _ _ ?_)
  try clear hK0 K0
  have f3 := f2.sub (sub_cons (i := 0) rfl (sub_cons (i := 1) rfl (sub_cons (i := 4) rfl sub_nil)))
  clear f2
  refine wp_seq_k fun K1 hK1 => ?_
  refine wp_seq_k fun K2 hK2 => ?_
  refine C.region ?_
  refine L.val f3 wantedN rfl (by decide) (E.move f3 rfl) fun a4 f4 => ?_
  clear f3 a2
  refine L.call f4 wantedN rfl (by decide) (run_call Try.call16 (args1 f4 rfl)) (right_any l _ _ _ (A1.kept HK) (by unfold maxLen; omega)) ?_
  rintro e w1 ⟨kc1, rfl⟩
  refine ⟨_, rfl, fun a5 f5 => ?_⟩
  clear f4 a4
  have szw1 := kc1.size
  replace HK := HK.trans kc1 (by simp)
  clear kc1
  refine L.val f5 wantedN rfl (by decide) (E.not f5 rfl) fun a6 f6 => ?_
  clear f5 a5
  refine L.val f6 wantedN rfl (by decide) (E.move f6 rfl) fun a7 f7 => ?_
  clear f6 a6
  first | refine f7.splitD 11 rfl (fun h0 f8 => ?_) (fun h0 f8 => ?_) | refine f7.splitN 11 rfl (fun h0 f8 => ?_) (fun h0 f8 => ?_) | refine f7.splitNB 11 rfl (fun h0 f8 => ?_) (fun h0 f8 => ?_) | refine f7.split 11 rfl (fun h0 f8 => ?_) (fun h0 f8 => ?_)
  · clear f7
    have hra := h0
    refine L.skip f8 (f8.noF rfl rfl) rfl (by decide) fun a9 f9 => ?_
    clear f8 a7
    refine L.skip f9 (f9.noF rfl rfl) rfl (by decide) fun a10 f10 => ?_
    clear f9 a9
    refine L.skip f10 (f10.noF rfl rfl) rfl (by decide) fun a11 f11 => ?_
    clear f10 a10
    refine L.val f11 wantedN rfl (by decide) (E.pickT f11 rfl rfl) fun a12 f12 => ?_
    clear f11 a11
    refine wpList_nil (hK2 _ _ ?_)
    try clear hK2 K2
    have f13 := f12.sub (sub_cons (i := 0) rfl (sub_cons (i := 1) rfl (sub_cons (i := 4) rfl (sub_cons (i := 15) rfl sub_nil))))
    clear f12
    refine C.condT f13 rfl ?_
    refine wp_seq_k fun K3 hK3 => ?_
    refine C.region ?_
    refine L.val f13 wantedN rfl (by decide) (E.assign f13 rfl) fun a14 f14 => ?_
    clear f13 a12
    refine wpList_nil (hK3 _ _ ?_)
    try clear hK3 K3
    have f15 := f14.sub (sub_cons (i := 0) rfl (sub_cons (i := 1) rfl (sub_cons (i := 4) rfl sub_nil)))
    clear f14
    refine wp_ret ?_
    try simp only [Exit.inBlock, Exit.then]
    refine C.ret (P := Try.prog) (fn := Try.f13) f15 rfl rfl ?_
    exact ⟨HK, none, 0, by rw [join_no (by simp [hra])]; rfl, by rw [join_no (by simp [hra])]; exact Fresh.nil _ _ _ _⟩
  · clear f7
    have hra := h0
    have hra0 := h0
    refine L.val f8 (f8.yes rfl rfl) rfl (by decide) (E.move f8 rfl) fun a9 f9 => ?_
    clear f8 a7
    refine L.call f9 (f9.yes rfl rfl) rfl (by decide) (run_call Try.call16 (args1 f9 rfl)) (right_any b _ _ _ (A2.kept HK) (by unfold maxLen; omega)) ?_
    rintro e w2 ⟨kc2, rfl⟩
    refine ⟨_, rfl, fun a10 f10 => ?_⟩
    clear f9 a9
    have szw2 := kc2.size
    replace HK := HK.trans kc2 (by simp)
    clear kc2
    refine L.val f10 (f10.yes rfl rfl) rfl (by decide) (E.not f10 rfl) fun a11 f11 => ?_
    clear f10 a10
    refine L.val f11 wantedN rfl (by decide) (E.pickF f11 rfl rfl) fun a12 f12 => ?_
    clear f11 a11
    refine wpList_nil (hK2 _ _ ?_)
    try clear hK2 K2
    have f13 := f12.sub (sub_cons (i := 0) rfl (sub_cons (i := 1) rfl (sub_cons (i := 4) rfl (sub_cons (i := 15) rfl sub_nil))))
    clear f12
    first | refine f13.splitD 15 rfl (fun h1 f14 => ?_) (fun h1 f14 => ?_) | refine f13.splitN 15 rfl (fun h1 f14 => ?_) (fun h1 f14 => ?_) | refine f13.splitNB 15 rfl (fun h1 f14 => ?_) (fun h1 f14 => ?_) | refine f13.split 15 rfl (fun h1 f14 => ?_) (fun h1 f14 => ?_)
    · clear f13
      have hrb := h1
      refine C.condT f14 rfl ?_
      refine wp_seq_k fun K4 hK4 => ?_
      refine C.region ?_
      refine L.val f14 wantedN rfl (by decide) (E.assign f14 rfl) fun a15 f15 => ?_
      clear f14 a12
      refine wpList_nil (hK4 _ _ ?_)
      try clear hK4 K4
      have f16 := f15.sub (sub_cons (i := 0) rfl (sub_cons (i := 1) rfl (sub_cons (i := 4) rfl sub_nil)))
      clear f15
      refine wp_ret ?_
      try simp only [Exit.inBlock, Exit.then]
      refine C.ret (P := Try.prog) (fn := Try.f13) f16 rfl rfl ?_
      exact ⟨HK, none, 0, by rw [join_no (by simp [hrb])]; rfl, by rw [join_no (by simp [hrb])]; exact Fresh.nil _ _ _ _⟩
    · clear f13
      have hrb := h1
      refine C.condF f14 rfl ?_
      refine wp_skip (hK1 _ _ ?_)
      try clear hK1 K1
      have f15 := f14.sub (sub_cons (i := 0) rfl (sub_cons (i := 1) rfl (sub_cons (i := 4) rfl sub_nil)))
      clear f14
      refine wp_seq_k fun K5 hK5 => ?_
      refine C.region ?_
      refine L.val f15 wantedN rfl (by decide) (E.move f15 rfl) fun a16 f16 => ?_
      clear f15 a12
      refine L.call f16 wantedN rfl (by decide) (run_call Try.call39 (args1 f16 rfl)) (clone_any l _ _ _ (A1.kept HK) (by omega)) ?_
      rintro e w3 ⟨kc3, Ac, cc, rfl, FC⟩
      have FC := FC.lower (w0 := w) (by have := HK.size; omega)
      refine ⟨_, rfl, fun a17 f17 => ?_⟩
      clear f16 a16
      have szw3 := kc3.size
      replace HK := HK.trans kc3 (by simp)
      clear kc3
      refine L.val f17 wantedN rfl (by decide) (E.assign f17 rfl) fun a18 f18 => ?_
      clear f17 a17
      refine wpList_nil (hK5 _ _ ?_)
      try clear hK5 K5
      have f19 := f18.sub (sub_cons (i := 1) rfl (sub_cons (i := 4) rfl (sub_cons (i := 5) rfl sub_nil)))
      clear f18
      refine wp_seq_k fun K6 hK6 => ?_
      refine wp_seq_k fun K7 hK7 => ?_
      refine C.region ?_
      refine L.val f19 wantedN rfl (by decide) (E.move f19 rfl) fun a20 f20 => ?_
      clear f19 a18
      refine L.val f20 wantedN rfl (by decide) (E.lenL f20 Try.underlying24 rfl) fun a21 f21 => ?_
      clear f20 a20
      refine L.val f21 wantedN rfl (by decide) (E.move f21 rfl) fun a22 f22 => ?_
      clear f21 a21
      refine wpList_nil (hK7 _ _ ?_)
      try clear hK7 K7
      have f23 := f22.sub (sub_cons (i := 4) rfl (sub_cons (i := 5) rfl (sub_cons (i := 18) rfl (sub_cons (i := 19) rfl (sub_cons (i := 20) rfl sub_nil)))))
      clear f22
      refine wp_block ?_
      refine C.loop (fun gk a W => ∃ (k : Nat) (Ax : Option Addr) (cx : Nat) (acc : List Dt), k + gk = b.length ∧ acc = (b.take k).foldl addD l ∧ rightB acc = true ∧ acc.length ≤ l.length + k ∧ Fresh w W 32 3 Ax acc.length cx (dcells acc) ∧ Kept [] w W ∧ Fr 29 a [(5, .slice Ax acc.length cx), (18, .slice A' b.length c'), (19, .int .i64 b.length), (20, .int .i64 k)]) (b.length) ?_ ?_
      · exact ⟨0, Ac, cc, l, by omega, rfl, hra, by omega, FC, HK, f23.sub (sub_cons rfl (sub_cons rfl (sub_cons rfl (sub_cons rfl sub_nil))))⟩
      · intro gk9 a24 w4 hI KL8 hKL8
        obtain ⟨k, Ax, cx, acc, hk, hacc, hra, hal, F, HK, f24⟩ := hI
        try clear f23
        have szw1x := HK.size
        have hFb : ∀ b, Ax.map (·.block) = some b → b < w4.heap.size := fun b hb => (F.own.blk b ((own_block _ _ _ b).2 hb)).1
        refine wp_seq_k fun K9 hK9 => ?_
        refine C.region ?_
        refine L.val f24 wantedN rfl (by decide) (E.lss f24 rfl rfl) fun a25 f25 => ?_
        clear f24 a24
        refine wpList_nil (hK9 _ _ ?_)
        try clear hK9 K9
        have f26 := f25.sub (sub_cons (i := 5) rfl (sub_cons (i := 18) rfl (sub_cons (i := 19) rfl (sub_cons (i := 20) rfl (sub_cons (i := 21) rfl sub_nil)))))
        clear f25
        refine wp_seq_k fun K10 hK10 => ?_
        first | refine f26.splitD 21 rfl (fun h2 f27 => ?_) (fun h2 f27 => ?_) | refine f26.splitN 21 rfl (fun h2 f27 => ?_) (fun h2 f27 => ?_) | refine f26.splitNB 21 rfl (fun h2 f27 => ?_) (fun h2 f27 => ?_) | refine f26.split 21 rfl (fun h2 f27 => ?_) (fun h2 f27 => ?_)
        · clear f26
          obtain ⟨d, hd⟩ : ∃ d, b[k]? = some d := ⟨b[k]'(by omega), List.getElem?_eq_getElem _⟩
          have hmy := (rises hrb).2 d (List.mem_of_getElem? hd)
          obtain ⟨bk, off, hA⟩ := A2.addr (i := k) (by omega)
          refine C.condT f27 rfl ?_
          refine wp_skip (hK10 _ _ ?_)
          try clear hK10 K10
          have f28 := f27.sub (sub_cons (i := 5) rfl (sub_cons (i := 18) rfl (sub_cons (i := 19) rfl (sub_cons (i := 20) rfl (sub_cons (i := 21) rfl sub_nil)))))
          clear f27
          refine wp_seq_k fun K11 hK11 => ?_
          refine wp_block ?_
          refine wp_seq_k fun K12 hK12 => ?_
          refine C.region ?_
          refine L.val f28 wantedN rfl (by decide) (E.indexA f28 (by first | rfl | assumption) Try.underlying24 wsz32_g8 rfl rfl (by omega) (by omega)) fun a29 f29 => ?_
          clear f28 a25
          refine L.val f29 wantedN rfl (by decide) (by exact E.loadR f29 Try.underlying32 rfl wsz32_g8 rfl ((A2.kept HK).row hA hd) rfl) fun a30 f30 => ?_
          clear f29 a29
          refine L.alloc f30 wantedN (by decide) (z := (.agg #[(.int .i64 0), (.int .i64 0), (.int .i64 0)])) (fun _ => by kernel_rfl) rfl fun a31 w5 g4 N4 f31 => ?_
          have Bg4 := N4.blk
          have kg4 := N4.kept
          have log4 := N4.lo
          have ltg4 := Bg4.lt
          have szw5 := kg4.size
          have frg4 : w.heap.size ≤ g4 := Nat.le_trans HK.size log4
          replace HK := HK.trans kg4 (by simp)
          replace F := F.kept0 kg4
          clear N4 kg4
          clear f30 a30
          refine L.storeR f31 wantedN wsz32_g8 rfl rfl rfl Bg4 rfl rfl fun a32 w6 f32 NB6 ks6 => ?_
          have szw6 := ks6.size
          replace HK := HK.trans ks6 (by intro x hx hlt; simp at hx; subst hx; first | (exfalso; omega) | simp)
          replace F := F.kept ks6 (fun b hb hx => by have := hFb b hb; simp at hx; omega)
          replace Bg4 := NB6
          clear ks6 f31 a31
          refine wpList_nil (hK12 _ _ ?_)
          try clear hK12 K12
          have f33 := f32.sub (sub_cons (i := 5) rfl (sub_cons (i := 7) rfl (sub_cons (i := 18) rfl (sub_cons (i := 19) rfl (sub_cons (i := 20) rfl (sub_cons (i := 21) rfl (sub_cons (i := 22) rfl (sub_cons (i := 23) rfl sub_nil))))))))
          clear f32
          refine C.region ?_
          refine L.val f33 wantedN rfl (by decide) (E.move f33 rfl) fun a34 f34 => ?_
          clear f33 a32
          refine L.val f34 wantedN rfl (by decide) (by first | exact E.loadB f34 Try.underlying32 rfl wsz32_g8 rfl (Bg4) rfl | exact E.loadR f34 Try.underlying32 rfl wsz32_g8 rfl ((A2.kept HK).row hA hd) rfl) fun a35 f35 => ?_
          clear f34 a34
          refine L.call f35 wantedN rfl (by decide) (run_call Try.call40 (args2 f35 rfl rfl)) (put_any acc Ax cx d w w6 F HK hra hmy (by omega)) ?_
          rintro e w7 ⟨kc7, A2', c2', rfl, F2⟩
          have HK := kc7
          refine ⟨_, rfl, fun a36 f36 => ?_⟩
          clear f35 a35
          have szw7 := kc7.size
          clear kc7
          refine L.val f36 wantedN rfl (by decide) (E.assign f36 rfl) fun a37 f37 => ?_
          clear f36 a36
          refine wpList_nil (hK11 _ _ ?_)
          try clear hK11 K11
          have f38 := f37.sub (sub_cons (i := 5) rfl (sub_cons (i := 7) rfl (sub_cons (i := 18) rfl (sub_cons (i := 19) rfl (sub_cons (i := 20) rfl (sub_cons (i := 21) rfl (sub_cons (i := 22) rfl (sub_cons (i := 23) rfl (sub_cons (i := 24) rfl (sub_cons (i := 25) rfl (sub_cons (i := 26) rfl sub_nil)))))))))))
          clear f37
          refine C.region ?_
          refine L.val f38 wantedN rfl (by decide) (E.add f38 rfl rfl (IntWalk.i64_in _ (by omega))) fun a39 f39 => ?_
          clear f38 a37
          refine L.val f39 wantedN rfl (by decide) (E.move f39 rfl) fun a40 f40 => ?_
          clear f39 a39
          refine wpList_nil (hKL8 _ _ (gk9 - 1) ?_ ?_)
          · omega
          · exact ⟨k + 1, A2', c2', addD acc d, by omega, by rw [hacc]; exact fold_next hd, dAddRight hra d, Nat.le_trans (add_len acc d) (by omega), F2, HK, f40.sub (sub_cons rfl (sub_cons rfl (sub_cons rfl (sub_cons rfl sub_nil))))⟩
        · clear f26
          have hend := h2
          refine C.condF f27 rfl ?_
          refine wp_exit (hK6 _ _ ?_)
          try clear hK6 K6
          have f28 := f27.sub (sub_cons (i := 5) rfl sub_nil)
          clear f27
          refine wp_seq_k fun K13 hK13 => ?_
          refine C.region ?_
          refine L.val f28 wantedN rfl (by decide) (E.move f28 rfl) fun a29 f29 => ?_
          clear f28 a25
          refine L.val f29 wantedN rfl (by decide) (E.assign f29 rfl) fun a30 f30 => ?_
          clear f29 a29
          refine wpList_nil (hK13 _ _ ?_)
          try clear hK13 K13
          have f31 := f30.sub (sub_cons (i := 4) rfl sub_nil)
          clear f30
          refine wp_ret ?_
          try simp only [Exit.inBlock, Exit.then]
          refine C.ret (P := Try.prog) (fn := Try.f13) f31 rfl rfl ?_
          exact join_fin hra0 hrb hacc (by omega) HK F

set_option maxHeartbeats 1000000 in
theorem JoinR_any (l b : List Dt) (A A' : Option Addr) (c c' : Nat) (w : World) (A1 : Ds w A l) (A2 : Ds w A' b) (hm : l.length + b.length ≤ 1000000) : Calls Try.prog 22 #[.slice A l.length c, .slice A' b.length c'] w (DotsPost (joinD l b) w) := by
  have HK : Kept [] w w := Kept.refl [] w
  refine C.enter Try.func22 rfl Try.ntmps22 rfl ?_
  intro a0 f0
  have f1 : Fr 30 a0 [(0, .slice A l.length c), (1, .slice A' b.length c')] := f0
  clear f0
  refine wp_seq_k fun K0 hK0 => ?_
  refine C.region ?_
  refine L.val f1 wantedN rfl (by decide) (E.assign f1 rfl) fun a2 f2 => ?_
  clear f1 a0
  refine wpList_nil (hK0 _ _ ?_)
  try clear hK0 K0
  have f3 := f2.sub (sub_cons (i := 0) rfl (sub_cons (i := 1) rfl (sub_cons (i := 4) rfl sub_nil)))
  clear f2
  refine wp_seq_k fun K1 hK1 => ?_
  refine wp_seq_k fun K2 hK2 => ?_
  refine C.region ?_
  refine L.val f3 wantedN rfl (by decide) (E.move f3 rfl) fun a4 f4 => ?_
  clear f3 a2
  refine L.call f4 wantedN rfl (by decide) (run_call Try.call21 (args1 f4 rfl)) (rightR_any l _ _ _ (A1.kept HK) (by unfold maxLen; omega)) ?_
  rintro e w1 ⟨kc1, rfl⟩
  refine ⟨_, rfl, fun a5 f5 => ?_⟩
  clear f4 a4
  have szw1 := kc1.size
  replace HK := HK.trans kc1 (by simp)
  clear kc1
  refine L.val f5 wantedN rfl (by decide) (E.not f5 rfl) fun a6 f6 => ?_
  clear f5 a5
  refine L.val f6 wantedN rfl (by decide) (E.move f6 rfl) fun a7 f7 => ?_
  clear f6 a6
  first | refine f7.splitD 10 rfl (fun h0 f8 => ?_) (fun h0 f8 => ?_) | refine f7.splitN 10 rfl (fun h0 f8 => ?_) (fun h0 f8 => ?_) | refine f7.splitNB 10 rfl (fun h0 f8 => ?_) (fun h0 f8 => ?_) | refine f7.split 10 rfl (fun h0 f8 => ?_) (fun h0 f8 => ?_)
  · clear f7
    have hra := h0
    refine L.skip f8 (f8.noF rfl rfl) rfl (by decide) fun a9 f9 => ?_
    clear f8 a7
    refine L.skip f9 (f9.noF rfl rfl) rfl (by decide) fun a10 f10 => ?_
    clear f9 a9
    refine L.skip f10 (f10.noF rfl rfl) rfl (by decide) fun a11 f11 => ?_
    clear f10 a10
    refine L.val f11 wantedN rfl (by decide) (E.pickT f11 rfl rfl) fun a12 f12 => ?_
    clear f11 a11
    refine wpList_nil (hK2 _ _ ?_)
    try clear hK2 K2
    have f13 := f12.sub (sub_cons (i := 0) rfl (sub_cons (i := 1) rfl (sub_cons (i := 4) rfl (sub_cons (i := 14) rfl sub_nil))))
    clear f12
    refine C.condT f13 rfl ?_
    refine wp_seq_k fun K3 hK3 => ?_
    refine C.region ?_
    refine L.val f13 wantedN rfl (by decide) (E.assign f13 rfl) fun a14 f14 => ?_
    clear f13 a12
    refine wpList_nil (hK3 _ _ ?_)
    try clear hK3 K3
    have f15 := f14.sub (sub_cons (i := 0) rfl (sub_cons (i := 1) rfl (sub_cons (i := 4) rfl sub_nil)))
    clear f14
    refine wp_ret ?_
    try simp only [Exit.inBlock, Exit.then]
    refine C.ret (P := Try.prog) (fn := Try.f22) f15 rfl rfl ?_
    exact ⟨HK, none, 0, by rw [join_no (by simp [hra])]; rfl, by rw [join_no (by simp [hra])]; exact Fresh.nil _ _ _ _⟩
  · clear f7
    have hra := h0
    have hra0 := h0
    refine L.val f8 (f8.yes rfl rfl) rfl (by decide) (E.move f8 rfl) fun a9 f9 => ?_
    clear f8 a7
    refine L.call f9 (f9.yes rfl rfl) rfl (by decide) (run_call Try.call21 (args1 f9 rfl)) (rightR_any b _ _ _ (A2.kept HK) (by unfold maxLen; omega)) ?_
    rintro e w2 ⟨kc2, rfl⟩
    refine ⟨_, rfl, fun a10 f10 => ?_⟩
    clear f9 a9
    have szw2 := kc2.size
    replace HK := HK.trans kc2 (by simp)
    clear kc2
    refine L.val f10 (f10.yes rfl rfl) rfl (by decide) (E.not f10 rfl) fun a11 f11 => ?_
    clear f10 a10
    refine L.val f11 wantedN rfl (by decide) (E.pickF f11 rfl rfl) fun a12 f12 => ?_
    clear f11 a11
    refine wpList_nil (hK2 _ _ ?_)
    try clear hK2 K2
    have f13 := f12.sub (sub_cons (i := 0) rfl (sub_cons (i := 1) rfl (sub_cons (i := 4) rfl (sub_cons (i := 14) rfl sub_nil))))
    clear f12
    first | refine f13.splitD 14 rfl (fun h1 f14 => ?_) (fun h1 f14 => ?_) | refine f13.splitN 14 rfl (fun h1 f14 => ?_) (fun h1 f14 => ?_) | refine f13.splitNB 14 rfl (fun h1 f14 => ?_) (fun h1 f14 => ?_) | refine f13.split 14 rfl (fun h1 f14 => ?_) (fun h1 f14 => ?_)
    · clear f13
      have hrb := h1
      refine C.condT f14 rfl ?_
      refine wp_seq_k fun K4 hK4 => ?_
      refine C.region ?_
      refine L.val f14 wantedN rfl (by decide) (E.assign f14 rfl) fun a15 f15 => ?_
      clear f14 a12
      refine wpList_nil (hK4 _ _ ?_)
      try clear hK4 K4
      have f16 := f15.sub (sub_cons (i := 0) rfl (sub_cons (i := 1) rfl (sub_cons (i := 4) rfl sub_nil)))
      clear f15
      refine wp_ret ?_
      try simp only [Exit.inBlock, Exit.then]
      refine C.ret (P := Try.prog) (fn := Try.f22) f16 rfl rfl ?_
      exact ⟨HK, none, 0, by rw [join_no (by simp [hrb])]; rfl, by rw [join_no (by simp [hrb])]; exact Fresh.nil _ _ _ _⟩
    · clear f13
      have hrb := h1
      refine C.condF f14 rfl ?_
      refine wp_skip (hK1 _ _ ?_)
      try clear hK1 K1
      have f15 := f14.sub (sub_cons (i := 0) rfl (sub_cons (i := 1) rfl (sub_cons (i := 4) rfl sub_nil)))
      clear f14
      refine wp_seq_k fun K5 hK5 => ?_
      refine C.region ?_
      refine L.val f15 wantedN rfl (by decide) (E.move f15 rfl) fun a16 f16 => ?_
      clear f15 a12
      refine L.append f16 wantedN (by decide) Try.underlying24 wzib32_g8 rfl rfl rfl rfl (Own.nil _ _ _) (A1.kept HK) (dcells_one l) (by unfold maxLen; omega) (by omega) fun a17 w3 Ao co AP3 f17 => ?_
      clear f16 a16
      have kap3 : Kept [] w2 w3 := by simpa [Value.ownBlock] using AP3.kept
      have FC : Fresh w w3 32 3 Ao l.length co (dcells l) := by simpa using AP3.next (Fresh.nil w w2 32 3) HK.size
      replace f17 := f17.as (i := 16) (v' := .slice Ao l.length co) rfl (by rw [Nat.zero_add])
      have szw3 := kap3.size
      replace HK := HK.trans kap3 (by simp)
      clear kap3
      refine L.val f17 wantedN rfl (by decide) (E.assign f17 rfl) fun a18 f18 => ?_
      clear f17 a17
      refine wpList_nil (hK5 _ _ ?_)
      try clear hK5 K5
      have f19 := f18.sub (sub_cons (i := 1) rfl (sub_cons (i := 4) rfl (sub_cons (i := 5) rfl sub_nil)))
      clear f18
      refine wp_seq_k fun K6 hK6 => ?_
      refine wp_seq_k fun K7 hK7 => ?_
      refine C.region ?_
      refine L.val f19 wantedN rfl (by decide) (E.assign f19 rfl) fun a20 f20 => ?_
      clear f19 a18
      refine wpList_nil (hK7 _ _ ?_)
      try clear hK7 K7
      have f21 := f20.sub (sub_cons (i := 1) rfl (sub_cons (i := 4) rfl (sub_cons (i := 5) rfl (sub_cons (i := 6) rfl sub_nil))))
      clear f20
      refine wp_block ?_
      refine C.loop (fun gk a W => ∃ (k : Nat) (Ax : Option Addr) (cx : Nat) (acc : List Dt), k + gk = b.length ∧ acc = (b.take k).foldl addD l ∧ rightB acc = true ∧ acc.length ≤ l.length + k ∧ Fresh w W 32 3 Ax acc.length cx (dcells acc) ∧ Kept [] w W ∧ Fr 30 a [(1, .slice A' b.length c'), (5, .slice Ax acc.length cx), (6, .int .i64 k)]) (b.length) ?_ ?_
      · exact ⟨0, Ao, co, l, by omega, rfl, hra, by omega, FC, HK, f21.sub (sub_cons rfl (sub_cons rfl (sub_cons rfl sub_nil)))⟩
      · intro gk9 a22 w4 hI KL8 hKL8
        obtain ⟨k, Ax, cx, acc, hk, hacc, hra, hal, F, HK, f22⟩ := hI
        try clear f21
        have szw1x := HK.size
        refine wp_seq_k fun K9 hK9 => ?_
        refine wp_seq_k fun K10 hK10 => ?_
        refine C.region ?_
        refine L.val f22 wantedN rfl (by decide) (E.move f22 rfl) fun a23 f23 => ?_
        clear f22 a22
        refine L.val f23 wantedN rfl (by decide) (E.move f23 rfl) fun a24 f24 => ?_
        clear f23 a23
        refine L.val f24 wantedN rfl (by decide) (E.lenL f24 Try.underlying24 rfl) fun a25 f25 => ?_
        clear f24 a24
        refine L.val f25 wantedN rfl (by decide) (E.lss f25 rfl rfl) fun a26 f26 => ?_
        clear f25 a25
        refine wpList_nil (hK10 _ _ ?_)
        try clear hK10 K10
        have f27 := f26.sub (sub_cons (i := 1) rfl (sub_cons (i := 5) rfl (sub_cons (i := 6) rfl (sub_cons (i := 17) rfl (sub_cons (i := 18) rfl (sub_cons (i := 19) rfl (sub_cons (i := 20) rfl sub_nil)))))))
        clear f26
        first | refine f27.splitD 20 rfl (fun h2 f28 => ?_) (fun h2 f28 => ?_) | refine f27.splitN 20 rfl (fun h2 f28 => ?_) (fun h2 f28 => ?_) | refine f27.splitNB 20 rfl (fun h2 f28 => ?_) (fun h2 f28 => ?_) | refine f27.split 20 rfl (fun h2 f28 => ?_) (fun h2 f28 => ?_)
        · clear f27
          obtain ⟨d, hd⟩ : ∃ d, b[k]? = some d := ⟨b[k]'(by omega), List.getElem?_eq_getElem _⟩
          have hmy := (rises hrb).2 d (List.mem_of_getElem? hd)
          obtain ⟨bk, off, hA⟩ := A2.addr (i := k) (by omega)
          refine C.condT f28 rfl ?_
          refine wp_skip (hK9 _ _ ?_)
          try clear hK9 K9
          have f29 := f28.sub (sub_cons (i := 1) rfl (sub_cons (i := 5) rfl (sub_cons (i := 6) rfl (sub_cons (i := 17) rfl (sub_cons (i := 18) rfl (sub_cons (i := 19) rfl (sub_cons (i := 20) rfl sub_nil)))))))
          clear f28
          refine wp_seq_k fun K11 hK11 => ?_
          refine wp_block ?_
          refine C.region ?_
          refine L.val f29 wantedN rfl (by decide) (E.move f29 rfl) fun a30 f30 => ?_
          clear f29 a26
          refine L.val f30 wantedN rfl (by decide) (E.move f30 rfl) fun a31 f31 => ?_
          clear f30 a30
          refine L.val f31 wantedN rfl (by decide) (E.move f31 rfl) fun a32 f32 => ?_
          clear f31 a31
          refine L.val f32 wantedN rfl (by decide) (E.indexA f32 (by first | rfl | assumption) Try.underlying24 wsz32_g8 rfl rfl (by omega) (by omega)) fun a33 f33 => ?_
          clear f32 a32
          refine L.val f33 wantedN rfl (by decide) (by exact E.loadR f33 Try.underlying32 rfl wsz32_g8 rfl ((A2.kept HK).row hA hd) rfl) fun a34 f34 => ?_
          clear f33 a33
          refine L.call f34 wantedN rfl (by decide) (run_call Try.call25 (args2 f34 rfl rfl)) (AddR_any acc _ _ d _ F.sl (by omega)) ?_
          rintro e w5 ⟨kc5, A2', c2', rfl, F2⟩
          refine ⟨_, rfl, fun a35 f35 => ?_⟩
          clear f34 a34
          have szw5 := kc5.size
          replace HK := HK.trans kc5 (by simp)
          clear kc5
          refine L.val f35 wantedN rfl (by decide) (E.assign f35 rfl) fun a36 f36 => ?_
          clear f35 a35
          refine wpList_nil (hK11 _ _ ?_)
          try clear hK11 K11
          have f37 := f36.sub (sub_cons (i := 1) rfl (sub_cons (i := 5) rfl (sub_cons (i := 6) rfl (sub_cons (i := 17) rfl (sub_cons (i := 18) rfl (sub_cons (i := 19) rfl (sub_cons (i := 20) rfl (sub_cons (i := 23) rfl (sub_cons (i := 24) rfl (sub_cons (i := 25) rfl (sub_cons (i := 26) rfl (sub_cons (i := 27) rfl (sub_cons (i := 28) rfl sub_nil)))))))))))))
          clear f36
          refine C.region ?_
          refine L.val f37 wantedN rfl (by decide) (E.move f37 rfl) fun a38 f38 => ?_
          clear f37 a36
          refine L.val f38 wantedN rfl (by decide) (E.add f38 rfl rfl (IntWalk.i64_in _ (by omega))) fun a39 f39 => ?_
          clear f38 a38
          refine L.val f39 wantedN rfl (by decide) (E.assign f39 rfl) fun a40 f40 => ?_
          clear f39 a39
          refine wpList_nil (hKL8 _ _ (gk9 - 1) ?_ ?_)
          · omega
          · exact ⟨k + 1, A2', c2', addD acc d, by omega, by rw [hacc]; exact fold_next hd, dAddRight hra d, Nat.le_trans (add_len acc d) (by omega), F2.lower (by omega), HK, f40.sub (sub_cons rfl (sub_cons rfl (sub_cons rfl sub_nil)))⟩
        · clear f27
          have hend := h2
          refine C.condF f28 rfl ?_
          refine wp_exit (hK6 _ _ ?_)
          try clear hK6 K6
          have f29 := f28.sub (sub_cons (i := 5) rfl sub_nil)
          clear f28
          refine wp_seq_k fun K12 hK12 => ?_
          refine C.region ?_
          refine L.val f29 wantedN rfl (by decide) (E.move f29 rfl) fun a30 f30 => ?_
          clear f29 a26
          refine L.val f30 wantedN rfl (by decide) (E.assign f30 rfl) fun a31 f31 => ?_
          clear f30 a30
          refine wpList_nil (hK12 _ _ ?_)
          try clear hK12 K12
          have f32 := f31.sub (sub_cons (i := 4) rfl sub_nil)
          clear f31
          refine wp_ret ?_
          try simp only [Exit.inBlock, Exit.then]
          refine C.ret (P := Try.prog) (fn := Try.f22) f32 rfl rfl ?_
          exact join_fin hra0 hrb hacc (by omega) HK F

set_option maxHeartbeats 1000000 in
theorem Before_any (p q : Dt) (w : World) : Calls Try.prog 26 #[.agg (dcell p).toArray, .agg (dcell q).toArray] w (fun e w' => Kept [] w w' ∧ e = .returned (.bool (decide (lt3 p q)))) := by
  have HK : Kept [] w w := Kept.refl [] w
  refine C.enter Try.func26 rfl Try.ntmps26 rfl ?_
  intro a0 f0
  have f1 : Fr 16 a0 [(0, .agg (dcell p).toArray), (1, .agg (dcell q).toArray)] := f0
  clear f0
  refine wp_seq_k fun K0 hK0 => ?_
  refine C.region ?_
  refine L.box f1 wantedN (by decide) rfl rfl fun a2 w1 g0 N0 f2 => ?_
  have Bg0 := N0.blk
  have kg0 := N0.kept
  have log0 := N0.lo
  have ltg0 := Bg0.lt
  have szw1 := kg0.size
  have frg0 : w.heap.size ≤ g0 := Nat.le_trans HK.size log0
  replace HK := HK.trans kg0 (by simp)
  clear N0 kg0
  clear f1 a0
  refine L.box f2 wantedN (by decide) rfl rfl fun a3 w2 g1 N1 f3 => ?_
  have Bg1 := N1.blk
  have kg1 := N1.kept
  have log1 := N1.lo
  have ltg1 := Bg1.lt
  have szw2 := kg1.size
  have frg1 : w.heap.size ≤ g1 := Nat.le_trans HK.size log1
  have neg0_g1 : g0 ≠ g1 := by have := Bg0.lt; omega
  replace HK := HK.trans kg1 (by simp)
  replace Bg0 := Bg0.kept kg1 (by simp)
  clear N1 kg1
  clear f2 a2
  refine L.val f3 wantedN rfl (by decide) (E.assign f3 rfl) fun a4 f4 => ?_
  clear f3 a3
  refine wpList_nil (hK0 _ _ ?_)
  try clear hK0 K0
  have f5 := f4.sub (sub_cons (i := 2) rfl (sub_cons (i := 3) rfl (sub_cons (i := 4) rfl sub_nil)))
  clear f4
  refine wp_seq_k fun K1 hK1 => ?_
  refine R.begin (S := fun W => Kept [] w2 W) (by kernel_rfl) (by exact (Kept.refl _ _).drewN 1) ?_
  have hS1 : Kept [] w2 (w2.drewN 1) := (Kept.refl _ _).drewN 1
  have hd1 : Kept [] w2 (w2.drewN 1) := (Kept.refl _ _).drewN 1
  obtain ⟨w3, hww3⟩ : ∃ W, W = w2.drewN 1 := ⟨_, rfl⟩
  rw [← hww3] at hS1 hd1 ⊢
  clear hww3
  have szw3 := hS1.size
  refine R.take 0 f5 rfl rfl (by decide) (by kernel_rfl) (by kernel_rfl) (by kernel_rfl) (fun _ _ _ _ h => h) wantedN hS1 (fun W hW => (by first | exact E.loadB f5 Try.underlying32 rfl wsz32_g8 rfl (Bg0.kept hW (by simp)) rfl | exact E.loadB f5 Try.underlying32 rfl wsz32_g8 rfl (Bg1.kept hW (by simp)) rfl)) fun a6 f6 => ?_
  clear f5 a4
  refine R.take 1 f6 rfl rfl (by decide) (by kernel_rfl) (by kernel_rfl) (by kernel_rfl) (fun _ _ _ _ h => h) wantedN hS1 (fun W hW => (by first | exact E.loadB f6 Try.underlying32 rfl wsz32_g8 rfl (Bg0.kept hW (by simp)) rfl | exact E.loadB f6 Try.underlying32 rfl wsz32_g8 rfl (Bg1.kept hW (by simp)) rfl)) fun a7 f7 => ?_
  clear f6 a6
  refine R.take 3 f7 rfl rfl (by decide) (by kernel_rfl) (by kernel_rfl) (by kernel_rfl) (fun _ _ _ _ h => h) wantedN hS1 (fun W hW => (E.fieldAddr f7 Try.underlying32 rfl rfl wsz3_g8)) fun a8 f8 => ?_
  clear f7 a7
  refine R.take 4 f8 rfl rfl (by decide) (by kernel_rfl) (by kernel_rfl) (by kernel_rfl) (fun _ _ _ _ h => h) wantedN hS1 (fun W hW => (by first | exact E.load f8 Try.underlying3 rfl rfl ((Bg0.kept hW (by simp)).cl rfl) | exact E.load f8 Try.underlying3 rfl rfl ((Bg1.kept hW (by simp)).cl rfl))) fun a9 f9 => ?_
  clear f8 a8
  refine R.take 5 f9 rfl rfl (by decide) (by kernel_rfl) (by kernel_rfl) (by kernel_rfl) (fun _ _ _ _ h => h) wantedN hS1 (fun W hW => (E.fieldAddr f9 Try.underlying32 rfl rfl wsz3_g8)) fun a10 f10 => ?_
  clear f9 a9
  refine R.take 6 f10 rfl rfl (by decide) (by kernel_rfl) (by kernel_rfl) (by kernel_rfl) (fun _ _ _ _ h => h) wantedN hS1 (fun W hW => (by first | exact E.load f10 Try.underlying3 rfl rfl ((Bg0.kept hW (by simp)).cl rfl) | exact E.load f10 Try.underlying3 rfl rfl ((Bg1.kept hW (by simp)).cl rfl))) fun a11 f11 => ?_
  clear f10 a10
  refine R.call 2 f11 rfl rfl (by decide) (by kernel_rfl) wantedN (run_call Try.call45 (args2 f11 rfl rfl)) (lives_any p q _) ?_
  rintro e w4 ⟨kc4, rfl⟩
  replace hS1 := hS1.trans kc4 (by simp)
  refine ⟨_, rfl, hS1, fun a12 f12 => ?_⟩
  clear f11 a11
  have szw4 := kc4.size
  clear kc4
  refine R.call 7 f12 rfl rfl (by decide) (by kernel_rfl) wantedN (run_call Try.call49 (args2 f12 rfl rfl)) (cmp_any _ _ _) ?_
  rintro e w4x ⟨rfl, rfl⟩
  refine ⟨_, rfl, hS1, fun a13 f13 => ?_⟩
  clear f12 a12
  refine R.one 8 (by kernel_rfl) ?_
  refine O.buildSlice f13 rfl wantedN (by decide) (parts2 f13 rfl rfl) Try.underlying82 wzi3_g8 rfl rfl (wbs82_2_g8 _ _) (fun _ hk => hS1.trans hk (by simp)) fun a14 w5 g4 N4 hSn f14 => ?_
  clear f13 a13
  have Bg4 := N4.blk
  have kg4 := N4.kept
  have log4 := N4.lo
  have ltg4 := Bg4.lt
  have szw5 := kg4.size
  have szSw5 := hS1.size
  clear N4 kg4
  replace hS1 := hSn
  clear hSn
  refine R.call 9 f14 rfl rfl (by decide) (by kernel_rfl) wantedN (run_call Try.call48 (args1 f14 rfl)) (or_any _ _ _ _ _ Bg4) ?_
  rintro e w5x ⟨rfl, rfl⟩
  refine ⟨_, rfl, hS1, fun a15 f15 => ?_⟩
  clear f14 a14
  refine R.take 10 f15 rfl rfl (by decide) (by kernel_rfl) (by kernel_rfl) (by kernel_rfl) (fun _ _ _ _ h => h) wantedN hS1 (fun W hW => (E.lss f15 rfl rfl)) fun a16 f16 => ?_
  clear f15 a15
  refine R.take 11 f16 rfl rfl (by decide) (by kernel_rfl) (by kernel_rfl) (by kernel_rfl) (fun _ _ _ _ h => h) wantedN hS1 (fun W hW => (E.assign f16 rfl)) fun a17 f17 => ?_
  clear f16 a16
  have szw5r := hS1.size
  replace HK := HK.trans hS1 (by simp)
  replace Bg0 := Bg0.kept hS1 (by simp)
  replace Bg1 := Bg1.kept hS1 (by simp)
  clear hS1
  refine R.done (by kernel_rfl) (hK1 _ _ ?_)
  try clear hK1 K1
  have f18 := f17.sub (sub_cons (i := 4) rfl sub_nil)
  clear f17
  refine wp_ret ?_
  try simp only [Exit.inBlock, Exit.then]
  refine C.ret (P := Try.prog) (fn := Try.f26) f18 rfl rfl ?_
  exact ⟨HK, by rw [before_is]⟩

set_option maxHeartbeats 1000000 in
theorem BeforeR_any (p q : Dt) (w : World) : Calls Try.prog 27 #[.agg (dcell p).toArray, .agg (dcell q).toArray] w (fun e w' => Kept [] w w' ∧ e = .returned (.bool (decide (lt3 p q)))) := by
  have HK : Kept [] w w := Kept.refl [] w
  refine C.enter Try.func27 rfl Try.ntmps27 rfl ?_
  intro a0 f0
  have f1 : Fr 30 a0 [(0, .agg (dcell p).toArray), (1, .agg (dcell q).toArray)] := f0
  clear f0
  refine wp_seq_k fun K0 hK0 => ?_
  refine C.region ?_
  refine L.box f1 wantedN (by decide) rfl rfl fun a2 w1 g0 N0 f2 => ?_
  have Bg0 := N0.blk
  have kg0 := N0.kept
  have log0 := N0.lo
  have ltg0 := Bg0.lt
  have szw1 := kg0.size
  have frg0 : w.heap.size ≤ g0 := Nat.le_trans HK.size log0
  replace HK := HK.trans kg0 (by simp)
  clear N0 kg0
  clear f1 a0
  refine L.box f2 wantedN (by decide) rfl rfl fun a3 w2 g1 N1 f3 => ?_
  have Bg1 := N1.blk
  have kg1 := N1.kept
  have log1 := N1.lo
  have ltg1 := Bg1.lt
  have szw2 := kg1.size
  have frg1 : w.heap.size ≤ g1 := Nat.le_trans HK.size log1
  have neg0_g1 : g0 ≠ g1 := by have := Bg0.lt; omega
  replace HK := HK.trans kg1 (by simp)
  replace Bg0 := Bg0.kept kg1 (by simp)
  clear N1 kg1
  clear f2 a2
  refine L.val f3 wantedN rfl (by decide) (E.assign f3 rfl) fun a4 f4 => ?_
  clear f3 a3
  refine wpList_nil (hK0 _ _ ?_)
  try clear hK0 K0
  have f5 := f4.sub (sub_cons (i := 2) rfl (sub_cons (i := 3) rfl (sub_cons (i := 4) rfl sub_nil)))
  clear f4
  refine wp_seq_k fun K1 hK1 => ?_
  refine wp_seq_k fun K2 hK2 => ?_
  refine C.region ?_
  refine L.val f5 wantedN rfl (by decide) (E.fieldAddr f5 Try.underlying32 rfl rfl wsz3_g8) fun a6 f6 => ?_
  clear f5 a4
  refine L.val f6 wantedN rfl (by decide) (by first | exact E.load f6 Try.underlying3 rfl rfl ((Bg0).cl rfl) | exact E.load f6 Try.underlying3 rfl rfl ((Bg1).cl rfl)) fun a7 f7 => ?_
  clear f6 a6
  refine L.val f7 wantedN rfl (by decide) (E.fieldAddr f7 Try.underlying32 rfl rfl wsz3_g8) fun a8 f8 => ?_
  clear f7 a7
  refine L.val f8 wantedN rfl (by decide) (by first | exact E.load f8 Try.underlying3 rfl rfl ((Bg0).cl rfl) | exact E.load f8 Try.underlying3 rfl rfl ((Bg1).cl rfl)) fun a9 f9 => ?_
  clear f8 a8
  refine L.val f9 wantedN rfl (by decide) (E.neq f9 rfl rfl) fun a10 f10 => ?_
  clear f9 a9
  refine wpList_nil (hK2 _ _ ?_)
  try clear hK2 K2
  have f11 := f10.sub (sub_cons (i := 2) rfl (sub_cons (i := 3) rfl (sub_cons (i := 4) rfl (sub_cons (i := 9) rfl sub_nil))))
  clear f10
  first | refine f11.splitD 9 rfl (fun h0 f12 => ?_) (fun h0 f12 => ?_) | refine f11.splitN 9 rfl (fun h0 f12 => ?_) (fun h0 f12 => ?_) | refine f11.splitNB 9 rfl (fun h0 f12 => ?_) (fun h0 f12 => ?_) | refine f11.split 9 rfl (fun h0 f12 => ?_) (fun h0 f12 => ?_)
  · clear f11
    have e1 := h0
    refine C.condT f12 rfl ?_
    refine wp_seq_k fun K3 hK3 => ?_
    refine C.region ?_
    refine L.val f12 wantedN rfl (by decide) (E.fieldAddr f12 Try.underlying32 rfl rfl wsz3_g8) fun a13 f13 => ?_
    clear f12 a10
    refine L.val f13 wantedN rfl (by decide) (by first | exact E.load f13 Try.underlying3 rfl rfl ((Bg0).cl rfl) | exact E.load f13 Try.underlying3 rfl rfl ((Bg1).cl rfl)) fun a14 f14 => ?_
    clear f13 a13
    refine L.val f14 wantedN rfl (by decide) (E.fieldAddr f14 Try.underlying32 rfl rfl wsz3_g8) fun a15 f15 => ?_
    clear f14 a14
    refine L.val f15 wantedN rfl (by decide) (by first | exact E.load f15 Try.underlying3 rfl rfl ((Bg0).cl rfl) | exact E.load f15 Try.underlying3 rfl rfl ((Bg1).cl rfl)) fun a16 f16 => ?_
    clear f15 a15
    refine L.val f16 wantedN rfl (by decide) (E.lss f16 rfl rfl) fun a17 f17 => ?_
    clear f16 a16
    refine L.val f17 wantedN rfl (by decide) (E.assign f17 rfl) fun a18 f18 => ?_
    clear f17 a17
    refine wpList_nil (hK3 _ _ ?_)
    try clear hK3 K3
    have f19 := f18.sub (sub_cons (i := 2) rfl (sub_cons (i := 3) rfl (sub_cons (i := 4) rfl sub_nil)))
    clear f18
    refine wp_ret ?_
    try simp only [Exit.inBlock, Exit.then]
    refine C.ret (P := Try.prog) (fn := Try.f27) f19 rfl rfl ?_
    exact ⟨HK, by rw [befR1 e1]⟩
  · clear f11
    have e1 := h0
    refine C.condF f12 rfl ?_
    refine wp_skip (hK1 _ _ ?_)
    try clear hK1 K1
    have f13 := f12.sub (sub_cons (i := 2) rfl (sub_cons (i := 3) rfl (sub_cons (i := 4) rfl sub_nil)))
    clear f12
    refine wp_seq_k fun K4 hK4 => ?_
    refine wp_seq_k fun K5 hK5 => ?_
    refine C.region ?_
    refine L.val f13 wantedN rfl (by decide) (E.fieldAddr f13 Try.underlying32 rfl rfl wsz3_g8) fun a14 f14 => ?_
    clear f13 a10
    refine L.val f14 wantedN rfl (by decide) (by first | exact E.load f14 Try.underlying3 rfl rfl ((Bg0).cl rfl) | exact E.load f14 Try.underlying3 rfl rfl ((Bg1).cl rfl)) fun a15 f15 => ?_
    clear f14 a14
    refine L.val f15 wantedN rfl (by decide) (E.fieldAddr f15 Try.underlying32 rfl rfl wsz3_g8) fun a16 f16 => ?_
    clear f15 a15
    refine L.val f16 wantedN rfl (by decide) (by first | exact E.load f16 Try.underlying3 rfl rfl ((Bg0).cl rfl) | exact E.load f16 Try.underlying3 rfl rfl ((Bg1).cl rfl)) fun a17 f17 => ?_
    clear f16 a16
    refine L.val f17 wantedN rfl (by decide) (E.neq f17 rfl rfl) fun a18 f18 => ?_
    clear f17 a17
    refine wpList_nil (hK5 _ _ ?_)
    try clear hK5 K5
    have f19 := f18.sub (sub_cons (i := 2) rfl (sub_cons (i := 3) rfl (sub_cons (i := 4) rfl (sub_cons (i := 19) rfl sub_nil))))
    clear f18
    first | refine f19.splitD 19 rfl (fun h1 f20 => ?_) (fun h1 f20 => ?_) | refine f19.splitN 19 rfl (fun h1 f20 => ?_) (fun h1 f20 => ?_) | refine f19.splitNB 19 rfl (fun h1 f20 => ?_) (fun h1 f20 => ?_) | refine f19.split 19 rfl (fun h1 f20 => ?_) (fun h1 f20 => ?_)
    · clear f19
      have e2 := h1
      refine C.condT f20 rfl ?_
      refine wp_seq_k fun K6 hK6 => ?_
      refine C.region ?_
      refine L.val f20 wantedN rfl (by decide) (E.fieldAddr f20 Try.underlying32 rfl rfl wsz3_g8) fun a21 f21 => ?_
      clear f20 a18
      refine L.val f21 wantedN rfl (by decide) (by first | exact E.load f21 Try.underlying3 rfl rfl ((Bg0).cl rfl) | exact E.load f21 Try.underlying3 rfl rfl ((Bg1).cl rfl)) fun a22 f22 => ?_
      clear f21 a21
      refine L.val f22 wantedN rfl (by decide) (E.fieldAddr f22 Try.underlying32 rfl rfl wsz3_g8) fun a23 f23 => ?_
      clear f22 a22
      refine L.val f23 wantedN rfl (by decide) (by first | exact E.load f23 Try.underlying3 rfl rfl ((Bg0).cl rfl) | exact E.load f23 Try.underlying3 rfl rfl ((Bg1).cl rfl)) fun a24 f24 => ?_
      clear f23 a23
      refine L.val f24 wantedN rfl (by decide) (E.lss f24 rfl rfl) fun a25 f25 => ?_
      clear f24 a24
      refine L.val f25 wantedN rfl (by decide) (E.assign f25 rfl) fun a26 f26 => ?_
      clear f25 a25
      refine wpList_nil (hK6 _ _ ?_)
      try clear hK6 K6
      have f27 := f26.sub (sub_cons (i := 2) rfl (sub_cons (i := 3) rfl (sub_cons (i := 4) rfl sub_nil)))
      clear f26
      refine wp_ret ?_
      try simp only [Exit.inBlock, Exit.then]
      refine C.ret (P := Try.prog) (fn := Try.f27) f27 rfl rfl ?_
      exact ⟨HK, by rw [befR2 (by simpa using e1) e2]⟩
    · clear f19
      have e2 := h1
      refine C.condF f20 rfl ?_
      refine wp_skip (hK4 _ _ ?_)
      try clear hK4 K4
      have f21 := f20.sub (sub_cons (i := 2) rfl (sub_cons (i := 3) rfl (sub_cons (i := 4) rfl sub_nil)))
      clear f20
      refine wp_seq_k fun K7 hK7 => ?_
      refine C.region ?_
      refine L.val f21 wantedN rfl (by decide) (E.fieldAddr f21 Try.underlying32 rfl rfl wsz3_g8) fun a22 f22 => ?_
      clear f21 a18
      refine L.val f22 wantedN rfl (by decide) (by first | exact E.load f22 Try.underlying3 rfl rfl ((Bg0).cl rfl) | exact E.load f22 Try.underlying3 rfl rfl ((Bg1).cl rfl)) fun a23 f23 => ?_
      clear f22 a22
      refine L.val f23 wantedN rfl (by decide) (E.fieldAddr f23 Try.underlying32 rfl rfl wsz3_g8) fun a24 f24 => ?_
      clear f23 a23
      refine L.val f24 wantedN rfl (by decide) (by first | exact E.load f24 Try.underlying3 rfl rfl ((Bg0).cl rfl) | exact E.load f24 Try.underlying3 rfl rfl ((Bg1).cl rfl)) fun a25 f25 => ?_
      clear f24 a24
      refine L.val f25 wantedN rfl (by decide) (E.lss f25 rfl rfl) fun a26 f26 => ?_
      clear f25 a25
      refine L.val f26 wantedN rfl (by decide) (E.assign f26 rfl) fun a27 f27 => ?_
      clear f26 a26
      refine wpList_nil (hK7 _ _ ?_)
      try clear hK7 K7
      have f28 := f27.sub (sub_cons (i := 4) rfl sub_nil)
      clear f27
      refine wp_ret ?_
      try simp only [Exit.inBlock, Exit.then]
      refine C.ret (P := Try.prog) (fn := Try.f27) f28 rfl rfl ?_
      exact ⟨HK, by rw [befR3 (by simpa using e1) (by simpa using e2)]⟩

set_option maxHeartbeats 1000000 in
theorem of_any (l : List Int) (A : Option Addr) (c : Nat) (w : World) (A1 : Us w A l) (hm : l.length ≤ 20) (hb : ∀ x ∈ l, 0 ≤ x ∧ x ≤ 65535) : Calls Try.prog 12 #[.slice A l.length c] w (DotsPost (ofL l) w) := by
  have HK : Kept [] w w := Kept.refl [] w
  refine C.enter Try.func12 rfl Try.ntmps12 rfl ?_
  intro a0 f0
  have f1 : Fr 37 a0 [(0, .slice A l.length c)] := f0
  clear f0
  refine wp_seq_k fun K0 hK0 => ?_
  refine C.region ?_
  refine L.val f1 wantedN rfl (by decide) (E.assign f1 rfl) fun a2 f2 => ?_
  clear f1 a0
  refine wpList_nil (hK0 _ _ ?_)
  try clear hK0 K0
  have f3 := f2.sub (sub_cons (i := 0) rfl (sub_cons (i := 2) rfl sub_nil))
  clear f2
  refine wp_seq_k fun K1 hK1 => ?_
  refine C.region ?_
  refine L.val f3 wantedN rfl (by decide) (E.assign f3 rfl) fun a4 f4 => ?_
  clear f3 a2
  refine wpList_nil (hK1 _ _ ?_)
  try clear hK1 K1
  have f5 := f4.sub (sub_cons (i := 0) rfl (sub_cons (i := 2) rfl (sub_cons (i := 3) rfl sub_nil)))
  clear f4
  refine wp_seq_k fun K2 hK2 => ?_
  refine wp_seq_k fun K3 hK3 => ?_
  refine C.region ?_
  refine L.val f5 wantedN rfl (by decide) (E.assign f5 rfl) fun a6 f6 => ?_
  clear f5 a4
  refine wpList_nil (hK3 _ _ ?_)
  try clear hK3 K3
  have f7 := f6.sub (sub_cons (i := 0) rfl (sub_cons (i := 2) rfl (sub_cons (i := 3) rfl (sub_cons (i := 4) rfl sub_nil))))
  clear f6
  refine wp_block ?_
  refine C.loop (fun gk a W => ∃ (k : Nat) (Aa : Option Addr) (ca : Nat) (acc : List Dt), k + gk = l.length ∧ Kept [] w W ∧ ofL l = (l.drop k).foldl addN acc ∧ acc.length ≤ k ∧ Fresh w W 32 3 Aa acc.length ca (dcells acc) ∧ Fr 37 a [(0, .slice A l.length c), (3, .slice Aa acc.length ca), (4, .int .i64 k)]) (l.length) ?_ ?_
  · exact ⟨0, none, 0, [], by omega, HK, rfl, by simp, Fresh.nil _ _ _ _, f7.sub (sub_cons rfl (sub_cons rfl (sub_cons rfl sub_nil)))⟩
  · intro gk5 a8 w1 hI KL4 hKL4
    obtain ⟨k, Aa, ca, acc, hk, HK, hq, hac, FA, f8⟩ := hI
    try clear f7
    have hw1 := HK.size
    refine wp_seq_k fun K5 hK5 => ?_
    refine wp_seq_k fun K6 hK6 => ?_
    refine C.region ?_
    refine L.val f8 wantedN rfl (by decide) (E.move f8 rfl) fun a9 f9 => ?_
    clear f8 a8
    refine L.val f9 wantedN rfl (by decide) (E.move f9 rfl) fun a10 f10 => ?_
    clear f9 a9
    refine L.val f10 wantedN rfl (by decide) (E.lenL f10 Try.underlying22 rfl) fun a11 f11 => ?_
    clear f10 a10
    refine L.val f11 wantedN rfl (by decide) (E.lss f11 rfl rfl) fun a12 f12 => ?_
    clear f11 a11
    refine wpList_nil (hK6 _ _ ?_)
    try clear hK6 K6
    have f13 := f12.sub (sub_cons (i := 0) rfl (sub_cons (i := 3) rfl (sub_cons (i := 4) rfl (sub_cons (i := 5) rfl (sub_cons (i := 6) rfl (sub_cons (i := 7) rfl (sub_cons (i := 8) rfl sub_nil)))))))
    clear f12
    first | refine f13.splitD 8 rfl (fun h0 f14 => ?_) (fun h0 f14 => ?_) | refine f13.splitN 8 rfl (fun h0 f14 => ?_) (fun h0 f14 => ?_) | refine f13.splitNB 8 rfl (fun h0 f14 => ?_) (fun h0 f14 => ?_) | refine f13.split 8 rfl (fun h0 f14 => ?_) (fun h0 f14 => ?_)
    · clear f13
      obtain ⟨x, hx⟩ : ∃ x, l[k]? = some x := ⟨l[k]'(by omega), List.getElem?_eq_getElem _⟩
      have hbx := hb x (List.mem_of_getElem? hx)
      obtain ⟨bk, off, hA⟩ := Sl.addr A1 (by omega)
      have hst := of_step hx acc
      refine C.condT f14 rfl ?_
      refine wp_skip (hK5 _ _ ?_)
      try clear hK5 K5
      have f15 := f14.sub (sub_cons (i := 0) rfl (sub_cons (i := 3) rfl (sub_cons (i := 4) rfl (sub_cons (i := 5) rfl (sub_cons (i := 6) rfl (sub_cons (i := 7) rfl (sub_cons (i := 8) rfl sub_nil)))))))
      clear f14
      refine wp_seq_k fun K7 hK7 => ?_
      refine wp_block ?_
      refine R.begin (S := fun W => Kept [] w1 W) (by kernel_rfl) (by exact (Kept.refl _ _).drewN 1) ?_
      have hS5 : Kept [] w1 (w1.drewN 1) := (Kept.refl _ _).drewN 1
      have hd5 : Kept [] w1 (w1.drewN 1) := (Kept.refl _ _).drewN 1
      obtain ⟨w2, hww2⟩ : ∃ W, W = w1.drewN 1 := ⟨_, rfl⟩
      rw [← hww2] at hS5 hd5 ⊢
      clear hww2
      have szw2 := hS5.size
      refine R.take 0 f15 rfl rfl (by decide) (by kernel_rfl) (by kernel_rfl) (by kernel_rfl) (fun _ _ _ _ h => h) wantedN hS5 (fun W hW => (E.move f15 rfl)) fun a16 f16 => ?_
      clear f15 a12
      refine R.take 1 f16 rfl rfl (by decide) (by kernel_rfl) (by kernel_rfl) (by kernel_rfl) (fun _ _ _ _ h => h) wantedN hS5 (fun W hW => (E.move f16 rfl)) fun a17 f17 => ?_
      clear f16 a16
      refine R.take 2 f17 rfl rfl (by decide) (by kernel_rfl) (by kernel_rfl) (by kernel_rfl) (fun _ _ _ _ h => h) wantedN hS5 (fun W hW => (E.move f17 rfl)) fun a18 f18 => ?_
      clear f17 a17
      refine R.take 3 f18 rfl rfl (by decide) (by kernel_rfl) (by kernel_rfl) (by kernel_rfl) (fun _ _ _ _ h => h) wantedN hS5 (fun W hW => (E.indexA f18 (by first | rfl | assumption) Try.underlying22 wsz30_g8 rfl rfl (by omega) (by omega))) fun a19 f19 => ?_
      clear f18 a18
      refine R.take 4 f19 rfl rfl (by decide) (by kernel_rfl) (by kernel_rfl) (by kernel_rfl) (fun _ _ _ _ h => h) wantedN hS5 (fun W hW => (by exact E.load f19 Try.underlying30 rfl rfl (us_cell (A1.kept (HK.trans hW (by simp))) hA hx))) fun a20 f20 => ?_
      clear f19 a19
      refine R.take 5 f20 rfl rfl (by decide) (by kernel_rfl) (by kernel_rfl) (by kernel_rfl) (fun _ _ _ _ h => h) wantedN hS5 (fun W hW => (E.rem f20 rfl rfl (by omega) (Int.tmod_eq_emod_of_nonneg (by omega)))) fun a21 f21 => ?_
      clear f20 a20
      refine R.take 6 f21 rfl rfl (by decide) (by kernel_rfl) (by kernel_rfl) (by kernel_rfl) (fun _ _ _ _ h => h) wantedN hS5 (fun W hW => (E.conv f21 Try.underlying30 Try.underlying3 rfl (IntWalk.i64_in _ (by omega)))) fun a22 f22 => ?_
      clear f21 a21
      refine R.take 7 f22 rfl rfl (by decide) (by kernel_rfl) (by kernel_rfl) (by kernel_rfl) (fun _ _ _ _ h => h) wantedN hS5 (fun W hW => (E.move f22 rfl)) fun a23 f23 => ?_
      clear f22 a22
      refine R.take 8 f23 rfl rfl (by decide) (by kernel_rfl) (by kernel_rfl) (by kernel_rfl) (fun _ _ _ _ h => h) wantedN hS5 (fun W hW => (E.move f23 rfl)) fun a24 f24 => ?_
      clear f23 a23
      refine R.take 9 f24 rfl rfl (by decide) (by kernel_rfl) (by kernel_rfl) (by kernel_rfl) (fun _ _ _ _ h => h) wantedN hS5 (fun W hW => (E.indexA f24 (by first | rfl | assumption) Try.underlying22 wsz30_g8 rfl rfl (by omega) (by omega))) fun a25 f25 => ?_
      clear f24 a24
      refine R.take 10 f25 rfl rfl (by decide) (by kernel_rfl) (by kernel_rfl) (by kernel_rfl) (fun _ _ _ _ h => h) wantedN hS5 (fun W hW => (by exact E.load f25 Try.underlying30 rfl rfl (us_cell (A1.kept (HK.trans hW (by simp))) hA hx))) fun a26 f26 => ?_
      clear f25 a25
      refine R.take 11 f26 rfl rfl (by decide) (by kernel_rfl) (by kernel_rfl) (by kernel_rfl) (fun _ _ _ _ h => h) wantedN hS5 (fun W hW => (E.quo f26 rfl rfl (by omega) (u16_quo _ _ ⟨by omega, by omega, by omega⟩))) fun a27 f27 => ?_
      clear f26 a26
      refine R.take 12 f27 rfl rfl (by decide) (by kernel_rfl) (by kernel_rfl) (by kernel_rfl) (fun _ _ _ _ h => h) wantedN hS5 (fun W hW => (E.rem f27 rfl rfl (by omega) (Int.tmod_eq_emod_of_nonneg (by omega)))) fun a28 f28 => ?_
      clear f27 a27
      refine R.take 13 f28 rfl rfl (by decide) (by kernel_rfl) (by kernel_rfl) (by kernel_rfl) (fun _ _ _ _ h => h) wantedN hS5 (fun W hW => (E.conv f28 Try.underlying30 Try.underlying3 rfl (IntWalk.i64_in _ (by omega)))) fun a29 f29 => ?_
      clear f28 a28
      refine R.take 14 f29 rfl rfl (by decide) (by kernel_rfl) (by kernel_rfl) (by kernel_rfl) (fun _ _ _ _ h => h) wantedN hS5 (fun W hW => (E.add f29 rfl rfl (IntWalk.i64_in _ (by omega)))) fun a30 f30 => ?_
      clear f29 a29
      refine R.take 15 f30 rfl rfl (by decide) (by kernel_rfl) (by kernel_rfl) (by kernel_rfl) (fun _ _ _ _ h => h) wantedN hS5 (fun W hW => (E.move f30 rfl)) fun a31 f31 => ?_
      clear f30 a30
      refine R.take 16 f31 rfl rfl (by decide) (by kernel_rfl) (by kernel_rfl) (by kernel_rfl) (fun _ _ _ _ h => h) wantedN hS5 (fun W hW => (E.move f31 rfl)) fun a32 f32 => ?_
      clear f31 a31
      refine R.take 17 f32 rfl rfl (by decide) (by kernel_rfl) (by kernel_rfl) (by kernel_rfl) (fun _ _ _ _ h => h) wantedN hS5 (fun W hW => (E.indexA f32 (by first | rfl | assumption) Try.underlying22 wsz30_g8 rfl rfl (by omega) (by omega))) fun a33 f33 => ?_
      clear f32 a32
      refine R.take 18 f33 rfl rfl (by decide) (by kernel_rfl) (by kernel_rfl) (by kernel_rfl) (fun _ _ _ _ h => h) wantedN hS5 (fun W hW => (by exact E.load f33 Try.underlying30 rfl rfl (us_cell (A1.kept (HK.trans hW (by simp))) hA hx))) fun a34 f34 => ?_
      clear f33 a33
      refine R.take 19 f34 rfl rfl (by decide) (by kernel_rfl) (by kernel_rfl) (by kernel_rfl) (fun _ _ _ _ h => h) wantedN hS5 (fun W hW => (E.quo f34 rfl rfl (by omega) (u16_quo _ _ ⟨by omega, by omega, by omega⟩))) fun a35 f35 => ?_
      clear f34 a34
      refine R.take 20 f35 rfl rfl (by decide) (by kernel_rfl) (by kernel_rfl) (by kernel_rfl) (fun _ _ _ _ h => h) wantedN hS5 (fun W hW => (E.rem f35 rfl rfl (by omega) (Int.tmod_eq_emod_of_nonneg (by omega)))) fun a36 f36 => ?_
      clear f35 a35
      refine R.take 21 f36 rfl rfl (by decide) (by kernel_rfl) (by kernel_rfl) (by kernel_rfl) (fun _ _ _ _ h => h) wantedN hS5 (fun W hW => (E.conv f36 Try.underlying30 Try.underlying3 rfl (IntWalk.i64_in _ (by omega)))) fun a37 f37 => ?_
      clear f36 a36
      refine R.take 22 f37 rfl rfl (by decide) (by kernel_rfl) (by kernel_rfl) (by kernel_rfl) (fun _ _ _ _ h => h) wantedN hS5 (fun W hW => (E.add f37 rfl rfl (IntWalk.i64_in _ (by omega)))) fun a38 f38 => ?_
      clear f37 a37
      refine R.take 23 f38 rfl rfl (by decide) (by kernel_rfl) (by kernel_rfl) (by kernel_rfl) (fun _ _ _ _ h => h) wantedN hS5 (fun W hW => (E.build f38 (parts3 f38 rfl rfl rfl) (wbl32_0_1_2_g8 _ _ _))) fun a39 f39 => ?_
      clear f38 a38
      refine R.call 24 f39 rfl rfl (by decide) (by kernel_rfl) wantedN (run_call Try.call25 (args2 f39 rfl rfl)) (AddR_any acc _ _ (dotOf x) _ (FA.kept0 hS5).sl (by omega)) ?_
      rintro e w3 ⟨kc3, Ac, cc, rfl, FC⟩
      replace hS5 := hS5.trans kc3 (by simp)
      refine ⟨_, rfl, hS5, fun a40 f40 => ?_⟩
      clear f39 a39
      have szw3 := kc3.size
      clear kc3
      refine R.take 25 f40 rfl rfl (by decide) (by kernel_rfl) (by kernel_rfl) (by kernel_rfl) (fun _ _ _ _ h => h) wantedN hS5 (fun W hW => (E.assign f40 rfl)) fun a41 f41 => ?_
      clear f40 a40
      have szw3r := hS5.size
      replace HK := HK.trans hS5 (by simp)
      replace FA := FA.kept0 hS5
      clear hS5
      refine R.done (by kernel_rfl) (hK7 _ _ ?_)
      try clear hK7 K7
      have f42 := f41.sub (sub_cons (i := 0) rfl (sub_cons (i := 3) rfl (sub_cons (i := 4) rfl (sub_cons (i := 5) rfl (sub_cons (i := 6) rfl (sub_cons (i := 7) rfl (sub_cons (i := 8) rfl (sub_cons (i := 11) rfl (sub_cons (i := 12) rfl (sub_cons (i := 13) rfl (sub_cons (i := 14) rfl (sub_cons (i := 15) rfl (sub_cons (i := 16) rfl (sub_cons (i := 17) rfl (sub_cons (i := 18) rfl (sub_cons (i := 19) rfl (sub_cons (i := 20) rfl (sub_cons (i := 21) rfl (sub_cons (i := 22) rfl (sub_cons (i := 23) rfl (sub_cons (i := 24) rfl (sub_cons (i := 25) rfl (sub_cons (i := 26) rfl (sub_cons (i := 27) rfl (sub_cons (i := 28) rfl (sub_cons (i := 29) rfl (sub_cons (i := 30) rfl (sub_cons (i := 31) rfl (sub_cons (i := 32) rfl (sub_cons (i := 33) rfl (sub_cons (i := 34) rfl (sub_cons (i := 35) rfl sub_nil))))))))))))))))))))))))))))))))
      clear f41
      refine C.region ?_
      refine L.val f42 wantedN rfl (by decide) (E.move f42 rfl) fun a43 f43 => ?_
      clear f42 a41
      refine L.val f43 wantedN rfl (by decide) (E.add f43 rfl rfl (IntWalk.i64_in _ (by omega))) fun a44 f44 => ?_
      clear f43 a43
      refine L.val f44 wantedN rfl (by decide) (E.assign f44 rfl) fun a45 f45 => ?_
      clear f44 a44
      refine wpList_nil (hKL4 _ _ (gk5 - 1) ?_ ?_)
      · omega
      · exact ⟨k + 1, Ac, cc, addD acc (dotOf x), by omega, HK, by rw [hq, hst], Nat.le_trans (add_len _ _) (by omega), FC.lower (by omega), f45.sub (sub_cons rfl (sub_cons rfl (sub_cons rfl sub_nil)))⟩
    · clear f13
      refine C.condF f14 rfl ?_
      refine wp_exit (hK2 _ _ ?_)
      try clear hK2 K2
      have f15 := f14.sub (sub_cons (i := 3) rfl sub_nil)
      clear f14
      refine wp_seq_k fun K8 hK8 => ?_
      refine C.region ?_
      refine L.val f15 wantedN rfl (by decide) (E.move f15 rfl) fun a16 f16 => ?_
      clear f15 a12
      refine L.val f16 wantedN rfl (by decide) (E.assign f16 rfl) fun a17 f17 => ?_
      clear f16 a16
      refine wpList_nil (hK8 _ _ ?_)
      try clear hK8 K8
      have f18 := f17.sub (sub_cons (i := 2) rfl sub_nil)
      clear f17
      refine wp_ret ?_
      try simp only [Exit.inBlock, Exit.then]
      refine C.ret (P := Try.prog) (fn := Try.f12) f18 rfl rfl ?_
      rw [List.drop_eq_nil_of_le (by omega)] at hq
      have e : ofL l = acc := hq
      exact ⟨HK, Aa, ca, by rw [e], by rw [e]; exact FA⟩

set_option maxHeartbeats 1000000 in
theorem known_any (w : World) : Calls Try.prog 11 #[] w (fun e w' => Kept [] w w' ∧ e = .returned (.bool true)) := by
  have HK : Kept [] w w := Kept.refl [] w
  refine C.enter Try.func11 rfl Try.ntmps11 rfl ?_
  intro a0 f0
  have f1 : Fr 38 a0 [] := f0
  clear f0
  refine wp_seq_k fun K0 hK0 => ?_
  refine C.region ?_
  refine L.val f1 wantedN rfl (by decide) (E.assign f1 rfl) fun a2 f2 => ?_
  clear f1 a0
  refine wpList_nil (hK0 _ _ ?_)
  try clear hK0 K0
  have f3 := f2.sub (sub_cons (i := 0) rfl sub_nil)
  clear f2
  refine wp_seq_k fun K1 hK1 => ?_
  refine C.region ?_
  refine L.val f3 wantedN rfl (by decide) (E.build f3 (parts3 f3 rfl rfl rfl) (wbl32_0_1_2_g8 _ _ _)) fun a4 f4 => ?_
  clear f3 a2
  refine L.call f4 wantedN rfl (by decide) (run_call Try.call17 (args2 f4 rfl rfl)) (Add_any [] none 0 ⟨0, 1, 3⟩ _ (Ds.nil _ _) (by simp)) ?_
  rintro e w1 ⟨kc1, Av, cv, rfl, FV⟩
  rw [show addD [] ⟨0, 1, 3⟩ = [⟨0, 1, 3⟩] by rfl] at FV
  refine ⟨_, rfl, fun a5 f5 => ?_⟩
  clear f4 a4
  have szw1 := kc1.size
  replace HK := HK.trans kc1 (by simp)
  clear kc1
  refine L.val f5 wantedN rfl (by decide) (E.assign f5 rfl) fun a6 f6 => ?_
  clear f5 a5
  refine wpList_nil (hK1 _ _ ?_)
  try clear hK1 K1
  have f7 := f6.sub (sub_cons (i := 0) rfl (sub_cons (i := 1) rfl sub_nil))
  clear f6
  refine wp_seq_k fun K2 hK2 => ?_
  refine C.region ?_
  refine L.val f7 wantedN rfl (by decide) (E.move f7 rfl) fun a8 f8 => ?_
  clear f7 a6
  refine L.val f8 wantedN rfl (by decide) (E.build f8 (parts3 f8 rfl rfl rfl) (wbl32_0_1_2_g8 _ _ _)) fun a9 f9 => ?_
  clear f8 a8
  refine L.call f9 wantedN rfl (by decide) (run_call Try.call18 (args2 f9 rfl rfl)) (Has_any [⟨0, 1, 3⟩] _ _ ⟨0, 1, 2⟩ _ FV.sl (by simp)) ?_
  rintro e w2 ⟨kc2, rfl⟩
  refine ⟨_, rfl, fun a10 f10 => ?_⟩
  clear f9 a9
  have szw2 := kc2.size
  replace HK := HK.trans kc2 (by simp)
  replace FV := FV.kept0 kc2
  clear kc2
  have f11 := f10.as (i := 6) (v' := .bool true) rfl (by rfl)
  clear f10
  refine L.val f11 wantedN rfl (by decide) (E.move f11 rfl) fun a12 f12 => ?_
  clear f11 a10
  refine L.val f12 (f12.yes rfl rfl) rfl (by decide) (E.move f12 rfl) fun a13 f13 => ?_
  clear f12 a12
  refine L.val f13 (f13.yes rfl rfl) rfl (by decide) (E.build f13 (parts3 f13 rfl rfl rfl) (wbl32_0_1_2_g8 _ _ _)) fun a14 f14 => ?_
  clear f13 a13
  refine L.call f14 (f14.yes rfl rfl) rfl (by decide) (run_call Try.call18 (args2 f14 rfl rfl)) (Has_any [⟨0, 1, 3⟩] _ _ ⟨0, 2, 1⟩ _ FV.sl (by simp)) ?_
  rintro e w3 ⟨kc3, rfl⟩
  refine ⟨_, rfl, fun a15 f15 => ?_⟩
  clear f14 a14
  have szw3 := kc3.size
  replace HK := HK.trans kc3 (by simp)
  replace FV := FV.kept0 kc3
  clear kc3
  have f16 := f15.as (i := 10) (v' := .bool false) rfl (by rfl)
  clear f15
  refine L.val f16 (f16.yes rfl rfl) rfl (by decide) (E.not f16 rfl) fun a17 f17 => ?_
  clear f16 a15
  refine L.val f17 wantedN rfl (by decide) (E.pickT f17 rfl rfl) fun a18 f18 => ?_
  clear f17 a17
  refine L.val f18 wantedN rfl (by decide) (E.move f18 rfl) fun a19 f19 => ?_
  clear f18 a18
  refine L.val f19 (f19.yes rfl rfl) rfl (by decide) (E.move f19 rfl) fun a20 f20 => ?_
  clear f19 a19
  refine L.call f20 (f20.yes rfl rfl) rfl (by decide) (run_call Try.call19 (args3 f20 rfl rfl rfl)) (Top_any [⟨0, 1, 3⟩] _ _ 0 1 _ FV.sl (by simp)) ?_
  rintro e w4 ⟨kc4, rfl⟩
  refine ⟨_, rfl, fun a21 f21 => ?_⟩
  clear f20 a20
  have szw4 := kc4.size
  replace HK := HK.trans kc4 (by simp)
  replace FV := FV.kept0 kc4
  clear kc4
  refine L.val f21 (f21.yes rfl rfl) rfl (by decide) (E.eql f21 rfl rfl) fun a22 f22 => ?_
  clear f21 a21
  have f23 := f22.as (i := 16) (v' := .bool true) rfl (by rfl)
  clear f22
  refine L.val f23 wantedN rfl (by decide) (E.pickT f23 rfl rfl) fun a24 f24 => ?_
  clear f23 a22
  refine L.val f24 wantedN rfl (by decide) (E.move f24 rfl) fun a25 f25 => ?_
  clear f24 a24
  refine L.val f25 (f25.yes rfl rfl) rfl (by decide) (E.move f25 rfl) fun a26 f26 => ?_
  clear f25 a25
  refine L.call f26 (f26.yes rfl rfl) rfl (by decide) (run_call Try.call16 (args1 f26 rfl)) (right_any [⟨0, 1, 3⟩] _ _ _ FV.sl (by simp [maxLen])) ?_
  rintro e w5 ⟨kc5, rfl⟩
  refine ⟨_, rfl, fun a27 f27 => ?_⟩
  clear f26 a26
  have szw5 := kc5.size
  replace HK := HK.trans kc5 (by simp)
  replace FV := FV.kept0 kc5
  clear kc5
  have f28 := f27.as (i := 20) (v' := .bool true) rfl (by rfl)
  clear f27
  refine L.val f28 wantedN rfl (by decide) (E.pickT f28 rfl rfl) fun a29 f29 => ?_
  clear f28 a27
  refine L.val f29 wantedN rfl (by decide) (E.move f29 rfl) fun a30 f30 => ?_
  clear f29 a29
  refine L.val f30 (f30.yes rfl rfl) rfl (by decide) (E.move f30 rfl) fun a31 f31 => ?_
  clear f30 a30
  refine L.call f31 (f31.yes rfl rfl) rfl (by decide) (run_call Try.call15 (args2 f31 rfl rfl)) (Within_any [] [⟨0, 1, 3⟩] _ _ _ _ _ (Ds.nil _ _) FV.sl (by simp) (by simp)) ?_
  rintro e w6 ⟨kc6, rfl⟩
  refine ⟨_, rfl, fun a32 f32 => ?_⟩
  clear f31 a31
  have szw6 := kc6.size
  replace HK := HK.trans kc6 (by simp)
  replace FV := FV.kept0 kc6
  clear kc6
  have f33 := f32.as (i := 24) (v' := .bool true) rfl (by rfl)
  clear f32
  refine L.val f33 wantedN rfl (by decide) (E.pickT f33 rfl rfl) fun a34 f34 => ?_
  clear f33 a32
  refine L.val f34 wantedN rfl (by decide) (E.move f34 rfl) fun a35 f35 => ?_
  clear f34 a34
  refine L.val f35 (f35.yes rfl rfl) rfl (by decide) (E.move f35 rfl) fun a36 f36 => ?_
  clear f35 a35
  refine L.call f36 (f36.yes rfl rfl) rfl (by decide) (run_call Try.call15 (args2 f36 rfl rfl)) (Within_any [⟨0, 1, 3⟩] [] _ _ _ _ _ FV.sl (Ds.nil _ _) (by simp) (by simp)) ?_
  rintro e w7 ⟨kc7, rfl⟩
  refine ⟨_, rfl, fun a37 f37 => ?_⟩
  clear f36 a36
  have szw7 := kc7.size
  replace HK := HK.trans kc7 (by simp)
  replace FV := FV.kept0 kc7
  clear kc7
  have f38 := f37.as (i := 28) (v' := .bool false) rfl (by rfl)
  clear f37
  refine L.val f38 (f38.yes rfl rfl) rfl (by decide) (E.not f38 rfl) fun a39 f39 => ?_
  clear f38 a37
  refine L.val f39 wantedN rfl (by decide) (E.pickT f39 rfl rfl) fun a40 f40 => ?_
  clear f39 a39
  refine L.val f40 wantedN rfl (by decide) (E.move f40 rfl) fun a41 f41 => ?_
  clear f40 a40
  refine L.val f41 (f41.yes rfl rfl) rfl (by decide) (E.move f41 rfl) fun a42 f42 => ?_
  clear f41 a41
  refine L.val f42 (f42.yes rfl rfl) rfl (by decide) (E.move f42 rfl) fun a43 f43 => ?_
  clear f42 a42
  refine L.call f43 (f43.yes rfl rfl) rfl (by decide) (run_call Try.call13 (args2 f43 rfl rfl)) (Join_any [⟨0, 1, 3⟩] [⟨0, 1, 3⟩] _ _ _ _ _ FV.sl FV.sl (by simp)) ?_
  rintro e w8 ⟨kc8, Aj, cj, rfl, -⟩
  refine ⟨_, rfl, fun a44 f44 => ?_⟩
  clear f43 a43
  have szw8 := kc8.size
  replace HK := HK.trans kc8 (by simp)
  replace FV := FV.kept0 kc8
  clear kc8
  refine L.val f44 (f44.yes rfl rfl) rfl (by decide) (E.lenL f44 Try.underlying24 rfl) fun a45 f45 => ?_
  clear f44 a44
  refine L.val f45 (f45.yes rfl rfl) rfl (by decide) (E.eql f45 rfl rfl) fun a46 f46 => ?_
  clear f45 a45
  have f47 := f46.as (i := 36) (v' := .bool true) rfl (by rfl)
  clear f46
  refine L.val f47 wantedN rfl (by decide) (E.pickT f47 rfl rfl) fun a48 f48 => ?_
  clear f47 a46
  refine L.val f48 wantedN rfl (by decide) (E.assign f48 rfl) fun a49 f49 => ?_
  clear f48 a48
  refine wpList_nil (hK2 _ _ ?_)
  try clear hK2 K2
  have f50 := f49.sub (sub_cons (i := 0) rfl sub_nil)
  clear f49
  refine wp_ret ?_
  try simp only [Exit.inBlock, Exit.then]
  refine C.ret (P := Try.prog) (fn := Try.f11) f50 rfl rfl ?_
  exact ⟨HK, rfl⟩

end Go.Proofs.Ytahmlcjgcdajbaa
