/- The walk of TopicLevels. -/
import Derived.Test.YtpdacegpjofdeaaDoorTs
set_option linter.all false
namespace Go.Proofs.YtpdacegpjofdeaaDoor
open Go.RowKit Go.Hub Go.Lib
theorem wzi9_tv : (Tryd.prog.info? 9).map (fun i => (i.zero, i.size)) = some (some (.string ⟨#[]⟩), 1) := by kernel_rfl
theorem wbs26_2_tv (x0 : ByteArray) (x1 : ByteArray) : Instr.fill (fun i => some (i * 1, 1)) ((Array.range (2 * 1)).map fun j => (Value.cells (.string ⟨#[]⟩))[j % (Value.cells (.string ⟨#[]⟩)).size]!) [(0, .string x0), (1, .string x1)] = some #[.string x0, .string x1] := by kernel_rfl
theorem wsz9_tv : (Tryd.prog.info? 9).map (·.size) = some 1 := by kernel_rfl

theorem jn_take_len (L : List (List UInt8)) (i : Nat) (h : 1 ≤ i) : (jn (L.take i)).length ≤ (jn L).length := by
  cases L with
  | nil => simp [jn]
  | cons x r =>
    obtain ⟨j, rfl⟩ : ∃ j, i = j + 1 := ⟨i - 1, by omega⟩
    rw [List.take_succ_cons, jn, jn]
    conv => rhs; rw [← List.take_append_drop j r]
    rw [List.flatMap_append]
    simp
theorem join_take_size (x : ByteArray) (i : Nat) (h : 1 ≤ i) : (joinB ((levelsL x).take i)).size ≤ x.size := by
  have h1 := jn_take_len (sp x.data.toList) i h
  rw [jn_sp, ← lv, ← List.map_take, ← joinB_data] at h1
  simpa using h1
theorem join_one {l : List ByteArray} {y : ByteArray} (h : l[0]? = some y) : joinB (l.take 1) = y := by
  rw [cons_of h]; rfl
theorem join_next {l : List ByteArray} {y : ByteArray} {i : Nat} (hi : 1 ≤ i) (h : l[i]? = some y) : joinB (l.take i) ++ ⟨#[47]⟩ ++ y = joinB (l.take (i + 1)) := by
  have hl := (List.getElem?_eq_some_iff.1 h).1
  rw [List.take_add_one, h]
  refine (joinB_snoc ?_ y).symm
  intro e
  have := congrArg List.length e
  rw [List.length_take, Nat.min_eq_left (by omega)] at this
  simp only [List.length_nil] at this
  omega
theorem lev_le {s p : ByteArray} (h : p ∈ levelsL s) : p.size ≤ s.size := by
  have hm : p.data.toList ∈ sp s.data.toList := by rw [← lv]; exact List.mem_map.2 ⟨p, h, rfl⟩
  have := sp_mem _ _ hm
  simpa using this
def cnt (x : ByteArray) (j : Nat) : Nat := (x.data.toList.take j).count 47
theorem cnt_zero (x : ByteArray) : cnt x 0 = 0 := rfl
theorem cnt_lej (x : ByteArray) (j : Nat) : cnt x j ≤ j := by
  have := List.count_le_length (a := (47 : UInt8)) (l := x.data.toList.take j)
  rw [List.length_take] at this
  unfold cnt
  omega
theorem cnt_step {x : ByteArray} {j : Nat} {b : UInt8} (h : x[j]? = some b) : cnt x (j + 1) = cnt x j + if b == 47 then 1 else 0 := by
  rw [byte_at, ← Array.getElem?_toList] at h
  unfold cnt
  rw [List.take_add_one, h, List.count_append]
  simp [List.count_cons]
theorem cnt_yes {x : ByteArray} {j : Nat} {b : UInt8} (h : x[j]? = some b) (h' : ((b.toNat : Nat) : Int) = 47) : ((cnt x (j + 1) + 1 : Nat) : Int) = ((cnt x j + 1 : Nat) : Int) + 1 := by
  have e : b = 47 := (u8_is b 47).2 h'
  rw [cnt_step h, e]
  simp
theorem cnt_no {x : ByteArray} {j : Nat} {b : UInt8} (h : x[j]? = some b) (h' : ¬ ((b.toNat : Nat) : Int) = 47) : ((cnt x (j + 1) + 1 : Nat) : Int) = ((cnt x j + 1 : Nat) : Int) := by
  have e : ¬ b = 47 := fun e => h' ((u8_is b 47).1 e)
  rw [cnt_step h]
  simp [e]
theorem cnt_end (x : ByteArray) (j : Nat) (h : x.size ≤ j) : (((levelsL x).length : Nat) : Int) = ((cnt x j + 1 : Nat) : Int) := by
  rw [levels_count]
  unfold cnt
  rw [List.take_of_length_le (by simpa using h)]

set_option maxHeartbeats 1000000 in
theorem levels_walk (s : ByteArray) (us : List UInt8) (A : Option Addr) (c : Nat) (w : World) (G : Glob w) (A1 : Us w A us) : Calls Tryd.prog 6 #[.string s, .slice A us.length c] w (fun e w' => Kept [] w w' ∧ e = .returned (.bool true)) := by
  have HK : Kept [] w w := Kept.refl [] w
  have e47 : (⟨#[47]⟩ : ByteArray).size = 1 := rfl
  refine C.enter Tryd.func6 rfl Tryd.ntmps6 rfl ?_
  intro a0 f0
  have f1 : Fr 74 a0 [(0, .string s), (1, .slice A us.length c)] := f0
  clear f0
  refine wp_seq_k fun K0 hK0 => ?_
  refine C.region ?_
  refine L.val f1 wantedN rfl (by decide) (E.assign f1 rfl) fun a2 f2 => ?_
  clear f1 a0
  refine wpList_nil (hK0 _ _ ?_)
  try clear hK0 K0
  have f3 := f2.sub (sub_cons (i := 0) rfl (sub_cons (i := 1) rfl (sub_cons (i := 4) rfl sub_nil)))
  clear f2
  refine wp_seq_k fun K1 hK1 => ?_
  refine wp_seq_k fun K2 hK2 => ?_
  refine C.region ?_
  refine L.call f3 wantedN rfl (by decide) (run_call Tryd.call8 (args0 f3)) (known_any w (G.kept HK)) ?_
  rintro e w1 ⟨kc1, rfl⟩
  refine ⟨_, rfl, fun a4 f4 => ?_⟩
  clear f3 a2
  have szw1 := kc1.size
  replace HK := HK.trans kc1 (by simp)
  clear kc1
  refine L.val f4 wantedN rfl (by decide) (E.not f4 rfl) fun a5 f5 => ?_
  clear f4 a4
  refine wpList_nil (hK2 _ _ ?_)
  try clear hK2 K2
  have f6 := f5.sub (sub_cons (i := 0) rfl (sub_cons (i := 1) rfl (sub_cons (i := 4) rfl (sub_cons (i := 13) rfl sub_nil))))
  clear f5
  refine C.condF f6 rfl ?_
  refine wp_skip (hK1 _ _ ?_)
  try clear hK1 K1
  have f7 := f6.sub (sub_cons (i := 0) rfl (sub_cons (i := 1) rfl (sub_cons (i := 4) rfl sub_nil)))
  clear f6
  refine wp_seq_k fun K3 hK3 => ?_
  refine wp_seq_k fun K4 hK4 => ?_
  refine C.region ?_
  refine L.val f7 wantedN rfl (by decide) (E.move f7 rfl) fun a8 f8 => ?_
  clear f7 a5
  refine L.val f8 wantedN rfl (by decide) (E.lenS f8 Tryd.underlying9 rfl) fun a9 f9 => ?_
  clear f8 a8
  refine L.val f9 wantedN rfl (by decide) (E.gtr f9 rfl rfl) fun a10 f10 => ?_
  clear f9 a9
  refine L.val f10 wantedN rfl (by decide) (E.move f10 rfl) fun a11 f11 => ?_
  clear f10 a10
  first | refine f11.splitD 17 rfl (fun h0 f12 => ?_) (fun h0 f12 => ?_) | refine f11.splitN 17 rfl (fun h0 f12 => ?_) (fun h0 f12 => ?_) | refine f11.splitNB 17 rfl (fun h0 f12 => ?_) (fun h0 f12 => ?_) | refine f11.split 17 rfl (fun h0 f12 => ?_) (fun h0 f12 => ?_)
  · clear f11
    refine L.skip f12 (f12.noF rfl rfl) rfl (by decide) fun a13 f13 => ?_
    clear f12 a11
    refine L.skip f13 (f13.noF rfl rfl) rfl (by decide) fun a14 f14 => ?_
    clear f13 a13
    refine L.skip f14 (f14.noF rfl rfl) rfl (by decide) fun a15 f15 => ?_
    clear f14 a14
    refine L.val f15 wantedN rfl (by decide) (E.pickT f15 rfl rfl) fun a16 f16 => ?_
    clear f15 a15
    refine wpList_nil (hK4 _ _ ?_)
    try clear hK4 K4
    have f17 := f16.sub (sub_cons (i := 0) rfl (sub_cons (i := 1) rfl (sub_cons (i := 4) rfl (sub_cons (i := 21) rfl sub_nil))))
    clear f16
    refine C.condT f17 rfl ?_
    refine wp_seq_k fun K5 hK5 => ?_
    refine C.region ?_
    refine L.val f17 wantedN rfl (by decide) (E.assign f17 rfl) fun a18 f18 => ?_
    clear f17 a16
    refine wpList_nil (hK5 _ _ ?_)
    try clear hK5 K5
    have f19 := f18.sub (sub_cons (i := 0) rfl (sub_cons (i := 1) rfl (sub_cons (i := 4) rfl sub_nil)))
    clear f18
    refine wp_ret ?_
    try simp only [Exit.inBlock, Exit.then]
    refine C.ret (P := Tryd.prog) (fn := Tryd.f6) f19 rfl rfl ?_
    exact ⟨HK, rfl⟩
  · clear f11
    refine L.val f12 (f12.yes rfl rfl) rfl (by decide) (E.move f12 rfl) fun a13 f13 => ?_
    clear f12 a11
    refine L.val f13 (f13.yes rfl rfl) rfl (by decide) (E.lenL f13 Tryd.underlying22 rfl) fun a14 f14 => ?_
    clear f13 a13
    refine L.val f14 (f14.yes rfl rfl) rfl (by decide) (E.gtr f14 rfl rfl) fun a15 f15 => ?_
    clear f14 a14
    refine L.val f15 wantedN rfl (by decide) (E.pickF f15 rfl rfl) fun a16 f16 => ?_
    clear f15 a15
    refine wpList_nil (hK4 _ _ ?_)
    try clear hK4 K4
    have f17 := f16.sub (sub_cons (i := 0) rfl (sub_cons (i := 1) rfl (sub_cons (i := 4) rfl (sub_cons (i := 21) rfl sub_nil))))
    clear f16
    first | refine f17.splitD 21 rfl (fun h1 f18 => ?_) (fun h1 f18 => ?_) | refine f17.splitN 21 rfl (fun h1 f18 => ?_) (fun h1 f18 => ?_) | refine f17.splitNB 21 rfl (fun h1 f18 => ?_) (fun h1 f18 => ?_) | refine f17.split 21 rfl (fun h1 f18 => ?_) (fun h1 f18 => ?_)
    · clear f17
      refine C.condT f18 rfl ?_
      refine wp_seq_k fun K6 hK6 => ?_
      refine C.region ?_
      refine L.val f18 wantedN rfl (by decide) (E.assign f18 rfl) fun a19 f19 => ?_
      clear f18 a16
      refine wpList_nil (hK6 _ _ ?_)
      try clear hK6 K6
      have f20 := f19.sub (sub_cons (i := 0) rfl (sub_cons (i := 1) rfl (sub_cons (i := 4) rfl sub_nil)))
      clear f19
      refine wp_ret ?_
      try simp only [Exit.inBlock, Exit.then]
      refine C.ret (P := Tryd.prog) (fn := Tryd.f6) f20 rfl rfl ?_
      exact ⟨HK, rfl⟩
    · clear f17
      refine C.condF f18 rfl ?_
      refine wp_skip (hK3 _ _ ?_)
      try clear hK3 K3
      have f19 := f18.sub (sub_cons (i := 0) rfl (sub_cons (i := 1) rfl (sub_cons (i := 4) rfl sub_nil)))
      clear f18
      refine wp_seq_k fun K7 hK7 => ?_
      refine wp_seq_k fun K8 hK8 => ?_
      refine C.region ?_
      refine L.val f19 wantedN rfl (by decide) (E.move f19 rfl) fun a20 f20 => ?_
      clear f19 a16
      refine L.val f20 wantedN rfl (by decide) (E.move f20 rfl) fun a21 f21 => ?_
      clear f20 a20
      refine L.call f21 wantedN rfl (by decide) (run_call Tryd.call9 (args1 f21 rfl)) (pieces_any us _ _ w1 (A1.kept HK) (by omega)) ?_
      rintro e w2 ⟨kc2, t, rfl, ht⟩
      refine ⟨_, rfl, fun a22 f22 => ?_⟩
      clear f21 a21
      have szw2 := kc2.size
      replace HK := HK.trans kc2 (by simp)
      clear kc2
      refine L.buildSlice f22 wantedN (by decide) (parts2 f22 rfl rfl) Tryd.underlying26 wzi9_tv rfl rfl (wbs26_2_tv _ _) fun a23 w3 g2 N2 f23 => ?_
      have SL := ss_blk (l := [s, t]) N2.blk
      have Bg2 := N2.blk
      have kg2 := N2.kept
      have log2 := N2.lo
      have ltg2 := Bg2.lt
      have szw3 := kg2.size
      have frg2 : w.heap.size ≤ g2 := Nat.le_trans HK.size log2
      replace HK := HK.trans kg2 (by simp)
      clear N2 kg2
      clear f22 a22
      refine L.val f23 wantedN rfl (by decide) (E.lenL f23 Tryd.underlying26 rfl) fun a24 f24 => ?_
      clear f23 a23
      refine L.val f24 wantedN rfl (by decide) (E.move f24 rfl) fun a25 f25 => ?_
      clear f24 a24
      refine wpList_nil (hK8 _ _ ?_)
      try clear hK8 K8
      have f26 := f25.sub (sub_cons (i := 4) rfl (sub_cons (i := 25) rfl (sub_cons (i := 26) rfl (sub_cons (i := 27) rfl sub_nil))))
      clear f25
      refine wp_block ?_
      refine C.loop (fun gk a W => ∃ k : Nat, k + gk = 2 ∧ Kept [] w W ∧ Ss W (some ⟨g2, 0, none⟩) [s, t] ∧ Fr 74 a [(25, .slice (some ⟨g2, 0, none⟩) 2 2), (26, .int .i64 2), (27, .int .i64 k)]) (2) ?_ ?_
      · exact ⟨0, by omega, HK, SL, f26.sub (sub_cons rfl (sub_cons rfl (sub_cons rfl sub_nil)))⟩
      · intro gk10 a27 w4 hI KL9 hKL9
        obtain ⟨k, hk, HK, SL, f27⟩ := hI
        try clear f26
        refine wp_seq_k fun K10 hK10 => ?_
        refine C.region ?_
        refine L.val f27 wantedN rfl (by decide) (E.lss f27 rfl rfl) fun a28 f28 => ?_
        clear f27 a27
        refine wpList_nil (hK10 _ _ ?_)
        try clear hK10 K10
        have f29 := f28.sub (sub_cons (i := 25) rfl (sub_cons (i := 26) rfl (sub_cons (i := 27) rfl (sub_cons (i := 28) rfl sub_nil))))
        clear f28
        refine wp_seq_k fun K11 hK11 => ?_
        first | refine f29.splitD 28 rfl (fun h2 f30 => ?_) (fun h2 f30 => ?_) | refine f29.splitN 28 rfl (fun h2 f30 => ?_) (fun h2 f30 => ?_) | refine f29.splitNB 28 rfl (fun h2 f30 => ?_) (fun h2 f30 => ?_) | refine f29.split 28 rfl (fun h2 f30 => ?_) (fun h2 f30 => ?_)
        · clear f29
          refine C.condT f30 rfl ?_
          refine wp_skip (hK11 _ _ ?_)
          try clear hK11 K11
          have f31 := f30.sub (sub_cons (i := 25) rfl (sub_cons (i := 26) rfl (sub_cons (i := 27) rfl (sub_cons (i := 28) rfl sub_nil))))
          clear f30
          refine wp_seq_k fun K12 hK12 => ?_
          refine wp_block ?_
          refine wp_seq_k fun K13 hK13 => ?_
          obtain ⟨x, hx⟩ : ∃ x, [s, t][k]? = some x := ⟨[s, t][k]'(by simp; omega), List.getElem?_eq_getElem _⟩
          have hxs : x.size ≤ 60 := two_size hx (by omega) (by omega)
          refine C.region ?_
          refine L.val f31 wantedN rfl (by decide) (E.indexA f31 (by first | rfl | assumption) Tryd.underlying26 wsz9_tv rfl rfl (by omega) (by omega)) fun a32 f32 => ?_
          clear f31 a28
          refine L.val f32 wantedN rfl (by decide) (by exact E.load f32 Tryd.underlying9 rfl rfl (ss_cell SL rfl hx)) fun a33 f33 => ?_
          clear f32 a32
          refine L.val f33 wantedN rfl (by decide) (E.assign f33 rfl) fun a34 f34 => ?_
          clear f33 a33
          refine wpList_nil (hK13 _ _ ?_)
          try clear hK13 K13
          have f35 := f34.sub (sub_cons (i := 6) rfl (sub_cons (i := 25) rfl (sub_cons (i := 26) rfl (sub_cons (i := 27) rfl (sub_cons (i := 28) rfl (sub_cons (i := 29) rfl (sub_cons (i := 30) rfl sub_nil)))))))
          clear f34
          refine wp_seq_k fun K14 hK14 => ?_
          refine C.region ?_
          refine L.val f35 wantedN rfl (by decide) (E.move f35 rfl) fun a36 f36 => ?_
          clear f35 a34
          refine L.call f36 wantedN rfl (by decide) (run_call Tryd.call17 (args1 f36 rfl)) (levels_any x w4 (G.kept HK) (by omega)) ?_
          rintro e w5 ⟨kc5, Al, cl, rfl, LL, l2, l3, l4⟩
          refine ⟨_, rfl, fun a37 f37 => ?_⟩
          clear f36 a36
          have szw5 := kc5.size
          replace HK := HK.trans kc5 (by simp)
          replace SL := SL.kept kc5
          clear kc5
          refine L.val f37 wantedN rfl (by decide) (E.assign f37 rfl) fun a38 f38 => ?_
          clear f37 a37
          refine wpList_nil (hK14 _ _ ?_)
          try clear hK14 K14
          have f39 := f38.sub (sub_cons (i := 6) rfl (sub_cons (i := 7) rfl (sub_cons (i := 25) rfl (sub_cons (i := 26) rfl (sub_cons (i := 27) rfl (sub_cons (i := 28) rfl (sub_cons (i := 29) rfl (sub_cons (i := 30) rfl (sub_cons (i := 31) rfl (sub_cons (i := 32) rfl sub_nil))))))))))
          clear f38
          refine wp_seq_k fun K15 hK15 => ?_
          refine wp_seq_k fun K16 hK16 => ?_
          refine C.region ?_
          refine L.val f39 wantedN rfl (by decide) (E.move f39 rfl) fun a40 f40 => ?_
          clear f39 a38
          refine L.val f40 wantedN rfl (by decide) (E.lenL f40 Tryd.underlying26 rfl) fun a41 f41 => ?_
          clear f40 a40
          refine L.val f41 wantedN rfl (by decide) (E.eql f41 rfl rfl) fun a42 f42 => ?_
          clear f41 a41
          have f43 := f42.as (i := 35) (v' := .bool false) rfl (by rw [decide_eq_false (by omega)])
          clear f42
          refine wpList_nil (hK16 _ _ ?_)
          try clear hK16 K16
          have f44 := f43.sub (sub_cons (i := 6) rfl (sub_cons (i := 7) rfl (sub_cons (i := 25) rfl (sub_cons (i := 26) rfl (sub_cons (i := 27) rfl (sub_cons (i := 28) rfl (sub_cons (i := 29) rfl (sub_cons (i := 30) rfl (sub_cons (i := 31) rfl (sub_cons (i := 32) rfl (sub_cons (i := 33) rfl (sub_cons (i := 34) rfl (sub_cons (i := 35) rfl sub_nil)))))))))))))
          clear f43
          refine C.condF f44 rfl ?_
          refine wp_skip (hK15 _ _ ?_)
          try clear hK15 K15
          have f45 := f44.sub (sub_cons (i := 6) rfl (sub_cons (i := 7) rfl (sub_cons (i := 25) rfl (sub_cons (i := 26) rfl (sub_cons (i := 27) rfl (sub_cons (i := 28) rfl (sub_cons (i := 29) rfl (sub_cons (i := 30) rfl (sub_cons (i := 31) rfl (sub_cons (i := 32) rfl (sub_cons (i := 33) rfl (sub_cons (i := 34) rfl (sub_cons (i := 35) rfl sub_nil)))))))))))))
          clear f44
          refine wp_seq_k fun K17 hK17 => ?_
          obtain ⟨y0, hy0⟩ : ∃ y, (levelsL x)[0]? = some y := ⟨(levelsL x)[0]'(by omega), List.getElem?_eq_getElem _⟩
          obtain ⟨bl, ol, hAl⟩ := LL.addr (k := 0) (by omega)
          refine C.region ?_
          refine L.val f45 wantedN rfl (by decide) (E.move f45 rfl) fun a46 f46 => ?_
          clear f45 a42
          refine L.val f46 wantedN rfl (by decide) (E.indexA f46 (by first | rfl | assumption) Tryd.underlying26 wsz9_tv rfl rfl (by omega) (by omega)) fun a47 f47 => ?_
          clear f46 a46
          refine L.val f47 wantedN rfl (by decide) (by exact E.load f47 Tryd.underlying9 rfl rfl (ss_cell0 LL hAl hy0)) fun a48 f48 => ?_
          clear f47 a47
          refine L.val f48 wantedN rfl (by decide) (E.assign f48 rfl) fun a49 f49 => ?_
          clear f48 a48
          refine wpList_nil (hK17 _ _ ?_)
          try clear hK17 K17
          have f50 := f49.sub (sub_cons (i := 6) rfl (sub_cons (i := 7) rfl (sub_cons (i := 8) rfl (sub_cons (i := 25) rfl (sub_cons (i := 26) rfl (sub_cons (i := 27) rfl (sub_cons (i := 28) rfl (sub_cons (i := 29) rfl (sub_cons (i := 30) rfl (sub_cons (i := 31) rfl (sub_cons (i := 32) rfl (sub_cons (i := 33) rfl (sub_cons (i := 34) rfl (sub_cons (i := 35) rfl (sub_cons (i := 36) rfl (sub_cons (i := 37) rfl (sub_cons (i := 38) rfl sub_nil)))))))))))))))))
          clear f49
          refine wp_seq_k fun K18 hK18 => ?_
          refine wp_seq_k fun K19 hK19 => ?_
          replace f50 := f50.as (i := 8) (v' := .string (joinB ((levelsL x).take 1))) rfl (by rw [join_one hy0])
          refine C.region ?_
          refine L.val f50 wantedN rfl (by decide) (E.assign f50 rfl) fun a51 f51 => ?_
          clear f50 a49
          refine wpList_nil (hK19 _ _ ?_)
          try clear hK19 K19
          have f52 := f51.sub (sub_cons (i := 6) rfl (sub_cons (i := 7) rfl (sub_cons (i := 8) rfl (sub_cons (i := 9) rfl (sub_cons (i := 25) rfl (sub_cons (i := 26) rfl (sub_cons (i := 27) rfl (sub_cons (i := 28) rfl (sub_cons (i := 29) rfl (sub_cons (i := 30) rfl (sub_cons (i := 31) rfl (sub_cons (i := 32) rfl (sub_cons (i := 33) rfl (sub_cons (i := 34) rfl (sub_cons (i := 35) rfl (sub_cons (i := 36) rfl (sub_cons (i := 37) rfl (sub_cons (i := 38) rfl sub_nil))))))))))))))))))
          clear f51
          refine wp_block ?_
          refine C.loop (fun gk a W => ∃ i : Nat, 1 ≤ i ∧ i + gk = (levelsL x).length ∧ Kept [] w W ∧ Ss W (some ⟨g2, 0, none⟩) [s, t] ∧ Ss W Al (levelsL x) ∧ Fr 74 a [(25, .slice (some ⟨g2, 0, none⟩) 2 2), (26, .int .i64 2), (27, .int .i64 k), (6, .string x), (7, .slice Al (levelsL x).length cl), (8, .string (joinB ((levelsL x).take i))), (9, .int .i64 i)]) ((levelsL x).length - 1) ?_ ?_
          · exact ⟨1, by omega, by omega, HK, SL, LL, f52.sub (sub_cons rfl (sub_cons rfl (sub_cons rfl (sub_cons rfl (sub_cons rfl (sub_cons rfl (sub_cons rfl sub_nil)))))))⟩
          · intro gk21 a53 w6 hI KL20 hKL20
            obtain ⟨i, hi1, hi, HK, SL, LL, f53⟩ := hI
            try clear f52
            have hjs := join_take_size x i hi1
            have hjs2 : (joinB ((levelsL x).take i) ++ ⟨#[47]⟩).size = _ := ByteArray.size_append
            refine wp_seq_k fun K21 hK21 => ?_
            refine wp_seq_k fun K22 hK22 => ?_
            refine C.region ?_
            refine L.val f53 wantedN rfl (by decide) (E.move f53 rfl) fun a54 f54 => ?_
            clear f53 a53
            refine L.val f54 wantedN rfl (by decide) (E.move f54 rfl) fun a55 f55 => ?_
            clear f54 a54
            refine L.val f55 wantedN rfl (by decide) (E.lenL f55 Tryd.underlying26 rfl) fun a56 f56 => ?_
            clear f55 a55
            refine L.val f56 wantedN rfl (by decide) (E.lss f56 rfl rfl) fun a57 f57 => ?_
            clear f56 a56
            refine wpList_nil (hK22 _ _ ?_)
            try clear hK22 K22
            have f58 := f57.sub (sub_cons (i := 6) rfl (sub_cons (i := 7) rfl (sub_cons (i := 8) rfl (sub_cons (i := 9) rfl (sub_cons (i := 25) rfl (sub_cons (i := 26) rfl (sub_cons (i := 27) rfl (sub_cons (i := 39) rfl (sub_cons (i := 40) rfl (sub_cons (i := 41) rfl (sub_cons (i := 42) rfl sub_nil)))))))))))
            clear f57
            first | refine f58.splitD 42 rfl (fun h3 f59 => ?_) (fun h3 f59 => ?_) | refine f58.splitN 42 rfl (fun h3 f59 => ?_) (fun h3 f59 => ?_) | refine f58.splitNB 42 rfl (fun h3 f59 => ?_) (fun h3 f59 => ?_) | refine f58.split 42 rfl (fun h3 f59 => ?_) (fun h3 f59 => ?_)
            · clear f58
              refine C.condT f59 rfl ?_
              refine wp_skip (hK21 _ _ ?_)
              try clear hK21 K21
              have f60 := f59.sub (sub_cons (i := 6) rfl (sub_cons (i := 7) rfl (sub_cons (i := 8) rfl (sub_cons (i := 9) rfl (sub_cons (i := 25) rfl (sub_cons (i := 26) rfl (sub_cons (i := 27) rfl (sub_cons (i := 39) rfl (sub_cons (i := 40) rfl (sub_cons (i := 41) rfl (sub_cons (i := 42) rfl sub_nil)))))))))))
              clear f59
              refine wp_seq_k fun K23 hK23 => ?_
              refine wp_block ?_
              obtain ⟨y, hy⟩ : ∃ y, (levelsL x)[i]? = some y := ⟨(levelsL x)[i]'(by omega), List.getElem?_eq_getElem _⟩
              obtain ⟨bl, ol, hAl⟩ := LL.addr (k := i) (by omega)
              have hys := lev_le (List.mem_of_getElem? hy)
              refine C.region ?_
              refine L.val f60 wantedN rfl (by decide) (E.move f60 rfl) fun a61 f61 => ?_
              clear f60 a57
              refine L.val f61 wantedN rfl (by decide) (E.addS f61 rfl rfl (by omega)) fun a62 f62 => ?_
              clear f61 a61
              refine L.val f62 wantedN rfl (by decide) (E.move f62 rfl) fun a63 f63 => ?_
              clear f62 a62
              refine L.val f63 wantedN rfl (by decide) (E.move f63 rfl) fun a64 f64 => ?_
              clear f63 a63
              refine L.val f64 wantedN rfl (by decide) (E.indexA f64 (by first | rfl | assumption) Tryd.underlying26 wsz9_tv rfl rfl (by omega) (by omega)) fun a65 f65 => ?_
              clear f64 a64
              refine L.val f65 wantedN rfl (by decide) (by exact E.load f65 Tryd.underlying9 rfl rfl (ss_cell LL hAl hy)) fun a66 f66 => ?_
              clear f65 a65
              refine L.val f66 wantedN rfl (by decide) (E.addS f66 rfl rfl (by omega)) fun a67 f67 => ?_
              clear f66 a66
              refine L.val f67 wantedN rfl (by decide) (E.assign f67 rfl) fun a68 f68 => ?_
              clear f67 a67
              refine wpList_nil (hK23 _ _ ?_)
              try clear hK23 K23
              have f69 := f68.sub (sub_cons (i := 6) rfl (sub_cons (i := 7) rfl (sub_cons (i := 8) rfl (sub_cons (i := 9) rfl (sub_cons (i := 25) rfl (sub_cons (i := 26) rfl (sub_cons (i := 27) rfl (sub_cons (i := 39) rfl (sub_cons (i := 40) rfl (sub_cons (i := 41) rfl (sub_cons (i := 42) rfl (sub_cons (i := 45) rfl (sub_cons (i := 46) rfl (sub_cons (i := 47) rfl (sub_cons (i := 48) rfl (sub_cons (i := 49) rfl (sub_cons (i := 50) rfl (sub_cons (i := 51) rfl sub_nil))))))))))))))))))
              clear f68
              refine C.region ?_
              refine L.val f69 wantedN rfl (by decide) (E.move f69 rfl) fun a70 f70 => ?_
              clear f69 a68
              refine L.val f70 wantedN rfl (by decide) (E.add f70 rfl rfl (IntWalk.i64_in _ (by omega))) fun a71 f71 => ?_
              clear f70 a70
              refine L.val f71 wantedN rfl (by decide) (E.assign f71 rfl) fun a72 f72 => ?_
              clear f71 a71
              refine wpList_nil (hKL20 _ _ (gk21 - 1) ?_ ?_)
              · omega
              · exact ⟨i + 1, by omega, by omega, HK, SL, LL, by rw [← join_next hi1 hy]; exact f72.sub (sub_cons rfl (sub_cons rfl (sub_cons rfl (sub_cons rfl (sub_cons rfl (sub_cons rfl (sub_cons rfl sub_nil)))))))⟩
            · clear f58
              refine C.condF f59 rfl ?_
              refine wp_exit (hK18 _ _ ?_)
              try clear hK18 K18
              have f60 := f59.sub (sub_cons (i := 6) rfl (sub_cons (i := 7) rfl (sub_cons (i := 8) rfl (sub_cons (i := 9) rfl (sub_cons (i := 25) rfl (sub_cons (i := 26) rfl (sub_cons (i := 27) rfl (sub_cons (i := 39) rfl (sub_cons (i := 40) rfl (sub_cons (i := 41) rfl (sub_cons (i := 42) rfl sub_nil)))))))))))
              clear f59
              refine wp_seq_k fun K24 hK24 => ?_
              replace f60 := f60.as (i := 8) (v' := .string x) rfl (by rw [List.take_of_length_le (by omega), join_levels])
              refine C.region ?_
              refine L.val f60 wantedN rfl (by decide) (E.assign f60 rfl) fun a61 f61 => ?_
              clear f60 a57
              refine wpList_nil (hK24 _ _ ?_)
              try clear hK24 K24
              have f62 := f61.sub (sub_cons (i := 6) rfl (sub_cons (i := 7) rfl (sub_cons (i := 8) rfl (sub_cons (i := 9) rfl (sub_cons (i := 10) rfl (sub_cons (i := 25) rfl (sub_cons (i := 26) rfl (sub_cons (i := 27) rfl (sub_cons (i := 39) rfl (sub_cons (i := 40) rfl (sub_cons (i := 41) rfl (sub_cons (i := 42) rfl sub_nil))))))))))))
              clear f61
              refine wp_seq_k fun K25 hK25 => ?_
              refine wp_seq_k fun K26 hK26 => ?_
              refine C.region ?_
              refine L.val f62 wantedN rfl (by decide) (E.assign f62 rfl) fun a63 f63 => ?_
              clear f62 a61
              refine wpList_nil (hK26 _ _ ?_)
              try clear hK26 K26
              have f64 := f63.sub (sub_cons (i := 6) rfl (sub_cons (i := 7) rfl (sub_cons (i := 8) rfl (sub_cons (i := 9) rfl (sub_cons (i := 10) rfl (sub_cons (i := 11) rfl (sub_cons (i := 25) rfl (sub_cons (i := 26) rfl (sub_cons (i := 27) rfl (sub_cons (i := 39) rfl (sub_cons (i := 40) rfl (sub_cons (i := 41) rfl (sub_cons (i := 42) rfl sub_nil)))))))))))))
              clear f63
              refine wp_block ?_
              replace f64 := f64.as (i := 10) (v' := .int .i64 ((cnt x 0 + 1 : Nat) : Int)) rfl (by rw [cnt_zero]; rfl)
              refine C.loop (fun gk a W => ∃ j : Nat, j + gk = x.size ∧ Kept [] w W ∧ Ss W (some ⟨g2, 0, none⟩) [s, t] ∧ Ss W Al (levelsL x) ∧ Fr 74 a [(25, .slice (some ⟨g2, 0, none⟩) 2 2), (26, .int .i64 2), (27, .int .i64 k), (6, .string x), (7, .slice Al (levelsL x).length cl), (8, .string x), (10, .int .i64 ((cnt x j + 1 : Nat) : Int)), (11, .int .i64 j)]) (x.size) ?_ ?_
              · exact ⟨0, by omega, HK, SL, LL, f64.sub (sub_cons rfl (sub_cons rfl (sub_cons rfl (sub_cons rfl (sub_cons rfl (sub_cons rfl (sub_cons rfl (sub_cons rfl sub_nil))))))))⟩
              · intro gk28 a65 w7 hI KL27 hKL27
                obtain ⟨j, hj, HK, SL, LL, f65⟩ := hI
                try clear f64
                have hcj := cnt_lej x j
                refine wp_seq_k fun K28 hK28 => ?_
                refine wp_seq_k fun K29 hK29 => ?_
                refine C.region ?_
                refine L.val f65 wantedN rfl (by decide) (E.move f65 rfl) fun a66 f66 => ?_
                clear f65 a65
                refine L.val f66 wantedN rfl (by decide) (E.move f66 rfl) fun a67 f67 => ?_
                clear f66 a66
                refine L.val f67 wantedN rfl (by decide) (E.lenS f67 Tryd.underlying9 rfl) fun a68 f68 => ?_
                clear f67 a67
                refine L.val f68 wantedN rfl (by decide) (E.lss f68 rfl rfl) fun a69 f69 => ?_
                clear f68 a68
                refine wpList_nil (hK29 _ _ ?_)
                try clear hK29 K29
                have f70 := f69.sub (sub_cons (i := 6) rfl (sub_cons (i := 7) rfl (sub_cons (i := 8) rfl (sub_cons (i := 10) rfl (sub_cons (i := 11) rfl (sub_cons (i := 25) rfl (sub_cons (i := 26) rfl (sub_cons (i := 27) rfl (sub_cons (i := 52) rfl (sub_cons (i := 53) rfl (sub_cons (i := 54) rfl (sub_cons (i := 55) rfl sub_nil))))))))))))
                clear f69
                first | refine f70.splitD 55 rfl (fun h4 f71 => ?_) (fun h4 f71 => ?_) | refine f70.splitN 55 rfl (fun h4 f71 => ?_) (fun h4 f71 => ?_) | refine f70.splitNB 55 rfl (fun h4 f71 => ?_) (fun h4 f71 => ?_) | refine f70.split 55 rfl (fun h4 f71 => ?_) (fun h4 f71 => ?_)
                · clear f70
                  refine C.condT f71 rfl ?_
                  refine wp_skip (hK28 _ _ ?_)
                  try clear hK28 K28
                  have f72 := f71.sub (sub_cons (i := 6) rfl (sub_cons (i := 7) rfl (sub_cons (i := 8) rfl (sub_cons (i := 10) rfl (sub_cons (i := 11) rfl (sub_cons (i := 25) rfl (sub_cons (i := 26) rfl (sub_cons (i := 27) rfl (sub_cons (i := 52) rfl (sub_cons (i := 53) rfl (sub_cons (i := 54) rfl (sub_cons (i := 55) rfl sub_nil))))))))))))
                  clear f71
                  refine wp_seq_k fun K30 hK30 => ?_
                  refine wp_block ?_
                  refine wp_seq_k fun K31 hK31 => ?_
                  obtain ⟨b, hb⟩ : ∃ b, x[j]? = some b := ⟨x[j]'(by omega), getElem?_pos x j (by omega)⟩
                  refine C.region ?_
                  refine L.val f72 wantedN rfl (by decide) (E.move f72 rfl) fun a73 f73 => ?_
                  clear f72 a69
                  refine L.val f73 wantedN rfl (by decide) (E.move f73 rfl) fun a74 f74 => ?_
                  clear f73 a73
                  refine L.val f74 wantedN rfl (by decide) (E.indexS f74 Tryd.underlying9 rfl rfl (by omega) (by assumption)) fun a75 f75 => ?_
                  clear f74 a74
                  refine L.val f75 wantedN rfl (by decide) (E.eql f75 rfl rfl) fun a76 f76 => ?_
                  clear f75 a75
                  refine wpList_nil (hK31 _ _ ?_)
                  try clear hK31 K31
                  have f77 := f76.sub (sub_cons (i := 6) rfl (sub_cons (i := 7) rfl (sub_cons (i := 8) rfl (sub_cons (i := 10) rfl (sub_cons (i := 11) rfl (sub_cons (i := 25) rfl (sub_cons (i := 26) rfl (sub_cons (i := 27) rfl (sub_cons (i := 52) rfl (sub_cons (i := 53) rfl (sub_cons (i := 54) rfl (sub_cons (i := 55) rfl (sub_cons (i := 58) rfl (sub_cons (i := 59) rfl (sub_cons (i := 60) rfl (sub_cons (i := 61) rfl sub_nil))))))))))))))))
                  clear f76
                  first | refine f77.splitD 61 rfl (fun h5 f78 => ?_) (fun h5 f78 => ?_) | refine f77.splitN 61 rfl (fun h5 f78 => ?_) (fun h5 f78 => ?_) | refine f77.splitNB 61 rfl (fun h5 f78 => ?_) (fun h5 f78 => ?_) | refine f77.split 61 rfl (fun h5 f78 => ?_) (fun h5 f78 => ?_)
                  · clear f77
                    have h61 := h5
                    refine C.condT f78 rfl ?_
                    refine C.region ?_
                    refine L.val f78 wantedN rfl (by decide) (E.move f78 rfl) fun a79 f79 => ?_
                    clear f78 a76
                    refine L.val f79 wantedN rfl (by decide) (E.add f79 rfl rfl (IntWalk.i64_in _ (by omega))) fun a80 f80 => ?_
                    clear f79 a79
                    refine L.val f80 wantedN rfl (by decide) (E.assign f80 rfl) fun a81 f81 => ?_
                    clear f80 a80
                    refine wpList_nil (hK30 _ _ ?_)
                    try clear hK30 K30
                    have f82 := f81.sub (sub_cons (i := 6) rfl (sub_cons (i := 7) rfl (sub_cons (i := 8) rfl (sub_cons (i := 10) rfl (sub_cons (i := 11) rfl (sub_cons (i := 25) rfl (sub_cons (i := 26) rfl (sub_cons (i := 27) rfl (sub_cons (i := 52) rfl (sub_cons (i := 53) rfl (sub_cons (i := 54) rfl (sub_cons (i := 55) rfl (sub_cons (i := 58) rfl (sub_cons (i := 59) rfl (sub_cons (i := 60) rfl (sub_cons (i := 61) rfl (sub_cons (i := 62) rfl (sub_cons (i := 63) rfl sub_nil))))))))))))))))))
                    clear f81
                    refine C.region ?_
                    refine L.val f82 wantedN rfl (by decide) (E.move f82 rfl) fun a83 f83 => ?_
                    clear f82 a81
                    refine L.val f83 wantedN rfl (by decide) (E.add f83 rfl rfl (IntWalk.i64_in _ (by omega))) fun a84 f84 => ?_
                    clear f83 a83
                    refine L.val f84 wantedN rfl (by decide) (E.assign f84 rfl) fun a85 f85 => ?_
                    clear f84 a84
                    refine wpList_nil (hKL27 _ _ (gk28 - 1) ?_ ?_)
                    · omega
                    · exact ⟨j + 1, by omega, HK, SL, LL, by rw [cnt_yes hb h61]; exact f85.sub (sub_cons rfl (sub_cons rfl (sub_cons rfl (sub_cons rfl (sub_cons rfl (sub_cons rfl (sub_cons rfl (sub_cons rfl sub_nil))))))))⟩
                  · clear f77
                    have h61 := h5
                    refine C.condF f78 rfl ?_
                    refine wp_skip (hK30 _ _ ?_)
                    try clear hK30 K30
                    have f79 := f78.sub (sub_cons (i := 6) rfl (sub_cons (i := 7) rfl (sub_cons (i := 8) rfl (sub_cons (i := 10) rfl (sub_cons (i := 11) rfl (sub_cons (i := 25) rfl (sub_cons (i := 26) rfl (sub_cons (i := 27) rfl (sub_cons (i := 52) rfl (sub_cons (i := 53) rfl (sub_cons (i := 54) rfl (sub_cons (i := 55) rfl (sub_cons (i := 58) rfl (sub_cons (i := 59) rfl (sub_cons (i := 60) rfl (sub_cons (i := 61) rfl sub_nil))))))))))))))))
                    clear f78
                    refine C.region ?_
                    refine L.val f79 wantedN rfl (by decide) (E.move f79 rfl) fun a80 f80 => ?_
                    clear f79 a76
                    refine L.val f80 wantedN rfl (by decide) (E.add f80 rfl rfl (IntWalk.i64_in _ (by omega))) fun a81 f81 => ?_
                    clear f80 a80
                    refine L.val f81 wantedN rfl (by decide) (E.assign f81 rfl) fun a82 f82 => ?_
                    clear f81 a81
                    refine wpList_nil (hKL27 _ _ (gk28 - 1) ?_ ?_)
                    · omega
                    · exact ⟨j + 1, by omega, HK, SL, LL, by rw [cnt_no hb h61]; exact f82.sub (sub_cons rfl (sub_cons rfl (sub_cons rfl (sub_cons rfl (sub_cons rfl (sub_cons rfl (sub_cons rfl (sub_cons rfl sub_nil))))))))⟩
                · clear f70
                  refine C.condF f71 rfl ?_
                  refine wp_exit (hK25 _ _ ?_)
                  try clear hK25 K25
                  have f72 := f71.sub (sub_cons (i := 6) rfl (sub_cons (i := 7) rfl (sub_cons (i := 8) rfl (sub_cons (i := 10) rfl (sub_cons (i := 11) rfl (sub_cons (i := 25) rfl (sub_cons (i := 26) rfl (sub_cons (i := 27) rfl (sub_cons (i := 52) rfl (sub_cons (i := 53) rfl (sub_cons (i := 54) rfl (sub_cons (i := 55) rfl sub_nil))))))))))))
                  clear f71
                  refine wp_seq_k fun K32 hK32 => ?_
                  refine C.region ?_
                  refine L.val f72 wantedN rfl (by decide) (E.move f72 rfl) fun a73 f73 => ?_
                  clear f72 a69
                  refine L.val f73 wantedN rfl (by decide) (E.move f73 rfl) fun a74 f74 => ?_
                  clear f73 a73
                  refine L.val f74 wantedN rfl (by decide) (E.neqS f74 rfl rfl) fun a75 f75 => ?_
                  clear f74 a74
                  have f76 := f75.as (i := 66) (v' := .bool false) rfl (by simp)
                  clear f75
                  refine L.val f76 wantedN rfl (by decide) (E.move f76 rfl) fun a77 f77 => ?_
                  clear f76 a75
                  refine L.val f77 (f77.yes rfl rfl) rfl (by decide) (E.move f77 rfl) fun a78 f78 => ?_
                  clear f77 a77
                  refine L.val f78 (f78.yes rfl rfl) rfl (by decide) (E.lenL f78 Tryd.underlying26 rfl) fun a79 f79 => ?_
                  clear f78 a78
                  refine L.val f79 (f79.yes rfl rfl) rfl (by decide) (E.move f79 rfl) fun a80 f80 => ?_
                  clear f79 a79
                  refine L.val f80 (f80.yes rfl rfl) rfl (by decide) (E.neq f80 rfl rfl) fun a81 f81 => ?_
                  clear f80 a80
                  have f82 := f81.as (i := 71) (v' := .bool false) rfl (by rw [decide_eq_true (cnt_end x j (by omega))]; rfl)
                  clear f81
                  refine L.val f82 wantedN rfl (by decide) (E.pickF f82 rfl rfl) fun a83 f83 => ?_
                  clear f82 a81
                  refine wpList_nil (hK32 _ _ ?_)
                  try clear hK32 K32
                  have f84 := f83.sub (sub_cons (i := 6) rfl (sub_cons (i := 7) rfl (sub_cons (i := 8) rfl (sub_cons (i := 10) rfl (sub_cons (i := 11) rfl (sub_cons (i := 25) rfl (sub_cons (i := 26) rfl (sub_cons (i := 27) rfl (sub_cons (i := 52) rfl (sub_cons (i := 53) rfl (sub_cons (i := 54) rfl (sub_cons (i := 55) rfl (sub_cons (i := 64) rfl (sub_cons (i := 65) rfl (sub_cons (i := 66) rfl (sub_cons (i := 67) rfl (sub_cons (i := 68) rfl (sub_cons (i := 69) rfl (sub_cons (i := 70) rfl (sub_cons (i := 71) rfl (sub_cons (i := 72) rfl sub_nil)))))))))))))))))))))
                  clear f83
                  refine C.condF f84 rfl ?_
                  refine wp_skip (hK12 _ _ ?_)
                  try clear hK12 K12
                  have f85 := f84.sub (sub_cons (i := 6) rfl (sub_cons (i := 7) rfl (sub_cons (i := 8) rfl (sub_cons (i := 10) rfl (sub_cons (i := 11) rfl (sub_cons (i := 25) rfl (sub_cons (i := 26) rfl (sub_cons (i := 27) rfl (sub_cons (i := 52) rfl (sub_cons (i := 53) rfl (sub_cons (i := 54) rfl (sub_cons (i := 55) rfl (sub_cons (i := 64) rfl (sub_cons (i := 65) rfl (sub_cons (i := 66) rfl (sub_cons (i := 67) rfl (sub_cons (i := 68) rfl (sub_cons (i := 69) rfl (sub_cons (i := 70) rfl (sub_cons (i := 71) rfl (sub_cons (i := 72) rfl sub_nil)))))))))))))))))))))
                  clear f84
                  refine C.region ?_
                  refine L.val f85 wantedN rfl (by decide) (E.add f85 rfl rfl (IntWalk.i64_in _ (by omega))) fun a86 f86 => ?_
                  clear f85 a83
                  refine L.val f86 wantedN rfl (by decide) (E.move f86 rfl) fun a87 f87 => ?_
                  clear f86 a86
                  refine wpList_nil (hKL9 _ _ (gk10 - 1) ?_ ?_)
                  · omega
                  · exact ⟨k + 1, by omega, HK, SL, f87.sub (sub_cons rfl (sub_cons rfl (sub_cons rfl sub_nil)))⟩
        · clear f29
          refine C.condF f30 rfl ?_
          refine wp_exit (hK7 _ _ ?_)
          try clear hK7 K7
          have f31 := f30.sub sub_nil
          clear f30
          refine wp_seq_k fun K33 hK33 => ?_
          refine C.region ?_
          refine L.val f31 wantedN rfl (by decide) (E.assign f31 rfl) fun a32 f32 => ?_
          clear f31 a28
          refine wpList_nil (hK33 _ _ ?_)
          try clear hK33 K33
          have f33 := f32.sub (sub_cons (i := 4) rfl sub_nil)
          clear f32
          refine wp_ret ?_
          try simp only [Exit.inBlock, Exit.then]
          refine C.ret (P := Tryd.prog) (fn := Tryd.f6) f33 rfl rfl ?_
          exact ⟨HK, rfl⟩

end Go.Proofs.YtpdacegpjofdeaaDoor
