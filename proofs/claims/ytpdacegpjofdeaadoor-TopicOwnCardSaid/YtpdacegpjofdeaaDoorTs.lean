/- The walk of TopicAll. -/
import Derived.Test.YtpdacegpjofdeaaDoorTq
set_option linter.all false
namespace Go.Proofs.YtpdacegpjofdeaaDoor
open Go.RowKit Go.Hub Go.Lib
theorem wzi9_ts : (Tryd.prog.info? 9).map (fun i => (i.zero, i.size)) = some (some (.string ⟨#[]⟩), 1) := by kernel_rfl
theorem wbs26_2_ts (x0 : ByteArray) (x1 : ByteArray) : Instr.fill (fun i => some (i * 1, 1)) ((Array.range (2 * 1)).map fun j => (Value.cells (.string ⟨#[]⟩))[j % (Value.cells (.string ⟨#[]⟩)).size]!) [(0, .string x0), (1, .string x1)] = some #[.string x0, .string x1] := by kernel_rfl
theorem wsz9_ts : (Tryd.prog.info? 9).map (·.size) = some 1 := by kernel_rfl

theorem two_size {s t x : ByteArray} {k : Nat} (h : [s, t][k]? = some x) {m : Nat} (hs : s.size ≤ m) (ht : t.size ≤ m) : x.size ≤ m := by
  have := List.mem_of_getElem? h
  simp at this
  rcases this with rfl | rfl
  · exact hs
  · exact ht

set_option maxHeartbeats 1000000 in
theorem all_walk (s : ByteArray) (us : List UInt8) (A : Option Addr) (c : Nat) (w : World) (G : Glob w) (A1 : Us w A us) : Calls Tryd.prog 7 #[.string s, .slice A us.length c] w (fun e w' => Kept [] w w' ∧ e = .returned (.bool true)) := by
  have HK : Kept [] w w := Kept.refl [] w
  refine C.enter Tryd.func7 rfl Tryd.ntmps7 rfl ?_
  intro a0 f0
  have f1 : Fr 73 a0 [(0, .string s), (1, .slice A us.length c)] := f0
  clear f0
  refine wp_seq_k fun K0 hK0 => ?_
  refine C.region ?_
  refine L.val f1 wantedN rfl (by decide) (E.assign f1 rfl) fun a2 f2 => ?_
  clear f1 a0
  refine wpList_nil (hK0 _ _ ?_)
  try clear hK0 K0
  have f3 := f2.sub (sub_cons (i := 0) rfl (sub_cons (i := 1) rfl (sub_cons (i := 4) rfl sub_nil)))
  clear f2
  refine wp_seq_k fun K1 hK1 => ?_
  refine wp_seq_k fun K2 hK2 => ?_
  refine C.region ?_
  refine L.call f3 wantedN rfl (by decide) (run_call Tryd.call8 (args0 f3)) (known_any w (G.kept HK)) ?_
  rintro e w1 ⟨kc1, rfl⟩
  refine ⟨_, rfl, fun a4 f4 => ?_⟩
  clear f3 a2
  have szw1 := kc1.size
  replace HK := HK.trans kc1 (by simp)
  clear kc1
  refine L.val f4 wantedN rfl (by decide) (E.not f4 rfl) fun a5 f5 => ?_
  clear f4 a4
  refine wpList_nil (hK2 _ _ ?_)
  try clear hK2 K2
  have f6 := f5.sub (sub_cons (i := 0) rfl (sub_cons (i := 1) rfl (sub_cons (i := 4) rfl (sub_cons (i := 10) rfl sub_nil))))
  clear f5
  refine C.condF f6 rfl ?_
  refine wp_skip (hK1 _ _ ?_)
  try clear hK1 K1
  have f7 := f6.sub (sub_cons (i := 0) rfl (sub_cons (i := 1) rfl (sub_cons (i := 4) rfl sub_nil)))
  clear f6
  refine wp_seq_k fun K3 hK3 => ?_
  refine wp_seq_k fun K4 hK4 => ?_
  refine C.region ?_
  refine L.val f7 wantedN rfl (by decide) (E.move f7 rfl) fun a8 f8 => ?_
  clear f7 a5
  refine L.val f8 wantedN rfl (by decide) (E.lenS f8 Tryd.underlying9 rfl) fun a9 f9 => ?_
  clear f8 a8
  refine L.val f9 wantedN rfl (by decide) (E.gtr f9 rfl rfl) fun a10 f10 => ?_
  clear f9 a9
  refine L.val f10 wantedN rfl (by decide) (E.move f10 rfl) fun a11 f11 => ?_
  clear f10 a10
  first | refine f11.splitD 14 rfl (fun h0 f12 => ?_) (fun h0 f12 => ?_) | refine f11.splitN 14 rfl (fun h0 f12 => ?_) (fun h0 f12 => ?_) | refine f11.splitNB 14 rfl (fun h0 f12 => ?_) (fun h0 f12 => ?_) | refine f11.split 14 rfl (fun h0 f12 => ?_) (fun h0 f12 => ?_)
  · clear f11
    have h14 := h0
    refine L.skip f12 (f12.noF rfl rfl) rfl (by decide) fun a13 f13 => ?_
    clear f12 a11
    refine L.skip f13 (f13.noF rfl rfl) rfl (by decide) fun a14 f14 => ?_
    clear f13 a13
    refine L.skip f14 (f14.noF rfl rfl) rfl (by decide) fun a15 f15 => ?_
    clear f14 a14
    refine L.val f15 wantedN rfl (by decide) (E.pickT f15 rfl rfl) fun a16 f16 => ?_
    clear f15 a15
    refine wpList_nil (hK4 _ _ ?_)
    try clear hK4 K4
    have f17 := f16.sub (sub_cons (i := 0) rfl (sub_cons (i := 1) rfl (sub_cons (i := 4) rfl (sub_cons (i := 18) rfl sub_nil))))
    clear f16
    refine C.condT f17 rfl ?_
    refine wp_seq_k fun K5 hK5 => ?_
    refine C.region ?_
    refine L.val f17 wantedN rfl (by decide) (E.assign f17 rfl) fun a18 f18 => ?_
    clear f17 a16
    refine wpList_nil (hK5 _ _ ?_)
    try clear hK5 K5
    have f19 := f18.sub (sub_cons (i := 0) rfl (sub_cons (i := 1) rfl (sub_cons (i := 4) rfl sub_nil)))
    clear f18
    refine wp_ret ?_
    try simp only [Exit.inBlock, Exit.then]
    refine C.ret (P := Tryd.prog) (fn := Tryd.f7) f19 rfl rfl ?_
    exact ⟨HK, rfl⟩
  · clear f11
    have h14 := h0
    refine L.val f12 (f12.yes rfl rfl) rfl (by decide) (E.move f12 rfl) fun a13 f13 => ?_
    clear f12 a11
    refine L.val f13 (f13.yes rfl rfl) rfl (by decide) (E.lenL f13 Tryd.underlying22 rfl) fun a14 f14 => ?_
    clear f13 a13
    refine L.val f14 (f14.yes rfl rfl) rfl (by decide) (E.gtr f14 rfl rfl) fun a15 f15 => ?_
    clear f14 a14
    refine L.val f15 wantedN rfl (by decide) (E.pickF f15 rfl rfl) fun a16 f16 => ?_
    clear f15 a15
    refine wpList_nil (hK4 _ _ ?_)
    try clear hK4 K4
    have f17 := f16.sub (sub_cons (i := 0) rfl (sub_cons (i := 1) rfl (sub_cons (i := 4) rfl (sub_cons (i := 18) rfl sub_nil))))
    clear f16
    first | refine f17.splitD 18 rfl (fun h1 f18 => ?_) (fun h1 f18 => ?_) | refine f17.splitN 18 rfl (fun h1 f18 => ?_) (fun h1 f18 => ?_) | refine f17.splitNB 18 rfl (fun h1 f18 => ?_) (fun h1 f18 => ?_) | refine f17.split 18 rfl (fun h1 f18 => ?_) (fun h1 f18 => ?_)
    · clear f17
      refine C.condT f18 rfl ?_
      refine wp_seq_k fun K6 hK6 => ?_
      refine C.region ?_
      refine L.val f18 wantedN rfl (by decide) (E.assign f18 rfl) fun a19 f19 => ?_
      clear f18 a16
      refine wpList_nil (hK6 _ _ ?_)
      try clear hK6 K6
      have f20 := f19.sub (sub_cons (i := 0) rfl (sub_cons (i := 1) rfl (sub_cons (i := 4) rfl sub_nil)))
      clear f19
      refine wp_ret ?_
      try simp only [Exit.inBlock, Exit.then]
      refine C.ret (P := Tryd.prog) (fn := Tryd.f7) f20 rfl rfl ?_
      exact ⟨HK, rfl⟩
    · clear f17
      refine C.condF f18 rfl ?_
      refine wp_skip (hK3 _ _ ?_)
      try clear hK3 K3
      have f19 := f18.sub (sub_cons (i := 0) rfl (sub_cons (i := 1) rfl (sub_cons (i := 4) rfl sub_nil)))
      clear f18
      refine wp_seq_k fun K7 hK7 => ?_
      refine wp_seq_k fun K8 hK8 => ?_
      refine C.region ?_
      refine L.val f19 wantedN rfl (by decide) (E.move f19 rfl) fun a20 f20 => ?_
      clear f19 a16
      refine L.val f20 wantedN rfl (by decide) (E.move f20 rfl) fun a21 f21 => ?_
      clear f20 a20
      refine L.call f21 wantedN rfl (by decide) (run_call Tryd.call9 (args1 f21 rfl)) (pieces_any us _ _ w1 (A1.kept HK) (by omega)) ?_
      rintro e w2 ⟨kc2, t, rfl, ht⟩
      refine ⟨_, rfl, fun a22 f22 => ?_⟩
      clear f21 a21
      have szw2 := kc2.size
      replace HK := HK.trans kc2 (by simp)
      clear kc2
      refine L.buildSlice f22 wantedN (by decide) (parts2 f22 rfl rfl) Tryd.underlying26 wzi9_ts rfl rfl (wbs26_2_ts _ _) fun a23 w3 g2 N2 f23 => ?_
      have SL := ss_blk (l := [s, t]) N2.blk
      have Bg2 := N2.blk
      have kg2 := N2.kept
      have log2 := N2.lo
      have ltg2 := Bg2.lt
      have szw3 := kg2.size
      have frg2 : w.heap.size ≤ g2 := Nat.le_trans HK.size log2
      replace HK := HK.trans kg2 (by simp)
      clear N2 kg2
      clear f22 a22
      refine L.val f23 wantedN rfl (by decide) (E.lenL f23 Tryd.underlying26 rfl) fun a24 f24 => ?_
      clear f23 a23
      refine L.val f24 wantedN rfl (by decide) (E.move f24 rfl) fun a25 f25 => ?_
      clear f24 a24
      refine wpList_nil (hK8 _ _ ?_)
      try clear hK8 K8
      have f26 := f25.sub (sub_cons (i := 4) rfl (sub_cons (i := 22) rfl (sub_cons (i := 23) rfl (sub_cons (i := 24) rfl sub_nil))))
      clear f25
      refine wp_block ?_
      refine C.loop (fun gk a W => ∃ k : Nat, k + gk = 2 ∧ Kept [] w W ∧ Ss W (some ⟨g2, 0, none⟩) [s, t] ∧ Fr 73 a [(22, .slice (some ⟨g2, 0, none⟩) 2 2), (23, .int .i64 2), (24, .int .i64 k)]) (2) ?_ ?_
      · exact ⟨0, by omega, HK, SL, f26.sub (sub_cons rfl (sub_cons rfl (sub_cons rfl sub_nil)))⟩
      · intro gk10 a27 w4 hI KL9 hKL9
        obtain ⟨k, hk, HK, SL, f27⟩ := hI
        try clear f26
        refine wp_seq_k fun K10 hK10 => ?_
        refine C.region ?_
        refine L.val f27 wantedN rfl (by decide) (E.lss f27 rfl rfl) fun a28 f28 => ?_
        clear f27 a27
        refine wpList_nil (hK10 _ _ ?_)
        try clear hK10 K10
        have f29 := f28.sub (sub_cons (i := 22) rfl (sub_cons (i := 23) rfl (sub_cons (i := 24) rfl (sub_cons (i := 25) rfl sub_nil))))
        clear f28
        refine wp_seq_k fun K11 hK11 => ?_
        first | refine f29.splitD 25 rfl (fun h2 f30 => ?_) (fun h2 f30 => ?_) | refine f29.splitN 25 rfl (fun h2 f30 => ?_) (fun h2 f30 => ?_) | refine f29.splitNB 25 rfl (fun h2 f30 => ?_) (fun h2 f30 => ?_) | refine f29.split 25 rfl (fun h2 f30 => ?_) (fun h2 f30 => ?_)
        · clear f29
          refine C.condT f30 rfl ?_
          refine wp_skip (hK11 _ _ ?_)
          try clear hK11 K11
          have f31 := f30.sub (sub_cons (i := 22) rfl (sub_cons (i := 23) rfl (sub_cons (i := 24) rfl (sub_cons (i := 25) rfl sub_nil))))
          clear f30
          refine wp_seq_k fun K12 hK12 => ?_
          refine wp_block ?_
          refine wp_seq_k fun K13 hK13 => ?_
          obtain ⟨x, hx⟩ : ∃ x, [s, t][k]? = some x := ⟨[s, t][k]'(by simp; omega), List.getElem?_eq_getElem _⟩
          have hxs : x.size ≤ 60 := two_size hx (by omega) (by omega)
          refine C.region ?_
          refine L.val f31 wantedN rfl (by decide) (E.indexA f31 (by first | rfl | assumption) Tryd.underlying26 wsz9_ts rfl rfl (by omega) (by omega)) fun a32 f32 => ?_
          clear f31 a28
          refine L.val f32 wantedN rfl (by decide) (by exact E.load f32 Tryd.underlying9 rfl rfl (ss_cell SL rfl hx)) fun a33 f33 => ?_
          clear f32 a32
          refine L.val f33 wantedN rfl (by decide) (E.assign f33 rfl) fun a34 f34 => ?_
          clear f33 a33
          refine wpList_nil (hK13 _ _ ?_)
          try clear hK13 K13
          have f35 := f34.sub (sub_cons (i := 6) rfl (sub_cons (i := 22) rfl (sub_cons (i := 23) rfl (sub_cons (i := 24) rfl (sub_cons (i := 25) rfl (sub_cons (i := 26) rfl (sub_cons (i := 27) rfl sub_nil)))))))
          clear f34
          refine wp_seq_k fun K14 hK14 => ?_
          refine C.region ?_
          refine L.val f35 wantedN rfl (by decide) (E.move f35 rfl) fun a36 f36 => ?_
          clear f35 a34
          refine L.call f36 wantedN rfl (by decide) (run_call Tryd.call13 (args1 f36 rfl)) (nameR_any x w4 (G.kept HK) (by omega)) ?_
          rintro e w5 ⟨kc5, rfl⟩
          refine ⟨_, rfl, fun a37 f37 => ?_⟩
          clear f36 a36
          have szw5 := kc5.size
          replace HK := HK.trans kc5 (by simp)
          replace SL := SL.kept kc5
          clear kc5
          first | refine f37.splitD 29 rfl (fun h3 f38 => ?_) (fun h3 f38 => ?_) | refine f37.splitN 29 rfl (fun h3 f38 => ?_) (fun h3 f38 => ?_) | refine f37.splitNB 29 rfl (fun h3 f38 => ?_) (fun h3 f38 => ?_) | refine f37.split 29 rfl (fun h3 f38 => ?_) (fun h3 f38 => ?_)
          · clear f37
            have h29 := h3
            refine L.val f38 wantedN rfl (by decide) (E.assign f38 rfl) fun a39 f39 => ?_
            clear f38 a37
            refine wpList_nil (hK14 _ _ ?_)
            try clear hK14 K14
            have f40 := f39.sub (sub_cons (i := 6) rfl (sub_cons (i := 7) rfl (sub_cons (i := 22) rfl (sub_cons (i := 23) rfl (sub_cons (i := 24) rfl (sub_cons (i := 25) rfl (sub_cons (i := 26) rfl (sub_cons (i := 27) rfl (sub_cons (i := 28) rfl (sub_cons (i := 29) rfl sub_nil))))))))))
            clear f39
            refine wp_seq_k fun K15 hK15 => ?_
            obtain ⟨b, hb⟩ : ∃ b, x[0]? = some b := ⟨x[0]'(name_pos h29), getElem?_pos x 0 (name_pos h29)⟩
            refine C.region ?_
            refine L.val f40 wantedN rfl (by decide) (E.move f40 rfl) fun a41 f41 => ?_
            clear f40 a39
            refine L.val f41 wantedN rfl (by decide) (E.move f41 rfl) fun a42 f42 => ?_
            clear f41 a41
            refine L.val f42 (f42.yes rfl rfl) rfl (by decide) (E.move f42 rfl) fun a43 f43 => ?_
            clear f42 a42
            refine L.val f43 (f43.yes rfl rfl) rfl (by decide) (E.indexS f43 Tryd.underlying9 rfl rfl (by omega) (by assumption)) fun a44 f44 => ?_
            clear f43 a43
            refine L.val f44 (f44.yes rfl rfl) rfl (by decide) (E.neq f44 rfl rfl) fun a45 f45 => ?_
            clear f44 a44
            refine L.val f45 wantedN rfl (by decide) (E.pickT f45 rfl rfl) fun a46 f46 => ?_
            clear f45 a45
            refine L.val f46 wantedN rfl (by decide) (E.assign f46 rfl) fun a47 f47 => ?_
            clear f46 a46
            refine wpList_nil (hK15 _ _ ?_)
            try clear hK15 K15
            have f48 := f47.sub (sub_cons (i := 6) rfl (sub_cons (i := 7) rfl (sub_cons (i := 8) rfl (sub_cons (i := 22) rfl (sub_cons (i := 23) rfl (sub_cons (i := 24) rfl (sub_cons (i := 25) rfl (sub_cons (i := 26) rfl (sub_cons (i := 27) rfl (sub_cons (i := 28) rfl (sub_cons (i := 29) rfl (sub_cons (i := 30) rfl (sub_cons (i := 31) rfl (sub_cons (i := 32) rfl (sub_cons (i := 33) rfl (sub_cons (i := 34) rfl (sub_cons (i := 35) rfl sub_nil)))))))))))))))))
            clear f47
            refine wp_seq_k fun K16 hK16 => ?_
            have hpl := plain_at h29 hb
            have f49 := f48.as (i := 8) (v' := .bool (plainB x)) rfl (by rw [hpl])
            clear f48
            refine C.region ?_
            refine L.val f49 wantedN rfl (by decide) (E.move f49 rfl) fun a50 f50 => ?_
            clear f49 a47
            refine L.call f50 wantedN rfl (by decide) (run_call Tryd.call19 (args2 f50 rfl rfl)) (match_any ⟨#[35]⟩ x w5 (G.kept HK) (by decide) (by omega)) ?_
            rintro e w6 ⟨kc6, rfl⟩
            refine ⟨_, rfl, fun a51 f51 => ?_⟩
            clear f50 a50
            have szw6 := kc6.size
            replace HK := HK.trans kc6 (by simp)
            replace SL := SL.kept kc6
            clear kc6
            refine L.val f51 wantedN rfl (by decide) (E.move f51 rfl) fun a52 f52 => ?_
            clear f51 a51
            refine L.val f52 wantedN rfl (by decide) (E.neqB f52 Tryd.underlying4 rfl rfl) fun a53 f53 => ?_
            clear f52 a52
            have f54 := f53.as (i := 39) (v' := .bool false) rfl (by rw [all_hash]; simp)
            clear f53
            refine L.val f54 wantedN rfl (by decide) (E.move f54 rfl) fun a55 f55 => ?_
            clear f54 a53
            refine L.val f55 (f55.yes rfl rfl) rfl (by decide) (E.move f55 rfl) fun a56 f56 => ?_
            clear f55 a55
            refine L.call f56 (f56.yes rfl rfl) rfl (by decide) (run_call Tryd.call19 (args2 f56 rfl rfl)) (match_any ⟨#[43]⟩ x w6 (G.kept HK) (by decide) (by omega)) ?_
            rintro e w7 ⟨kc7, rfl⟩
            refine ⟨_, rfl, fun a57 f57 => ?_⟩
            clear f56 a56
            have szw7 := kc7.size
            replace HK := HK.trans kc7 (by simp)
            replace SL := SL.kept kc7
            clear kc7
            refine L.val f57 (f57.yes rfl rfl) rfl (by decide) (E.move f57 rfl) fun a58 f58 => ?_
            clear f57 a57
            refine L.val f58 (f58.yes rfl rfl) rfl (by decide) (E.move f58 rfl) fun a59 f59 => ?_
            clear f58 a58
            first | refine f59.splitD 44 rfl (fun h4 f60 => ?_) (fun h4 f60 => ?_) | refine f59.splitN 44 rfl (fun h4 f60 => ?_) (fun h4 f60 => ?_) | refine f59.splitNB 44 rfl (fun h4 f60 => ?_) (fun h4 f60 => ?_) | refine f59.split 44 rfl (fun h4 f60 => ?_) (fun h4 f60 => ?_)
            · clear f59
              have h44 := h4
              refine L.val f60 (f60.yes rfl rfl) rfl (by decide) (E.move f60 rfl) fun a61 f61 => ?_
              clear f60 a59
              refine L.call f61 (f61.yes rfl rfl) rfl (by decide) (run_call Tryd.call18 (args1 f61 rfl)) (levelsR_any x w7 (G.kept HK) (by omega)) ?_
              rintro e w8 ⟨kc8, Al, cl, rfl, LL, l2, l3, l4⟩
              refine ⟨_, rfl, fun a62 f62 => ?_⟩
              clear f61 a61
              have szw8 := kc8.size
              replace HK := HK.trans kc8 (by simp)
              replace SL := SL.kept kc8
              clear kc8
              refine L.val f62 (f62.yes rfl rfl) rfl (by decide) (E.lenL f62 Tryd.underlying26 rfl) fun a63 f63 => ?_
              clear f62 a62
              refine L.val f63 (f63.yes rfl rfl) rfl (by decide) (E.eql f63 rfl rfl) fun a64 f64 => ?_
              clear f63 a63
              refine L.val f64 (f64.yes rfl rfl) rfl (by decide) (E.pickT f64 rfl rfl) fun a65 f65 => ?_
              clear f64 a64
              refine L.val f65 (f65.yes rfl rfl) rfl (by decide) (E.neqB f65 Tryd.underlying4 rfl rfl) fun a66 f66 => ?_
              clear f65 a65
              have f67 := f66.as (i := 50) (v' := .bool false) rfl (by rw [all_plus, h44]; simp)
              clear f66
              refine L.val f67 wantedN rfl (by decide) (E.pickF f67 rfl rfl) fun a68 f68 => ?_
              clear f67 a66
              refine L.val f68 wantedN rfl (by decide) (E.move f68 rfl) fun a69 f69 => ?_
              clear f68 a68
              refine L.val f69 (f69.yes rfl rfl) rfl (by decide) (E.move f69 rfl) fun a70 f70 => ?_
              clear f69 a69
              refine L.call f70 (f70.yes rfl rfl) rfl (by decide) (run_call Tryd.call19 (args2 f70 rfl rfl)) (match_any ⟨#[43, 47, 35]⟩ x w8 (G.kept HK) (by decide) (by omega)) ?_
              rintro e w9 ⟨kc9, rfl⟩
              refine ⟨_, rfl, fun a71 f71 => ?_⟩
              clear f70 a70
              have szw9 := kc9.size
              replace HK := HK.trans kc9 (by simp)
              replace SL := SL.kept kc9
              clear kc9
              refine L.val f71 (f71.yes rfl rfl) rfl (by decide) (E.move f71 rfl) fun a72 f72 => ?_
              clear f71 a71
              refine L.val f72 (f72.yes rfl rfl) rfl (by decide) (E.neqB f72 Tryd.underlying4 rfl rfl) fun a73 f73 => ?_
              clear f72 a72
              have f74 := f73.as (i := 56) (v' := .bool false) rfl (by rw [all_ph]; simp)
              clear f73
              refine L.val f74 wantedN rfl (by decide) (E.pickF f74 rfl rfl) fun a75 f75 => ?_
              clear f74 a73
              refine L.val f75 wantedN rfl (by decide) (E.move f75 rfl) fun a76 f76 => ?_
              clear f75 a75
              refine L.val f76 (f76.yes rfl rfl) rfl (by decide) (E.move f76 rfl) fun a77 f77 => ?_
              clear f76 a76
              refine L.call f77 (f77.yes rfl rfl) rfl (by decide) (run_call Tryd.call12 (args1 f77 rfl)) (name_any x w9 (G.kept HK) (by omega)) ?_
              rintro e w10 ⟨kc10, rfl⟩
              refine ⟨_, rfl, fun a78 f78 => ?_⟩
              clear f77 a77
              have szw10 := kc10.size
              replace HK := HK.trans kc10 (by simp)
              replace SL := SL.kept kc10
              clear kc10
              have f79 := f78.as (i := 60) (v' := .bool true) rfl (by rw [h29])
              clear f78
              refine L.val f79 (f79.yes rfl rfl) rfl (by decide) (E.move f79 rfl) fun a80 f80 => ?_
              clear f79 a78
              refine L.val f80 (f80.yes rfl rfl) rfl (by decide) (E.neqB f80 Tryd.underlying4 rfl rfl) fun a81 f81 => ?_
              clear f80 a80
              have f82 := f81.as (i := 62) (v' := .bool false) rfl rfl
              clear f81
              refine L.val f82 wantedN rfl (by decide) (E.pickF f82 rfl rfl) fun a83 f83 => ?_
              clear f82 a81
              refine L.val f83 wantedN rfl (by decide) (E.move f83 rfl) fun a84 f84 => ?_
              clear f83 a83
              refine L.val f84 (f84.yes rfl rfl) rfl (by decide) (E.move f84 rfl) fun a85 f85 => ?_
              clear f84 a84
              refine L.val f85 (f85.yes rfl rfl) rfl (by decide) (E.move f85 rfl) fun a86 f86 => ?_
              clear f85 a85
              refine L.val f86 (f86.yes rfl rfl) rfl (by decide) (E.move f86 rfl) fun a87 f87 => ?_
              clear f86 a86
              refine L.call f87 (f87.yes rfl rfl) rfl (by decide) (run_call Tryd.call14 (args1 f87 rfl)) (filter_any x w10 (G.kept HK) (by omega)) ?_
              rintro e w11 ⟨kc11, rfl⟩
              refine ⟨_, rfl, fun a88 f88 => ?_⟩
              clear f87 a87
              have szw11 := kc11.size
              replace HK := HK.trans kc11 (by simp)
              replace SL := SL.kept kc11
              clear kc11
              have f89 := f88.as (i := 68) (v' := .bool true) rfl (by rw [name_filter h29])
              clear f88
              refine L.val f89 (f89.yes rfl rfl) rfl (by decide) (E.not f89 rfl) fun a90 f90 => ?_
              clear f89 a88
              refine L.val f90 (f90.yes rfl rfl) rfl (by decide) (E.pickT f90 rfl rfl) fun a91 f91 => ?_
              clear f90 a90
              refine L.val f91 wantedN rfl (by decide) (E.pickF f91 rfl rfl) fun a92 f92 => ?_
              clear f91 a91
              refine wpList_nil (hK16 _ _ ?_)
              try clear hK16 K16
              have f93 := f92.sub (sub_cons (i := 6) rfl (sub_cons (i := 7) rfl (sub_cons (i := 8) rfl (sub_cons (i := 22) rfl (sub_cons (i := 23) rfl (sub_cons (i := 24) rfl (sub_cons (i := 25) rfl (sub_cons (i := 26) rfl (sub_cons (i := 27) rfl (sub_cons (i := 28) rfl (sub_cons (i := 29) rfl (sub_cons (i := 30) rfl (sub_cons (i := 31) rfl (sub_cons (i := 32) rfl (sub_cons (i := 33) rfl (sub_cons (i := 34) rfl (sub_cons (i := 35) rfl (sub_cons (i := 36) rfl (sub_cons (i := 37) rfl (sub_cons (i := 38) rfl (sub_cons (i := 39) rfl (sub_cons (i := 40) rfl (sub_cons (i := 41) rfl (sub_cons (i := 42) rfl (sub_cons (i := 43) rfl (sub_cons (i := 44) rfl (sub_cons (i := 45) rfl (sub_cons (i := 46) rfl (sub_cons (i := 47) rfl (sub_cons (i := 48) rfl (sub_cons (i := 49) rfl (sub_cons (i := 50) rfl (sub_cons (i := 51) rfl (sub_cons (i := 52) rfl (sub_cons (i := 53) rfl (sub_cons (i := 54) rfl (sub_cons (i := 55) rfl (sub_cons (i := 56) rfl (sub_cons (i := 57) rfl (sub_cons (i := 58) rfl (sub_cons (i := 59) rfl (sub_cons (i := 60) rfl (sub_cons (i := 61) rfl (sub_cons (i := 62) rfl (sub_cons (i := 63) rfl (sub_cons (i := 64) rfl (sub_cons (i := 65) rfl (sub_cons (i := 66) rfl (sub_cons (i := 67) rfl (sub_cons (i := 68) rfl (sub_cons (i := 69) rfl (sub_cons (i := 70) rfl (sub_cons (i := 71) rfl sub_nil)))))))))))))))))))))))))))))))))))))))))))))))))))))
              clear f92
              refine C.condF f93 rfl ?_
              refine wp_skip (hK12 _ _ ?_)
              try clear hK12 K12
              have f94 := f93.sub (sub_cons (i := 6) rfl (sub_cons (i := 7) rfl (sub_cons (i := 8) rfl (sub_cons (i := 22) rfl (sub_cons (i := 23) rfl (sub_cons (i := 24) rfl (sub_cons (i := 25) rfl (sub_cons (i := 26) rfl (sub_cons (i := 27) rfl (sub_cons (i := 28) rfl (sub_cons (i := 29) rfl (sub_cons (i := 30) rfl (sub_cons (i := 31) rfl (sub_cons (i := 32) rfl (sub_cons (i := 33) rfl (sub_cons (i := 34) rfl (sub_cons (i := 35) rfl (sub_cons (i := 36) rfl (sub_cons (i := 37) rfl (sub_cons (i := 38) rfl (sub_cons (i := 39) rfl (sub_cons (i := 40) rfl (sub_cons (i := 41) rfl (sub_cons (i := 42) rfl (sub_cons (i := 43) rfl (sub_cons (i := 44) rfl (sub_cons (i := 45) rfl (sub_cons (i := 46) rfl (sub_cons (i := 47) rfl (sub_cons (i := 48) rfl (sub_cons (i := 49) rfl (sub_cons (i := 50) rfl (sub_cons (i := 51) rfl (sub_cons (i := 52) rfl (sub_cons (i := 53) rfl (sub_cons (i := 54) rfl (sub_cons (i := 55) rfl (sub_cons (i := 56) rfl (sub_cons (i := 57) rfl (sub_cons (i := 58) rfl (sub_cons (i := 59) rfl (sub_cons (i := 60) rfl (sub_cons (i := 61) rfl (sub_cons (i := 62) rfl (sub_cons (i := 63) rfl (sub_cons (i := 64) rfl (sub_cons (i := 65) rfl (sub_cons (i := 66) rfl (sub_cons (i := 67) rfl (sub_cons (i := 68) rfl (sub_cons (i := 69) rfl (sub_cons (i := 70) rfl (sub_cons (i := 71) rfl sub_nil)))))))))))))))))))))))))))))))))))))))))))))))))))))
              clear f93
              refine C.region ?_
              refine L.val f94 wantedN rfl (by decide) (E.add f94 rfl rfl (IntWalk.i64_in _ (by omega))) fun a95 f95 => ?_
              clear f94 a92
              refine L.val f95 wantedN rfl (by decide) (E.move f95 rfl) fun a96 f96 => ?_
              clear f95 a95
              refine wpList_nil (hKL9 _ _ (gk10 - 1) ?_ ?_)
              · omega
              · exact ⟨k + 1, by omega, HK, SL, f96.sub (sub_cons rfl (sub_cons rfl (sub_cons rfl sub_nil)))⟩
            · clear f59
              have h44 := h4
              refine L.skip f60 (f60.noT rfl rfl) rfl (by decide) fun a61 f61 => ?_
              clear f60 a59
              refine L.skip f61 (f61.noT rfl rfl) rfl (by decide) fun a62 f62 => ?_
              clear f61 a61
              refine L.skip f62 (f62.noT rfl rfl) rfl (by decide) fun a63 f63 => ?_
              clear f62 a62
              refine L.skip f63 (f63.noT rfl rfl) rfl (by decide) fun a64 f64 => ?_
              clear f63 a63
              refine L.val f64 (f64.yes rfl rfl) rfl (by decide) (E.pickF f64 rfl rfl) fun a65 f65 => ?_
              clear f64 a64
              refine L.val f65 (f65.yes rfl rfl) rfl (by decide) (E.neqB f65 Tryd.underlying4 rfl rfl) fun a66 f66 => ?_
              clear f65 a65
              have f67 := f66.as (i := 50) (v' := .bool false) rfl (by rw [all_plus, h44]; simp)
              clear f66
              refine L.val f67 wantedN rfl (by decide) (E.pickF f67 rfl rfl) fun a68 f68 => ?_
              clear f67 a66
              refine L.val f68 wantedN rfl (by decide) (E.move f68 rfl) fun a69 f69 => ?_
              clear f68 a68
              refine L.val f69 (f69.yes rfl rfl) rfl (by decide) (E.move f69 rfl) fun a70 f70 => ?_
              clear f69 a69
              refine L.call f70 (f70.yes rfl rfl) rfl (by decide) (run_call Tryd.call19 (args2 f70 rfl rfl)) (match_any ⟨#[43, 47, 35]⟩ x w7 (G.kept HK) (by decide) (by omega)) ?_
              rintro e w8 ⟨kc8, rfl⟩
              refine ⟨_, rfl, fun a71 f71 => ?_⟩
              clear f70 a70
              have szw8 := kc8.size
              replace HK := HK.trans kc8 (by simp)
              replace SL := SL.kept kc8
              clear kc8
              refine L.val f71 (f71.yes rfl rfl) rfl (by decide) (E.move f71 rfl) fun a72 f72 => ?_
              clear f71 a71
              refine L.val f72 (f72.yes rfl rfl) rfl (by decide) (E.neqB f72 Tryd.underlying4 rfl rfl) fun a73 f73 => ?_
              clear f72 a72
              have f74 := f73.as (i := 56) (v' := .bool false) rfl (by rw [all_ph]; simp)
              clear f73
              refine L.val f74 wantedN rfl (by decide) (E.pickF f74 rfl rfl) fun a75 f75 => ?_
              clear f74 a73
              refine L.val f75 wantedN rfl (by decide) (E.move f75 rfl) fun a76 f76 => ?_
              clear f75 a75
              refine L.val f76 (f76.yes rfl rfl) rfl (by decide) (E.move f76 rfl) fun a77 f77 => ?_
              clear f76 a76
              refine L.call f77 (f77.yes rfl rfl) rfl (by decide) (run_call Tryd.call12 (args1 f77 rfl)) (name_any x w8 (G.kept HK) (by omega)) ?_
              rintro e w9 ⟨kc9, rfl⟩
              refine ⟨_, rfl, fun a78 f78 => ?_⟩
              clear f77 a77
              have szw9 := kc9.size
              replace HK := HK.trans kc9 (by simp)
              replace SL := SL.kept kc9
              clear kc9
              have f79 := f78.as (i := 60) (v' := .bool true) rfl (by rw [h29])
              clear f78
              refine L.val f79 (f79.yes rfl rfl) rfl (by decide) (E.move f79 rfl) fun a80 f80 => ?_
              clear f79 a78
              refine L.val f80 (f80.yes rfl rfl) rfl (by decide) (E.neqB f80 Tryd.underlying4 rfl rfl) fun a81 f81 => ?_
              clear f80 a80
              have f82 := f81.as (i := 62) (v' := .bool false) rfl rfl
              clear f81
              refine L.val f82 wantedN rfl (by decide) (E.pickF f82 rfl rfl) fun a83 f83 => ?_
              clear f82 a81
              refine L.val f83 wantedN rfl (by decide) (E.move f83 rfl) fun a84 f84 => ?_
              clear f83 a83
              refine L.val f84 (f84.yes rfl rfl) rfl (by decide) (E.move f84 rfl) fun a85 f85 => ?_
              clear f84 a84
              refine L.val f85 (f85.yes rfl rfl) rfl (by decide) (E.move f85 rfl) fun a86 f86 => ?_
              clear f85 a85
              refine L.val f86 (f86.yes rfl rfl) rfl (by decide) (E.move f86 rfl) fun a87 f87 => ?_
              clear f86 a86
              refine L.call f87 (f87.yes rfl rfl) rfl (by decide) (run_call Tryd.call14 (args1 f87 rfl)) (filter_any x w9 (G.kept HK) (by omega)) ?_
              rintro e w10 ⟨kc10, rfl⟩
              refine ⟨_, rfl, fun a88 f88 => ?_⟩
              clear f87 a87
              have szw10 := kc10.size
              replace HK := HK.trans kc10 (by simp)
              replace SL := SL.kept kc10
              clear kc10
              have f89 := f88.as (i := 68) (v' := .bool true) rfl (by rw [name_filter h29])
              clear f88
              refine L.val f89 (f89.yes rfl rfl) rfl (by decide) (E.not f89 rfl) fun a90 f90 => ?_
              clear f89 a88
              refine L.val f90 (f90.yes rfl rfl) rfl (by decide) (E.pickT f90 rfl rfl) fun a91 f91 => ?_
              clear f90 a90
              refine L.val f91 wantedN rfl (by decide) (E.pickF f91 rfl rfl) fun a92 f92 => ?_
              clear f91 a91
              refine wpList_nil (hK16 _ _ ?_)
              try clear hK16 K16
              have f93 := f92.sub (sub_cons (i := 6) rfl (sub_cons (i := 7) rfl (sub_cons (i := 8) rfl (sub_cons (i := 22) rfl (sub_cons (i := 23) rfl (sub_cons (i := 24) rfl (sub_cons (i := 25) rfl (sub_cons (i := 26) rfl (sub_cons (i := 27) rfl (sub_cons (i := 28) rfl (sub_cons (i := 29) rfl (sub_cons (i := 30) rfl (sub_cons (i := 31) rfl (sub_cons (i := 32) rfl (sub_cons (i := 33) rfl (sub_cons (i := 34) rfl (sub_cons (i := 35) rfl (sub_cons (i := 36) rfl (sub_cons (i := 37) rfl (sub_cons (i := 38) rfl (sub_cons (i := 39) rfl (sub_cons (i := 40) rfl (sub_cons (i := 41) rfl (sub_cons (i := 42) rfl (sub_cons (i := 43) rfl (sub_cons (i := 44) rfl (sub_cons (i := 45) rfl (sub_cons (i := 46) rfl (sub_cons (i := 47) rfl (sub_cons (i := 48) rfl (sub_cons (i := 49) rfl (sub_cons (i := 50) rfl (sub_cons (i := 51) rfl (sub_cons (i := 52) rfl (sub_cons (i := 53) rfl (sub_cons (i := 54) rfl (sub_cons (i := 55) rfl (sub_cons (i := 56) rfl (sub_cons (i := 57) rfl (sub_cons (i := 58) rfl (sub_cons (i := 59) rfl (sub_cons (i := 60) rfl (sub_cons (i := 61) rfl (sub_cons (i := 62) rfl (sub_cons (i := 63) rfl (sub_cons (i := 64) rfl (sub_cons (i := 65) rfl (sub_cons (i := 66) rfl (sub_cons (i := 67) rfl (sub_cons (i := 68) rfl (sub_cons (i := 69) rfl (sub_cons (i := 70) rfl (sub_cons (i := 71) rfl sub_nil)))))))))))))))))))))))))))))))))))))))))))))))))))))
              clear f92
              refine C.condF f93 rfl ?_
              refine wp_skip (hK12 _ _ ?_)
              try clear hK12 K12
              have f94 := f93.sub (sub_cons (i := 6) rfl (sub_cons (i := 7) rfl (sub_cons (i := 8) rfl (sub_cons (i := 22) rfl (sub_cons (i := 23) rfl (sub_cons (i := 24) rfl (sub_cons (i := 25) rfl (sub_cons (i := 26) rfl (sub_cons (i := 27) rfl (sub_cons (i := 28) rfl (sub_cons (i := 29) rfl (sub_cons (i := 30) rfl (sub_cons (i := 31) rfl (sub_cons (i := 32) rfl (sub_cons (i := 33) rfl (sub_cons (i := 34) rfl (sub_cons (i := 35) rfl (sub_cons (i := 36) rfl (sub_cons (i := 37) rfl (sub_cons (i := 38) rfl (sub_cons (i := 39) rfl (sub_cons (i := 40) rfl (sub_cons (i := 41) rfl (sub_cons (i := 42) rfl (sub_cons (i := 43) rfl (sub_cons (i := 44) rfl (sub_cons (i := 45) rfl (sub_cons (i := 46) rfl (sub_cons (i := 47) rfl (sub_cons (i := 48) rfl (sub_cons (i := 49) rfl (sub_cons (i := 50) rfl (sub_cons (i := 51) rfl (sub_cons (i := 52) rfl (sub_cons (i := 53) rfl (sub_cons (i := 54) rfl (sub_cons (i := 55) rfl (sub_cons (i := 56) rfl (sub_cons (i := 57) rfl (sub_cons (i := 58) rfl (sub_cons (i := 59) rfl (sub_cons (i := 60) rfl (sub_cons (i := 61) rfl (sub_cons (i := 62) rfl (sub_cons (i := 63) rfl (sub_cons (i := 64) rfl (sub_cons (i := 65) rfl (sub_cons (i := 66) rfl (sub_cons (i := 67) rfl (sub_cons (i := 68) rfl (sub_cons (i := 69) rfl (sub_cons (i := 70) rfl (sub_cons (i := 71) rfl sub_nil)))))))))))))))))))))))))))))))))))))))))))))))))))))
              clear f93
              refine C.region ?_
              refine L.val f94 wantedN rfl (by decide) (E.add f94 rfl rfl (IntWalk.i64_in _ (by omega))) fun a95 f95 => ?_
              clear f94 a92
              refine L.val f95 wantedN rfl (by decide) (E.move f95 rfl) fun a96 f96 => ?_
              clear f95 a95
              refine wpList_nil (hKL9 _ _ (gk10 - 1) ?_ ?_)
              · omega
              · exact ⟨k + 1, by omega, HK, SL, f96.sub (sub_cons rfl (sub_cons rfl (sub_cons rfl sub_nil)))⟩
          · clear f37
            have h29 := h3
            refine L.val f38 wantedN rfl (by decide) (E.assign f38 rfl) fun a39 f39 => ?_
            clear f38 a37
            refine wpList_nil (hK14 _ _ ?_)
            try clear hK14 K14
            have f40 := f39.sub (sub_cons (i := 6) rfl (sub_cons (i := 7) rfl (sub_cons (i := 22) rfl (sub_cons (i := 23) rfl (sub_cons (i := 24) rfl (sub_cons (i := 25) rfl (sub_cons (i := 26) rfl (sub_cons (i := 27) rfl (sub_cons (i := 28) rfl (sub_cons (i := 29) rfl sub_nil))))))))))
            clear f39
            refine wp_seq_k fun K17 hK17 => ?_
            refine C.region ?_
            refine L.val f40 wantedN rfl (by decide) (E.move f40 rfl) fun a41 f41 => ?_
            clear f40 a39
            refine L.val f41 wantedN rfl (by decide) (E.move f41 rfl) fun a42 f42 => ?_
            clear f41 a41
            refine L.skip f42 (f42.noT rfl rfl) rfl (by decide) fun a43 f43 => ?_
            clear f42 a42
            refine L.skip f43 (f43.noT rfl rfl) rfl (by decide) fun a44 f44 => ?_
            clear f43 a43
            refine L.skip f44 (f44.noT rfl rfl) rfl (by decide) fun a45 f45 => ?_
            clear f44 a44
            refine L.val f45 wantedN rfl (by decide) (E.pickF f45 rfl rfl) fun a46 f46 => ?_
            clear f45 a45
            refine L.val f46 wantedN rfl (by decide) (E.assign f46 rfl) fun a47 f47 => ?_
            clear f46 a46
            refine wpList_nil (hK17 _ _ ?_)
            try clear hK17 K17
            have f48 := f47.sub (sub_cons (i := 6) rfl (sub_cons (i := 7) rfl (sub_cons (i := 8) rfl (sub_cons (i := 22) rfl (sub_cons (i := 23) rfl (sub_cons (i := 24) rfl (sub_cons (i := 25) rfl (sub_cons (i := 26) rfl (sub_cons (i := 27) rfl (sub_cons (i := 28) rfl (sub_cons (i := 29) rfl (sub_cons (i := 30) rfl (sub_cons (i := 31) rfl (sub_cons (i := 32) rfl (sub_cons (i := 33) rfl (sub_cons (i := 34) rfl (sub_cons (i := 35) rfl sub_nil)))))))))))))))))
            clear f47
            refine wp_seq_k fun K18 hK18 => ?_
            refine C.region ?_
            refine L.val f48 wantedN rfl (by decide) (E.move f48 rfl) fun a49 f49 => ?_
            clear f48 a47
            refine L.call f49 wantedN rfl (by decide) (run_call Tryd.call19 (args2 f49 rfl rfl)) (match_any ⟨#[35]⟩ x w5 (G.kept HK) (by decide) (by omega)) ?_
            rintro e w6 ⟨kc6, rfl⟩
            refine ⟨_, rfl, fun a50 f50 => ?_⟩
            clear f49 a49
            have szw6 := kc6.size
            replace HK := HK.trans kc6 (by simp)
            replace SL := SL.kept kc6
            clear kc6
            have f51 := f50.as (i := 37) (v' := .bool false) rfl (by rw [match_no h29])
            clear f50
            refine L.val f51 wantedN rfl (by decide) (E.move f51 rfl) fun a52 f52 => ?_
            clear f51 a50
            refine L.val f52 wantedN rfl (by decide) (E.neqB f52 Tryd.underlying4 rfl rfl) fun a53 f53 => ?_
            clear f52 a52
            have f54 := f53.as (i := 39) (v' := .bool false) rfl rfl
            clear f53
            refine L.val f54 wantedN rfl (by decide) (E.move f54 rfl) fun a55 f55 => ?_
            clear f54 a53
            refine L.val f55 (f55.yes rfl rfl) rfl (by decide) (E.move f55 rfl) fun a56 f56 => ?_
            clear f55 a55
            refine L.call f56 (f56.yes rfl rfl) rfl (by decide) (run_call Tryd.call19 (args2 f56 rfl rfl)) (match_any ⟨#[43]⟩ x w6 (G.kept HK) (by decide) (by omega)) ?_
            rintro e w7 ⟨kc7, rfl⟩
            refine ⟨_, rfl, fun a57 f57 => ?_⟩
            clear f56 a56
            have szw7 := kc7.size
            replace HK := HK.trans kc7 (by simp)
            replace SL := SL.kept kc7
            clear kc7
            have f58 := f57.as (i := 42) (v' := .bool false) rfl (by rw [match_no h29])
            clear f57
            refine L.val f58 (f58.yes rfl rfl) rfl (by decide) (E.move f58 rfl) fun a59 f59 => ?_
            clear f58 a57
            refine L.val f59 (f59.yes rfl rfl) rfl (by decide) (E.move f59 rfl) fun a60 f60 => ?_
            clear f59 a59
            refine L.skip f60 (f60.noT rfl rfl) rfl (by decide) fun a61 f61 => ?_
            clear f60 a60
            refine L.skip f61 (f61.noT rfl rfl) rfl (by decide) fun a62 f62 => ?_
            clear f61 a61
            refine L.skip f62 (f62.noT rfl rfl) rfl (by decide) fun a63 f63 => ?_
            clear f62 a62
            refine L.skip f63 (f63.noT rfl rfl) rfl (by decide) fun a64 f64 => ?_
            clear f63 a63
            refine L.val f64 (f64.yes rfl rfl) rfl (by decide) (E.pickF f64 rfl rfl) fun a65 f65 => ?_
            clear f64 a64
            refine L.val f65 (f65.yes rfl rfl) rfl (by decide) (E.neqB f65 Tryd.underlying4 rfl rfl) fun a66 f66 => ?_
            clear f65 a65
            have f67 := f66.as (i := 50) (v' := .bool false) rfl rfl
            clear f66
            refine L.val f67 wantedN rfl (by decide) (E.pickF f67 rfl rfl) fun a68 f68 => ?_
            clear f67 a66
            refine L.val f68 wantedN rfl (by decide) (E.move f68 rfl) fun a69 f69 => ?_
            clear f68 a68
            refine L.val f69 (f69.yes rfl rfl) rfl (by decide) (E.move f69 rfl) fun a70 f70 => ?_
            clear f69 a69
            refine L.call f70 (f70.yes rfl rfl) rfl (by decide) (run_call Tryd.call19 (args2 f70 rfl rfl)) (match_any ⟨#[43, 47, 35]⟩ x w7 (G.kept HK) (by decide) (by omega)) ?_
            rintro e w8 ⟨kc8, rfl⟩
            refine ⟨_, rfl, fun a71 f71 => ?_⟩
            clear f70 a70
            have szw8 := kc8.size
            replace HK := HK.trans kc8 (by simp)
            replace SL := SL.kept kc8
            clear kc8
            have f72 := f71.as (i := 54) (v' := .bool false) rfl (by rw [match_no h29])
            clear f71
            refine L.val f72 (f72.yes rfl rfl) rfl (by decide) (E.move f72 rfl) fun a73 f73 => ?_
            clear f72 a71
            refine L.val f73 (f73.yes rfl rfl) rfl (by decide) (E.neqB f73 Tryd.underlying4 rfl rfl) fun a74 f74 => ?_
            clear f73 a73
            have f75 := f74.as (i := 56) (v' := .bool false) rfl rfl
            clear f74
            refine L.val f75 wantedN rfl (by decide) (E.pickF f75 rfl rfl) fun a76 f76 => ?_
            clear f75 a74
            refine L.val f76 wantedN rfl (by decide) (E.move f76 rfl) fun a77 f77 => ?_
            clear f76 a76
            refine L.val f77 (f77.yes rfl rfl) rfl (by decide) (E.move f77 rfl) fun a78 f78 => ?_
            clear f77 a77
            refine L.call f78 (f78.yes rfl rfl) rfl (by decide) (run_call Tryd.call12 (args1 f78 rfl)) (name_any x w8 (G.kept HK) (by omega)) ?_
            rintro e w9 ⟨kc9, rfl⟩
            refine ⟨_, rfl, fun a79 f79 => ?_⟩
            clear f78 a78
            have szw9 := kc9.size
            replace HK := HK.trans kc9 (by simp)
            replace SL := SL.kept kc9
            clear kc9
            have f80 := f79.as (i := 60) (v' := .bool false) rfl (by rw [h29])
            clear f79
            refine L.val f80 (f80.yes rfl rfl) rfl (by decide) (E.move f80 rfl) fun a81 f81 => ?_
            clear f80 a79
            refine L.val f81 (f81.yes rfl rfl) rfl (by decide) (E.neqB f81 Tryd.underlying4 rfl rfl) fun a82 f82 => ?_
            clear f81 a81
            have f83 := f82.as (i := 62) (v' := .bool false) rfl rfl
            clear f82
            refine L.val f83 wantedN rfl (by decide) (E.pickF f83 rfl rfl) fun a84 f84 => ?_
            clear f83 a82
            refine L.val f84 wantedN rfl (by decide) (E.move f84 rfl) fun a85 f85 => ?_
            clear f84 a84
            refine L.val f85 (f85.yes rfl rfl) rfl (by decide) (E.move f85 rfl) fun a86 f86 => ?_
            clear f85 a85
            refine L.val f86 (f86.yes rfl rfl) rfl (by decide) (E.move f86 rfl) fun a87 f87 => ?_
            clear f86 a86
            refine L.skip f87 (f87.noT rfl rfl) rfl (by decide) fun a88 f88 => ?_
            clear f87 a87
            refine L.skip f88 (f88.noT rfl rfl) rfl (by decide) fun a89 f89 => ?_
            clear f88 a88
            refine L.skip f89 (f89.noT rfl rfl) rfl (by decide) fun a90 f90 => ?_
            clear f89 a89
            refine L.val f90 (f90.yes rfl rfl) rfl (by decide) (E.pickF f90 rfl rfl) fun a91 f91 => ?_
            clear f90 a90
            refine L.val f91 wantedN rfl (by decide) (E.pickF f91 rfl rfl) fun a92 f92 => ?_
            clear f91 a91
            refine wpList_nil (hK18 _ _ ?_)
            try clear hK18 K18
            have f93 := f92.sub (sub_cons (i := 6) rfl (sub_cons (i := 7) rfl (sub_cons (i := 8) rfl (sub_cons (i := 22) rfl (sub_cons (i := 23) rfl (sub_cons (i := 24) rfl (sub_cons (i := 25) rfl (sub_cons (i := 26) rfl (sub_cons (i := 27) rfl (sub_cons (i := 28) rfl (sub_cons (i := 29) rfl (sub_cons (i := 30) rfl (sub_cons (i := 31) rfl (sub_cons (i := 32) rfl (sub_cons (i := 33) rfl (sub_cons (i := 34) rfl (sub_cons (i := 35) rfl (sub_cons (i := 36) rfl (sub_cons (i := 37) rfl (sub_cons (i := 38) rfl (sub_cons (i := 39) rfl (sub_cons (i := 40) rfl (sub_cons (i := 41) rfl (sub_cons (i := 42) rfl (sub_cons (i := 43) rfl (sub_cons (i := 44) rfl (sub_cons (i := 45) rfl (sub_cons (i := 46) rfl (sub_cons (i := 47) rfl (sub_cons (i := 48) rfl (sub_cons (i := 49) rfl (sub_cons (i := 50) rfl (sub_cons (i := 51) rfl (sub_cons (i := 52) rfl (sub_cons (i := 53) rfl (sub_cons (i := 54) rfl (sub_cons (i := 55) rfl (sub_cons (i := 56) rfl (sub_cons (i := 57) rfl (sub_cons (i := 58) rfl (sub_cons (i := 59) rfl (sub_cons (i := 60) rfl (sub_cons (i := 61) rfl (sub_cons (i := 62) rfl (sub_cons (i := 63) rfl (sub_cons (i := 64) rfl (sub_cons (i := 65) rfl (sub_cons (i := 66) rfl (sub_cons (i := 67) rfl (sub_cons (i := 68) rfl (sub_cons (i := 69) rfl (sub_cons (i := 70) rfl (sub_cons (i := 71) rfl sub_nil)))))))))))))))))))))))))))))))))))))))))))))))))))))
            clear f92
            refine C.condF f93 rfl ?_
            refine wp_skip (hK12 _ _ ?_)
            try clear hK12 K12
            have f94 := f93.sub (sub_cons (i := 6) rfl (sub_cons (i := 7) rfl (sub_cons (i := 8) rfl (sub_cons (i := 22) rfl (sub_cons (i := 23) rfl (sub_cons (i := 24) rfl (sub_cons (i := 25) rfl (sub_cons (i := 26) rfl (sub_cons (i := 27) rfl (sub_cons (i := 28) rfl (sub_cons (i := 29) rfl (sub_cons (i := 30) rfl (sub_cons (i := 31) rfl (sub_cons (i := 32) rfl (sub_cons (i := 33) rfl (sub_cons (i := 34) rfl (sub_cons (i := 35) rfl (sub_cons (i := 36) rfl (sub_cons (i := 37) rfl (sub_cons (i := 38) rfl (sub_cons (i := 39) rfl (sub_cons (i := 40) rfl (sub_cons (i := 41) rfl (sub_cons (i := 42) rfl (sub_cons (i := 43) rfl (sub_cons (i := 44) rfl (sub_cons (i := 45) rfl (sub_cons (i := 46) rfl (sub_cons (i := 47) rfl (sub_cons (i := 48) rfl (sub_cons (i := 49) rfl (sub_cons (i := 50) rfl (sub_cons (i := 51) rfl (sub_cons (i := 52) rfl (sub_cons (i := 53) rfl (sub_cons (i := 54) rfl (sub_cons (i := 55) rfl (sub_cons (i := 56) rfl (sub_cons (i := 57) rfl (sub_cons (i := 58) rfl (sub_cons (i := 59) rfl (sub_cons (i := 60) rfl (sub_cons (i := 61) rfl (sub_cons (i := 62) rfl (sub_cons (i := 63) rfl (sub_cons (i := 64) rfl (sub_cons (i := 65) rfl (sub_cons (i := 66) rfl (sub_cons (i := 67) rfl (sub_cons (i := 68) rfl (sub_cons (i := 69) rfl (sub_cons (i := 70) rfl (sub_cons (i := 71) rfl sub_nil)))))))))))))))))))))))))))))))))))))))))))))))))))))
            clear f93
            refine C.region ?_
            refine L.val f94 wantedN rfl (by decide) (E.add f94 rfl rfl (IntWalk.i64_in _ (by omega))) fun a95 f95 => ?_
            clear f94 a92
            refine L.val f95 wantedN rfl (by decide) (E.move f95 rfl) fun a96 f96 => ?_
            clear f95 a95
            refine wpList_nil (hKL9 _ _ (gk10 - 1) ?_ ?_)
            · omega
            · exact ⟨k + 1, by omega, HK, SL, f96.sub (sub_cons rfl (sub_cons rfl (sub_cons rfl sub_nil)))⟩
        · clear f29
          refine C.condF f30 rfl ?_
          refine wp_exit (hK7 _ _ ?_)
          try clear hK7 K7
          have f31 := f30.sub sub_nil
          clear f30
          refine wp_seq_k fun K19 hK19 => ?_
          refine C.region ?_
          refine L.val f31 wantedN rfl (by decide) (E.assign f31 rfl) fun a32 f32 => ?_
          clear f31 a28
          refine wpList_nil (hK19 _ _ ?_)
          try clear hK19 K19
          have f33 := f32.sub (sub_cons (i := 4) rfl sub_nil)
          clear f32
          refine wp_ret ?_
          try simp only [Exit.inBlock, Exit.then]
          refine C.ret (P := Tryd.prog) (fn := Tryd.f7) f33 rfl rfl ?_
          exact ⟨HK, rfl⟩

end Go.Proofs.YtpdacegpjofdeaaDoor
