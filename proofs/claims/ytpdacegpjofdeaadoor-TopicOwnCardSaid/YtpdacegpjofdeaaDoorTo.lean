/- The walk of TopicOwn. -/
import Derived.Test.YtpdacegpjofdeaaDoorTz
set_option linter.all false
namespace Go.Proofs.YtpdacegpjofdeaaDoor
open Go.RowKit Go.Hub Go.Lib
theorem wsz9_to : (Tryd.prog.info? 9).map (·.size) = some 1 := by kernel_rfl

set_option maxRecDepth 100000 in
set_option maxHeartbeats 2000000 in
theorem own_walk (w : World) (G : Glob w) (us0 : List UInt8) (A0 : Option Addr) (c0 : Nat) (Z0 : Us w A0 us0) (k1 : Int) (l1 : 0 ≤ k1) (m1 : k1 < 256) : Calls Tryd.prog 5 #[.slice A0 us0.length c0, .int .u8 k1] w (fun e w' => Kept [] w w' ∧ e = .returned (.bool true)) := by
  have HK : Kept [] w w := Kept.refl [] w
  have e47 : (⟨#[47]⟩ : ByteArray).size = 1 := rfl
  have e43 : (⟨#[43]⟩ : ByteArray).size = 1 := rfl
  have e35 : (⟨#[35]⟩ : ByteArray).size = 1 := rfl
  have e4735 : (⟨#[47, 35]⟩ : ByteArray).size = 2 := rfl
  have e4797 : (⟨#[47, 97]⟩ : ByteArray).size = 2 := rfl
  refine C.enter Tryd.func5 rfl Tryd.ntmps5 rfl ?_
  intro a0 f0
  have f1 : Fr 101 a0 [(0, .slice A0 us0.length c0), (1, .int .u8 k1)] := f0
  clear f0
  refine wp_seq_k fun K0 hK0 => ?_
  refine C.region ?_
  refine L.val f1 wantedN rfl (by decide) (E.assign f1 rfl) fun a2 f2 => ?_
  clear f1 a0
  refine wpList_nil (hK0 _ _ ?_)
  try clear hK0 K0
  have f3 := f2.sub (sub_cons (i := 0) rfl (sub_cons (i := 1) rfl (sub_cons (i := 4) rfl sub_nil)))
  clear f2
  refine wp_seq_k fun K1 hK1 => ?_
  refine wp_seq_k fun K2 hK2 => ?_
  refine C.region ?_
  refine L.call f3 wantedN rfl (by decide) (run_call Tryd.call8 (args0 f3)) (known_any w (G.kept HK)) ?_
  rintro e w1 ⟨kc1, rfl⟩
  refine ⟨_, rfl, fun a4 f4 => ?_⟩
  clear f3 a2
  have szw1 := kc1.size
  replace HK := HK.trans kc1 (by simp)
  clear kc1
  refine L.val f4 wantedN rfl (by decide) (E.not f4 rfl) fun a5 f5 => ?_
  clear f4 a4
  refine wpList_nil (hK2 _ _ ?_)
  try clear hK2 K2
  have f6 := f5.sub (sub_cons (i := 0) rfl (sub_cons (i := 1) rfl (sub_cons (i := 4) rfl (sub_cons (i := 13) rfl sub_nil))))
  clear f5
  refine C.condF f6 rfl ?_
  refine wp_skip (hK1 _ _ ?_)
  try clear hK1 K1
  have f7 := f6.sub (sub_cons (i := 0) rfl (sub_cons (i := 1) rfl (sub_cons (i := 4) rfl sub_nil)))
  clear f6
  refine wp_seq_k fun K3 hK3 => ?_
  refine wp_seq_k fun K4 hK4 => ?_
  refine C.region ?_
  refine L.val f7 wantedN rfl (by decide) (E.move f7 rfl) fun a8 f8 => ?_
  clear f7 a5
  refine L.val f8 wantedN rfl (by decide) (E.lenL f8 Tryd.underlying22 rfl) fun a9 f9 => ?_
  clear f8 a8
  refine L.val f9 wantedN rfl (by decide) (E.gtr f9 rfl rfl) fun a10 f10 => ?_
  clear f9 a9
  refine wpList_nil (hK4 _ _ ?_)
  try clear hK4 K4
  have f11 := f10.sub (sub_cons (i := 0) rfl (sub_cons (i := 1) rfl (sub_cons (i := 4) rfl (sub_cons (i := 16) rfl sub_nil))))
  clear f10
  first | refine f11.splitD 16 rfl (fun h0 f12 => ?_) (fun h0 f12 => ?_) | refine f11.splitN 16 rfl (fun h0 f12 => ?_) (fun h0 f12 => ?_) | refine f11.splitNB 16 rfl (fun h0 f12 => ?_) (fun h0 f12 => ?_) | refine f11.split 16 rfl (fun h0 f12 => ?_) (fun h0 f12 => ?_)
  · clear f11
    refine C.condT f12 rfl ?_
    refine wp_seq_k fun K5 hK5 => ?_
    refine C.region ?_
    refine L.val f12 wantedN rfl (by decide) (E.assign f12 rfl) fun a13 f13 => ?_
    clear f12 a10
    refine wpList_nil (hK5 _ _ ?_)
    try clear hK5 K5
    have f14 := f13.sub (sub_cons (i := 0) rfl (sub_cons (i := 1) rfl (sub_cons (i := 4) rfl sub_nil)))
    clear f13
    refine wp_ret ?_
    try simp only [Exit.inBlock, Exit.then]
    refine C.ret (P := Tryd.prog) (fn := Tryd.f5) f14 rfl rfl ?_
    exact ⟨HK, rfl⟩
  · clear f11
    refine C.condF f12 rfl ?_
    refine wp_skip (hK3 _ _ ?_)
    try clear hK3 K3
    have f13 := f12.sub (sub_cons (i := 0) rfl (sub_cons (i := 1) rfl (sub_cons (i := 4) rfl sub_nil)))
    clear f12
    refine wp_seq_k fun K6 hK6 => ?_
    refine C.region ?_
    refine L.val f13 wantedN rfl (by decide) (E.move f13 rfl) fun a14 f14 => ?_
    clear f13 a10
    refine L.call f14 wantedN rfl (by decide) (run_call Tryd.call9 (args1 f14 rfl)) (pieces_any us0 _ _ w1 (Z0.kept HK) (by omega)) ?_
    rintro e w2 ⟨kc2, s, rfl, hs⟩
    refine ⟨_, rfl, fun a15 f15 => ?_⟩
    clear f14 a14
    have szw2 := kc2.size
    replace HK := HK.trans kc2 (by simp)
    clear kc2
    refine L.val f15 wantedN rfl (by decide) (E.assign f15 rfl) fun a16 f16 => ?_
    clear f15 a15
    refine wpList_nil (hK6 _ _ ?_)
    try clear hK6 K6
    have f17 := f16.sub (sub_cons (i := 1) rfl (sub_cons (i := 4) rfl (sub_cons (i := 5) rfl sub_nil)))
    clear f16
    refine wp_seq_k fun K7 hK7 => ?_
    refine wp_seq_k fun K8 hK8 => ?_
    refine C.region ?_
    refine L.val f17 wantedN rfl (by decide) (E.move f17 rfl) fun a18 f18 => ?_
    clear f17 a16
    refine L.call f18 wantedN rfl (by decide) (run_call Tryd.call13 (args1 f18 rfl)) (nameR_any s w2 (G.kept HK) (by omega)) ?_
    rintro e w3 ⟨kc3, rfl⟩
    refine ⟨_, rfl, fun a19 f19 => ?_⟩
    clear f18 a18
    have szw3 := kc3.size
    replace HK := HK.trans kc3 (by simp)
    clear kc3
    first | refine f19.splitD 20 rfl (fun h1 f20 => ?_) (fun h1 f20 => ?_) | refine f19.splitN 20 rfl (fun h1 f20 => ?_) (fun h1 f20 => ?_) | refine f19.splitNB 20 rfl (fun h1 f20 => ?_) (fun h1 f20 => ?_) | refine f19.split 20 rfl (fun h1 f20 => ?_) (fun h1 f20 => ?_)
    · clear f19
      have h20 := h1
      refine L.val f20 wantedN rfl (by decide) (E.not f20 rfl) fun a21 f21 => ?_
      clear f20 a19
      refine wpList_nil (hK8 _ _ ?_)
      try clear hK8 K8
      have f22 := f21.sub (sub_cons (i := 1) rfl (sub_cons (i := 4) rfl (sub_cons (i := 5) rfl (sub_cons (i := 21) rfl sub_nil))))
      clear f21
      refine C.condF f22 rfl ?_
      refine wp_skip (hK7 _ _ ?_)
      try clear hK7 K7
      have f23 := f22.sub (sub_cons (i := 1) rfl (sub_cons (i := 4) rfl (sub_cons (i := 5) rfl sub_nil)))
      clear f22
      refine wp_seq_k fun K9 hK9 => ?_
      refine C.region ?_
      refine L.val f23 wantedN rfl (by decide) (E.move f23 rfl) fun a24 f24 => ?_
      clear f23 a21
      refine L.call f24 wantedN rfl (by decide) (run_call Tryd.call17 (args1 f24 rfl)) (levels_any s w3 (G.kept HK) (by omega)) ?_
      rintro e w4 ⟨kc4, Al, cl, rfl, LL, l2, l3, l4⟩
      refine ⟨_, rfl, fun a25 f25 => ?_⟩
      clear f24 a24
      have szw4 := kc4.size
      replace HK := HK.trans kc4 (by simp)
      clear kc4
      refine L.val f25 wantedN rfl (by decide) (E.assign f25 rfl) fun a26 f26 => ?_
      clear f25 a25
      refine wpList_nil (hK9 _ _ ?_)
      try clear hK9 K9
      have f27 := f26.sub (sub_cons (i := 1) rfl (sub_cons (i := 4) rfl (sub_cons (i := 5) rfl (sub_cons (i := 6) rfl sub_nil))))
      clear f26
      refine wp_seq_k fun K10 hK10 => ?_
      refine wp_seq_k fun K11 hK11 => ?_
      refine C.region ?_
      refine L.val f27 wantedN rfl (by decide) (E.move f27 rfl) fun a28 f28 => ?_
      clear f27 a26
      refine L.val f28 wantedN rfl (by decide) (E.lenL f28 Tryd.underlying26 rfl) fun a29 f29 => ?_
      clear f28 a28
      refine L.val f29 wantedN rfl (by decide) (E.eql f29 rfl rfl) fun a30 f30 => ?_
      clear f29 a29
      have f31 := f30.as (i := 35) (v' := .bool false) rfl (by rw [decide_eq_false (by omega)])
      clear f30
      refine wpList_nil (hK11 _ _ ?_)
      try clear hK11 K11
      have f32 := f31.sub (sub_cons (i := 1) rfl (sub_cons (i := 4) rfl (sub_cons (i := 5) rfl (sub_cons (i := 6) rfl (sub_cons (i := 35) rfl sub_nil)))))
      clear f31
      refine C.condF f32 rfl ?_
      refine wp_skip (hK10 _ _ ?_)
      try clear hK10 K10
      have f33 := f32.sub (sub_cons (i := 1) rfl (sub_cons (i := 4) rfl (sub_cons (i := 5) rfl (sub_cons (i := 6) rfl sub_nil))))
      clear f32
      refine wp_seq_k fun K12 hK12 => ?_
      refine C.region ?_
      refine L.val f33 wantedN rfl (by decide) (E.move f33 rfl) fun a34 f34 => ?_
      clear f33 a30
      refine L.val f34 wantedN rfl (by decide) (E.conv f34 Tryd.underlying5 Tryd.underlying3 rfl (IntWalk.i64_in _ (by omega))) fun a35 f35 => ?_
      clear f34 a34
      refine L.val f35 wantedN rfl (by decide) (E.move f35 rfl) fun a36 f36 => ?_
      clear f35 a35
      refine L.val f36 wantedN rfl (by decide) (E.lenL f36 Tryd.underlying26 rfl) fun a37 f37 => ?_
      clear f36 a36
      refine L.val f37 wantedN rfl (by decide) (E.rem f37 rfl rfl (by omega) (Int.tmod_eq_emod_of_nonneg (by omega))) fun a38 f38 => ?_
      clear f37 a37
      refine L.val f38 wantedN rfl (by decide) (E.assign f38 rfl) fun a39 f39 => ?_
      clear f38 a38
      refine wpList_nil (hK12 _ _ ?_)
      try clear hK12 K12
      have f40 := f39.sub (sub_cons (i := 4) rfl (sub_cons (i := 5) rfl (sub_cons (i := 6) rfl (sub_cons (i := 7) rfl sub_nil))))
      clear f39
      refine wp_seq_k fun K13 hK13 => ?_
      obtain ⟨i, hi, hil⟩ : ∃ i : Nat, k1 % ((levelsL s).length : Int) = i ∧ i < (levelsL s).length := ⟨(k1 % ((levelsL s).length : Int)).toNat, by have := Int.emod_nonneg k1 (b := ((levelsL s).length : Int)) (by omega); omega, by have := Int.emod_lt_of_pos k1 (b := ((levelsL s).length : Int)) (by omega); have := Int.emod_nonneg k1 (b := ((levelsL s).length : Int)) (by omega); omega⟩
      replace f40 := f40.as (i := 7) (v' := .int .i64 i) rfl (by rw [hi])
      refine C.region ?_
      refine L.val f40 wantedN rfl (by decide) (E.assign f40 rfl) fun a41 f41 => ?_
      clear f40 a39
      refine L.val f41 wantedN rfl (by decide) (E.assign f41 rfl) fun a42 f42 => ?_
      clear f41 a41
      refine wpList_nil (hK13 _ _ ?_)
      try clear hK13 K13
      have f43 := f42.sub (sub_cons (i := 4) rfl (sub_cons (i := 5) rfl (sub_cons (i := 6) rfl (sub_cons (i := 7) rfl (sub_cons (i := 8) rfl (sub_cons (i := 9) rfl sub_nil))))))
      clear f42
      refine wp_seq_k fun K14 hK14 => ?_
      refine wp_seq_k fun K15 hK15 => ?_
      refine C.region ?_
      refine L.val f43 wantedN rfl (by decide) (E.assign f43 rfl) fun a44 f44 => ?_
      clear f43 a42
      refine wpList_nil (hK15 _ _ ?_)
      try clear hK15 K15
      have f45 := f44.sub (sub_cons (i := 4) rfl (sub_cons (i := 5) rfl (sub_cons (i := 6) rfl (sub_cons (i := 7) rfl (sub_cons (i := 8) rfl (sub_cons (i := 9) rfl (sub_cons (i := 10) rfl sub_nil)))))))
      clear f44
      refine wp_block ?_
      refine C.loop (fun gk a W => ∃ (k : Nat) (t u : ByteArray), k + gk = (levelsL s).length ∧ t = joinB (((levelsL s).set i plus).take k) ∧ (i < k → u = joinB ((levelsL s).take i ++ [hash])) ∧ t.size ≤ 100 * k ∧ u.size ≤ 10000 ∧ Kept [] w W ∧ Ss W Al (levelsL s) ∧ Fr 101 a [(5, .string s), (6, .slice Al (levelsL s).length cl), (7, .int .i64 i), (8, .string t), (9, .string u), (10, .int .i64 k)]) ((levelsL s).length) ?_ ?_
      · exact ⟨0, ⟨#[]⟩, ⟨#[]⟩, by omega, rfl, fun h => by omega, by decide, by decide, HK, LL, f45.sub (sub_cons rfl (sub_cons rfl (sub_cons rfl (sub_cons rfl (sub_cons rfl (sub_cons rfl sub_nil))))))⟩
      · intro gk17 a46 w5 hI KL16 hKL16
        obtain ⟨k, t, u, hk, ht, hu, hts, hus, HK, LL, f46⟩ := hI
        try clear f45
        have hT1 : (t ++ ⟨#[47]⟩).size = t.size + 1 := ByteArray.size_append
        refine wp_seq_k fun K17 hK17 => ?_
        refine wp_seq_k fun K18 hK18 => ?_
        refine C.region ?_
        refine L.val f46 wantedN rfl (by decide) (E.move f46 rfl) fun a47 f47 => ?_
        clear f46 a46
        refine L.val f47 wantedN rfl (by decide) (E.move f47 rfl) fun a48 f48 => ?_
        clear f47 a47
        refine L.val f48 wantedN rfl (by decide) (E.lenL f48 Tryd.underlying26 rfl) fun a49 f49 => ?_
        clear f48 a48
        refine L.val f49 wantedN rfl (by decide) (E.lss f49 rfl rfl) fun a50 f50 => ?_
        clear f49 a49
        refine wpList_nil (hK18 _ _ ?_)
        try clear hK18 K18
        have f51 := f50.sub (sub_cons (i := 5) rfl (sub_cons (i := 6) rfl (sub_cons (i := 7) rfl (sub_cons (i := 8) rfl (sub_cons (i := 9) rfl (sub_cons (i := 10) rfl (sub_cons (i := 41) rfl (sub_cons (i := 42) rfl (sub_cons (i := 43) rfl (sub_cons (i := 44) rfl sub_nil))))))))))
        clear f50
        first | refine f51.splitD 44 rfl (fun h2 f52 => ?_) (fun h2 f52 => ?_) | refine f51.splitN 44 rfl (fun h2 f52 => ?_) (fun h2 f52 => ?_) | refine f51.splitNB 44 rfl (fun h2 f52 => ?_) (fun h2 f52 => ?_) | refine f51.split 44 rfl (fun h2 f52 => ?_) (fun h2 f52 => ?_)
        · clear f51
          refine C.condT f52 rfl ?_
          refine wp_skip (hK17 _ _ ?_)
          try clear hK17 K17
          have f53 := f52.sub (sub_cons (i := 5) rfl (sub_cons (i := 6) rfl (sub_cons (i := 7) rfl (sub_cons (i := 8) rfl (sub_cons (i := 9) rfl (sub_cons (i := 10) rfl (sub_cons (i := 41) rfl (sub_cons (i := 42) rfl (sub_cons (i := 43) rfl (sub_cons (i := 44) rfl sub_nil))))))))))
          clear f52
          refine wp_seq_k fun K19 hK19 => ?_
          refine wp_block ?_
          refine wp_seq_k fun K20 hK20 => ?_
          refine wp_seq_k fun K21 hK21 => ?_
          refine C.region ?_
          refine L.val f53 wantedN rfl (by decide) (E.move f53 rfl) fun a54 f54 => ?_
          clear f53 a50
          refine L.val f54 wantedN rfl (by decide) (E.gtr f54 rfl rfl) fun a55 f55 => ?_
          clear f54 a54
          refine wpList_nil (hK21 _ _ ?_)
          try clear hK21 K21
          have f56 := f55.sub (sub_cons (i := 5) rfl (sub_cons (i := 6) rfl (sub_cons (i := 7) rfl (sub_cons (i := 8) rfl (sub_cons (i := 9) rfl (sub_cons (i := 10) rfl (sub_cons (i := 41) rfl (sub_cons (i := 42) rfl (sub_cons (i := 43) rfl (sub_cons (i := 44) rfl (sub_cons (i := 47) rfl (sub_cons (i := 48) rfl sub_nil))))))))))))
          clear f55
          first | refine f56.splitD 48 rfl (fun h3 f57 => ?_) (fun h3 f57 => ?_) | refine f56.splitN 48 rfl (fun h3 f57 => ?_) (fun h3 f57 => ?_) | refine f56.splitNB 48 rfl (fun h3 f57 => ?_) (fun h3 f57 => ?_) | refine f56.split 48 rfl (fun h3 f57 => ?_) (fun h3 f57 => ?_)
          · clear f56
            have h48 := h3
            have h48' : 0 < k := by omega
            refine C.condT f57 rfl ?_
            refine C.region ?_
            refine L.val f57 wantedN rfl (by decide) (E.move f57 rfl) fun a58 f58 => ?_
            clear f57 a55
            refine L.val f58 wantedN rfl (by decide) (E.addS f58 rfl rfl (by omega)) fun a59 f59 => ?_
            clear f58 a58
            refine L.val f59 wantedN rfl (by decide) (E.assign f59 rfl) fun a60 f60 => ?_
            clear f59 a59
            refine wpList_nil (hK20 _ _ ?_)
            try clear hK20 K20
            have f61 := f60.sub (sub_cons (i := 5) rfl (sub_cons (i := 6) rfl (sub_cons (i := 7) rfl (sub_cons (i := 8) rfl (sub_cons (i := 9) rfl (sub_cons (i := 10) rfl (sub_cons (i := 41) rfl (sub_cons (i := 42) rfl (sub_cons (i := 43) rfl (sub_cons (i := 44) rfl (sub_cons (i := 47) rfl (sub_cons (i := 48) rfl (sub_cons (i := 49) rfl (sub_cons (i := 50) rfl sub_nil))))))))))))))
            clear f60
            refine wp_seq_k fun K22 hK22 => ?_
            refine C.region ?_
            refine L.val f61 wantedN rfl (by decide) (E.move f61 rfl) fun a62 f62 => ?_
            clear f61 a60
            refine L.val f62 wantedN rfl (by decide) (E.move f62 rfl) fun a63 f63 => ?_
            clear f62 a62
            refine L.val f63 wantedN rfl (by decide) (E.eql f63 rfl rfl) fun a64 f64 => ?_
            clear f63 a63
            refine wpList_nil (hK22 _ _ ?_)
            try clear hK22 K22
            have f65 := f64.sub (sub_cons (i := 5) rfl (sub_cons (i := 6) rfl (sub_cons (i := 7) rfl (sub_cons (i := 8) rfl (sub_cons (i := 9) rfl (sub_cons (i := 10) rfl (sub_cons (i := 41) rfl (sub_cons (i := 42) rfl (sub_cons (i := 43) rfl (sub_cons (i := 44) rfl (sub_cons (i := 47) rfl (sub_cons (i := 48) rfl (sub_cons (i := 49) rfl (sub_cons (i := 50) rfl (sub_cons (i := 51) rfl (sub_cons (i := 52) rfl (sub_cons (i := 53) rfl sub_nil)))))))))))))))))
            clear f64
            first | refine f65.splitD 53 rfl (fun h4 f66 => ?_) (fun h4 f66 => ?_) | refine f65.splitN 53 rfl (fun h4 f66 => ?_) (fun h4 f66 => ?_) | refine f65.splitNB 53 rfl (fun h4 f66 => ?_) (fun h4 f66 => ?_) | refine f65.split 53 rfl (fun h4 f66 => ?_) (fun h4 f66 => ?_)
            · clear f65
              have h53 := h4
              have h53' : k = i := by omega
              refine C.condT f66 rfl ?_
              refine wp_seq_k fun K23 hK23 => ?_
              refine C.region ?_
              refine L.val f66 wantedN rfl (by decide) (E.move f66 rfl) fun a67 f67 => ?_
              clear f66 a64
              refine L.val f67 wantedN rfl (by decide) (E.addS f67 rfl rfl (by omega)) fun a68 f68 => ?_
              clear f67 a67
              refine L.val f68 wantedN rfl (by decide) (E.assign f68 rfl) fun a69 f69 => ?_
              clear f68 a68
              refine wpList_nil (hK23 _ _ ?_)
              try clear hK23 K23
              have f70 := f69.sub (sub_cons (i := 5) rfl (sub_cons (i := 6) rfl (sub_cons (i := 7) rfl (sub_cons (i := 8) rfl (sub_cons (i := 9) rfl (sub_cons (i := 10) rfl (sub_cons (i := 41) rfl (sub_cons (i := 42) rfl (sub_cons (i := 43) rfl (sub_cons (i := 44) rfl (sub_cons (i := 47) rfl (sub_cons (i := 48) rfl (sub_cons (i := 49) rfl (sub_cons (i := 50) rfl (sub_cons (i := 51) rfl (sub_cons (i := 52) rfl (sub_cons (i := 53) rfl (sub_cons (i := 54) rfl (sub_cons (i := 55) rfl sub_nil)))))))))))))))))))
              clear f69
              refine C.region ?_
              refine L.val f70 wantedN rfl (by decide) (E.move f70 rfl) fun a71 f71 => ?_
              clear f70 a69
              refine L.val f71 wantedN rfl (by decide) (E.addS f71 rfl rfl (by omega)) fun a72 f72 => ?_
              clear f71 a71
              refine L.val f72 wantedN rfl (by decide) (E.assign f72 rfl) fun a73 f73 => ?_
              clear f72 a72
              refine wpList_nil (hK19 _ _ ?_)
              try clear hK19 K19
              have f74 := f73.sub (sub_cons (i := 5) rfl (sub_cons (i := 6) rfl (sub_cons (i := 7) rfl (sub_cons (i := 8) rfl (sub_cons (i := 9) rfl (sub_cons (i := 10) rfl (sub_cons (i := 41) rfl (sub_cons (i := 42) rfl (sub_cons (i := 43) rfl (sub_cons (i := 44) rfl (sub_cons (i := 47) rfl (sub_cons (i := 48) rfl (sub_cons (i := 49) rfl (sub_cons (i := 50) rfl (sub_cons (i := 51) rfl (sub_cons (i := 52) rfl (sub_cons (i := 53) rfl (sub_cons (i := 54) rfl (sub_cons (i := 55) rfl (sub_cons (i := 56) rfl (sub_cons (i := 57) rfl sub_nil)))))))))))))))))))))
              clear f73
              refine C.region ?_
              refine L.val f74 wantedN rfl (by decide) (E.move f74 rfl) fun a75 f75 => ?_
              clear f74 a73
              refine L.val f75 wantedN rfl (by decide) (E.add f75 rfl rfl (IntWalk.i64_in _ (by omega))) fun a76 f76 => ?_
              clear f75 a75
              refine L.val f76 wantedN rfl (by decide) (E.assign f76 rfl) fun a77 f77 => ?_
              clear f76 a76
              refine wpList_nil (hKL16 _ _ (gk17 - 1) ?_ ?_)
              · omega
              · exact ⟨k + 1, (t ++ ⟨#[47]⟩) ++ ⟨#[43]⟩, (t ++ ⟨#[47]⟩) ++ ⟨#[35]⟩, by omega, snoc_pos h48' ht (set_at plus (by omega) h53'), fun _ => hash_pos plus (by omega) h48' h53' ht, by simp only [ByteArray.size_append]; omega, by first | omega | (simp only [ByteArray.size_append]; omega), HK, LL, f77.sub (sub_cons rfl (sub_cons rfl (sub_cons rfl (sub_cons rfl (sub_cons rfl (sub_cons rfl sub_nil))))))⟩
            · clear f65
              have h53 := h4
              have h53' : ¬ k = i := by omega
              refine C.condF f66 rfl ?_
              obtain ⟨y, hy⟩ : ∃ y, (levelsL s)[k]? = some y := ⟨(levelsL s)[k]'(by omega), List.getElem?_eq_getElem _⟩
              obtain ⟨bl, ol, hAl⟩ := LL.addr (k := k) (by omega)
              have hys := lev_le (List.mem_of_getElem? hy)
              refine C.region ?_
              refine L.val f66 wantedN rfl (by decide) (E.move f66 rfl) fun a67 f67 => ?_
              clear f66 a64
              refine L.val f67 wantedN rfl (by decide) (E.move f67 rfl) fun a68 f68 => ?_
              clear f67 a67
              refine L.val f68 wantedN rfl (by decide) (E.move f68 rfl) fun a69 f69 => ?_
              clear f68 a68
              refine L.val f69 wantedN rfl (by decide) (E.indexA f69 (by first | rfl | assumption) Tryd.underlying26 wsz9_to rfl rfl (by omega) (by omega)) fun a70 f70 => ?_
              clear f69 a69
              refine L.val f70 wantedN rfl (by decide) (by exact E.load f70 Tryd.underlying9 rfl rfl (ss_cell LL hAl hy)) fun a71 f71 => ?_
              clear f70 a70
              refine L.val f71 wantedN rfl (by decide) (E.addS f71 rfl rfl (by omega)) fun a72 f72 => ?_
              clear f71 a71
              refine L.val f72 wantedN rfl (by decide) (E.assign f72 rfl) fun a73 f73 => ?_
              clear f72 a72
              refine wpList_nil (hK19 _ _ ?_)
              try clear hK19 K19
              have f74 := f73.sub (sub_cons (i := 5) rfl (sub_cons (i := 6) rfl (sub_cons (i := 7) rfl (sub_cons (i := 8) rfl (sub_cons (i := 9) rfl (sub_cons (i := 10) rfl (sub_cons (i := 41) rfl (sub_cons (i := 42) rfl (sub_cons (i := 43) rfl (sub_cons (i := 44) rfl (sub_cons (i := 47) rfl (sub_cons (i := 48) rfl (sub_cons (i := 49) rfl (sub_cons (i := 50) rfl (sub_cons (i := 51) rfl (sub_cons (i := 52) rfl (sub_cons (i := 53) rfl (sub_cons (i := 58) rfl (sub_cons (i := 59) rfl (sub_cons (i := 60) rfl (sub_cons (i := 61) rfl (sub_cons (i := 62) rfl (sub_cons (i := 63) rfl sub_nil)))))))))))))))))))))))
              clear f73
              refine C.region ?_
              refine L.val f74 wantedN rfl (by decide) (E.move f74 rfl) fun a75 f75 => ?_
              clear f74 a73
              refine L.val f75 wantedN rfl (by decide) (E.add f75 rfl rfl (IntWalk.i64_in _ (by omega))) fun a76 f76 => ?_
              clear f75 a75
              refine L.val f76 wantedN rfl (by decide) (E.assign f76 rfl) fun a77 f77 => ?_
              clear f76 a76
              refine wpList_nil (hKL16 _ _ (gk17 - 1) ?_ ?_)
              · omega
              · exact ⟨k + 1, (t ++ ⟨#[47]⟩) ++ y, u, by omega, snoc_pos h48' ht (set_not plus hy h53'), fun h => hu (by omega), by simp only [ByteArray.size_append]; omega, by first | omega | (simp only [ByteArray.size_append]; omega), HK, LL, f77.sub (sub_cons rfl (sub_cons rfl (sub_cons rfl (sub_cons rfl (sub_cons rfl (sub_cons rfl sub_nil))))))⟩
          · clear f56
            have h48 := h3
            have h48' : ¬ 0 < k := by omega
            refine C.condF f57 rfl ?_
            refine wp_skip (hK20 _ _ ?_)
            try clear hK20 K20
            have f58 := f57.sub (sub_cons (i := 5) rfl (sub_cons (i := 6) rfl (sub_cons (i := 7) rfl (sub_cons (i := 8) rfl (sub_cons (i := 9) rfl (sub_cons (i := 10) rfl (sub_cons (i := 41) rfl (sub_cons (i := 42) rfl (sub_cons (i := 43) rfl (sub_cons (i := 44) rfl (sub_cons (i := 47) rfl (sub_cons (i := 48) rfl sub_nil))))))))))))
            clear f57
            refine wp_seq_k fun K24 hK24 => ?_
            refine C.region ?_
            refine L.val f58 wantedN rfl (by decide) (E.move f58 rfl) fun a59 f59 => ?_
            clear f58 a55
            refine L.val f59 wantedN rfl (by decide) (E.move f59 rfl) fun a60 f60 => ?_
            clear f59 a59
            refine L.val f60 wantedN rfl (by decide) (E.eql f60 rfl rfl) fun a61 f61 => ?_
            clear f60 a60
            refine wpList_nil (hK24 _ _ ?_)
            try clear hK24 K24
            have f62 := f61.sub (sub_cons (i := 5) rfl (sub_cons (i := 6) rfl (sub_cons (i := 7) rfl (sub_cons (i := 8) rfl (sub_cons (i := 9) rfl (sub_cons (i := 10) rfl (sub_cons (i := 41) rfl (sub_cons (i := 42) rfl (sub_cons (i := 43) rfl (sub_cons (i := 44) rfl (sub_cons (i := 47) rfl (sub_cons (i := 48) rfl (sub_cons (i := 51) rfl (sub_cons (i := 52) rfl (sub_cons (i := 53) rfl sub_nil)))))))))))))))
            clear f61
            first | refine f62.splitD 53 rfl (fun h5 f63 => ?_) (fun h5 f63 => ?_) | refine f62.splitN 53 rfl (fun h5 f63 => ?_) (fun h5 f63 => ?_) | refine f62.splitNB 53 rfl (fun h5 f63 => ?_) (fun h5 f63 => ?_) | refine f62.split 53 rfl (fun h5 f63 => ?_) (fun h5 f63 => ?_)
            · clear f62
              have h53 := h5
              have h53' : k = i := by omega
              refine C.condT f63 rfl ?_
              refine wp_seq_k fun K25 hK25 => ?_
              refine C.region ?_
              refine L.val f63 wantedN rfl (by decide) (E.move f63 rfl) fun a64 f64 => ?_
              clear f63 a61
              refine L.val f64 wantedN rfl (by decide) (E.addS f64 rfl rfl (by omega)) fun a65 f65 => ?_
              clear f64 a64
              refine L.val f65 wantedN rfl (by decide) (E.assign f65 rfl) fun a66 f66 => ?_
              clear f65 a65
              refine wpList_nil (hK25 _ _ ?_)
              try clear hK25 K25
              have f67 := f66.sub (sub_cons (i := 5) rfl (sub_cons (i := 6) rfl (sub_cons (i := 7) rfl (sub_cons (i := 8) rfl (sub_cons (i := 9) rfl (sub_cons (i := 10) rfl (sub_cons (i := 41) rfl (sub_cons (i := 42) rfl (sub_cons (i := 43) rfl (sub_cons (i := 44) rfl (sub_cons (i := 47) rfl (sub_cons (i := 48) rfl (sub_cons (i := 51) rfl (sub_cons (i := 52) rfl (sub_cons (i := 53) rfl (sub_cons (i := 54) rfl (sub_cons (i := 55) rfl sub_nil)))))))))))))))))
              clear f66
              refine C.region ?_
              refine L.val f67 wantedN rfl (by decide) (E.move f67 rfl) fun a68 f68 => ?_
              clear f67 a66
              refine L.val f68 wantedN rfl (by decide) (E.addS f68 rfl rfl (by omega)) fun a69 f69 => ?_
              clear f68 a68
              refine L.val f69 wantedN rfl (by decide) (E.assign f69 rfl) fun a70 f70 => ?_
              clear f69 a69
              refine wpList_nil (hK19 _ _ ?_)
              try clear hK19 K19
              have f71 := f70.sub (sub_cons (i := 5) rfl (sub_cons (i := 6) rfl (sub_cons (i := 7) rfl (sub_cons (i := 8) rfl (sub_cons (i := 9) rfl (sub_cons (i := 10) rfl (sub_cons (i := 41) rfl (sub_cons (i := 42) rfl (sub_cons (i := 43) rfl (sub_cons (i := 44) rfl (sub_cons (i := 47) rfl (sub_cons (i := 48) rfl (sub_cons (i := 51) rfl (sub_cons (i := 52) rfl (sub_cons (i := 53) rfl (sub_cons (i := 54) rfl (sub_cons (i := 55) rfl (sub_cons (i := 56) rfl (sub_cons (i := 57) rfl sub_nil)))))))))))))))))))
              clear f70
              refine C.region ?_
              refine L.val f71 wantedN rfl (by decide) (E.move f71 rfl) fun a72 f72 => ?_
              clear f71 a70
              refine L.val f72 wantedN rfl (by decide) (E.add f72 rfl rfl (IntWalk.i64_in _ (by omega))) fun a73 f73 => ?_
              clear f72 a72
              refine L.val f73 wantedN rfl (by decide) (E.assign f73 rfl) fun a74 f74 => ?_
              clear f73 a73
              refine wpList_nil (hKL16 _ _ (gk17 - 1) ?_ ?_)
              · omega
              · exact ⟨k + 1, t ++ ⟨#[43]⟩, t ++ ⟨#[35]⟩, by omega, snoc_zero h48' ht (set_at plus (by omega) h53'), fun _ => hash_zero plus h48' h53' ht, by simp only [ByteArray.size_append]; omega, by first | omega | (simp only [ByteArray.size_append]; omega), HK, LL, f74.sub (sub_cons rfl (sub_cons rfl (sub_cons rfl (sub_cons rfl (sub_cons rfl (sub_cons rfl sub_nil))))))⟩
            · clear f62
              have h53 := h5
              have h53' : ¬ k = i := by omega
              refine C.condF f63 rfl ?_
              obtain ⟨y, hy⟩ : ∃ y, (levelsL s)[k]? = some y := ⟨(levelsL s)[k]'(by omega), List.getElem?_eq_getElem _⟩
              obtain ⟨bl, ol, hAl⟩ := LL.addr (k := k) (by omega)
              have hys := lev_le (List.mem_of_getElem? hy)
              refine C.region ?_
              refine L.val f63 wantedN rfl (by decide) (E.move f63 rfl) fun a64 f64 => ?_
              clear f63 a61
              refine L.val f64 wantedN rfl (by decide) (E.move f64 rfl) fun a65 f65 => ?_
              clear f64 a64
              refine L.val f65 wantedN rfl (by decide) (E.move f65 rfl) fun a66 f66 => ?_
              clear f65 a65
              refine L.val f66 wantedN rfl (by decide) (E.indexA f66 (by first | rfl | assumption) Tryd.underlying26 wsz9_to rfl rfl (by omega) (by omega)) fun a67 f67 => ?_
              clear f66 a66
              refine L.val f67 wantedN rfl (by decide) (by exact E.load f67 Tryd.underlying9 rfl rfl (ss_cell LL hAl hy)) fun a68 f68 => ?_
              clear f67 a67
              refine L.val f68 wantedN rfl (by decide) (E.addS f68 rfl rfl (by omega)) fun a69 f69 => ?_
              clear f68 a68
              refine L.val f69 wantedN rfl (by decide) (E.assign f69 rfl) fun a70 f70 => ?_
              clear f69 a69
              refine wpList_nil (hK19 _ _ ?_)
              try clear hK19 K19
              have f71 := f70.sub (sub_cons (i := 5) rfl (sub_cons (i := 6) rfl (sub_cons (i := 7) rfl (sub_cons (i := 8) rfl (sub_cons (i := 9) rfl (sub_cons (i := 10) rfl (sub_cons (i := 41) rfl (sub_cons (i := 42) rfl (sub_cons (i := 43) rfl (sub_cons (i := 44) rfl (sub_cons (i := 47) rfl (sub_cons (i := 48) rfl (sub_cons (i := 51) rfl (sub_cons (i := 52) rfl (sub_cons (i := 53) rfl (sub_cons (i := 58) rfl (sub_cons (i := 59) rfl (sub_cons (i := 60) rfl (sub_cons (i := 61) rfl (sub_cons (i := 62) rfl (sub_cons (i := 63) rfl sub_nil)))))))))))))))))))))
              clear f70
              refine C.region ?_
              refine L.val f71 wantedN rfl (by decide) (E.move f71 rfl) fun a72 f72 => ?_
              clear f71 a70
              refine L.val f72 wantedN rfl (by decide) (E.add f72 rfl rfl (IntWalk.i64_in _ (by omega))) fun a73 f73 => ?_
              clear f72 a72
              refine L.val f73 wantedN rfl (by decide) (E.assign f73 rfl) fun a74 f74 => ?_
              clear f73 a73
              refine wpList_nil (hKL16 _ _ (gk17 - 1) ?_ ?_)
              · omega
              · exact ⟨k + 1, t ++ y, u, by omega, snoc_zero h48' ht (set_not plus hy h53'), fun h => hu (by omega), by simp only [ByteArray.size_append]; omega, by first | omega | (simp only [ByteArray.size_append]; omega), HK, LL, f74.sub (sub_cons rfl (sub_cons rfl (sub_cons rfl (sub_cons rfl (sub_cons rfl (sub_cons rfl sub_nil))))))⟩
        · clear f51
          refine C.condF f52 rfl ?_
          refine wp_exit (hK14 _ _ ?_)
          try clear hK14 K14
          have f53 := f52.sub (sub_cons (i := 5) rfl (sub_cons (i := 7) rfl (sub_cons (i := 8) rfl (sub_cons (i := 9) rfl sub_nil))))
          clear f52
          refine wp_seq_k fun K26 hK26 => ?_
          have hTT : t = joinB ((levelsL s).set i plus) := by rw [ht, List.take_of_length_le (by rw [List.length_set]; omega)]
          have hUU := hu (by omega)
          obtain ⟨b, hb⟩ : ∃ b, s[0]? = some b := ⟨s[0]'(name_pos h20), getElem?_pos s 0 (name_pos h20)⟩
          have hv36 : prefB (hd0 (levelsL s)) dollar = _ := veil36 hb
          refine C.region ?_
          refine L.val f53 wantedN rfl (by decide) (E.move f53 rfl) fun a54 f54 => ?_
          clear f53 a50
          refine L.val f54 wantedN rfl (by decide) (E.gtr f54 rfl rfl) fun a55 f55 => ?_
          clear f54 a54
          refine L.val f55 wantedN rfl (by decide) (E.move f55 rfl) fun a56 f56 => ?_
          clear f55 a55
          first | refine f56.splitD 66 rfl (fun h6 f57 => ?_) (fun h6 f57 => ?_) | refine f56.splitN 66 rfl (fun h6 f57 => ?_) (fun h6 f57 => ?_) | refine f56.splitNB 66 rfl (fun h6 f57 => ?_) (fun h6 f57 => ?_) | refine f56.split 66 rfl (fun h6 f57 => ?_) (fun h6 f57 => ?_)
          · clear f56
            have h66 := h6
            have h66' : 0 < i := by omega
            refine L.skip f57 (f57.noF rfl rfl) rfl (by decide) fun a58 f58 => ?_
            clear f57 a56
            refine L.skip f58 (f58.noF rfl rfl) rfl (by decide) fun a59 f59 => ?_
            clear f58 a58
            refine L.skip f59 (f59.noF rfl rfl) rfl (by decide) fun a60 f60 => ?_
            clear f59 a59
            refine L.val f60 wantedN rfl (by decide) (E.pickT f60 rfl rfl) fun a61 f61 => ?_
            clear f60 a60
            refine L.val f61 wantedN rfl (by decide) (E.assign f61 rfl) fun a62 f62 => ?_
            clear f61 a61
            refine wpList_nil (hK26 _ _ ?_)
            try clear hK26 K26
            have f63 := f62.sub (sub_cons (i := 5) rfl (sub_cons (i := 8) rfl (sub_cons (i := 9) rfl (sub_cons (i := 11) rfl sub_nil))))
            clear f62
            refine wp_seq_k fun K27 hK27 => ?_
            refine C.region ?_
            refine L.val f63 wantedN rfl (by decide) (E.move f63 rfl) fun a64 f64 => ?_
            clear f63 a62
            refine L.val f64 wantedN rfl (by decide) (E.move f64 rfl) fun a65 f65 => ?_
            clear f64 a64
            refine L.call f65 wantedN rfl (by decide) (run_call Tryd.call19 (args2 f65 rfl rfl)) (match_any s s w5 (G.kept HK) (by omega) (by omega)) ?_
            rintro e w6 ⟨kc6, rfl⟩
            refine ⟨_, rfl, fun a66 f66 => ?_⟩
            clear f65 a65
            have szw6 := kc6.size
            replace HK := HK.trans kc6 (by simp)
            replace LL := LL.kept kc6
            clear kc6
            have f67 := f66.as (i := 73) (v' := .bool true) rfl (by rw [own_self h20])
            clear f66
            refine L.val f67 wantedN rfl (by decide) (E.move f67 rfl) fun a68 f68 => ?_
            clear f67 a66
            refine L.val f68 (f68.yes rfl rfl) rfl (by decide) (E.move f68 rfl) fun a69 f69 => ?_
            clear f68 a68
            refine L.val f69 (f69.yes rfl rfl) rfl (by decide) (E.move f69 rfl) fun a70 f70 => ?_
            clear f69 a69
            refine L.call f70 (f70.yes rfl rfl) rfl (by decide) (run_call Tryd.call19 (args2 f70 rfl rfl)) (match_any t s w6 (G.kept HK) (by omega) (by omega)) ?_
            rintro e w7 ⟨kc7, rfl⟩
            refine ⟨_, rfl, fun a71 f71 => ?_⟩
            clear f70 a70
            have szw7 := kc7.size
            replace HK := HK.trans kc7 (by simp)
            replace LL := LL.kept kc7
            clear kc7
            refine L.val f71 (f71.yes rfl rfl) rfl (by decide) (E.move f71 rfl) fun a72 f72 => ?_
            clear f71 a71
            refine L.val f72 (f72.yes rfl rfl) rfl (by decide) (E.eqlB f72 Tryd.underlying4 rfl rfl) fun a73 f73 => ?_
            clear f72 a72
            have f74 := f73.as (i := 79) (v' := .bool true) rfl (by rw [hTT, own_plus h20 hil (by rw [← hTT]; omega)]; simp [h66'])
            clear f73
            refine L.val f74 wantedN rfl (by decide) (E.pickT f74 rfl rfl) fun a75 f75 => ?_
            clear f74 a73
            refine L.val f75 wantedN rfl (by decide) (E.move f75 rfl) fun a76 f76 => ?_
            clear f75 a75
            refine L.val f76 (f76.yes rfl rfl) rfl (by decide) (E.move f76 rfl) fun a77 f77 => ?_
            clear f76 a76
            refine L.val f77 (f77.yes rfl rfl) rfl (by decide) (E.move f77 rfl) fun a78 f78 => ?_
            clear f77 a77
            refine L.call f78 (f78.yes rfl rfl) rfl (by decide) (run_call Tryd.call19 (args2 f78 rfl rfl)) (match_any u s w7 (G.kept HK) (by omega) (by omega)) ?_
            rintro e w8 ⟨kc8, rfl⟩
            refine ⟨_, rfl, fun a79 f79 => ?_⟩
            clear f78 a78
            have szw8 := kc8.size
            replace HK := HK.trans kc8 (by simp)
            replace LL := LL.kept kc8
            clear kc8
            refine L.val f79 (f79.yes rfl rfl) rfl (by decide) (E.move f79 rfl) fun a80 f80 => ?_
            clear f79 a79
            refine L.val f80 (f80.yes rfl rfl) rfl (by decide) (E.eqlB f80 Tryd.underlying4 rfl rfl) fun a81 f81 => ?_
            clear f80 a80
            have f82 := f81.as (i := 86) (v' := .bool true) rfl (by rw [hUU, own_hash h20 hil (by rw [← hUU]; omega)]; simp [h66'])
            clear f81
            refine L.val f82 wantedN rfl (by decide) (E.pickT f82 rfl rfl) fun a83 f83 => ?_
            clear f82 a81
            refine L.val f83 wantedN rfl (by decide) (E.move f83 rfl) fun a84 f84 => ?_
            clear f83 a83
            refine L.val f84 (f84.yes rfl rfl) rfl (by decide) (E.move f84 rfl) fun a85 f85 => ?_
            clear f84 a84
            refine L.val f85 (f85.yes rfl rfl) rfl (by decide) (E.addS f85 rfl rfl (by omega)) fun a86 f86 => ?_
            clear f85 a85
            refine L.val f86 (f86.yes rfl rfl) rfl (by decide) (E.move f86 rfl) fun a87 f87 => ?_
            clear f86 a86
            obtain ⟨d1, hd1⟩ : ∃ d : ByteArray, d = s ++ (⟨#[47, 35]⟩ : ByteArray) := ⟨_, rfl⟩
            have hd1s : d1.size ≤ 100000 := by rw [hd1, ByteArray.size_append, e4735]; omega
            replace f87 := f87.as (i := 90) (v' := .string d1) rfl (by rw [hd1])
            refine L.call f87 (f87.yes rfl rfl) rfl (by decide) (run_call Tryd.call19 (args2 f87 rfl rfl)) (match_any d1 s w8 (G.kept HK) hd1s (by omega)) ?_
            rintro e w9 ⟨kc9, rfl⟩
            refine ⟨_, rfl, fun a88 f88 => ?_⟩
            clear f87 a87
            have szw9 := kc9.size
            replace HK := HK.trans kc9 (by simp)
            replace LL := LL.kept kc9
            clear kc9
            have f89 := f88.as (i := 92) (v' := .bool true) rfl (by rw [hd1, own_deep h20 (by omega)])
            clear f88
            refine L.val f89 wantedN rfl (by decide) (E.pickT f89 rfl rfl) fun a90 f90 => ?_
            clear f89 a88
            refine L.val f90 wantedN rfl (by decide) (E.move f90 rfl) fun a91 f91 => ?_
            clear f90 a90
            refine L.val f91 (f91.yes rfl rfl) rfl (by decide) (E.move f91 rfl) fun a92 f92 => ?_
            clear f91 a91
            refine L.val f92 (f92.yes rfl rfl) rfl (by decide) (E.addS f92 rfl rfl (by omega)) fun a93 f93 => ?_
            clear f92 a92
            refine L.val f93 (f93.yes rfl rfl) rfl (by decide) (E.move f93 rfl) fun a94 f94 => ?_
            clear f93 a93
            obtain ⟨d2, hd2⟩ : ∃ d : ByteArray, d = s ++ (⟨#[47, 97]⟩ : ByteArray) := ⟨_, rfl⟩
            have hd2s : d2.size ≤ 100000 := by rw [hd2, ByteArray.size_append, e4797]; omega
            replace f94 := f94.as (i := 96) (v' := .string d2) rfl (by rw [hd2])
            refine L.call f94 (f94.yes rfl rfl) rfl (by decide) (run_call Tryd.call19 (args2 f94 rfl rfl)) (match_any d2 s w9 (G.kept HK) hd2s (by omega)) ?_
            rintro e w10 ⟨kc10, rfl⟩
            refine ⟨_, rfl, fun a95 f95 => ?_⟩
            clear f94 a94
            have szw10 := kc10.size
            replace HK := HK.trans kc10 (by simp)
            replace LL := LL.kept kc10
            clear kc10
            have f96 := f95.as (i := 98) (v' := .bool false) rfl (by rw [hd2, own_more h20])
            clear f95
            refine L.val f96 (f96.yes rfl rfl) rfl (by decide) (E.not f96 rfl) fun a97 f97 => ?_
            clear f96 a95
            refine L.val f97 wantedN rfl (by decide) (E.pickT f97 rfl rfl) fun a98 f98 => ?_
            clear f97 a97
            refine L.val f98 wantedN rfl (by decide) (E.assign f98 rfl) fun a99 f99 => ?_
            clear f98 a98
            refine wpList_nil (hK27 _ _ ?_)
            try clear hK27 K27
            have f100 := f99.sub (sub_cons (i := 4) rfl sub_nil)
            clear f99
            refine wp_ret ?_
            try simp only [Exit.inBlock, Exit.then]
            refine C.ret (P := Tryd.prog) (fn := Tryd.f5) f100 rfl rfl ?_
            exact ⟨HK, rfl⟩
          · clear f56
            have h66 := h6
            have h66' : ¬ 0 < i := by omega
            refine L.val f57 (f57.yes rfl rfl) rfl (by decide) (E.move f57 rfl) fun a58 f58 => ?_
            clear f57 a56
            refine L.val f58 (f58.yes rfl rfl) rfl (by decide) (E.indexS f58 Tryd.underlying9 rfl rfl (by omega) (by assumption)) fun a59 f59 => ?_
            clear f58 a58
            refine L.val f59 (f59.yes rfl rfl) rfl (by decide) (E.neq f59 rfl rfl) fun a60 f60 => ?_
            clear f59 a59
            refine L.val f60 wantedN rfl (by decide) (E.pickF f60 rfl rfl) fun a61 f61 => ?_
            clear f60 a60
            refine L.val f61 wantedN rfl (by decide) (E.assign f61 rfl) fun a62 f62 => ?_
            clear f61 a61
            refine wpList_nil (hK26 _ _ ?_)
            try clear hK26 K26
            have f63 := f62.sub (sub_cons (i := 5) rfl (sub_cons (i := 8) rfl (sub_cons (i := 9) rfl (sub_cons (i := 11) rfl sub_nil))))
            clear f62
            refine wp_seq_k fun K28 hK28 => ?_
            refine C.region ?_
            refine L.val f63 wantedN rfl (by decide) (E.move f63 rfl) fun a64 f64 => ?_
            clear f63 a62
            refine L.val f64 wantedN rfl (by decide) (E.move f64 rfl) fun a65 f65 => ?_
            clear f64 a64
            refine L.call f65 wantedN rfl (by decide) (run_call Tryd.call19 (args2 f65 rfl rfl)) (match_any s s w5 (G.kept HK) (by omega) (by omega)) ?_
            rintro e w6 ⟨kc6, rfl⟩
            refine ⟨_, rfl, fun a66 f66 => ?_⟩
            clear f65 a65
            have szw6 := kc6.size
            replace HK := HK.trans kc6 (by simp)
            replace LL := LL.kept kc6
            clear kc6
            have f67 := f66.as (i := 73) (v' := .bool true) rfl (by rw [own_self h20])
            clear f66
            refine L.val f67 wantedN rfl (by decide) (E.move f67 rfl) fun a68 f68 => ?_
            clear f67 a66
            refine L.val f68 (f68.yes rfl rfl) rfl (by decide) (E.move f68 rfl) fun a69 f69 => ?_
            clear f68 a68
            refine L.val f69 (f69.yes rfl rfl) rfl (by decide) (E.move f69 rfl) fun a70 f70 => ?_
            clear f69 a69
            refine L.call f70 (f70.yes rfl rfl) rfl (by decide) (run_call Tryd.call19 (args2 f70 rfl rfl)) (match_any t s w6 (G.kept HK) (by omega) (by omega)) ?_
            rintro e w7 ⟨kc7, rfl⟩
            refine ⟨_, rfl, fun a71 f71 => ?_⟩
            clear f70 a70
            have szw7 := kc7.size
            replace HK := HK.trans kc7 (by simp)
            replace LL := LL.kept kc7
            clear kc7
            refine L.val f71 (f71.yes rfl rfl) rfl (by decide) (E.move f71 rfl) fun a72 f72 => ?_
            clear f71 a71
            refine L.val f72 (f72.yes rfl rfl) rfl (by decide) (E.eqlB f72 Tryd.underlying4 rfl rfl) fun a73 f73 => ?_
            clear f72 a72
            have f74 := f73.as (i := 79) (v' := .bool true) rfl (by rw [hTT, own_plus h20 hil (by rw [← hTT]; omega)]; simp [h66, hv36, h66'])
            clear f73
            refine L.val f74 wantedN rfl (by decide) (E.pickT f74 rfl rfl) fun a75 f75 => ?_
            clear f74 a73
            refine L.val f75 wantedN rfl (by decide) (E.move f75 rfl) fun a76 f76 => ?_
            clear f75 a75
            refine L.val f76 (f76.yes rfl rfl) rfl (by decide) (E.move f76 rfl) fun a77 f77 => ?_
            clear f76 a76
            refine L.val f77 (f77.yes rfl rfl) rfl (by decide) (E.move f77 rfl) fun a78 f78 => ?_
            clear f77 a77
            refine L.call f78 (f78.yes rfl rfl) rfl (by decide) (run_call Tryd.call19 (args2 f78 rfl rfl)) (match_any u s w7 (G.kept HK) (by omega) (by omega)) ?_
            rintro e w8 ⟨kc8, rfl⟩
            refine ⟨_, rfl, fun a79 f79 => ?_⟩
            clear f78 a78
            have szw8 := kc8.size
            replace HK := HK.trans kc8 (by simp)
            replace LL := LL.kept kc8
            clear kc8
            refine L.val f79 (f79.yes rfl rfl) rfl (by decide) (E.move f79 rfl) fun a80 f80 => ?_
            clear f79 a79
            refine L.val f80 (f80.yes rfl rfl) rfl (by decide) (E.eqlB f80 Tryd.underlying4 rfl rfl) fun a81 f81 => ?_
            clear f80 a80
            have f82 := f81.as (i := 86) (v' := .bool true) rfl (by rw [hUU, own_hash h20 hil (by rw [← hUU]; omega)]; simp [h66, hv36, h66'])
            clear f81
            refine L.val f82 wantedN rfl (by decide) (E.pickT f82 rfl rfl) fun a83 f83 => ?_
            clear f82 a81
            refine L.val f83 wantedN rfl (by decide) (E.move f83 rfl) fun a84 f84 => ?_
            clear f83 a83
            refine L.val f84 (f84.yes rfl rfl) rfl (by decide) (E.move f84 rfl) fun a85 f85 => ?_
            clear f84 a84
            refine L.val f85 (f85.yes rfl rfl) rfl (by decide) (E.addS f85 rfl rfl (by omega)) fun a86 f86 => ?_
            clear f85 a85
            refine L.val f86 (f86.yes rfl rfl) rfl (by decide) (E.move f86 rfl) fun a87 f87 => ?_
            clear f86 a86
            obtain ⟨d1, hd1⟩ : ∃ d : ByteArray, d = s ++ (⟨#[47, 35]⟩ : ByteArray) := ⟨_, rfl⟩
            have hd1s : d1.size ≤ 100000 := by rw [hd1, ByteArray.size_append, e4735]; omega
            replace f87 := f87.as (i := 90) (v' := .string d1) rfl (by rw [hd1])
            refine L.call f87 (f87.yes rfl rfl) rfl (by decide) (run_call Tryd.call19 (args2 f87 rfl rfl)) (match_any d1 s w8 (G.kept HK) hd1s (by omega)) ?_
            rintro e w9 ⟨kc9, rfl⟩
            refine ⟨_, rfl, fun a88 f88 => ?_⟩
            clear f87 a87
            have szw9 := kc9.size
            replace HK := HK.trans kc9 (by simp)
            replace LL := LL.kept kc9
            clear kc9
            have f89 := f88.as (i := 92) (v' := .bool true) rfl (by rw [hd1, own_deep h20 (by omega)])
            clear f88
            refine L.val f89 wantedN rfl (by decide) (E.pickT f89 rfl rfl) fun a90 f90 => ?_
            clear f89 a88
            refine L.val f90 wantedN rfl (by decide) (E.move f90 rfl) fun a91 f91 => ?_
            clear f90 a90
            refine L.val f91 (f91.yes rfl rfl) rfl (by decide) (E.move f91 rfl) fun a92 f92 => ?_
            clear f91 a91
            refine L.val f92 (f92.yes rfl rfl) rfl (by decide) (E.addS f92 rfl rfl (by omega)) fun a93 f93 => ?_
            clear f92 a92
            refine L.val f93 (f93.yes rfl rfl) rfl (by decide) (E.move f93 rfl) fun a94 f94 => ?_
            clear f93 a93
            obtain ⟨d2, hd2⟩ : ∃ d : ByteArray, d = s ++ (⟨#[47, 97]⟩ : ByteArray) := ⟨_, rfl⟩
            have hd2s : d2.size ≤ 100000 := by rw [hd2, ByteArray.size_append, e4797]; omega
            replace f94 := f94.as (i := 96) (v' := .string d2) rfl (by rw [hd2])
            refine L.call f94 (f94.yes rfl rfl) rfl (by decide) (run_call Tryd.call19 (args2 f94 rfl rfl)) (match_any d2 s w9 (G.kept HK) hd2s (by omega)) ?_
            rintro e w10 ⟨kc10, rfl⟩
            refine ⟨_, rfl, fun a95 f95 => ?_⟩
            clear f94 a94
            have szw10 := kc10.size
            replace HK := HK.trans kc10 (by simp)
            replace LL := LL.kept kc10
            clear kc10
            have f96 := f95.as (i := 98) (v' := .bool false) rfl (by rw [hd2, own_more h20])
            clear f95
            refine L.val f96 (f96.yes rfl rfl) rfl (by decide) (E.not f96 rfl) fun a97 f97 => ?_
            clear f96 a95
            refine L.val f97 wantedN rfl (by decide) (E.pickT f97 rfl rfl) fun a98 f98 => ?_
            clear f97 a97
            refine L.val f98 wantedN rfl (by decide) (E.assign f98 rfl) fun a99 f99 => ?_
            clear f98 a98
            refine wpList_nil (hK28 _ _ ?_)
            try clear hK28 K28
            have f100 := f99.sub (sub_cons (i := 4) rfl sub_nil)
            clear f99
            refine wp_ret ?_
            try simp only [Exit.inBlock, Exit.then]
            refine C.ret (P := Tryd.prog) (fn := Tryd.f5) f100 rfl rfl ?_
            exact ⟨HK, rfl⟩
    · clear f19
      have h20 := h1
      refine L.val f20 wantedN rfl (by decide) (E.not f20 rfl) fun a21 f21 => ?_
      clear f20 a19
      refine wpList_nil (hK8 _ _ ?_)
      try clear hK8 K8
      have f22 := f21.sub (sub_cons (i := 1) rfl (sub_cons (i := 4) rfl (sub_cons (i := 5) rfl (sub_cons (i := 21) rfl sub_nil))))
      clear f21
      refine C.condT f22 rfl ?_
      refine wp_seq_k fun K29 hK29 => ?_
      refine C.region ?_
      refine L.val f22 wantedN rfl (by decide) (E.move f22 rfl) fun a23 f23 => ?_
      clear f22 a21
      refine L.call f23 wantedN rfl (by decide) (run_call Tryd.call19 (args2 f23 rfl rfl)) (match_any ⟨#[35]⟩ s w3 (G.kept HK) (by decide) (by omega)) ?_
      rintro e w4 ⟨kc4, rfl⟩
      refine ⟨_, rfl, fun a24 f24 => ?_⟩
      clear f23 a23
      have szw4 := kc4.size
      replace HK := HK.trans kc4 (by simp)
      clear kc4
      have f25 := f24.as (i := 23) (v' := .bool false) rfl (by rw [match_no h20])
      clear f24
      refine L.val f25 wantedN rfl (by decide) (E.not f25 rfl) fun a26 f26 => ?_
      clear f25 a24
      refine L.val f26 wantedN rfl (by decide) (E.move f26 rfl) fun a27 f27 => ?_
      clear f26 a26
      refine L.val f27 (f27.yes rfl rfl) rfl (by decide) (E.move f27 rfl) fun a28 f28 => ?_
      clear f27 a27
      refine L.val f28 (f28.yes rfl rfl) rfl (by decide) (E.move f28 rfl) fun a29 f29 => ?_
      clear f28 a28
      refine L.call f29 (f29.yes rfl rfl) rfl (by decide) (run_call Tryd.call19 (args2 f29 rfl rfl)) (match_any s s w4 (G.kept HK) (by omega) (by omega)) ?_
      rintro e w5 ⟨kc5, rfl⟩
      refine ⟨_, rfl, fun a30 f30 => ?_⟩
      clear f29 a29
      have szw5 := kc5.size
      replace HK := HK.trans kc5 (by simp)
      clear kc5
      have f31 := f30.as (i := 28) (v' := .bool false) rfl (by rw [match_no h20])
      clear f30
      refine L.val f31 (f31.yes rfl rfl) rfl (by decide) (E.not f31 rfl) fun a32 f32 => ?_
      clear f31 a30
      refine L.val f32 wantedN rfl (by decide) (E.pickT f32 rfl rfl) fun a33 f33 => ?_
      clear f32 a32
      refine L.val f33 wantedN rfl (by decide) (E.assign f33 rfl) fun a34 f34 => ?_
      clear f33 a33
      refine wpList_nil (hK29 _ _ ?_)
      try clear hK29 K29
      have f35 := f34.sub (sub_cons (i := 1) rfl (sub_cons (i := 4) rfl (sub_cons (i := 5) rfl sub_nil)))
      clear f34
      refine wp_ret ?_
      try simp only [Exit.inBlock, Exit.then]
      refine C.ret (P := Tryd.prog) (fn := Tryd.f5) f35 rfl rfl ?_
      exact ⟨HK, rfl⟩


theorem own_row {v0 : Value} {k1 : Int} {w : World} (G : Glob w) (h0 : IsBs w v0) (w1 : (Lit.int .u8 k1).wf = true) :
    Calls Tryd.prog 5 #[v0, .int .u8 k1] w fun e w' => e = .returned (.bool true) ∧ Below w.heap.size w w' := by
  obtain ⟨us0, A0, c0, rfl, h0⟩ := h0
  exact (own_walk w G us0 A0 c0 h0 k1 (bd8 w1).1 (bd8 w1).2).mono fun _ _ => end_of
end Go.Proofs.YtpdacegpjofdeaaDoor
