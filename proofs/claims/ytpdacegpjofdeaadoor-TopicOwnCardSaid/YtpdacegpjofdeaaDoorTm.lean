/- Contracts: the document's matches. -/
import Derived.Test.YtpdacegpjofdeaaDoorTp
set_option linter.all false
namespace Go.Proofs.YtpdacegpjofdeaaDoor
open Go.RowKit Go.Hub Go.Lib


set_option maxHeartbeats 1000000 in
theorem matchR_any (u v : ByteArray) (w : World) (G : Glob w) (hu : u.size ≤ 100000) (hv : v.size ≤ 100000) : Calls Tryd.prog 20 #[.string u, .string v] w (fun e w' => Kept [] w w' ∧ e = .returned (.bool (matchB u v))) := by
  have HK : Kept [] w w := Kept.refl [] w
  refine C.enter Tryd.func20 rfl Tryd.ntmps20 rfl ?_
  intro a0 f0
  have f1 : Fr 33 a0 [(0, .string u), (1, .string v)] := f0
  clear f0
  refine wp_seq_k fun K0 hK0 => ?_
  refine C.region ?_
  refine L.val f1 wantedN rfl (by decide) (E.assign f1 rfl) fun a2 f2 => ?_
  clear f1 a0
  refine wpList_nil (hK0 _ _ ?_)
  try clear hK0 K0
  have f3 := f2.sub (sub_cons (i := 0) rfl (sub_cons (i := 1) rfl (sub_cons (i := 4) rfl sub_nil)))
  clear f2
  refine wp_seq_k fun K1 hK1 => ?_
  refine wp_seq_k fun K2 hK2 => ?_
  refine C.region ?_
  refine L.val f3 wantedN rfl (by decide) (E.move f3 rfl) fun a4 f4 => ?_
  clear f3 a2
  refine L.call f4 wantedN rfl (by decide) (run_call Tryd.call15 (args1 f4 rfl)) (filterR_any u w (G.kept HK) (by omega)) ?_
  rintro e w1 ⟨kc1, rfl⟩
  refine ⟨_, rfl, fun a5 f5 => ?_⟩
  clear f4 a4
  have szw1 := kc1.size
  replace HK := HK.trans kc1 (by simp)
  clear kc1
  refine L.val f5 wantedN rfl (by decide) (E.not f5 rfl) fun a6 f6 => ?_
  clear f5 a5
  refine L.val f6 wantedN rfl (by decide) (E.move f6 rfl) fun a7 f7 => ?_
  clear f6 a6
  first | refine f7.splitD 8 rfl (fun h0 f8 => ?_) (fun h0 f8 => ?_) | refine f7.splitN 8 rfl (fun h0 f8 => ?_) (fun h0 f8 => ?_) | refine f7.splitNB 8 rfl (fun h0 f8 => ?_) (fun h0 f8 => ?_) | refine f7.split 8 rfl (fun h0 f8 => ?_) (fun h0 f8 => ?_)
  · clear f7
    have h8 := h0
    refine L.skip f8 (f8.noF rfl rfl) rfl (by decide) fun a9 f9 => ?_
    clear f8 a7
    refine L.skip f9 (f9.noF rfl rfl) rfl (by decide) fun a10 f10 => ?_
    clear f9 a9
    refine L.skip f10 (f10.noF rfl rfl) rfl (by decide) fun a11 f11 => ?_
    clear f10 a10
    refine L.val f11 wantedN rfl (by decide) (E.pickT f11 rfl rfl) fun a12 f12 => ?_
    clear f11 a11
    refine L.val f12 wantedN rfl (by decide) (E.move f12 rfl) fun a13 f13 => ?_
    clear f12 a12
    refine L.skip f13 (f13.noF rfl rfl) rfl (by decide) fun a14 f14 => ?_
    clear f13 a13
    refine L.skip f14 (f14.noF rfl rfl) rfl (by decide) fun a15 f15 => ?_
    clear f14 a14
    refine L.skip f15 (f15.noF rfl rfl) rfl (by decide) fun a16 f16 => ?_
    clear f15 a15
    refine L.skip f16 (f16.noF rfl rfl) rfl (by decide) fun a17 f17 => ?_
    clear f16 a16
    refine L.skip f17 (f17.noU rfl rfl) rfl (by decide) fun a18 f18 => ?_
    clear f17 a17
    refine L.skip f18 (f18.noU rfl rfl) rfl (by decide) fun a19 f19 => ?_
    clear f18 a18
    refine L.skip f19 (f19.noU rfl rfl) rfl (by decide) fun a20 f20 => ?_
    clear f19 a19
    refine L.skip f20 (f20.noU rfl rfl) rfl (by decide) fun a21 f21 => ?_
    clear f20 a20
    refine L.skip f21 (f21.noU rfl rfl) rfl (by decide) fun a22 f22 => ?_
    clear f21 a21
    refine L.skip f22 (f22.noU rfl rfl) rfl (by decide) fun a23 f23 => ?_
    clear f22 a22
    refine L.skip f23 (f23.noU rfl rfl) rfl (by decide) fun a24 f24 => ?_
    clear f23 a23
    refine L.skip f24 (f24.noU rfl rfl) rfl (by decide) fun a25 f25 => ?_
    clear f24 a24
    refine L.skip f25 (f25.noF rfl rfl) rfl (by decide) fun a26 f26 => ?_
    clear f25 a25
    refine L.val f26 wantedN rfl (by decide) (E.pickT f26 rfl rfl) fun a27 f27 => ?_
    clear f26 a26
    refine wpList_nil (hK2 _ _ ?_)
    try clear hK2 K2
    have f28 := f27.sub (sub_cons (i := 0) rfl (sub_cons (i := 1) rfl (sub_cons (i := 4) rfl (sub_cons (i := 27) rfl sub_nil))))
    clear f27
    refine C.condT f28 rfl ?_
    refine wp_seq_k fun K3 hK3 => ?_
    refine C.region ?_
    refine L.val f28 wantedN rfl (by decide) (E.assign f28 rfl) fun a29 f29 => ?_
    clear f28 a27
    refine wpList_nil (hK3 _ _ ?_)
    try clear hK3 K3
    have f30 := f29.sub (sub_cons (i := 0) rfl (sub_cons (i := 1) rfl (sub_cons (i := 4) rfl sub_nil)))
    clear f29
    refine wp_ret ?_
    try simp only [Exit.inBlock, Exit.then]
    refine C.ret (P := Tryd.prog) (fn := Tryd.f20) f30 rfl rfl ?_
    exact ⟨HK, by unfold matchB; simp [*]⟩
  · clear f7
    have h8 := h0
    refine L.val f8 (f8.yes rfl rfl) rfl (by decide) (E.move f8 rfl) fun a9 f9 => ?_
    clear f8 a7
    refine L.call f9 (f9.yes rfl rfl) rfl (by decide) (run_call Tryd.call13 (args1 f9 rfl)) (nameR_any v w1 (G.kept HK) (by omega)) ?_
    rintro e w2 ⟨kc2, rfl⟩
    refine ⟨_, rfl, fun a10 f10 => ?_⟩
    clear f9 a9
    have szw2 := kc2.size
    replace HK := HK.trans kc2 (by simp)
    clear kc2
    refine L.val f10 (f10.yes rfl rfl) rfl (by decide) (E.not f10 rfl) fun a11 f11 => ?_
    clear f10 a10
    refine L.val f11 wantedN rfl (by decide) (E.pickF f11 rfl rfl) fun a12 f12 => ?_
    clear f11 a11
    refine L.val f12 wantedN rfl (by decide) (E.move f12 rfl) fun a13 f13 => ?_
    clear f12 a12
    first | refine f13.splitD 13 rfl (fun h1 f14 => ?_) (fun h1 f14 => ?_) | refine f13.splitN 13 rfl (fun h1 f14 => ?_) (fun h1 f14 => ?_) | refine f13.splitNB 13 rfl (fun h1 f14 => ?_) (fun h1 f14 => ?_) | refine f13.split 13 rfl (fun h1 f14 => ?_) (fun h1 f14 => ?_)
    · clear f13
      have h13 := h1
      refine L.skip f14 (f14.noF rfl rfl) rfl (by decide) fun a15 f15 => ?_
      clear f14 a13
      refine L.skip f15 (f15.noF rfl rfl) rfl (by decide) fun a16 f16 => ?_
      clear f15 a15
      refine L.skip f16 (f16.noF rfl rfl) rfl (by decide) fun a17 f17 => ?_
      clear f16 a16
      refine L.skip f17 (f17.noF rfl rfl) rfl (by decide) fun a18 f18 => ?_
      clear f17 a17
      refine L.skip f18 (f18.noU rfl rfl) rfl (by decide) fun a19 f19 => ?_
      clear f18 a18
      refine L.skip f19 (f19.noU rfl rfl) rfl (by decide) fun a20 f20 => ?_
      clear f19 a19
      refine L.skip f20 (f20.noU rfl rfl) rfl (by decide) fun a21 f21 => ?_
      clear f20 a20
      refine L.skip f21 (f21.noU rfl rfl) rfl (by decide) fun a22 f22 => ?_
      clear f21 a21
      refine L.skip f22 (f22.noU rfl rfl) rfl (by decide) fun a23 f23 => ?_
      clear f22 a22
      refine L.skip f23 (f23.noU rfl rfl) rfl (by decide) fun a24 f24 => ?_
      clear f23 a23
      refine L.skip f24 (f24.noU rfl rfl) rfl (by decide) fun a25 f25 => ?_
      clear f24 a24
      refine L.skip f25 (f25.noU rfl rfl) rfl (by decide) fun a26 f26 => ?_
      clear f25 a25
      refine L.skip f26 (f26.noF rfl rfl) rfl (by decide) fun a27 f27 => ?_
      clear f26 a26
      refine L.val f27 wantedN rfl (by decide) (E.pickT f27 rfl rfl) fun a28 f28 => ?_
      clear f27 a27
      refine wpList_nil (hK2 _ _ ?_)
      try clear hK2 K2
      have f29 := f28.sub (sub_cons (i := 0) rfl (sub_cons (i := 1) rfl (sub_cons (i := 4) rfl (sub_cons (i := 27) rfl sub_nil))))
      clear f28
      refine C.condT f29 rfl ?_
      refine wp_seq_k fun K4 hK4 => ?_
      refine C.region ?_
      refine L.val f29 wantedN rfl (by decide) (E.assign f29 rfl) fun a30 f30 => ?_
      clear f29 a28
      refine wpList_nil (hK4 _ _ ?_)
      try clear hK4 K4
      have f31 := f30.sub (sub_cons (i := 0) rfl (sub_cons (i := 1) rfl (sub_cons (i := 4) rfl sub_nil)))
      clear f30
      refine wp_ret ?_
      try simp only [Exit.inBlock, Exit.then]
      refine C.ret (P := Tryd.prog) (fn := Tryd.f20) f31 rfl rfl ?_
      exact ⟨HK, by unfold matchB; simp [*]⟩
    · clear f13
      have h13 := h1
      have hu0 := filter_pos h8
      have hv0 := name_pos h13
      obtain ⟨b, hb⟩ : ∃ b, u[0]? = some b := ⟨u[0]'hu0, getElem?_pos u 0 hu0⟩
      obtain ⟨c, hc⟩ : ∃ c, v[0]? = some c := ⟨v[0]'hv0, getElem?_pos v 0 hv0⟩
      refine L.val f14 (f14.yes rfl rfl) rfl (by decide) (E.move f14 rfl) fun a15 f15 => ?_
      clear f14 a13
      refine L.val f15 (f15.yes rfl rfl) rfl (by decide) (E.indexS f15 Tryd.underlying9 rfl rfl (by omega) (by assumption)) fun a16 f16 => ?_
      clear f15 a15
      refine L.val f16 (f16.yes rfl rfl) rfl (by decide) (E.eql f16 rfl rfl) fun a17 f17 => ?_
      clear f16 a16
      refine L.val f17 (f17.yes rfl rfl) rfl (by decide) (E.move f17 rfl) fun a18 f18 => ?_
      clear f17 a17
      first | refine f18.splitD 17 rfl (fun h2 f19 => ?_) (fun h2 f19 => ?_) | refine f18.splitN 17 rfl (fun h2 f19 => ?_) (fun h2 f19 => ?_) | refine f18.splitNB 17 rfl (fun h2 f19 => ?_) (fun h2 f19 => ?_) | refine f18.split 17 rfl (fun h2 f19 => ?_) (fun h2 f19 => ?_)
      · clear f18
        have h17 := h2
        refine L.val f19 (f19.yes rfl rfl) rfl (by decide) (E.move f19 rfl) fun a20 f20 => ?_
        clear f19 a18
        refine L.val f20 (f20.yes rfl rfl) rfl (by decide) (E.indexS f20 Tryd.underlying9 rfl rfl (by omega) (by assumption)) fun a21 f21 => ?_
        clear f20 a20
        refine L.val f21 (f21.yes rfl rfl) rfl (by decide) (E.eql f21 rfl rfl) fun a22 f22 => ?_
        clear f21 a21
        refine L.val f22 (f22.yes rfl rfl) rfl (by decide) (E.move f22 rfl) fun a23 f23 => ?_
        clear f22 a22
        first | refine f23.splitD 21 rfl (fun h3 f24 => ?_) (fun h3 f24 => ?_) | refine f23.splitN 21 rfl (fun h3 f24 => ?_) (fun h3 f24 => ?_) | refine f23.splitNB 21 rfl (fun h3 f24 => ?_) (fun h3 f24 => ?_) | refine f23.split 21 rfl (fun h3 f24 => ?_) (fun h3 f24 => ?_)
        · clear f23
          have h21 := h3
          refine L.skip f24 (f24.noF rfl rfl) rfl (by decide) fun a25 f25 => ?_
          clear f24 a23
          refine L.skip f25 (f25.noF rfl rfl) rfl (by decide) fun a26 f26 => ?_
          clear f25 a25
          refine L.skip f26 (f26.noF rfl rfl) rfl (by decide) fun a27 f27 => ?_
          clear f26 a26
          refine L.val f27 (f27.yes rfl rfl) rfl (by decide) (E.pickT f27 rfl rfl) fun a28 f28 => ?_
          clear f27 a27
          refine L.val f28 (f28.yes rfl rfl) rfl (by decide) (E.pickT f28 rfl rfl) fun a29 f29 => ?_
          clear f28 a28
          refine L.val f29 wantedN rfl (by decide) (E.pickF f29 rfl rfl) fun a30 f30 => ?_
          clear f29 a29
          refine wpList_nil (hK2 _ _ ?_)
          try clear hK2 K2
          have f31 := f30.sub (sub_cons (i := 0) rfl (sub_cons (i := 1) rfl (sub_cons (i := 4) rfl (sub_cons (i := 27) rfl sub_nil))))
          clear f30
          refine C.condT f31 rfl ?_
          refine wp_seq_k fun K5 hK5 => ?_
          refine C.region ?_
          refine L.val f31 wantedN rfl (by decide) (E.assign f31 rfl) fun a32 f32 => ?_
          clear f31 a30
          refine wpList_nil (hK5 _ _ ?_)
          try clear hK5 K5
          have f33 := f32.sub (sub_cons (i := 0) rfl (sub_cons (i := 1) rfl (sub_cons (i := 4) rfl sub_nil)))
          clear f32
          refine wp_ret ?_
          try simp only [Exit.inBlock, Exit.then]
          refine C.ret (P := Tryd.prog) (fn := Tryd.f20) f33 rfl rfl ?_
          exact ⟨HK, by rw [match_is h8 h13 hb hc]; simp [*]⟩
        · clear f23
          have h21 := h3
          refine L.val f24 (f24.yes rfl rfl) rfl (by decide) (E.move f24 rfl) fun a25 f25 => ?_
          clear f24 a23
          refine L.val f25 (f25.yes rfl rfl) rfl (by decide) (E.indexS f25 Tryd.underlying9 rfl rfl (by omega) (by assumption)) fun a26 f26 => ?_
          clear f25 a25
          refine L.val f26 (f26.yes rfl rfl) rfl (by decide) (E.eql f26 rfl rfl) fun a27 f27 => ?_
          clear f26 a26
          refine L.val f27 (f27.yes rfl rfl) rfl (by decide) (E.pickF f27 rfl rfl) fun a28 f28 => ?_
          clear f27 a27
          refine L.val f28 (f28.yes rfl rfl) rfl (by decide) (E.pickT f28 rfl rfl) fun a29 f29 => ?_
          clear f28 a28
          refine L.val f29 wantedN rfl (by decide) (E.pickF f29 rfl rfl) fun a30 f30 => ?_
          clear f29 a29
          refine wpList_nil (hK2 _ _ ?_)
          try clear hK2 K2
          have f31 := f30.sub (sub_cons (i := 0) rfl (sub_cons (i := 1) rfl (sub_cons (i := 4) rfl (sub_cons (i := 27) rfl sub_nil))))
          clear f30
          first | refine f31.splitD 27 rfl (fun h4 f32 => ?_) (fun h4 f32 => ?_) | refine f31.splitN 27 rfl (fun h4 f32 => ?_) (fun h4 f32 => ?_) | refine f31.splitNB 27 rfl (fun h4 f32 => ?_) (fun h4 f32 => ?_) | refine f31.split 27 rfl (fun h4 f32 => ?_) (fun h4 f32 => ?_)
          · clear f31
            have h27 := h4
            refine C.condT f32 rfl ?_
            refine wp_seq_k fun K6 hK6 => ?_
            refine C.region ?_
            refine L.val f32 wantedN rfl (by decide) (E.assign f32 rfl) fun a33 f33 => ?_
            clear f32 a30
            refine wpList_nil (hK6 _ _ ?_)
            try clear hK6 K6
            have f34 := f33.sub (sub_cons (i := 0) rfl (sub_cons (i := 1) rfl (sub_cons (i := 4) rfl sub_nil)))
            clear f33
            refine wp_ret ?_
            try simp only [Exit.inBlock, Exit.then]
            refine C.ret (P := Tryd.prog) (fn := Tryd.f20) f34 rfl rfl ?_
            exact ⟨HK, by rw [match_is h8 h13 hb hc]; simp [*]⟩
          · clear f31
            have h27 := h4
            refine C.condF f32 rfl ?_
            refine wp_skip (hK1 _ _ ?_)
            try clear hK1 K1
            have f33 := f32.sub (sub_cons (i := 0) rfl (sub_cons (i := 1) rfl (sub_cons (i := 4) rfl sub_nil)))
            clear f32
            refine wp_seq_k fun K7 hK7 => ?_
            refine C.region ?_
            refine L.val f33 wantedN rfl (by decide) (E.move f33 rfl) fun a34 f34 => ?_
            clear f33 a30
            refine L.call f34 wantedN rfl (by decide) (run_call Tryd.call18 (args1 f34 rfl)) (levelsR_any u w2 (G.kept HK) (by omega)) ?_
            rintro e w3 ⟨kc3, Af, cf, rfl, LF, f2, f3, f4⟩
            refine ⟨_, rfl, fun a35 f35 => ?_⟩
            clear f34 a34
            have szw3 := kc3.size
            replace HK := HK.trans kc3 (by simp)
            clear kc3
            refine L.val f35 wantedN rfl (by decide) (E.move f35 rfl) fun a36 f36 => ?_
            clear f35 a35
            refine L.call f36 wantedN rfl (by decide) (run_call Tryd.call18 (args1 f36 rfl)) (levelsR_any v w3 (G.kept HK) (by omega)) ?_
            rintro e w4 ⟨kc4, At, ct, rfl, LT, t2, t3, t4⟩
            refine ⟨_, rfl, fun a37 f37 => ?_⟩
            clear f36 a36
            have szw4 := kc4.size
            replace HK := HK.trans kc4 (by simp)
            replace LF := LF.kept kc4
            clear kc4
            refine L.call f37 wantedN rfl (by decide) (run_call Tryd.call31 (args2 f37 rfl rfl)) (matches_any (levelsL u) (levelsL v) Af At cf ct w4 LF LT f2 t2 (by omega) (by omega)) ?_
            rintro e w5 ⟨kc5, rfl⟩
            refine ⟨_, rfl, fun a38 f38 => ?_⟩
            clear f37 a37
            have szw5 := kc5.size
            replace HK := HK.trans kc5 (by simp)
            replace LF := LF.kept kc5
            replace LT := LT.kept kc5
            clear kc5
            refine L.val f38 wantedN rfl (by decide) (E.assign f38 rfl) fun a39 f39 => ?_
            clear f38 a38
            refine wpList_nil (hK7 _ _ ?_)
            try clear hK7 K7
            have f40 := f39.sub (sub_cons (i := 4) rfl sub_nil)
            clear f39
            refine wp_ret ?_
            try simp only [Exit.inBlock, Exit.then]
            refine C.ret (P := Tryd.prog) (fn := Tryd.f20) f40 rfl rfl ?_
            exact ⟨HK, by rw [match_is h8 h13 hb hc]; simp [*]⟩
      · clear f18
        have h17 := h2
        refine L.skip f19 (f19.noT rfl rfl) rfl (by decide) fun a20 f20 => ?_
        clear f19 a18
        refine L.skip f20 (f20.noT rfl rfl) rfl (by decide) fun a21 f21 => ?_
        clear f20 a20
        refine L.skip f21 (f21.noT rfl rfl) rfl (by decide) fun a22 f22 => ?_
        clear f21 a21
        refine L.skip f22 (f22.noT rfl rfl) rfl (by decide) fun a23 f23 => ?_
        clear f22 a22
        refine L.skip f23 (f23.noU rfl rfl) rfl (by decide) fun a24 f24 => ?_
        clear f23 a23
        refine L.skip f24 (f24.noU rfl rfl) rfl (by decide) fun a25 f25 => ?_
        clear f24 a24
        refine L.skip f25 (f25.noU rfl rfl) rfl (by decide) fun a26 f26 => ?_
        clear f25 a25
        refine L.skip f26 (f26.noT rfl rfl) rfl (by decide) fun a27 f27 => ?_
        clear f26 a26
        refine L.val f27 (f27.yes rfl rfl) rfl (by decide) (E.pickF f27 rfl rfl) fun a28 f28 => ?_
        clear f27 a27
        refine L.val f28 wantedN rfl (by decide) (E.pickF f28 rfl rfl) fun a29 f29 => ?_
        clear f28 a28
        refine wpList_nil (hK2 _ _ ?_)
        try clear hK2 K2
        have f30 := f29.sub (sub_cons (i := 0) rfl (sub_cons (i := 1) rfl (sub_cons (i := 4) rfl (sub_cons (i := 27) rfl sub_nil))))
        clear f29
        refine C.condF f30 rfl ?_
        refine wp_skip (hK1 _ _ ?_)
        try clear hK1 K1
        have f31 := f30.sub (sub_cons (i := 0) rfl (sub_cons (i := 1) rfl (sub_cons (i := 4) rfl sub_nil)))
        clear f30
        refine wp_seq_k fun K8 hK8 => ?_
        refine C.region ?_
        refine L.val f31 wantedN rfl (by decide) (E.move f31 rfl) fun a32 f32 => ?_
        clear f31 a29
        refine L.call f32 wantedN rfl (by decide) (run_call Tryd.call18 (args1 f32 rfl)) (levelsR_any u w2 (G.kept HK) (by omega)) ?_
        rintro e w3 ⟨kc3, Af, cf, rfl, LF, f2, f3, f4⟩
        refine ⟨_, rfl, fun a33 f33 => ?_⟩
        clear f32 a32
        have szw3 := kc3.size
        replace HK := HK.trans kc3 (by simp)
        clear kc3
        refine L.val f33 wantedN rfl (by decide) (E.move f33 rfl) fun a34 f34 => ?_
        clear f33 a33
        refine L.call f34 wantedN rfl (by decide) (run_call Tryd.call18 (args1 f34 rfl)) (levelsR_any v w3 (G.kept HK) (by omega)) ?_
        rintro e w4 ⟨kc4, At, ct, rfl, LT, t2, t3, t4⟩
        refine ⟨_, rfl, fun a35 f35 => ?_⟩
        clear f34 a34
        have szw4 := kc4.size
        replace HK := HK.trans kc4 (by simp)
        replace LF := LF.kept kc4
        clear kc4
        refine L.call f35 wantedN rfl (by decide) (run_call Tryd.call31 (args2 f35 rfl rfl)) (matches_any (levelsL u) (levelsL v) Af At cf ct w4 LF LT f2 t2 (by omega) (by omega)) ?_
        rintro e w5 ⟨kc5, rfl⟩
        refine ⟨_, rfl, fun a36 f36 => ?_⟩
        clear f35 a35
        have szw5 := kc5.size
        replace HK := HK.trans kc5 (by simp)
        replace LF := LF.kept kc5
        replace LT := LT.kept kc5
        clear kc5
        refine L.val f36 wantedN rfl (by decide) (E.assign f36 rfl) fun a37 f37 => ?_
        clear f36 a36
        refine wpList_nil (hK8 _ _ ?_)
        try clear hK8 K8
        have f38 := f37.sub (sub_cons (i := 4) rfl sub_nil)
        clear f37
        refine wp_ret ?_
        try simp only [Exit.inBlock, Exit.then]
        refine C.ret (P := Tryd.prog) (fn := Tryd.f20) f38 rfl rfl ?_
        exact ⟨HK, by rw [match_is h8 h13 hb hc]; simp [*]⟩

set_option maxHeartbeats 1000000 in
theorem withinR_any (u v : ByteArray) (w : World) (G : Glob w) (hu : u.size ≤ 100000) (hv : v.size ≤ 100000) : Calls Tryd.prog 22 #[.string u, .string v] w (fun e w' => Kept [] w w' ∧ e = .returned (.bool (withinFB u v))) := by
  have HK : Kept [] w w := Kept.refl [] w
  refine C.enter Tryd.func22 rfl Tryd.ntmps22 rfl ?_
  intro a0 f0
  have f1 : Fr 33 a0 [(0, .string u), (1, .string v)] := f0
  clear f0
  refine wp_seq_k fun K0 hK0 => ?_
  refine C.region ?_
  refine L.val f1 wantedN rfl (by decide) (E.assign f1 rfl) fun a2 f2 => ?_
  clear f1 a0
  refine wpList_nil (hK0 _ _ ?_)
  try clear hK0 K0
  have f3 := f2.sub (sub_cons (i := 0) rfl (sub_cons (i := 1) rfl (sub_cons (i := 4) rfl sub_nil)))
  clear f2
  refine wp_seq_k fun K1 hK1 => ?_
  refine wp_seq_k fun K2 hK2 => ?_
  refine C.region ?_
  refine L.val f3 wantedN rfl (by decide) (E.move f3 rfl) fun a4 f4 => ?_
  clear f3 a2
  refine L.call f4 wantedN rfl (by decide) (run_call Tryd.call15 (args1 f4 rfl)) (filterR_any u w (G.kept HK) (by omega)) ?_
  rintro e w1 ⟨kc1, rfl⟩
  refine ⟨_, rfl, fun a5 f5 => ?_⟩
  clear f4 a4
  have szw1 := kc1.size
  replace HK := HK.trans kc1 (by simp)
  clear kc1
  refine L.val f5 wantedN rfl (by decide) (E.not f5 rfl) fun a6 f6 => ?_
  clear f5 a5
  refine L.val f6 wantedN rfl (by decide) (E.move f6 rfl) fun a7 f7 => ?_
  clear f6 a6
  first | refine f7.splitD 8 rfl (fun h0 f8 => ?_) (fun h0 f8 => ?_) | refine f7.splitN 8 rfl (fun h0 f8 => ?_) (fun h0 f8 => ?_) | refine f7.splitNB 8 rfl (fun h0 f8 => ?_) (fun h0 f8 => ?_) | refine f7.split 8 rfl (fun h0 f8 => ?_) (fun h0 f8 => ?_)
  · clear f7
    have h8 := h0
    refine L.skip f8 (f8.noF rfl rfl) rfl (by decide) fun a9 f9 => ?_
    clear f8 a7
    refine L.skip f9 (f9.noF rfl rfl) rfl (by decide) fun a10 f10 => ?_
    clear f9 a9
    refine L.skip f10 (f10.noF rfl rfl) rfl (by decide) fun a11 f11 => ?_
    clear f10 a10
    refine L.val f11 wantedN rfl (by decide) (E.pickT f11 rfl rfl) fun a12 f12 => ?_
    clear f11 a11
    refine L.val f12 wantedN rfl (by decide) (E.move f12 rfl) fun a13 f13 => ?_
    clear f12 a12
    refine L.skip f13 (f13.noF rfl rfl) rfl (by decide) fun a14 f14 => ?_
    clear f13 a13
    refine L.skip f14 (f14.noF rfl rfl) rfl (by decide) fun a15 f15 => ?_
    clear f14 a14
    refine L.skip f15 (f15.noF rfl rfl) rfl (by decide) fun a16 f16 => ?_
    clear f15 a15
    refine L.skip f16 (f16.noF rfl rfl) rfl (by decide) fun a17 f17 => ?_
    clear f16 a16
    refine L.skip f17 (f17.noU rfl rfl) rfl (by decide) fun a18 f18 => ?_
    clear f17 a17
    refine L.skip f18 (f18.noU rfl rfl) rfl (by decide) fun a19 f19 => ?_
    clear f18 a18
    refine L.skip f19 (f19.noU rfl rfl) rfl (by decide) fun a20 f20 => ?_
    clear f19 a19
    refine L.skip f20 (f20.noU rfl rfl) rfl (by decide) fun a21 f21 => ?_
    clear f20 a20
    refine L.skip f21 (f21.noU rfl rfl) rfl (by decide) fun a22 f22 => ?_
    clear f21 a21
    refine L.skip f22 (f22.noU rfl rfl) rfl (by decide) fun a23 f23 => ?_
    clear f22 a22
    refine L.skip f23 (f23.noU rfl rfl) rfl (by decide) fun a24 f24 => ?_
    clear f23 a23
    refine L.skip f24 (f24.noU rfl rfl) rfl (by decide) fun a25 f25 => ?_
    clear f24 a24
    refine L.skip f25 (f25.noF rfl rfl) rfl (by decide) fun a26 f26 => ?_
    clear f25 a25
    refine L.val f26 wantedN rfl (by decide) (E.pickT f26 rfl rfl) fun a27 f27 => ?_
    clear f26 a26
    refine wpList_nil (hK2 _ _ ?_)
    try clear hK2 K2
    have f28 := f27.sub (sub_cons (i := 0) rfl (sub_cons (i := 1) rfl (sub_cons (i := 4) rfl (sub_cons (i := 27) rfl sub_nil))))
    clear f27
    refine C.condT f28 rfl ?_
    refine wp_seq_k fun K3 hK3 => ?_
    refine C.region ?_
    refine L.val f28 wantedN rfl (by decide) (E.assign f28 rfl) fun a29 f29 => ?_
    clear f28 a27
    refine wpList_nil (hK3 _ _ ?_)
    try clear hK3 K3
    have f30 := f29.sub (sub_cons (i := 0) rfl (sub_cons (i := 1) rfl (sub_cons (i := 4) rfl sub_nil)))
    clear f29
    refine wp_ret ?_
    try simp only [Exit.inBlock, Exit.then]
    refine C.ret (P := Tryd.prog) (fn := Tryd.f22) f30 rfl rfl ?_
    exact ⟨HK, by unfold withinFB; simp [*]⟩
  · clear f7
    have h8 := h0
    refine L.val f8 (f8.yes rfl rfl) rfl (by decide) (E.move f8 rfl) fun a9 f9 => ?_
    clear f8 a7
    refine L.call f9 (f9.yes rfl rfl) rfl (by decide) (run_call Tryd.call15 (args1 f9 rfl)) (filterR_any v w1 (G.kept HK) (by omega)) ?_
    rintro e w2 ⟨kc2, rfl⟩
    refine ⟨_, rfl, fun a10 f10 => ?_⟩
    clear f9 a9
    have szw2 := kc2.size
    replace HK := HK.trans kc2 (by simp)
    clear kc2
    refine L.val f10 (f10.yes rfl rfl) rfl (by decide) (E.not f10 rfl) fun a11 f11 => ?_
    clear f10 a10
    refine L.val f11 wantedN rfl (by decide) (E.pickF f11 rfl rfl) fun a12 f12 => ?_
    clear f11 a11
    refine L.val f12 wantedN rfl (by decide) (E.move f12 rfl) fun a13 f13 => ?_
    clear f12 a12
    first | refine f13.splitD 13 rfl (fun h1 f14 => ?_) (fun h1 f14 => ?_) | refine f13.splitN 13 rfl (fun h1 f14 => ?_) (fun h1 f14 => ?_) | refine f13.splitNB 13 rfl (fun h1 f14 => ?_) (fun h1 f14 => ?_) | refine f13.split 13 rfl (fun h1 f14 => ?_) (fun h1 f14 => ?_)
    · clear f13
      have h13 := h1
      refine L.skip f14 (f14.noF rfl rfl) rfl (by decide) fun a15 f15 => ?_
      clear f14 a13
      refine L.skip f15 (f15.noF rfl rfl) rfl (by decide) fun a16 f16 => ?_
      clear f15 a15
      refine L.skip f16 (f16.noF rfl rfl) rfl (by decide) fun a17 f17 => ?_
      clear f16 a16
      refine L.skip f17 (f17.noF rfl rfl) rfl (by decide) fun a18 f18 => ?_
      clear f17 a17
      refine L.skip f18 (f18.noU rfl rfl) rfl (by decide) fun a19 f19 => ?_
      clear f18 a18
      refine L.skip f19 (f19.noU rfl rfl) rfl (by decide) fun a20 f20 => ?_
      clear f19 a19
      refine L.skip f20 (f20.noU rfl rfl) rfl (by decide) fun a21 f21 => ?_
      clear f20 a20
      refine L.skip f21 (f21.noU rfl rfl) rfl (by decide) fun a22 f22 => ?_
      clear f21 a21
      refine L.skip f22 (f22.noU rfl rfl) rfl (by decide) fun a23 f23 => ?_
      clear f22 a22
      refine L.skip f23 (f23.noU rfl rfl) rfl (by decide) fun a24 f24 => ?_
      clear f23 a23
      refine L.skip f24 (f24.noU rfl rfl) rfl (by decide) fun a25 f25 => ?_
      clear f24 a24
      refine L.skip f25 (f25.noU rfl rfl) rfl (by decide) fun a26 f26 => ?_
      clear f25 a25
      refine L.skip f26 (f26.noF rfl rfl) rfl (by decide) fun a27 f27 => ?_
      clear f26 a26
      refine L.val f27 wantedN rfl (by decide) (E.pickT f27 rfl rfl) fun a28 f28 => ?_
      clear f27 a27
      refine wpList_nil (hK2 _ _ ?_)
      try clear hK2 K2
      have f29 := f28.sub (sub_cons (i := 0) rfl (sub_cons (i := 1) rfl (sub_cons (i := 4) rfl (sub_cons (i := 27) rfl sub_nil))))
      clear f28
      refine C.condT f29 rfl ?_
      refine wp_seq_k fun K4 hK4 => ?_
      refine C.region ?_
      refine L.val f29 wantedN rfl (by decide) (E.assign f29 rfl) fun a30 f30 => ?_
      clear f29 a28
      refine wpList_nil (hK4 _ _ ?_)
      try clear hK4 K4
      have f31 := f30.sub (sub_cons (i := 0) rfl (sub_cons (i := 1) rfl (sub_cons (i := 4) rfl sub_nil)))
      clear f30
      refine wp_ret ?_
      try simp only [Exit.inBlock, Exit.then]
      refine C.ret (P := Tryd.prog) (fn := Tryd.f22) f31 rfl rfl ?_
      exact ⟨HK, by unfold withinFB; simp [*]⟩
    · clear f13
      have h13 := h1
      have hu0 := filter_pos h8
      have hv0 := filter_pos h13
      obtain ⟨b, hb⟩ : ∃ b, v[0]? = some b := ⟨v[0]'hv0, getElem?_pos v 0 hv0⟩
      obtain ⟨c, hc⟩ : ∃ c, u[0]? = some c := ⟨u[0]'hu0, getElem?_pos u 0 hu0⟩
      refine L.val f14 (f14.yes rfl rfl) rfl (by decide) (E.move f14 rfl) fun a15 f15 => ?_
      clear f14 a13
      refine L.val f15 (f15.yes rfl rfl) rfl (by decide) (E.indexS f15 Tryd.underlying9 rfl rfl (by omega) (by assumption)) fun a16 f16 => ?_
      clear f15 a15
      refine L.val f16 (f16.yes rfl rfl) rfl (by decide) (E.eql f16 rfl rfl) fun a17 f17 => ?_
      clear f16 a16
      refine L.val f17 (f17.yes rfl rfl) rfl (by decide) (E.move f17 rfl) fun a18 f18 => ?_
      clear f17 a17
      first | refine f18.splitD 17 rfl (fun h2 f19 => ?_) (fun h2 f19 => ?_) | refine f18.splitN 17 rfl (fun h2 f19 => ?_) (fun h2 f19 => ?_) | refine f18.splitNB 17 rfl (fun h2 f19 => ?_) (fun h2 f19 => ?_) | refine f18.split 17 rfl (fun h2 f19 => ?_) (fun h2 f19 => ?_)
      · clear f18
        have h17 := h2
        refine L.val f19 (f19.yes rfl rfl) rfl (by decide) (E.move f19 rfl) fun a20 f20 => ?_
        clear f19 a18
        refine L.val f20 (f20.yes rfl rfl) rfl (by decide) (E.indexS f20 Tryd.underlying9 rfl rfl (by omega) (by assumption)) fun a21 f21 => ?_
        clear f20 a20
        refine L.val f21 (f21.yes rfl rfl) rfl (by decide) (E.eql f21 rfl rfl) fun a22 f22 => ?_
        clear f21 a21
        refine L.val f22 (f22.yes rfl rfl) rfl (by decide) (E.move f22 rfl) fun a23 f23 => ?_
        clear f22 a22
        first | refine f23.splitD 21 rfl (fun h3 f24 => ?_) (fun h3 f24 => ?_) | refine f23.splitN 21 rfl (fun h3 f24 => ?_) (fun h3 f24 => ?_) | refine f23.splitNB 21 rfl (fun h3 f24 => ?_) (fun h3 f24 => ?_) | refine f23.split 21 rfl (fun h3 f24 => ?_) (fun h3 f24 => ?_)
        · clear f23
          have h21 := h3
          refine L.skip f24 (f24.noF rfl rfl) rfl (by decide) fun a25 f25 => ?_
          clear f24 a23
          refine L.skip f25 (f25.noF rfl rfl) rfl (by decide) fun a26 f26 => ?_
          clear f25 a25
          refine L.skip f26 (f26.noF rfl rfl) rfl (by decide) fun a27 f27 => ?_
          clear f26 a26
          refine L.val f27 (f27.yes rfl rfl) rfl (by decide) (E.pickT f27 rfl rfl) fun a28 f28 => ?_
          clear f27 a27
          refine L.val f28 (f28.yes rfl rfl) rfl (by decide) (E.pickT f28 rfl rfl) fun a29 f29 => ?_
          clear f28 a28
          refine L.val f29 wantedN rfl (by decide) (E.pickF f29 rfl rfl) fun a30 f30 => ?_
          clear f29 a29
          refine wpList_nil (hK2 _ _ ?_)
          try clear hK2 K2
          have f31 := f30.sub (sub_cons (i := 0) rfl (sub_cons (i := 1) rfl (sub_cons (i := 4) rfl (sub_cons (i := 27) rfl sub_nil))))
          clear f30
          refine C.condT f31 rfl ?_
          refine wp_seq_k fun K5 hK5 => ?_
          refine C.region ?_
          refine L.val f31 wantedN rfl (by decide) (E.assign f31 rfl) fun a32 f32 => ?_
          clear f31 a30
          refine wpList_nil (hK5 _ _ ?_)
          try clear hK5 K5
          have f33 := f32.sub (sub_cons (i := 0) rfl (sub_cons (i := 1) rfl (sub_cons (i := 4) rfl sub_nil)))
          clear f32
          refine wp_ret ?_
          try simp only [Exit.inBlock, Exit.then]
          refine C.ret (P := Tryd.prog) (fn := Tryd.f22) f33 rfl rfl ?_
          exact ⟨HK, by rw [within_is h8 h13 hc hb]; simp [*]⟩
        · clear f23
          have h21 := h3
          refine L.val f24 (f24.yes rfl rfl) rfl (by decide) (E.move f24 rfl) fun a25 f25 => ?_
          clear f24 a23
          refine L.val f25 (f25.yes rfl rfl) rfl (by decide) (E.indexS f25 Tryd.underlying9 rfl rfl (by omega) (by assumption)) fun a26 f26 => ?_
          clear f25 a25
          refine L.val f26 (f26.yes rfl rfl) rfl (by decide) (E.eql f26 rfl rfl) fun a27 f27 => ?_
          clear f26 a26
          refine L.val f27 (f27.yes rfl rfl) rfl (by decide) (E.pickF f27 rfl rfl) fun a28 f28 => ?_
          clear f27 a27
          refine L.val f28 (f28.yes rfl rfl) rfl (by decide) (E.pickT f28 rfl rfl) fun a29 f29 => ?_
          clear f28 a28
          refine L.val f29 wantedN rfl (by decide) (E.pickF f29 rfl rfl) fun a30 f30 => ?_
          clear f29 a29
          refine wpList_nil (hK2 _ _ ?_)
          try clear hK2 K2
          have f31 := f30.sub (sub_cons (i := 0) rfl (sub_cons (i := 1) rfl (sub_cons (i := 4) rfl (sub_cons (i := 27) rfl sub_nil))))
          clear f30
          first | refine f31.splitD 27 rfl (fun h4 f32 => ?_) (fun h4 f32 => ?_) | refine f31.splitN 27 rfl (fun h4 f32 => ?_) (fun h4 f32 => ?_) | refine f31.splitNB 27 rfl (fun h4 f32 => ?_) (fun h4 f32 => ?_) | refine f31.split 27 rfl (fun h4 f32 => ?_) (fun h4 f32 => ?_)
          · clear f31
            have h27 := h4
            refine C.condT f32 rfl ?_
            refine wp_seq_k fun K6 hK6 => ?_
            refine C.region ?_
            refine L.val f32 wantedN rfl (by decide) (E.assign f32 rfl) fun a33 f33 => ?_
            clear f32 a30
            refine wpList_nil (hK6 _ _ ?_)
            try clear hK6 K6
            have f34 := f33.sub (sub_cons (i := 0) rfl (sub_cons (i := 1) rfl (sub_cons (i := 4) rfl sub_nil)))
            clear f33
            refine wp_ret ?_
            try simp only [Exit.inBlock, Exit.then]
            refine C.ret (P := Tryd.prog) (fn := Tryd.f22) f34 rfl rfl ?_
            exact ⟨HK, by rw [within_is h8 h13 hc hb]; simp [*]⟩
          · clear f31
            have h27 := h4
            refine C.condF f32 rfl ?_
            refine wp_skip (hK1 _ _ ?_)
            try clear hK1 K1
            have f33 := f32.sub (sub_cons (i := 0) rfl (sub_cons (i := 1) rfl (sub_cons (i := 4) rfl sub_nil)))
            clear f32
            refine wp_seq_k fun K7 hK7 => ?_
            refine C.region ?_
            refine L.val f33 wantedN rfl (by decide) (E.move f33 rfl) fun a34 f34 => ?_
            clear f33 a30
            refine L.call f34 wantedN rfl (by decide) (run_call Tryd.call18 (args1 f34 rfl)) (levelsR_any u w2 (G.kept HK) (by omega)) ?_
            rintro e w3 ⟨kc3, Af, cf, rfl, LF, f2, f3, f4⟩
            refine ⟨_, rfl, fun a35 f35 => ?_⟩
            clear f34 a34
            have szw3 := kc3.size
            replace HK := HK.trans kc3 (by simp)
            clear kc3
            refine L.val f35 wantedN rfl (by decide) (E.move f35 rfl) fun a36 f36 => ?_
            clear f35 a35
            refine L.call f36 wantedN rfl (by decide) (run_call Tryd.call18 (args1 f36 rfl)) (levelsR_any v w3 (G.kept HK) (by omega)) ?_
            rintro e w4 ⟨kc4, At, ct, rfl, LT, t2, t3, t4⟩
            refine ⟨_, rfl, fun a37 f37 => ?_⟩
            clear f36 a36
            have szw4 := kc4.size
            replace HK := HK.trans kc4 (by simp)
            replace LF := LF.kept kc4
            clear kc4
            refine L.call f37 wantedN rfl (by decide) (run_call Tryd.call33 (args2 f37 rfl rfl)) (inside_any (levelsL u) (levelsL v) Af At cf ct w4 LF LT f2 t2 (by omega) (by omega)) ?_
            rintro e w5 ⟨kc5, rfl⟩
            refine ⟨_, rfl, fun a38 f38 => ?_⟩
            clear f37 a37
            have szw5 := kc5.size
            replace HK := HK.trans kc5 (by simp)
            replace LF := LF.kept kc5
            replace LT := LT.kept kc5
            clear kc5
            refine L.val f38 wantedN rfl (by decide) (E.assign f38 rfl) fun a39 f39 => ?_
            clear f38 a38
            refine wpList_nil (hK7 _ _ ?_)
            try clear hK7 K7
            have f40 := f39.sub (sub_cons (i := 4) rfl sub_nil)
            clear f39
            refine wp_ret ?_
            try simp only [Exit.inBlock, Exit.then]
            refine C.ret (P := Tryd.prog) (fn := Tryd.f22) f40 rfl rfl ?_
            exact ⟨HK, by rw [within_is h8 h13 hc hb]; simp [*]⟩
      · clear f18
        have h17 := h2
        refine L.skip f19 (f19.noT rfl rfl) rfl (by decide) fun a20 f20 => ?_
        clear f19 a18
        refine L.skip f20 (f20.noT rfl rfl) rfl (by decide) fun a21 f21 => ?_
        clear f20 a20
        refine L.skip f21 (f21.noT rfl rfl) rfl (by decide) fun a22 f22 => ?_
        clear f21 a21
        refine L.skip f22 (f22.noT rfl rfl) rfl (by decide) fun a23 f23 => ?_
        clear f22 a22
        refine L.skip f23 (f23.noU rfl rfl) rfl (by decide) fun a24 f24 => ?_
        clear f23 a23
        refine L.skip f24 (f24.noU rfl rfl) rfl (by decide) fun a25 f25 => ?_
        clear f24 a24
        refine L.skip f25 (f25.noU rfl rfl) rfl (by decide) fun a26 f26 => ?_
        clear f25 a25
        refine L.skip f26 (f26.noT rfl rfl) rfl (by decide) fun a27 f27 => ?_
        clear f26 a26
        refine L.val f27 (f27.yes rfl rfl) rfl (by decide) (E.pickF f27 rfl rfl) fun a28 f28 => ?_
        clear f27 a27
        refine L.val f28 wantedN rfl (by decide) (E.pickF f28 rfl rfl) fun a29 f29 => ?_
        clear f28 a28
        refine wpList_nil (hK2 _ _ ?_)
        try clear hK2 K2
        have f30 := f29.sub (sub_cons (i := 0) rfl (sub_cons (i := 1) rfl (sub_cons (i := 4) rfl (sub_cons (i := 27) rfl sub_nil))))
        clear f29
        refine C.condF f30 rfl ?_
        refine wp_skip (hK1 _ _ ?_)
        try clear hK1 K1
        have f31 := f30.sub (sub_cons (i := 0) rfl (sub_cons (i := 1) rfl (sub_cons (i := 4) rfl sub_nil)))
        clear f30
        refine wp_seq_k fun K8 hK8 => ?_
        refine C.region ?_
        refine L.val f31 wantedN rfl (by decide) (E.move f31 rfl) fun a32 f32 => ?_
        clear f31 a29
        refine L.call f32 wantedN rfl (by decide) (run_call Tryd.call18 (args1 f32 rfl)) (levelsR_any u w2 (G.kept HK) (by omega)) ?_
        rintro e w3 ⟨kc3, Af, cf, rfl, LF, f2, f3, f4⟩
        refine ⟨_, rfl, fun a33 f33 => ?_⟩
        clear f32 a32
        have szw3 := kc3.size
        replace HK := HK.trans kc3 (by simp)
        clear kc3
        refine L.val f33 wantedN rfl (by decide) (E.move f33 rfl) fun a34 f34 => ?_
        clear f33 a33
        refine L.call f34 wantedN rfl (by decide) (run_call Tryd.call18 (args1 f34 rfl)) (levelsR_any v w3 (G.kept HK) (by omega)) ?_
        rintro e w4 ⟨kc4, At, ct, rfl, LT, t2, t3, t4⟩
        refine ⟨_, rfl, fun a35 f35 => ?_⟩
        clear f34 a34
        have szw4 := kc4.size
        replace HK := HK.trans kc4 (by simp)
        replace LF := LF.kept kc4
        clear kc4
        refine L.call f35 wantedN rfl (by decide) (run_call Tryd.call33 (args2 f35 rfl rfl)) (inside_any (levelsL u) (levelsL v) Af At cf ct w4 LF LT f2 t2 (by omega) (by omega)) ?_
        rintro e w5 ⟨kc5, rfl⟩
        refine ⟨_, rfl, fun a36 f36 => ?_⟩
        clear f35 a35
        have szw5 := kc5.size
        replace HK := HK.trans kc5 (by simp)
        replace LF := LF.kept kc5
        replace LT := LT.kept kc5
        clear kc5
        refine L.val f36 wantedN rfl (by decide) (E.assign f36 rfl) fun a37 f37 => ?_
        clear f36 a36
        refine wpList_nil (hK8 _ _ ?_)
        try clear hK8 K8
        have f38 := f37.sub (sub_cons (i := 4) rfl sub_nil)
        clear f37
        refine wp_ret ?_
        try simp only [Exit.inBlock, Exit.then]
        refine C.ret (P := Tryd.prog) (fn := Tryd.f22) f38 rfl rfl ?_
        exact ⟨HK, by rw [within_is h8 h13 hc hb]; simp [*]⟩

end Go.Proofs.YtpdacegpjofdeaaDoor
