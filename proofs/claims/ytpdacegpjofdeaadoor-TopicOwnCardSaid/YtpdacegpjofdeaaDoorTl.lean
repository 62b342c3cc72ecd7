/- Contracts: the document's filters. -/
import Derived.Test.YtpdacegpjofdeaaDoorTk
set_option linter.all false
namespace Go.Proofs.YtpdacegpjofdeaaDoor
open Go.RowKit Go.Hub Go.Lib
theorem wsz9_tl : (Tryd.prog.info? 9).map (·.size) = some 1 := by kernel_rfl

def verB (a p1 b p2 last : Bool) : Bool := (a && !p1) || (b && (!p2 || !last))
theorem okL_is (p : ByteArray) (last : Bool) : okL p last = !verB (hasB p 43) (decide (p = ⟨#[43]⟩)) (hasB p 35) (decide (p = ⟨#[35]⟩)) last := by
  unfold okL verB
  rw [any_has]
  by_cases h1 : p = ⟨#[43]⟩
  · rw [h1]
    rw [show hasB ⟨#[43]⟩ 43 = true by kernel_rfl, show hasB ⟨#[43]⟩ 35 = false by kernel_rfl, decide_eq_true rfl]
    rfl
  · rw [decide_eq_false h1]
    by_cases h2 : p = ⟨#[35]⟩
    · rw [h2]
      rw [show hasB ⟨#[35]⟩ 43 = false by kernel_rfl, show hasB ⟨#[35]⟩ 35 = true by kernel_rfl, decide_eq_true rfl]
      cases last <;> rfl
    · rw [decide_eq_false h2]
      cases hasB p 43 <;> cases hasB p 35 <;> cases last <;> rfl

theorem levelsR_any (s : ByteArray) (w : World) (G : Glob w) (hs : s.size ≤ 1000000) : Calls Tryd.prog 18 #[.string s] w (LevPost s w) := by
  refine (levR_any s w G hs).mono ?_
  rintro e w' ⟨hk, A, c, h⟩
  rw [lev2_is] at h
  exact ⟨hk, A, c, h⟩
theorem sp_mem : ∀ (l p : List UInt8), p ∈ sp l → p.length ≤ l.length
  | [], p, h => by
    rw [sp, List.mem_singleton] at h
    simp [h]
  | b :: l, p, h => by
    obtain ⟨x, t, e⟩ := sp_ne l
    have ih := sp_mem l
    rw [e] at ih
    rw [sp] at h
    split at h
    · rw [e, List.mem_cons] at h
      rcases h with rfl | h
      · simp
      · have := ih p h
        simp; omega
    · rw [e] at h
      simp only [List.mem_cons] at h
      rcases h with rfl | h
      · have := ih x (by simp)
        simp; omega
      · have := ih p (by simp [h])
        simp; omega
theorem lev_size {s p : ByteArray} (hs : s.size ≤ 1000000) (h : p ∈ levelsL s) : p.size ≤ 1000000 := by
  have e : (levelsL s).map (·.data.toList) = sp s.data.toList := by
    unfold levelsL
    rw [splitB_data, sp_split]
    rfl
  have hm : p.data.toList ∈ sp s.data.toList := by rw [← e]; exact List.mem_map.2 ⟨p, h, rfl⟩
  have := sp_mem _ _ hm
  have e1 : p.data.toList.length = p.size := rfl
  have e2 : s.data.toList.length = s.size := rfl
  omega

set_option maxHeartbeats 1000000 in
theorem filterR_any (s : ByteArray) (w : World) (G : Glob w) (hs : s.size ≤ 1000000) : Calls Tryd.prog 15 #[.string s] w (fun e w' => Kept [] w w' ∧ e = .returned (.bool (filterB s))) := by
  have HK : Kept [] w w := Kept.refl [] w
  refine C.enter Tryd.func15 rfl Tryd.ntmps15 rfl ?_
  intro a0 f0
  have f1 : Fr 49 a0 [(0, .string s)] := f0
  clear f0
  refine wp_seq_k fun K0 hK0 => ?_
  refine C.region ?_
  refine L.val f1 wantedN rfl (by decide) (E.assign f1 rfl) fun a2 f2 => ?_
  clear f1 a0
  refine wpList_nil (hK0 _ _ ?_)
  try clear hK0 K0
  have f3 := f2.sub (sub_cons (i := 0) rfl (sub_cons (i := 2) rfl sub_nil))
  clear f2
  refine wp_seq_k fun K1 hK1 => ?_
  refine wp_seq_k fun K2 hK2 => ?_
  refine C.region ?_
  refine L.val f3 wantedN rfl (by decide) (E.move f3 rfl) fun a4 f4 => ?_
  clear f3 a2
  refine L.call f4 wantedN rfl (by decide) (run_call Tryd.call25 (args1 f4 rfl)) (textR_any s w (G.kept HK).1 hs) ?_
  rintro e w1 ⟨kc1, rfl⟩
  refine ⟨_, rfl, fun a5 f5 => ?_⟩
  clear f4 a4
  have szw1 := kc1.size
  replace HK := HK.trans kc1 (by simp)
  clear kc1
  refine L.val f5 wantedN rfl (by decide) (E.not f5 rfl) fun a6 f6 => ?_
  clear f5 a5
  refine wpList_nil (hK2 _ _ ?_)
  try clear hK2 K2
  have f7 := f6.sub (sub_cons (i := 0) rfl (sub_cons (i := 2) rfl (sub_cons (i := 7) rfl sub_nil)))
  clear f6
  first | refine f7.splitD 7 rfl (fun h0 f8 => ?_) (fun h0 f8 => ?_) | refine f7.splitN 7 rfl (fun h0 f8 => ?_) (fun h0 f8 => ?_) | refine f7.splitNB 7 rfl (fun h0 f8 => ?_) (fun h0 f8 => ?_) | refine f7.split 7 rfl (fun h0 f8 => ?_) (fun h0 f8 => ?_)
  · clear f7
    have h7 := h0
    refine C.condT f8 rfl ?_
    refine wp_seq_k fun K3 hK3 => ?_
    refine C.region ?_
    refine L.val f8 wantedN rfl (by decide) (E.assign f8 rfl) fun a9 f9 => ?_
    clear f8 a6
    refine wpList_nil (hK3 _ _ ?_)
    try clear hK3 K3
    have f10 := f9.sub (sub_cons (i := 0) rfl (sub_cons (i := 2) rfl sub_nil))
    clear f9
    refine wp_ret ?_
    try simp only [Exit.inBlock, Exit.then]
    refine C.ret (P := Tryd.prog) (fn := Tryd.f15) f10 rfl rfl ?_
    exact ⟨HK, by unfold filterB; simp [*]⟩
  · clear f7
    have h7 := h0
    refine C.condF f8 rfl ?_
    refine wp_skip (hK1 _ _ ?_)
    try clear hK1 K1
    have f9 := f8.sub (sub_cons (i := 0) rfl (sub_cons (i := 2) rfl sub_nil))
    clear f8
    refine wp_seq_k fun K4 hK4 => ?_
    refine C.region ?_
    refine L.val f9 wantedN rfl (by decide) (E.move f9 rfl) fun a10 f10 => ?_
    clear f9 a6
    refine L.call f10 wantedN rfl (by decide) (run_call Tryd.call18 (args1 f10 rfl)) (levelsR_any s w1 (G.kept HK) hs) ?_
    rintro e w2 ⟨kc2, A, c, rfl, LS, l2, l3, l4⟩
    refine ⟨_, rfl, fun a11 f11 => ?_⟩
    clear f10 a10
    have szw2 := kc2.size
    replace HK := HK.trans kc2 (by simp)
    clear kc2
    refine L.val f11 wantedN rfl (by decide) (E.assign f11 rfl) fun a12 f12 => ?_
    clear f11 a11
    refine wpList_nil (hK4 _ _ ?_)
    try clear hK4 K4
    have f13 := f12.sub (sub_cons (i := 2) rfl (sub_cons (i := 3) rfl sub_nil))
    clear f12
    refine wp_seq_k fun K5 hK5 => ?_
    refine wp_seq_k fun K6 hK6 => ?_
    refine C.region ?_
    refine L.val f13 wantedN rfl (by decide) (E.assign f13 rfl) fun a14 f14 => ?_
    clear f13 a12
    refine wpList_nil (hK6 _ _ ?_)
    try clear hK6 K6
    have f15 := f14.sub (sub_cons (i := 2) rfl (sub_cons (i := 3) rfl (sub_cons (i := 4) rfl sub_nil)))
    clear f14
    refine wp_block ?_
    refine C.loop (fun gk a W => ∃ k : Nat, k + gk = (levelsL s).length ∧ okAll ((levelsL s).drop k) = okAll (levelsL s) ∧ Kept [] w W ∧ Ss W A (levelsL s) ∧ Fr 49 a [(3, .slice A (levelsL s).length c), (4, .int .i64 k)]) ((levelsL s).length) ?_ ?_
    · exact ⟨0, by omega, rfl, HK, LS, f15.sub (sub_cons rfl (sub_cons rfl sub_nil))⟩
    · intro gk8 a16 w3 hI KL7 hKL7
      obtain ⟨k, hk, hq, HK, LS, f16⟩ := hI
      try clear f15
      refine wp_seq_k fun K8 hK8 => ?_
      refine wp_seq_k fun K9 hK9 => ?_
      refine C.region ?_
      refine L.val f16 wantedN rfl (by decide) (E.move f16 rfl) fun a17 f17 => ?_
      clear f16 a16
      refine L.val f17 wantedN rfl (by decide) (E.move f17 rfl) fun a18 f18 => ?_
      clear f17 a17
      refine L.val f18 wantedN rfl (by decide) (E.lenL f18 Tryd.underlying26 rfl) fun a19 f19 => ?_
      clear f18 a18
      refine L.val f19 wantedN rfl (by decide) (E.lss f19 rfl rfl) fun a20 f20 => ?_
      clear f19 a19
      refine wpList_nil (hK9 _ _ ?_)
      try clear hK9 K9
      have f21 := f20.sub (sub_cons (i := 3) rfl (sub_cons (i := 4) rfl (sub_cons (i := 10) rfl (sub_cons (i := 11) rfl (sub_cons (i := 12) rfl (sub_cons (i := 13) rfl sub_nil))))))
      clear f20
      first | refine f21.splitD 13 rfl (fun h1 f22 => ?_) (fun h1 f22 => ?_) | refine f21.splitN 13 rfl (fun h1 f22 => ?_) (fun h1 f22 => ?_) | refine f21.splitNB 13 rfl (fun h1 f22 => ?_) (fun h1 f22 => ?_) | refine f21.split 13 rfl (fun h1 f22 => ?_) (fun h1 f22 => ?_)
      · clear f21
        obtain ⟨p, hx⟩ : ∃ p, (levelsL s)[k]? = some p := ⟨(levelsL s)[k]'(by omega), List.getElem?_eq_getElem _⟩
        obtain ⟨b1, o1, hA⟩ := LS.addr (k := k) (by omega)
        have hps := lev_size hs (List.mem_of_getElem? hx)
        refine C.condT f22 rfl ?_
        refine wp_skip (hK8 _ _ ?_)
        try clear hK8 K8
        have f23 := f22.sub (sub_cons (i := 3) rfl (sub_cons (i := 4) rfl (sub_cons (i := 10) rfl (sub_cons (i := 11) rfl (sub_cons (i := 12) rfl (sub_cons (i := 13) rfl sub_nil))))))
        clear f22
        refine wp_seq_k fun K10 hK10 => ?_
        refine wp_block ?_
        refine wp_seq_k fun K11 hK11 => ?_
        refine C.region ?_
        refine L.val f23 wantedN rfl (by decide) (E.move f23 rfl) fun a24 f24 => ?_
        clear f23 a20
        refine L.val f24 wantedN rfl (by decide) (E.move f24 rfl) fun a25 f25 => ?_
        clear f24 a24
        refine L.val f25 wantedN rfl (by decide) (E.indexA f25 (by first | rfl | assumption) Tryd.underlying26 wsz9_tl rfl rfl (by omega) (by omega)) fun a26 f26 => ?_
        clear f25 a25
        refine L.val f26 wantedN rfl (by decide) (by first | exact E.load f26 Tryd.underlying9 rfl rfl (ss_cell (LS.kept HK) hA hx) | exact E.load f26 Tryd.underlying9 rfl rfl (ss_cell LS hA hx)) fun a27 f27 => ?_
        clear f26 a26
        refine L.call f27 wantedN rfl (by decide) (run_call Tryd.call26 (args2 f27 rfl rfl)) (has_any p 43 _ hps) ?_
        rintro e w3x ⟨rfl, rfl⟩
        refine ⟨_, rfl, fun a28 f28 => ?_⟩
        clear f27 a27
        refine L.val f28 wantedN rfl (by decide) (E.move f28 rfl) fun a29 f29 => ?_
        clear f28 a28
        first | refine f29.splitD 21 rfl (fun h2 f30 => ?_) (fun h2 f30 => ?_) | refine f29.splitN 21 rfl (fun h2 f30 => ?_) (fun h2 f30 => ?_) | refine f29.splitNB 21 rfl (fun h2 f30 => ?_) (fun h2 f30 => ?_) | refine f29.split 21 rfl (fun h2 f30 => ?_) (fun h2 f30 => ?_)
        · clear f29
          have h21 := h2
          refine L.val f30 (f30.yes rfl rfl) rfl (by decide) (E.move f30 rfl) fun a31 f31 => ?_
          clear f30 a29
          refine L.val f31 (f31.yes rfl rfl) rfl (by decide) (E.move f31 rfl) fun a32 f32 => ?_
          clear f31 a31
          refine L.val f32 (f32.yes rfl rfl) rfl (by decide) (E.indexA f32 (by first | rfl | assumption) Tryd.underlying26 wsz9_tl rfl rfl (by omega) (by omega)) fun a33 f33 => ?_
          clear f32 a32
          refine L.val f33 (f33.yes rfl rfl) rfl (by decide) (by first | exact E.load f33 Tryd.underlying9 rfl rfl (ss_cell (LS.kept HK) hA hx) | exact E.load f33 Tryd.underlying9 rfl rfl (ss_cell LS hA hx)) fun a34 f34 => ?_
          clear f33 a33
          refine L.val f34 (f34.yes rfl rfl) rfl (by decide) (E.neqS f34 rfl rfl) fun a35 f35 => ?_
          clear f34 a34
          refine L.val f35 wantedN rfl (by decide) (E.pickT f35 rfl rfl) fun a36 f36 => ?_
          clear f35 a35
          refine L.val f36 wantedN rfl (by decide) (E.move f36 rfl) fun a37 f37 => ?_
          clear f36 a36
          first | refine f37.splitD 28 rfl (fun h3 f38 => ?_) (fun h3 f38 => ?_) | refine f37.splitN 28 rfl (fun h3 f38 => ?_) (fun h3 f38 => ?_) | refine f37.splitNB 28 rfl (fun h3 f38 => ?_) (fun h3 f38 => ?_) | refine f37.split 28 rfl (fun h3 f38 => ?_) (fun h3 f38 => ?_)
          · clear f37
            have h28 := h3
            refine L.skip f38 (f38.noF rfl rfl) rfl (by decide) fun a39 f39 => ?_
            clear f38 a37
            refine L.skip f39 (f39.noF rfl rfl) rfl (by decide) fun a40 f40 => ?_
            clear f39 a39
            refine L.skip f40 (f40.noF rfl rfl) rfl (by decide) fun a41 f41 => ?_
            clear f40 a40
            refine L.skip f41 (f41.noF rfl rfl) rfl (by decide) fun a42 f42 => ?_
            clear f41 a41
            refine L.skip f42 (f42.noF rfl rfl) rfl (by decide) fun a43 f43 => ?_
            clear f42 a42
            refine L.skip f43 (f43.noF rfl rfl) rfl (by decide) fun a44 f44 => ?_
            clear f43 a43
            refine L.skip f44 (f44.noU rfl rfl) rfl (by decide) fun a45 f45 => ?_
            clear f44 a44
            refine L.skip f45 (f45.noU rfl rfl) rfl (by decide) fun a46 f46 => ?_
            clear f45 a45
            refine L.skip f46 (f46.noU rfl rfl) rfl (by decide) fun a47 f47 => ?_
            clear f46 a46
            refine L.skip f47 (f47.noU rfl rfl) rfl (by decide) fun a48 f48 => ?_
            clear f47 a47
            refine L.skip f48 (f48.noU rfl rfl) rfl (by decide) fun a49 f49 => ?_
            clear f48 a48
            refine L.skip f49 (f49.noU rfl rfl) rfl (by decide) fun a50 f50 => ?_
            clear f49 a49
            refine L.skip f50 (f50.noU rfl rfl) rfl (by decide) fun a51 f51 => ?_
            clear f50 a50
            refine L.skip f51 (f51.noU rfl rfl) rfl (by decide) fun a52 f52 => ?_
            clear f51 a51
            refine L.skip f52 (f52.noU rfl rfl) rfl (by decide) fun a53 f53 => ?_
            clear f52 a52
            refine L.skip f53 (f53.noU rfl rfl) rfl (by decide) fun a54 f54 => ?_
            clear f53 a53
            refine L.skip f54 (f54.noU rfl rfl) rfl (by decide) fun a55 f55 => ?_
            clear f54 a54
            refine L.skip f55 (f55.noU rfl rfl) rfl (by decide) fun a56 f56 => ?_
            clear f55 a55
            refine L.skip f56 (f56.noF rfl rfl) rfl (by decide) fun a57 f57 => ?_
            clear f56 a56
            refine L.val f57 wantedN rfl (by decide) (E.pickT f57 rfl rfl) fun a58 f58 => ?_
            clear f57 a57
            refine wpList_nil (hK11 _ _ ?_)
            try clear hK11 K11
            have f59 := f58.sub (sub_cons (i := 3) rfl (sub_cons (i := 4) rfl (sub_cons (i := 10) rfl (sub_cons (i := 11) rfl (sub_cons (i := 12) rfl (sub_cons (i := 13) rfl (sub_cons (i := 16) rfl (sub_cons (i := 17) rfl (sub_cons (i := 18) rfl (sub_cons (i := 19) rfl (sub_cons (i := 20) rfl (sub_cons (i := 21) rfl (sub_cons (i := 22) rfl (sub_cons (i := 23) rfl (sub_cons (i := 24) rfl (sub_cons (i := 25) rfl (sub_cons (i := 26) rfl (sub_cons (i := 27) rfl (sub_cons (i := 28) rfl (sub_cons (i := 29) rfl (sub_cons (i := 30) rfl (sub_cons (i := 31) rfl (sub_cons (i := 32) rfl (sub_cons (i := 33) rfl (sub_cons (i := 34) rfl (sub_cons (i := 35) rfl (sub_cons (i := 36) rfl (sub_cons (i := 37) rfl (sub_cons (i := 38) rfl (sub_cons (i := 39) rfl (sub_cons (i := 40) rfl (sub_cons (i := 41) rfl (sub_cons (i := 42) rfl (sub_cons (i := 43) rfl (sub_cons (i := 44) rfl (sub_cons (i := 45) rfl (sub_cons (i := 46) rfl (sub_cons (i := 47) rfl (sub_cons (i := 48) rfl sub_nil)))))))))))))))))))))))))))))))))))))))
            clear f58
            refine C.condT f59 rfl ?_
            refine wp_seq_k fun K12 hK12 => ?_
            refine C.region ?_
            refine L.val f59 wantedN rfl (by decide) (E.assign f59 rfl) fun a60 f60 => ?_
            clear f59 a58
            refine wpList_nil (hK12 _ _ ?_)
            try clear hK12 K12
            have f61 := f60.sub (sub_cons (i := 2) rfl (sub_cons (i := 3) rfl (sub_cons (i := 4) rfl (sub_cons (i := 10) rfl (sub_cons (i := 11) rfl (sub_cons (i := 12) rfl (sub_cons (i := 13) rfl (sub_cons (i := 16) rfl (sub_cons (i := 17) rfl (sub_cons (i := 18) rfl (sub_cons (i := 19) rfl (sub_cons (i := 20) rfl (sub_cons (i := 21) rfl (sub_cons (i := 22) rfl (sub_cons (i := 23) rfl (sub_cons (i := 24) rfl (sub_cons (i := 25) rfl (sub_cons (i := 26) rfl (sub_cons (i := 27) rfl (sub_cons (i := 28) rfl (sub_cons (i := 29) rfl (sub_cons (i := 30) rfl (sub_cons (i := 31) rfl (sub_cons (i := 32) rfl (sub_cons (i := 33) rfl (sub_cons (i := 34) rfl (sub_cons (i := 35) rfl (sub_cons (i := 36) rfl (sub_cons (i := 37) rfl (sub_cons (i := 38) rfl (sub_cons (i := 39) rfl (sub_cons (i := 40) rfl (sub_cons (i := 41) rfl (sub_cons (i := 42) rfl (sub_cons (i := 43) rfl (sub_cons (i := 44) rfl (sub_cons (i := 45) rfl (sub_cons (i := 46) rfl (sub_cons (i := 47) rfl (sub_cons (i := 48) rfl sub_nil))))))))))))))))))))))))))))))))))))))))
            clear f60
            refine wp_ret ?_
            try simp only [Exit.inBlock, Exit.then]
            refine C.ret (P := Tryd.prog) (fn := Tryd.f15) f61 rfl rfl ?_
            exact ⟨HK, by unfold filterB; rw [← hq, ok_at hx]; rw [okL_is, show hasB p 43 = true from h21, decide_eq_false h28]; simp [verB]⟩
          · clear f37
            have h28 := h3
            refine L.val f38 (f38.yes rfl rfl) rfl (by decide) (E.move f38 rfl) fun a39 f39 => ?_
            clear f38 a37
            refine L.val f39 (f39.yes rfl rfl) rfl (by decide) (E.move f39 rfl) fun a40 f40 => ?_
            clear f39 a39
            refine L.val f40 (f40.yes rfl rfl) rfl (by decide) (E.indexA f40 (by first | rfl | assumption) Tryd.underlying26 wsz9_tl rfl rfl (by omega) (by omega)) fun a41 f41 => ?_
            clear f40 a40
            refine L.val f41 (f41.yes rfl rfl) rfl (by decide) (by first | exact E.load f41 Tryd.underlying9 rfl rfl (ss_cell (LS.kept HK) hA hx) | exact E.load f41 Tryd.underlying9 rfl rfl (ss_cell LS hA hx)) fun a42 f42 => ?_
            clear f41 a41
            refine L.call f42 (f42.yes rfl rfl) rfl (by decide) (run_call Tryd.call26 (args2 f42 rfl rfl)) (has_any p 35 _ hps) ?_
            rintro e w3x ⟨rfl, rfl⟩
            refine ⟨_, rfl, fun a43 f43 => ?_⟩
            clear f42 a42
            refine L.val f43 (f43.yes rfl rfl) rfl (by decide) (E.move f43 rfl) fun a44 f44 => ?_
            clear f43 a43
            first | refine f44.splitD 34 rfl (fun h4 f45 => ?_) (fun h4 f45 => ?_) | refine f44.splitN 34 rfl (fun h4 f45 => ?_) (fun h4 f45 => ?_) | refine f44.splitNB 34 rfl (fun h4 f45 => ?_) (fun h4 f45 => ?_) | refine f44.split 34 rfl (fun h4 f45 => ?_) (fun h4 f45 => ?_)
            · clear f44
              have h34 := h4
              refine L.val f45 (f45.yes rfl rfl) rfl (by decide) (E.move f45 rfl) fun a46 f46 => ?_
              clear f45 a44
              refine L.val f46 (f46.yes rfl rfl) rfl (by decide) (E.move f46 rfl) fun a47 f47 => ?_
              clear f46 a46
              refine L.val f47 (f47.yes rfl rfl) rfl (by decide) (E.indexA f47 (by first | rfl | assumption) Tryd.underlying26 wsz9_tl rfl rfl (by omega) (by omega)) fun a48 f48 => ?_
              clear f47 a47
              refine L.val f48 (f48.yes rfl rfl) rfl (by decide) (by first | exact E.load f48 Tryd.underlying9 rfl rfl (ss_cell (LS.kept HK) hA hx) | exact E.load f48 Tryd.underlying9 rfl rfl (ss_cell LS hA hx)) fun a49 f49 => ?_
              clear f48 a48
              refine L.val f49 (f49.yes rfl rfl) rfl (by decide) (E.neqS f49 rfl rfl) fun a50 f50 => ?_
              clear f49 a49
              refine L.val f50 (f50.yes rfl rfl) rfl (by decide) (E.move f50 rfl) fun a51 f51 => ?_
              clear f50 a50
              first | refine f51.splitD 40 rfl (fun h5 f52 => ?_) (fun h5 f52 => ?_) | refine f51.splitN 40 rfl (fun h5 f52 => ?_) (fun h5 f52 => ?_) | refine f51.splitNB 40 rfl (fun h5 f52 => ?_) (fun h5 f52 => ?_) | refine f51.split 40 rfl (fun h5 f52 => ?_) (fun h5 f52 => ?_)
              · clear f51
                have h40 := h5
                refine L.skip f52 (f52.noF rfl rfl) rfl (by decide) fun a53 f53 => ?_
                clear f52 a51
                refine L.skip f53 (f53.noF rfl rfl) rfl (by decide) fun a54 f54 => ?_
                clear f53 a53
                refine L.skip f54 (f54.noF rfl rfl) rfl (by decide) fun a55 f55 => ?_
                clear f54 a54
                refine L.skip f55 (f55.noF rfl rfl) rfl (by decide) fun a56 f56 => ?_
                clear f55 a55
                refine L.skip f56 (f56.noF rfl rfl) rfl (by decide) fun a57 f57 => ?_
                clear f56 a56
                refine L.val f57 (f57.yes rfl rfl) rfl (by decide) (E.pickT f57 rfl rfl) fun a58 f58 => ?_
                clear f57 a57
                refine L.val f58 (f58.yes rfl rfl) rfl (by decide) (E.pickT f58 rfl rfl) fun a59 f59 => ?_
                clear f58 a58
                refine L.val f59 wantedN rfl (by decide) (E.pickF f59 rfl rfl) fun a60 f60 => ?_
                clear f59 a59
                refine wpList_nil (hK11 _ _ ?_)
                try clear hK11 K11
                have f61 := f60.sub (sub_cons (i := 3) rfl (sub_cons (i := 4) rfl (sub_cons (i := 10) rfl (sub_cons (i := 11) rfl (sub_cons (i := 12) rfl (sub_cons (i := 13) rfl (sub_cons (i := 16) rfl (sub_cons (i := 17) rfl (sub_cons (i := 18) rfl (sub_cons (i := 19) rfl (sub_cons (i := 20) rfl (sub_cons (i := 21) rfl (sub_cons (i := 22) rfl (sub_cons (i := 23) rfl (sub_cons (i := 24) rfl (sub_cons (i := 25) rfl (sub_cons (i := 26) rfl (sub_cons (i := 27) rfl (sub_cons (i := 28) rfl (sub_cons (i := 29) rfl (sub_cons (i := 30) rfl (sub_cons (i := 31) rfl (sub_cons (i := 32) rfl (sub_cons (i := 33) rfl (sub_cons (i := 34) rfl (sub_cons (i := 35) rfl (sub_cons (i := 36) rfl (sub_cons (i := 37) rfl (sub_cons (i := 38) rfl (sub_cons (i := 39) rfl (sub_cons (i := 40) rfl (sub_cons (i := 41) rfl (sub_cons (i := 42) rfl (sub_cons (i := 43) rfl (sub_cons (i := 44) rfl (sub_cons (i := 45) rfl (sub_cons (i := 46) rfl (sub_cons (i := 47) rfl (sub_cons (i := 48) rfl sub_nil)))))))))))))))))))))))))))))))))))))))
                clear f60
                refine C.condT f61 rfl ?_
                refine wp_seq_k fun K13 hK13 => ?_
                refine C.region ?_
                refine L.val f61 wantedN rfl (by decide) (E.assign f61 rfl) fun a62 f62 => ?_
                clear f61 a60
                refine wpList_nil (hK13 _ _ ?_)
                try clear hK13 K13
                have f63 := f62.sub (sub_cons (i := 2) rfl (sub_cons (i := 3) rfl (sub_cons (i := 4) rfl (sub_cons (i := 10) rfl (sub_cons (i := 11) rfl (sub_cons (i := 12) rfl (sub_cons (i := 13) rfl (sub_cons (i := 16) rfl (sub_cons (i := 17) rfl (sub_cons (i := 18) rfl (sub_cons (i := 19) rfl (sub_cons (i := 20) rfl (sub_cons (i := 21) rfl (sub_cons (i := 22) rfl (sub_cons (i := 23) rfl (sub_cons (i := 24) rfl (sub_cons (i := 25) rfl (sub_cons (i := 26) rfl (sub_cons (i := 27) rfl (sub_cons (i := 28) rfl (sub_cons (i := 29) rfl (sub_cons (i := 30) rfl (sub_cons (i := 31) rfl (sub_cons (i := 32) rfl (sub_cons (i := 33) rfl (sub_cons (i := 34) rfl (sub_cons (i := 35) rfl (sub_cons (i := 36) rfl (sub_cons (i := 37) rfl (sub_cons (i := 38) rfl (sub_cons (i := 39) rfl (sub_cons (i := 40) rfl (sub_cons (i := 41) rfl (sub_cons (i := 42) rfl (sub_cons (i := 43) rfl (sub_cons (i := 44) rfl (sub_cons (i := 45) rfl (sub_cons (i := 46) rfl (sub_cons (i := 47) rfl (sub_cons (i := 48) rfl sub_nil))))))))))))))))))))))))))))))))))))))))
                clear f62
                refine wp_ret ?_
                try simp only [Exit.inBlock, Exit.then]
                refine C.ret (P := Tryd.prog) (fn := Tryd.f15) f63 rfl rfl ?_
                exact ⟨HK, by unfold filterB; rw [← hq, ok_at hx]; rw [okL_is, show hasB p 43 = true from h21, decide_eq_true h28, show hasB p 35 = true from h34, decide_eq_false h40]; simp [verB]⟩
              · clear f51
                have h40 := h5
                refine L.val f52 (f52.yes rfl rfl) rfl (by decide) (E.move f52 rfl) fun a53 f53 => ?_
                clear f52 a51
                refine L.val f53 (f53.yes rfl rfl) rfl (by decide) (E.move f53 rfl) fun a54 f54 => ?_
                clear f53 a53
                refine L.val f54 (f54.yes rfl rfl) rfl (by decide) (E.lenL f54 Tryd.underlying26 rfl) fun a55 f55 => ?_
                clear f54 a54
                refine L.val f55 (f55.yes rfl rfl) rfl (by decide) (E.sub f55 rfl rfl (IntWalk.i64_in _ (by omega))) fun a56 f56 => ?_
                clear f55 a55
                refine L.val f56 (f56.yes rfl rfl) rfl (by decide) (E.lss f56 rfl rfl) fun a57 f57 => ?_
                clear f56 a56
                refine L.val f57 (f57.yes rfl rfl) rfl (by decide) (E.pickF f57 rfl rfl) fun a58 f58 => ?_
                clear f57 a57
                refine L.val f58 (f58.yes rfl rfl) rfl (by decide) (E.pickT f58 rfl rfl) fun a59 f59 => ?_
                clear f58 a58
                refine L.val f59 wantedN rfl (by decide) (E.pickF f59 rfl rfl) fun a60 f60 => ?_
                clear f59 a59
                refine wpList_nil (hK11 _ _ ?_)
                try clear hK11 K11
                have f61 := f60.sub (sub_cons (i := 3) rfl (sub_cons (i := 4) rfl (sub_cons (i := 10) rfl (sub_cons (i := 11) rfl (sub_cons (i := 12) rfl (sub_cons (i := 13) rfl (sub_cons (i := 16) rfl (sub_cons (i := 17) rfl (sub_cons (i := 18) rfl (sub_cons (i := 19) rfl (sub_cons (i := 20) rfl (sub_cons (i := 21) rfl (sub_cons (i := 22) rfl (sub_cons (i := 23) rfl (sub_cons (i := 24) rfl (sub_cons (i := 25) rfl (sub_cons (i := 26) rfl (sub_cons (i := 27) rfl (sub_cons (i := 28) rfl (sub_cons (i := 29) rfl (sub_cons (i := 30) rfl (sub_cons (i := 31) rfl (sub_cons (i := 32) rfl (sub_cons (i := 33) rfl (sub_cons (i := 34) rfl (sub_cons (i := 35) rfl (sub_cons (i := 36) rfl (sub_cons (i := 37) rfl (sub_cons (i := 38) rfl (sub_cons (i := 39) rfl (sub_cons (i := 40) rfl (sub_cons (i := 41) rfl (sub_cons (i := 42) rfl (sub_cons (i := 43) rfl (sub_cons (i := 44) rfl (sub_cons (i := 45) rfl (sub_cons (i := 46) rfl (sub_cons (i := 47) rfl (sub_cons (i := 48) rfl sub_nil)))))))))))))))))))))))))))))))))))))))
                clear f60
                first | refine f61.splitD 48 rfl (fun h6 f62 => ?_) (fun h6 f62 => ?_) | refine f61.splitN 48 rfl (fun h6 f62 => ?_) (fun h6 f62 => ?_) | refine f61.splitNB 48 rfl (fun h6 f62 => ?_) (fun h6 f62 => ?_) | refine f61.split 48 rfl (fun h6 f62 => ?_) (fun h6 f62 => ?_)
                · clear f61
                  have h48 := h6
                  refine C.condT f62 rfl ?_
                  refine wp_seq_k fun K14 hK14 => ?_
                  refine C.region ?_
                  refine L.val f62 wantedN rfl (by decide) (E.assign f62 rfl) fun a63 f63 => ?_
                  clear f62 a60
                  refine wpList_nil (hK14 _ _ ?_)
                  try clear hK14 K14
                  have f64 := f63.sub (sub_cons (i := 2) rfl (sub_cons (i := 3) rfl (sub_cons (i := 4) rfl (sub_cons (i := 10) rfl (sub_cons (i := 11) rfl (sub_cons (i := 12) rfl (sub_cons (i := 13) rfl (sub_cons (i := 16) rfl (sub_cons (i := 17) rfl (sub_cons (i := 18) rfl (sub_cons (i := 19) rfl (sub_cons (i := 20) rfl (sub_cons (i := 21) rfl (sub_cons (i := 22) rfl (sub_cons (i := 23) rfl (sub_cons (i := 24) rfl (sub_cons (i := 25) rfl (sub_cons (i := 26) rfl (sub_cons (i := 27) rfl (sub_cons (i := 28) rfl (sub_cons (i := 29) rfl (sub_cons (i := 30) rfl (sub_cons (i := 31) rfl (sub_cons (i := 32) rfl (sub_cons (i := 33) rfl (sub_cons (i := 34) rfl (sub_cons (i := 35) rfl (sub_cons (i := 36) rfl (sub_cons (i := 37) rfl (sub_cons (i := 38) rfl (sub_cons (i := 39) rfl (sub_cons (i := 40) rfl (sub_cons (i := 41) rfl (sub_cons (i := 42) rfl (sub_cons (i := 43) rfl (sub_cons (i := 44) rfl (sub_cons (i := 45) rfl (sub_cons (i := 46) rfl (sub_cons (i := 47) rfl (sub_cons (i := 48) rfl sub_nil))))))))))))))))))))))))))))))))))))))))
                  clear f63
                  refine wp_ret ?_
                  try simp only [Exit.inBlock, Exit.then]
                  refine C.ret (P := Tryd.prog) (fn := Tryd.f15) f64 rfl rfl ?_
                  exact ⟨HK, by unfold filterB; rw [← hq, ok_at hx]; rw [okL_is, show hasB p 43 = true from h21, decide_eq_true h28, show hasB p 35 = true from h34, decide_eq_true h40, show decide (((k : Nat) : Int) = ((levelsL s).length : Int) - 1) = false from decide_eq_false (by omega)]; simp [verB]⟩
                · clear f61
                  have h48 := h6
                  refine C.condF f62 rfl ?_
                  refine wp_skip (hK10 _ _ ?_)
                  try clear hK10 K10
                  have f63 := f62.sub (sub_cons (i := 3) rfl (sub_cons (i := 4) rfl (sub_cons (i := 10) rfl (sub_cons (i := 11) rfl (sub_cons (i := 12) rfl (sub_cons (i := 13) rfl (sub_cons (i := 16) rfl (sub_cons (i := 17) rfl (sub_cons (i := 18) rfl (sub_cons (i := 19) rfl (sub_cons (i := 20) rfl (sub_cons (i := 21) rfl (sub_cons (i := 22) rfl (sub_cons (i := 23) rfl (sub_cons (i := 24) rfl (sub_cons (i := 25) rfl (sub_cons (i := 26) rfl (sub_cons (i := 27) rfl (sub_cons (i := 28) rfl (sub_cons (i := 29) rfl (sub_cons (i := 30) rfl (sub_cons (i := 31) rfl (sub_cons (i := 32) rfl (sub_cons (i := 33) rfl (sub_cons (i := 34) rfl (sub_cons (i := 35) rfl (sub_cons (i := 36) rfl (sub_cons (i := 37) rfl (sub_cons (i := 38) rfl (sub_cons (i := 39) rfl (sub_cons (i := 40) rfl (sub_cons (i := 41) rfl (sub_cons (i := 42) rfl (sub_cons (i := 43) rfl (sub_cons (i := 44) rfl (sub_cons (i := 45) rfl (sub_cons (i := 46) rfl (sub_cons (i := 47) rfl (sub_cons (i := 48) rfl sub_nil)))))))))))))))))))))))))))))))))))))))
                  clear f62
                  refine C.region ?_
                  refine L.val f63 wantedN rfl (by decide) (E.move f63 rfl) fun a64 f64 => ?_
                  clear f63 a60
                  refine L.val f64 wantedN rfl (by decide) (E.add f64 rfl rfl (IntWalk.i64_in _ (by omega))) fun a65 f65 => ?_
                  clear f64 a64
                  refine L.val f65 wantedN rfl (by decide) (E.assign f65 rfl) fun a66 f66 => ?_
                  clear f65 a65
                  refine wpList_nil (hKL7 _ _ (gk8 - 1) ?_ ?_)
                  · omega
                  · exact ⟨k + 1, by omega, (ok_next hx (by rw [okL_is, show hasB p 43 = true from h21, decide_eq_true h28, show hasB p 35 = true from h34, decide_eq_true h40, show decide (((k : Nat) : Int) = ((levelsL s).length : Int) - 1) = true from decide_eq_true (by omega)]; simp [verB])).trans hq, HK, LS, f66.sub (sub_cons rfl (sub_cons rfl sub_nil))⟩
            · clear f44
              have h34 := h4
              refine L.skip f45 (f45.noT rfl rfl) rfl (by decide) fun a46 f46 => ?_
              clear f45 a44
              refine L.skip f46 (f46.noT rfl rfl) rfl (by decide) fun a47 f47 => ?_
              clear f46 a46
              refine L.skip f47 (f47.noT rfl rfl) rfl (by decide) fun a48 f48 => ?_
              clear f47 a47
              refine L.skip f48 (f48.noT rfl rfl) rfl (by decide) fun a49 f49 => ?_
              clear f48 a48
              refine L.skip f49 (f49.noT rfl rfl) rfl (by decide) fun a50 f50 => ?_
              clear f49 a49
              refine L.skip f50 (f50.noT rfl rfl) rfl (by decide) fun a51 f51 => ?_
              clear f50 a50
              refine L.skip f51 (f51.noU rfl rfl) rfl (by decide) fun a52 f52 => ?_
              clear f51 a51
              refine L.skip f52 (f52.noU rfl rfl) rfl (by decide) fun a53 f53 => ?_
              clear f52 a52
              refine L.skip f53 (f53.noU rfl rfl) rfl (by decide) fun a54 f54 => ?_
              clear f53 a53
              refine L.skip f54 (f54.noU rfl rfl) rfl (by decide) fun a55 f55 => ?_
              clear f54 a54
              refine L.skip f55 (f55.noU rfl rfl) rfl (by decide) fun a56 f56 => ?_
              clear f55 a55
              refine L.skip f56 (f56.noT rfl rfl) rfl (by decide) fun a57 f57 => ?_
              clear f56 a56
              refine L.val f57 (f57.yes rfl rfl) rfl (by decide) (E.pickF f57 rfl rfl) fun a58 f58 => ?_
              clear f57 a57
              refine L.val f58 wantedN rfl (by decide) (E.pickF f58 rfl rfl) fun a59 f59 => ?_
              clear f58 a58
              refine wpList_nil (hK11 _ _ ?_)
              try clear hK11 K11
              have f60 := f59.sub (sub_cons (i := 3) rfl (sub_cons (i := 4) rfl (sub_cons (i := 10) rfl (sub_cons (i := 11) rfl (sub_cons (i := 12) rfl (sub_cons (i := 13) rfl (sub_cons (i := 16) rfl (sub_cons (i := 17) rfl (sub_cons (i := 18) rfl (sub_cons (i := 19) rfl (sub_cons (i := 20) rfl (sub_cons (i := 21) rfl (sub_cons (i := 22) rfl (sub_cons (i := 23) rfl (sub_cons (i := 24) rfl (sub_cons (i := 25) rfl (sub_cons (i := 26) rfl (sub_cons (i := 27) rfl (sub_cons (i := 28) rfl (sub_cons (i := 29) rfl (sub_cons (i := 30) rfl (sub_cons (i := 31) rfl (sub_cons (i := 32) rfl (sub_cons (i := 33) rfl (sub_cons (i := 34) rfl (sub_cons (i := 35) rfl (sub_cons (i := 36) rfl (sub_cons (i := 37) rfl (sub_cons (i := 38) rfl (sub_cons (i := 39) rfl (sub_cons (i := 40) rfl (sub_cons (i := 41) rfl (sub_cons (i := 42) rfl (sub_cons (i := 43) rfl (sub_cons (i := 44) rfl (sub_cons (i := 45) rfl (sub_cons (i := 46) rfl (sub_cons (i := 47) rfl (sub_cons (i := 48) rfl sub_nil)))))))))))))))))))))))))))))))))))))))
              clear f59
              refine C.condF f60 rfl ?_
              refine wp_skip (hK10 _ _ ?_)
              try clear hK10 K10
              have f61 := f60.sub (sub_cons (i := 3) rfl (sub_cons (i := 4) rfl (sub_cons (i := 10) rfl (sub_cons (i := 11) rfl (sub_cons (i := 12) rfl (sub_cons (i := 13) rfl (sub_cons (i := 16) rfl (sub_cons (i := 17) rfl (sub_cons (i := 18) rfl (sub_cons (i := 19) rfl (sub_cons (i := 20) rfl (sub_cons (i := 21) rfl (sub_cons (i := 22) rfl (sub_cons (i := 23) rfl (sub_cons (i := 24) rfl (sub_cons (i := 25) rfl (sub_cons (i := 26) rfl (sub_cons (i := 27) rfl (sub_cons (i := 28) rfl (sub_cons (i := 29) rfl (sub_cons (i := 30) rfl (sub_cons (i := 31) rfl (sub_cons (i := 32) rfl (sub_cons (i := 33) rfl (sub_cons (i := 34) rfl (sub_cons (i := 35) rfl (sub_cons (i := 36) rfl (sub_cons (i := 37) rfl (sub_cons (i := 38) rfl (sub_cons (i := 39) rfl (sub_cons (i := 40) rfl (sub_cons (i := 41) rfl (sub_cons (i := 42) rfl (sub_cons (i := 43) rfl (sub_cons (i := 44) rfl (sub_cons (i := 45) rfl (sub_cons (i := 46) rfl (sub_cons (i := 47) rfl (sub_cons (i := 48) rfl sub_nil)))))))))))))))))))))))))))))))))))))))
              clear f60
              refine C.region ?_
              refine L.val f61 wantedN rfl (by decide) (E.move f61 rfl) fun a62 f62 => ?_
              clear f61 a59
              refine L.val f62 wantedN rfl (by decide) (E.add f62 rfl rfl (IntWalk.i64_in _ (by omega))) fun a63 f63 => ?_
              clear f62 a62
              refine L.val f63 wantedN rfl (by decide) (E.assign f63 rfl) fun a64 f64 => ?_
              clear f63 a63
              refine wpList_nil (hKL7 _ _ (gk8 - 1) ?_ ?_)
              · omega
              · exact ⟨k + 1, by omega, (ok_next hx (by rw [okL_is, show hasB p 43 = true from h21, decide_eq_true h28, show hasB p 35 = false from (by simpa using h34)]; simp [verB])).trans hq, HK, LS, f64.sub (sub_cons rfl (sub_cons rfl sub_nil))⟩
        · clear f29
          have h21 := h2
          refine L.skip f30 (f30.noT rfl rfl) rfl (by decide) fun a31 f31 => ?_
          clear f30 a29
          refine L.skip f31 (f31.noT rfl rfl) rfl (by decide) fun a32 f32 => ?_
          clear f31 a31
          refine L.skip f32 (f32.noT rfl rfl) rfl (by decide) fun a33 f33 => ?_
          clear f32 a32
          refine L.skip f33 (f33.noT rfl rfl) rfl (by decide) fun a34 f34 => ?_
          clear f33 a33
          refine L.skip f34 (f34.noT rfl rfl) rfl (by decide) fun a35 f35 => ?_
          clear f34 a34
          refine L.val f35 wantedN rfl (by decide) (E.pickF f35 rfl rfl) fun a36 f36 => ?_
          clear f35 a35
          refine L.val f36 wantedN rfl (by decide) (E.move f36 rfl) fun a37 f37 => ?_
          clear f36 a36
          refine L.val f37 (f37.yes rfl rfl) rfl (by decide) (E.move f37 rfl) fun a38 f38 => ?_
          clear f37 a37
          refine L.val f38 (f38.yes rfl rfl) rfl (by decide) (E.move f38 rfl) fun a39 f39 => ?_
          clear f38 a38
          refine L.val f39 (f39.yes rfl rfl) rfl (by decide) (E.indexA f39 (by first | rfl | assumption) Tryd.underlying26 wsz9_tl rfl rfl (by omega) (by omega)) fun a40 f40 => ?_
          clear f39 a39
          refine L.val f40 (f40.yes rfl rfl) rfl (by decide) (by first | exact E.load f40 Tryd.underlying9 rfl rfl (ss_cell (LS.kept HK) hA hx) | exact E.load f40 Tryd.underlying9 rfl rfl (ss_cell LS hA hx)) fun a41 f41 => ?_
          clear f40 a40
          refine L.call f41 (f41.yes rfl rfl) rfl (by decide) (run_call Tryd.call26 (args2 f41 rfl rfl)) (has_any p 35 _ hps) ?_
          rintro e w3x ⟨rfl, rfl⟩
          refine ⟨_, rfl, fun a42 f42 => ?_⟩
          clear f41 a41
          refine L.val f42 (f42.yes rfl rfl) rfl (by decide) (E.move f42 rfl) fun a43 f43 => ?_
          clear f42 a42
          first | refine f43.splitD 34 rfl (fun h7 f44 => ?_) (fun h7 f44 => ?_) | refine f43.splitN 34 rfl (fun h7 f44 => ?_) (fun h7 f44 => ?_) | refine f43.splitNB 34 rfl (fun h7 f44 => ?_) (fun h7 f44 => ?_) | refine f43.split 34 rfl (fun h7 f44 => ?_) (fun h7 f44 => ?_)
          · clear f43
            have h34 := h7
            refine L.val f44 (f44.yes rfl rfl) rfl (by decide) (E.move f44 rfl) fun a45 f45 => ?_
            clear f44 a43
            refine L.val f45 (f45.yes rfl rfl) rfl (by decide) (E.move f45 rfl) fun a46 f46 => ?_
            clear f45 a45
            refine L.val f46 (f46.yes rfl rfl) rfl (by decide) (E.indexA f46 (by first | rfl | assumption) Tryd.underlying26 wsz9_tl rfl rfl (by omega) (by omega)) fun a47 f47 => ?_
            clear f46 a46
            refine L.val f47 (f47.yes rfl rfl) rfl (by decide) (by first | exact E.load f47 Tryd.underlying9 rfl rfl (ss_cell (LS.kept HK) hA hx) | exact E.load f47 Tryd.underlying9 rfl rfl (ss_cell LS hA hx)) fun a48 f48 => ?_
            clear f47 a47
            refine L.val f48 (f48.yes rfl rfl) rfl (by decide) (E.neqS f48 rfl rfl) fun a49 f49 => ?_
            clear f48 a48
            refine L.val f49 (f49.yes rfl rfl) rfl (by decide) (E.move f49 rfl) fun a50 f50 => ?_
            clear f49 a49
            first | refine f50.splitD 40 rfl (fun h8 f51 => ?_) (fun h8 f51 => ?_) | refine f50.splitN 40 rfl (fun h8 f51 => ?_) (fun h8 f51 => ?_) | refine f50.splitNB 40 rfl (fun h8 f51 => ?_) (fun h8 f51 => ?_) | refine f50.split 40 rfl (fun h8 f51 => ?_) (fun h8 f51 => ?_)
            · clear f50
              have h40 := h8
              refine L.skip f51 (f51.noF rfl rfl) rfl (by decide) fun a52 f52 => ?_
              clear f51 a50
              refine L.skip f52 (f52.noF rfl rfl) rfl (by decide) fun a53 f53 => ?_
              clear f52 a52
              refine L.skip f53 (f53.noF rfl rfl) rfl (by decide) fun a54 f54 => ?_
              clear f53 a53
              refine L.skip f54 (f54.noF rfl rfl) rfl (by decide) fun a55 f55 => ?_
              clear f54 a54
              refine L.skip f55 (f55.noF rfl rfl) rfl (by decide) fun a56 f56 => ?_
              clear f55 a55
              refine L.val f56 (f56.yes rfl rfl) rfl (by decide) (E.pickT f56 rfl rfl) fun a57 f57 => ?_
              clear f56 a56
              refine L.val f57 (f57.yes rfl rfl) rfl (by decide) (E.pickT f57 rfl rfl) fun a58 f58 => ?_
              clear f57 a57
              refine L.val f58 wantedN rfl (by decide) (E.pickF f58 rfl rfl) fun a59 f59 => ?_
              clear f58 a58
              refine wpList_nil (hK11 _ _ ?_)
              try clear hK11 K11
              have f60 := f59.sub (sub_cons (i := 3) rfl (sub_cons (i := 4) rfl (sub_cons (i := 10) rfl (sub_cons (i := 11) rfl (sub_cons (i := 12) rfl (sub_cons (i := 13) rfl (sub_cons (i := 16) rfl (sub_cons (i := 17) rfl (sub_cons (i := 18) rfl (sub_cons (i := 19) rfl (sub_cons (i := 20) rfl (sub_cons (i := 21) rfl (sub_cons (i := 22) rfl (sub_cons (i := 23) rfl (sub_cons (i := 24) rfl (sub_cons (i := 25) rfl (sub_cons (i := 26) rfl (sub_cons (i := 27) rfl (sub_cons (i := 28) rfl (sub_cons (i := 29) rfl (sub_cons (i := 30) rfl (sub_cons (i := 31) rfl (sub_cons (i := 32) rfl (sub_cons (i := 33) rfl (sub_cons (i := 34) rfl (sub_cons (i := 35) rfl (sub_cons (i := 36) rfl (sub_cons (i := 37) rfl (sub_cons (i := 38) rfl (sub_cons (i := 39) rfl (sub_cons (i := 40) rfl (sub_cons (i := 41) rfl (sub_cons (i := 42) rfl (sub_cons (i := 43) rfl (sub_cons (i := 44) rfl (sub_cons (i := 45) rfl (sub_cons (i := 46) rfl (sub_cons (i := 47) rfl (sub_cons (i := 48) rfl sub_nil)))))))))))))))))))))))))))))))))))))))
              clear f59
              refine C.condT f60 rfl ?_
              refine wp_seq_k fun K15 hK15 => ?_
              refine C.region ?_
              refine L.val f60 wantedN rfl (by decide) (E.assign f60 rfl) fun a61 f61 => ?_
              clear f60 a59
              refine wpList_nil (hK15 _ _ ?_)
              try clear hK15 K15
              have f62 := f61.sub (sub_cons (i := 2) rfl (sub_cons (i := 3) rfl (sub_cons (i := 4) rfl (sub_cons (i := 10) rfl (sub_cons (i := 11) rfl (sub_cons (i := 12) rfl (sub_cons (i := 13) rfl (sub_cons (i := 16) rfl (sub_cons (i := 17) rfl (sub_cons (i := 18) rfl (sub_cons (i := 19) rfl (sub_cons (i := 20) rfl (sub_cons (i := 21) rfl (sub_cons (i := 22) rfl (sub_cons (i := 23) rfl (sub_cons (i := 24) rfl (sub_cons (i := 25) rfl (sub_cons (i := 26) rfl (sub_cons (i := 27) rfl (sub_cons (i := 28) rfl (sub_cons (i := 29) rfl (sub_cons (i := 30) rfl (sub_cons (i := 31) rfl (sub_cons (i := 32) rfl (sub_cons (i := 33) rfl (sub_cons (i := 34) rfl (sub_cons (i := 35) rfl (sub_cons (i := 36) rfl (sub_cons (i := 37) rfl (sub_cons (i := 38) rfl (sub_cons (i := 39) rfl (sub_cons (i := 40) rfl (sub_cons (i := 41) rfl (sub_cons (i := 42) rfl (sub_cons (i := 43) rfl (sub_cons (i := 44) rfl (sub_cons (i := 45) rfl (sub_cons (i := 46) rfl (sub_cons (i := 47) rfl (sub_cons (i := 48) rfl sub_nil))))))))))))))))))))))))))))))))))))))))
              clear f61
              refine wp_ret ?_
              try simp only [Exit.inBlock, Exit.then]
              refine C.ret (P := Tryd.prog) (fn := Tryd.f15) f62 rfl rfl ?_
              exact ⟨HK, by unfold filterB; rw [← hq, ok_at hx]; rw [okL_is, show hasB p 43 = false from (by simpa using h21), show hasB p 35 = true from h34, decide_eq_false h40]; simp [verB]⟩
            · clear f50
              have h40 := h8
              refine L.val f51 (f51.yes rfl rfl) rfl (by decide) (E.move f51 rfl) fun a52 f52 => ?_
              clear f51 a50
              refine L.val f52 (f52.yes rfl rfl) rfl (by decide) (E.move f52 rfl) fun a53 f53 => ?_
              clear f52 a52
              refine L.val f53 (f53.yes rfl rfl) rfl (by decide) (E.lenL f53 Tryd.underlying26 rfl) fun a54 f54 => ?_
              clear f53 a53
              refine L.val f54 (f54.yes rfl rfl) rfl (by decide) (E.sub f54 rfl rfl (IntWalk.i64_in _ (by omega))) fun a55 f55 => ?_
              clear f54 a54
              refine L.val f55 (f55.yes rfl rfl) rfl (by decide) (E.lss f55 rfl rfl) fun a56 f56 => ?_
              clear f55 a55
              refine L.val f56 (f56.yes rfl rfl) rfl (by decide) (E.pickF f56 rfl rfl) fun a57 f57 => ?_
              clear f56 a56
              refine L.val f57 (f57.yes rfl rfl) rfl (by decide) (E.pickT f57 rfl rfl) fun a58 f58 => ?_
              clear f57 a57
              refine L.val f58 wantedN rfl (by decide) (E.pickF f58 rfl rfl) fun a59 f59 => ?_
              clear f58 a58
              refine wpList_nil (hK11 _ _ ?_)
              try clear hK11 K11
              have f60 := f59.sub (sub_cons (i := 3) rfl (sub_cons (i := 4) rfl (sub_cons (i := 10) rfl (sub_cons (i := 11) rfl (sub_cons (i := 12) rfl (sub_cons (i := 13) rfl (sub_cons (i := 16) rfl (sub_cons (i := 17) rfl (sub_cons (i := 18) rfl (sub_cons (i := 19) rfl (sub_cons (i := 20) rfl (sub_cons (i := 21) rfl (sub_cons (i := 22) rfl (sub_cons (i := 23) rfl (sub_cons (i := 24) rfl (sub_cons (i := 25) rfl (sub_cons (i := 26) rfl (sub_cons (i := 27) rfl (sub_cons (i := 28) rfl (sub_cons (i := 29) rfl (sub_cons (i := 30) rfl (sub_cons (i := 31) rfl (sub_cons (i := 32) rfl (sub_cons (i := 33) rfl (sub_cons (i := 34) rfl (sub_cons (i := 35) rfl (sub_cons (i := 36) rfl (sub_cons (i := 37) rfl (sub_cons (i := 38) rfl (sub_cons (i := 39) rfl (sub_cons (i := 40) rfl (sub_cons (i := 41) rfl (sub_cons (i := 42) rfl (sub_cons (i := 43) rfl (sub_cons (i := 44) rfl (sub_cons (i := 45) rfl (sub_cons (i := 46) rfl (sub_cons (i := 47) rfl (sub_cons (i := 48) rfl sub_nil)))))))))))))))))))))))))))))))))))))))
              clear f59
              first | refine f60.splitD 48 rfl (fun h9 f61 => ?_) (fun h9 f61 => ?_) | refine f60.splitN 48 rfl (fun h9 f61 => ?_) (fun h9 f61 => ?_) | refine f60.splitNB 48 rfl (fun h9 f61 => ?_) (fun h9 f61 => ?_) | refine f60.split 48 rfl (fun h9 f61 => ?_) (fun h9 f61 => ?_)
              · clear f60
                have h48 := h9
                refine C.condT f61 rfl ?_
                refine wp_seq_k fun K16 hK16 => ?_
                refine C.region ?_
                refine L.val f61 wantedN rfl (by decide) (E.assign f61 rfl) fun a62 f62 => ?_
                clear f61 a59
                refine wpList_nil (hK16 _ _ ?_)
                try clear hK16 K16
                have f63 := f62.sub (sub_cons (i := 2) rfl (sub_cons (i := 3) rfl (sub_cons (i := 4) rfl (sub_cons (i := 10) rfl (sub_cons (i := 11) rfl (sub_cons (i := 12) rfl (sub_cons (i := 13) rfl (sub_cons (i := 16) rfl (sub_cons (i := 17) rfl (sub_cons (i := 18) rfl (sub_cons (i := 19) rfl (sub_cons (i := 20) rfl (sub_cons (i := 21) rfl (sub_cons (i := 22) rfl (sub_cons (i := 23) rfl (sub_cons (i := 24) rfl (sub_cons (i := 25) rfl (sub_cons (i := 26) rfl (sub_cons (i := 27) rfl (sub_cons (i := 28) rfl (sub_cons (i := 29) rfl (sub_cons (i := 30) rfl (sub_cons (i := 31) rfl (sub_cons (i := 32) rfl (sub_cons (i := 33) rfl (sub_cons (i := 34) rfl (sub_cons (i := 35) rfl (sub_cons (i := 36) rfl (sub_cons (i := 37) rfl (sub_cons (i := 38) rfl (sub_cons (i := 39) rfl (sub_cons (i := 40) rfl (sub_cons (i := 41) rfl (sub_cons (i := 42) rfl (sub_cons (i := 43) rfl (sub_cons (i := 44) rfl (sub_cons (i := 45) rfl (sub_cons (i := 46) rfl (sub_cons (i := 47) rfl (sub_cons (i := 48) rfl sub_nil))))))))))))))))))))))))))))))))))))))))
                clear f62
                refine wp_ret ?_
                try simp only [Exit.inBlock, Exit.then]
                refine C.ret (P := Tryd.prog) (fn := Tryd.f15) f63 rfl rfl ?_
                exact ⟨HK, by unfold filterB; rw [← hq, ok_at hx]; rw [okL_is, show hasB p 43 = false from (by simpa using h21), show hasB p 35 = true from h34, decide_eq_true h40, show decide (((k : Nat) : Int) = ((levelsL s).length : Int) - 1) = false from decide_eq_false (by omega)]; simp [verB]⟩
              · clear f60
                have h48 := h9
                refine C.condF f61 rfl ?_
                refine wp_skip (hK10 _ _ ?_)
                try clear hK10 K10
                have f62 := f61.sub (sub_cons (i := 3) rfl (sub_cons (i := 4) rfl (sub_cons (i := 10) rfl (sub_cons (i := 11) rfl (sub_cons (i := 12) rfl (sub_cons (i := 13) rfl (sub_cons (i := 16) rfl (sub_cons (i := 17) rfl (sub_cons (i := 18) rfl (sub_cons (i := 19) rfl (sub_cons (i := 20) rfl (sub_cons (i := 21) rfl (sub_cons (i := 22) rfl (sub_cons (i := 23) rfl (sub_cons (i := 24) rfl (sub_cons (i := 25) rfl (sub_cons (i := 26) rfl (sub_cons (i := 27) rfl (sub_cons (i := 28) rfl (sub_cons (i := 29) rfl (sub_cons (i := 30) rfl (sub_cons (i := 31) rfl (sub_cons (i := 32) rfl (sub_cons (i := 33) rfl (sub_cons (i := 34) rfl (sub_cons (i := 35) rfl (sub_cons (i := 36) rfl (sub_cons (i := 37) rfl (sub_cons (i := 38) rfl (sub_cons (i := 39) rfl (sub_cons (i := 40) rfl (sub_cons (i := 41) rfl (sub_cons (i := 42) rfl (sub_cons (i := 43) rfl (sub_cons (i := 44) rfl (sub_cons (i := 45) rfl (sub_cons (i := 46) rfl (sub_cons (i := 47) rfl (sub_cons (i := 48) rfl sub_nil)))))))))))))))))))))))))))))))))))))))
                clear f61
                refine C.region ?_
                refine L.val f62 wantedN rfl (by decide) (E.move f62 rfl) fun a63 f63 => ?_
                clear f62 a59
                refine L.val f63 wantedN rfl (by decide) (E.add f63 rfl rfl (IntWalk.i64_in _ (by omega))) fun a64 f64 => ?_
                clear f63 a63
                refine L.val f64 wantedN rfl (by decide) (E.assign f64 rfl) fun a65 f65 => ?_
                clear f64 a64
                refine wpList_nil (hKL7 _ _ (gk8 - 1) ?_ ?_)
                · omega
                · exact ⟨k + 1, by omega, (ok_next hx (by rw [okL_is, show hasB p 43 = false from (by simpa using h21), show hasB p 35 = true from h34, decide_eq_true h40, show decide (((k : Nat) : Int) = ((levelsL s).length : Int) - 1) = true from decide_eq_true (by omega)]; simp [verB])).trans hq, HK, LS, f65.sub (sub_cons rfl (sub_cons rfl sub_nil))⟩
          · clear f43
            have h34 := h7
            refine L.skip f44 (f44.noT rfl rfl) rfl (by decide) fun a45 f45 => ?_
            clear f44 a43
            refine L.skip f45 (f45.noT rfl rfl) rfl (by decide) fun a46 f46 => ?_
            clear f45 a45
            refine L.skip f46 (f46.noT rfl rfl) rfl (by decide) fun a47 f47 => ?_
            clear f46 a46
            refine L.skip f47 (f47.noT rfl rfl) rfl (by decide) fun a48 f48 => ?_
            clear f47 a47
            refine L.skip f48 (f48.noT rfl rfl) rfl (by decide) fun a49 f49 => ?_
            clear f48 a48
            refine L.skip f49 (f49.noT rfl rfl) rfl (by decide) fun a50 f50 => ?_
            clear f49 a49
            refine L.skip f50 (f50.noU rfl rfl) rfl (by decide) fun a51 f51 => ?_
            clear f50 a50
            refine L.skip f51 (f51.noU rfl rfl) rfl (by decide) fun a52 f52 => ?_
            clear f51 a51
            refine L.skip f52 (f52.noU rfl rfl) rfl (by decide) fun a53 f53 => ?_
            clear f52 a52
            refine L.skip f53 (f53.noU rfl rfl) rfl (by decide) fun a54 f54 => ?_
            clear f53 a53
            refine L.skip f54 (f54.noU rfl rfl) rfl (by decide) fun a55 f55 => ?_
            clear f54 a54
            refine L.skip f55 (f55.noT rfl rfl) rfl (by decide) fun a56 f56 => ?_
            clear f55 a55
            refine L.val f56 (f56.yes rfl rfl) rfl (by decide) (E.pickF f56 rfl rfl) fun a57 f57 => ?_
            clear f56 a56
            refine L.val f57 wantedN rfl (by decide) (E.pickF f57 rfl rfl) fun a58 f58 => ?_
            clear f57 a57
            refine wpList_nil (hK11 _ _ ?_)
            try clear hK11 K11
            have f59 := f58.sub (sub_cons (i := 3) rfl (sub_cons (i := 4) rfl (sub_cons (i := 10) rfl (sub_cons (i := 11) rfl (sub_cons (i := 12) rfl (sub_cons (i := 13) rfl (sub_cons (i := 16) rfl (sub_cons (i := 17) rfl (sub_cons (i := 18) rfl (sub_cons (i := 19) rfl (sub_cons (i := 20) rfl (sub_cons (i := 21) rfl (sub_cons (i := 22) rfl (sub_cons (i := 23) rfl (sub_cons (i := 24) rfl (sub_cons (i := 25) rfl (sub_cons (i := 26) rfl (sub_cons (i := 27) rfl (sub_cons (i := 28) rfl (sub_cons (i := 29) rfl (sub_cons (i := 30) rfl (sub_cons (i := 31) rfl (sub_cons (i := 32) rfl (sub_cons (i := 33) rfl (sub_cons (i := 34) rfl (sub_cons (i := 35) rfl (sub_cons (i := 36) rfl (sub_cons (i := 37) rfl (sub_cons (i := 38) rfl (sub_cons (i := 39) rfl (sub_cons (i := 40) rfl (sub_cons (i := 41) rfl (sub_cons (i := 42) rfl (sub_cons (i := 43) rfl (sub_cons (i := 44) rfl (sub_cons (i := 45) rfl (sub_cons (i := 46) rfl (sub_cons (i := 47) rfl (sub_cons (i := 48) rfl sub_nil)))))))))))))))))))))))))))))))))))))))
            clear f58
            refine C.condF f59 rfl ?_
            refine wp_skip (hK10 _ _ ?_)
            try clear hK10 K10
            have f60 := f59.sub (sub_cons (i := 3) rfl (sub_cons (i := 4) rfl (sub_cons (i := 10) rfl (sub_cons (i := 11) rfl (sub_cons (i := 12) rfl (sub_cons (i := 13) rfl (sub_cons (i := 16) rfl (sub_cons (i := 17) rfl (sub_cons (i := 18) rfl (sub_cons (i := 19) rfl (sub_cons (i := 20) rfl (sub_cons (i := 21) rfl (sub_cons (i := 22) rfl (sub_cons (i := 23) rfl (sub_cons (i := 24) rfl (sub_cons (i := 25) rfl (sub_cons (i := 26) rfl (sub_cons (i := 27) rfl (sub_cons (i := 28) rfl (sub_cons (i := 29) rfl (sub_cons (i := 30) rfl (sub_cons (i := 31) rfl (sub_cons (i := 32) rfl (sub_cons (i := 33) rfl (sub_cons (i := 34) rfl (sub_cons (i := 35) rfl (sub_cons (i := 36) rfl (sub_cons (i := 37) rfl (sub_cons (i := 38) rfl (sub_cons (i := 39) rfl (sub_cons (i := 40) rfl (sub_cons (i := 41) rfl (sub_cons (i := 42) rfl (sub_cons (i := 43) rfl (sub_cons (i := 44) rfl (sub_cons (i := 45) rfl (sub_cons (i := 46) rfl (sub_cons (i := 47) rfl (sub_cons (i := 48) rfl sub_nil)))))))))))))))))))))))))))))))))))))))
            clear f59
            refine C.region ?_
            refine L.val f60 wantedN rfl (by decide) (E.move f60 rfl) fun a61 f61 => ?_
            clear f60 a58
            refine L.val f61 wantedN rfl (by decide) (E.add f61 rfl rfl (IntWalk.i64_in _ (by omega))) fun a62 f62 => ?_
            clear f61 a61
            refine L.val f62 wantedN rfl (by decide) (E.assign f62 rfl) fun a63 f63 => ?_
            clear f62 a62
            refine wpList_nil (hKL7 _ _ (gk8 - 1) ?_ ?_)
            · omega
            · exact ⟨k + 1, by omega, (ok_next hx (by rw [okL_is, show hasB p 43 = false from (by simpa using h21), show hasB p 35 = false from (by simpa using h34)]; simp [verB])).trans hq, HK, LS, f63.sub (sub_cons rfl (sub_cons rfl sub_nil))⟩
      · clear f21
        have hend := h1
        refine C.condF f22 rfl ?_
        refine wp_exit (hK5 _ _ ?_)
        try clear hK5 K5
        have f23 := f22.sub sub_nil
        clear f22
        refine wp_seq_k fun K17 hK17 => ?_
        refine C.region ?_
        refine L.val f23 wantedN rfl (by decide) (E.assign f23 rfl) fun a24 f24 => ?_
        clear f23 a20
        refine wpList_nil (hK17 _ _ ?_)
        try clear hK17 K17
        have f25 := f24.sub (sub_cons (i := 2) rfl sub_nil)
        clear f24
        refine wp_ret ?_
        try simp only [Exit.inBlock, Exit.then]
        refine C.ret (P := Tryd.prog) (fn := Tryd.f15) f25 rfl rfl ?_
        exact ⟨HK, by unfold filterB; rw [← hq, List.drop_eq_nil_of_le (by omega)]; simp [okAll, h7]⟩

end Go.Proofs.YtpdacegpjofdeaaDoor
