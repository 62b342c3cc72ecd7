/- Contracts: matches. -/
import Derived.Test.YtpdacegpjofdeaaDoorTg
set_option linter.all false
namespace Go.Proofs.YtpdacegpjofdeaaDoor
open Go.RowKit Go.Hub Go.Lib
theorem wsz9_th : (Tryd.prog.info? 9).map (·.size) = some 1 := by kernel_rfl

def hd0 (l : List ByteArray) : ByteArray := l.getD 0 ⟨#[]⟩
theorem hd_of {l : List ByteArray} {x : ByteArray} (h : l[0]? = some x) : hd0 l = x := by simp [hd0, List.getD, h]
def veilB (t f : ByteArray) : Bool := prefB (hd0 (levelsL t)) ⟨#[36]⟩ && (decide (hd0 (levelsL f) = ⟨#[43]⟩) || decide (hd0 (levelsL f) = ⟨#[35]⟩))
def matchB (f t : ByteArray) : Bool := filterB f && nameB t && !(prefB (hd0 (levelsL t)) ⟨#[36]⟩ && (decide (hd0 (levelsL f) = ⟨#[43]⟩) || decide (hd0 (levelsL f) = ⟨#[35]⟩))) && goesB (levelsL f) (levelsL t)
def withinFB (t f : ByteArray) : Bool := filterB t && filterB f && !(prefB (hd0 (levelsL t)) ⟨#[36]⟩ && (decide (hd0 (levelsL f) = ⟨#[43]⟩) || decide (hd0 (levelsL f) = ⟨#[35]⟩))) && withinB (levelsL t) (levelsL f)

set_option maxHeartbeats 1000000 in
theorem match_any (u v : ByteArray) (w : World) (G : Glob w) (hu : u.size ≤ 100000) (hv : v.size ≤ 100000) : Calls Tryd.prog 19 #[.string u, .string v] w (fun e w' => Kept [] w w' ∧ e = .returned (.bool (matchB u v))) := by
  have HK : Kept [] w w := Kept.refl [] w
  refine C.enter Tryd.func19 rfl Tryd.ntmps19 rfl ?_
  intro a0 f0
  have f1 : Fr 41 a0 [(0, .string u), (1, .string v)] := f0
  clear f0
  refine wp_seq_k fun K0 hK0 => ?_
  refine C.region ?_
  refine L.val f1 wantedN rfl (by decide) (E.assign f1 rfl) fun a2 f2 => ?_
  clear f1 a0
  refine wpList_nil (hK0 _ _ ?_)
  try clear hK0 K0
  have f3 := f2.sub (sub_cons (i := 0) rfl (sub_cons (i := 1) rfl (sub_cons (i := 4) rfl sub_nil)))
  clear f2
  refine wp_seq_k fun K1 hK1 => ?_
  refine wp_seq_k fun K2 hK2 => ?_
  refine C.region ?_
  refine L.val f3 wantedN rfl (by decide) (E.move f3 rfl) fun a4 f4 => ?_
  clear f3 a2
  refine L.call f4 wantedN rfl (by decide) (run_call Tryd.call14 (args1 f4 rfl)) (filter_any u w (G.kept HK) (by omega)) ?_
  rintro e w1 ⟨kc1, rfl⟩
  refine ⟨_, rfl, fun a5 f5 => ?_⟩
  clear f4 a4
  have szw1 := kc1.size
  replace HK := HK.trans kc1 (by simp)
  clear kc1
  refine L.val f5 wantedN rfl (by decide) (E.not f5 rfl) fun a6 f6 => ?_
  clear f5 a5
  refine L.val f6 wantedN rfl (by decide) (E.move f6 rfl) fun a7 f7 => ?_
  clear f6 a6
  first | refine f7.splitD 10 rfl (fun h0 f8 => ?_) (fun h0 f8 => ?_) | refine f7.splitN 10 rfl (fun h0 f8 => ?_) (fun h0 f8 => ?_) | refine f7.splitNB 10 rfl (fun h0 f8 => ?_) (fun h0 f8 => ?_) | refine f7.split 10 rfl (fun h0 f8 => ?_) (fun h0 f8 => ?_)
  · clear f7
    have h10 := h0
    refine L.skip f8 (f8.noF rfl rfl) rfl (by decide) fun a9 f9 => ?_
    clear f8 a7
    refine L.skip f9 (f9.noF rfl rfl) rfl (by decide) fun a10 f10 => ?_
    clear f9 a9
    refine L.skip f10 (f10.noF rfl rfl) rfl (by decide) fun a11 f11 => ?_
    clear f10 a10
    refine L.val f11 wantedN rfl (by decide) (E.pickT f11 rfl rfl) fun a12 f12 => ?_
    clear f11 a11
    refine wpList_nil (hK2 _ _ ?_)
    try clear hK2 K2
    have f13 := f12.sub (sub_cons (i := 0) rfl (sub_cons (i := 1) rfl (sub_cons (i := 4) rfl (sub_cons (i := 14) rfl sub_nil))))
    clear f12
    refine C.condT f13 rfl ?_
    refine wp_seq_k fun K3 hK3 => ?_
    refine C.region ?_
    refine L.val f13 wantedN rfl (by decide) (E.assign f13 rfl) fun a14 f14 => ?_
    clear f13 a12
    refine wpList_nil (hK3 _ _ ?_)
    try clear hK3 K3
    have f15 := f14.sub (sub_cons (i := 0) rfl (sub_cons (i := 1) rfl (sub_cons (i := 4) rfl sub_nil)))
    clear f14
    refine wp_ret ?_
    try simp only [Exit.inBlock, Exit.then]
    refine C.ret (P := Tryd.prog) (fn := Tryd.f19) f15 rfl rfl ?_
    exact ⟨HK, by unfold matchB; simp [h10]⟩
  · clear f7
    have h10 := h0
    refine L.val f8 (f8.yes rfl rfl) rfl (by decide) (E.move f8 rfl) fun a9 f9 => ?_
    clear f8 a7
    refine L.call f9 (f9.yes rfl rfl) rfl (by decide) (run_call Tryd.call12 (args1 f9 rfl)) (name_any v w1 (G.kept HK) (by omega)) ?_
    rintro e w2 ⟨kc2, rfl⟩
    refine ⟨_, rfl, fun a10 f10 => ?_⟩
    clear f9 a9
    have szw2 := kc2.size
    replace HK := HK.trans kc2 (by simp)
    clear kc2
    refine L.val f10 (f10.yes rfl rfl) rfl (by decide) (E.not f10 rfl) fun a11 f11 => ?_
    clear f10 a10
    refine L.val f11 wantedN rfl (by decide) (E.pickF f11 rfl rfl) fun a12 f12 => ?_
    clear f11 a11
    refine wpList_nil (hK2 _ _ ?_)
    try clear hK2 K2
    have f13 := f12.sub (sub_cons (i := 0) rfl (sub_cons (i := 1) rfl (sub_cons (i := 4) rfl (sub_cons (i := 14) rfl sub_nil))))
    clear f12
    first | refine f13.splitD 14 rfl (fun h1 f14 => ?_) (fun h1 f14 => ?_) | refine f13.splitN 14 rfl (fun h1 f14 => ?_) (fun h1 f14 => ?_) | refine f13.splitNB 14 rfl (fun h1 f14 => ?_) (fun h1 f14 => ?_) | refine f13.split 14 rfl (fun h1 f14 => ?_) (fun h1 f14 => ?_)
    · clear f13
      have h14 := h1
      refine C.condT f14 rfl ?_
      refine wp_seq_k fun K4 hK4 => ?_
      refine C.region ?_
      refine L.val f14 wantedN rfl (by decide) (E.assign f14 rfl) fun a15 f15 => ?_
      clear f14 a12
      refine wpList_nil (hK4 _ _ ?_)
      try clear hK4 K4
      have f16 := f15.sub (sub_cons (i := 0) rfl (sub_cons (i := 1) rfl (sub_cons (i := 4) rfl sub_nil)))
      clear f15
      refine wp_ret ?_
      try simp only [Exit.inBlock, Exit.then]
      refine C.ret (P := Tryd.prog) (fn := Tryd.f19) f16 rfl rfl ?_
      exact ⟨HK, by unfold matchB; simp [h10, h14]⟩
    · clear f13
      have h14 := h1
      refine C.condF f14 rfl ?_
      refine wp_skip (hK1 _ _ ?_)
      try clear hK1 K1
      have f15 := f14.sub (sub_cons (i := 0) rfl (sub_cons (i := 1) rfl (sub_cons (i := 4) rfl sub_nil)))
      clear f14
      refine wp_seq_k fun K5 hK5 => ?_
      refine C.region ?_
      refine L.val f15 wantedN rfl (by decide) (E.move f15 rfl) fun a16 f16 => ?_
      clear f15 a12
      refine L.call f16 wantedN rfl (by decide) (run_call Tryd.call17 (args1 f16 rfl)) (levels_any u w2 (G.kept HK) (by omega)) ?_
      rintro e w3 ⟨kc3, Af, cf, rfl, LF, f2, f3, f4⟩
      refine ⟨_, rfl, fun a17 f17 => ?_⟩
      clear f16 a16
      have szw3 := kc3.size
      replace HK := HK.trans kc3 (by simp)
      clear kc3
      refine L.val f17 wantedN rfl (by decide) (E.move f17 rfl) fun a18 f18 => ?_
      clear f17 a17
      refine L.call f18 wantedN rfl (by decide) (run_call Tryd.call17 (args1 f18 rfl)) (levels_any v w3 (G.kept HK) (by omega)) ?_
      rintro e w4 ⟨kc4, At, ct, rfl, LT, t2, t3, t4⟩
      refine ⟨_, rfl, fun a19 f19 => ?_⟩
      clear f18 a18
      have szw4 := kc4.size
      replace HK := HK.trans kc4 (by simp)
      replace LF := LF.kept kc4
      clear kc4
      refine L.val f19 wantedN rfl (by decide) (E.assign f19 rfl) fun a20 f20 => ?_
      clear f19 a19
      refine L.val f20 wantedN rfl (by decide) (E.assign f20 rfl) fun a21 f21 => ?_
      clear f20 a20
      refine wpList_nil (hK5 _ _ ?_)
      try clear hK5 K5
      have f22 := f21.sub (sub_cons (i := 4) rfl (sub_cons (i := 5) rfl (sub_cons (i := 6) rfl sub_nil)))
      clear f21
      refine wp_seq_k fun K6 hK6 => ?_
      obtain ⟨x, hx⟩ : ∃ x, (levelsL u)[0]? = some x := ⟨(levelsL u)[0]'(by omega), List.getElem?_eq_getElem _⟩
      obtain ⟨bf, of, hAf⟩ := LF.addr (k := 0) (by omega)
      obtain ⟨y, hy⟩ : ∃ y, (levelsL v)[0]? = some y := ⟨(levelsL v)[0]'(by omega), List.getElem?_eq_getElem _⟩
      obtain ⟨bt, ot, hAt⟩ := LT.addr (k := 0) (by omega)
      refine C.region ?_
      refine L.val f22 wantedN rfl (by decide) (E.move f22 rfl) fun a23 f23 => ?_
      clear f22 a21
      refine L.val f23 wantedN rfl (by decide) (E.indexA f23 (by first | rfl | assumption) Tryd.underlying26 wsz9_th rfl rfl (by omega) (by omega)) fun a24 f24 => ?_
      clear f23 a23
      refine L.val f24 wantedN rfl (by decide) (by first | exact E.load f24 Tryd.underlying9 rfl rfl (ss_cell0 LF hAf hx) | exact E.load f24 Tryd.underlying9 rfl rfl (ss_cell0 LT hAt hy) | exact E.load f24 Tryd.underlying9 rfl rfl (ss_cell0 (LF.kept HK) hAf hx) | exact E.load f24 Tryd.underlying9 rfl rfl (ss_cell0 (LT.kept HK) hAt hy)) fun a25 f25 => ?_
      clear f24 a24
      refine L.call f25 wantedN rfl (by decide) (run_call Tryd.call29 (args1 f25 rfl)) (hidden_any _ _) ?_
      rintro e w4x ⟨rfl, rfl⟩
      refine ⟨_, rfl, fun a26 f26 => ?_⟩
      clear f25 a25
      refine L.val f26 wantedN rfl (by decide) (E.move f26 rfl) fun a27 f27 => ?_
      clear f26 a26
      first | refine f27.splitD 23 rfl (fun h2 f28 => ?_) (fun h2 f28 => ?_) | refine f27.splitN 23 rfl (fun h2 f28 => ?_) (fun h2 f28 => ?_) | refine f27.splitNB 23 rfl (fun h2 f28 => ?_) (fun h2 f28 => ?_) | refine f27.split 23 rfl (fun h2 f28 => ?_) (fun h2 f28 => ?_)
      · clear f27
        have h23 := h2
        refine L.val f28 (f28.yes rfl rfl) rfl (by decide) (E.move f28 rfl) fun a29 f29 => ?_
        clear f28 a27
        refine L.val f29 (f29.yes rfl rfl) rfl (by decide) (E.indexA f29 (by first | rfl | assumption) Tryd.underlying26 wsz9_th rfl rfl (by omega) (by omega)) fun a30 f30 => ?_
        clear f29 a29
        refine L.val f30 (f30.yes rfl rfl) rfl (by decide) (by first | exact E.load f30 Tryd.underlying9 rfl rfl (ss_cell0 LF hAf hx) | exact E.load f30 Tryd.underlying9 rfl rfl (ss_cell0 LT hAt hy) | exact E.load f30 Tryd.underlying9 rfl rfl (ss_cell0 (LF.kept HK) hAf hx) | exact E.load f30 Tryd.underlying9 rfl rfl (ss_cell0 (LT.kept HK) hAt hy)) fun a31 f31 => ?_
        clear f30 a30
        refine L.val f31 (f31.yes rfl rfl) rfl (by decide) (E.eqlS f31 rfl rfl) fun a32 f32 => ?_
        clear f31 a31
        refine L.val f32 (f32.yes rfl rfl) rfl (by decide) (E.move f32 rfl) fun a33 f33 => ?_
        clear f32 a32
        first | refine f33.splitD 28 rfl (fun h3 f34 => ?_) (fun h3 f34 => ?_) | refine f33.splitN 28 rfl (fun h3 f34 => ?_) (fun h3 f34 => ?_) | refine f33.splitNB 28 rfl (fun h3 f34 => ?_) (fun h3 f34 => ?_) | refine f33.split 28 rfl (fun h3 f34 => ?_) (fun h3 f34 => ?_)
        · clear f33
          have h28 := h3
          refine L.skip f34 (f34.noF rfl rfl) rfl (by decide) fun a35 f35 => ?_
          clear f34 a33
          refine L.skip f35 (f35.noF rfl rfl) rfl (by decide) fun a36 f36 => ?_
          clear f35 a35
          refine L.skip f36 (f36.noF rfl rfl) rfl (by decide) fun a37 f37 => ?_
          clear f36 a36
          refine L.skip f37 (f37.noF rfl rfl) rfl (by decide) fun a38 f38 => ?_
          clear f37 a37
          refine L.val f38 (f38.yes rfl rfl) rfl (by decide) (E.pickT f38 rfl rfl) fun a39 f39 => ?_
          clear f38 a38
          refine L.val f39 wantedN rfl (by decide) (E.pickT f39 rfl rfl) fun a40 f40 => ?_
          clear f39 a39
          refine L.val f40 wantedN rfl (by decide) (E.not f40 rfl) fun a41 f41 => ?_
          clear f40 a40
          refine L.val f41 wantedN rfl (by decide) (E.move f41 rfl) fun a42 f42 => ?_
          clear f41 a41
          refine L.skip f42 (f42.noT rfl rfl) rfl (by decide) fun a43 f43 => ?_
          clear f42 a42
          refine L.skip f43 (f43.noT rfl rfl) rfl (by decide) fun a44 f44 => ?_
          clear f43 a43
          refine L.skip f44 (f44.noT rfl rfl) rfl (by decide) fun a45 f45 => ?_
          clear f44 a44
          refine L.val f45 wantedN rfl (by decide) (E.pickF f45 rfl rfl) fun a46 f46 => ?_
          clear f45 a45
          refine L.val f46 wantedN rfl (by decide) (E.assign f46 rfl) fun a47 f47 => ?_
          clear f46 a46
          refine wpList_nil (hK6 _ _ ?_)
          try clear hK6 K6
          have f48 := f47.sub (sub_cons (i := 4) rfl sub_nil)
          clear f47
          refine wp_ret ?_
          try simp only [Exit.inBlock, Exit.then]
          refine C.ret (P := Tryd.prog) (fn := Tryd.f19) f48 rfl rfl ?_
          exact ⟨HK, by unfold matchB; rw [hd_of hx, hd_of hy]; simp [h10, h14, h23, h28]⟩
        · clear f33
          have h28 := h3
          refine L.val f34 (f34.yes rfl rfl) rfl (by decide) (E.move f34 rfl) fun a35 f35 => ?_
          clear f34 a33
          refine L.val f35 (f35.yes rfl rfl) rfl (by decide) (E.indexA f35 (by first | rfl | assumption) Tryd.underlying26 wsz9_th rfl rfl (by omega) (by omega)) fun a36 f36 => ?_
          clear f35 a35
          refine L.val f36 (f36.yes rfl rfl) rfl (by decide) (by first | exact E.load f36 Tryd.underlying9 rfl rfl (ss_cell0 LF hAf hx) | exact E.load f36 Tryd.underlying9 rfl rfl (ss_cell0 LT hAt hy) | exact E.load f36 Tryd.underlying9 rfl rfl (ss_cell0 (LF.kept HK) hAf hx) | exact E.load f36 Tryd.underlying9 rfl rfl (ss_cell0 (LT.kept HK) hAt hy)) fun a37 f37 => ?_
          clear f36 a36
          refine L.val f37 (f37.yes rfl rfl) rfl (by decide) (E.eqlS f37 rfl rfl) fun a38 f38 => ?_
          clear f37 a37
          refine L.val f38 (f38.yes rfl rfl) rfl (by decide) (E.pickF f38 rfl rfl) fun a39 f39 => ?_
          clear f38 a38
          refine L.val f39 wantedN rfl (by decide) (E.pickT f39 rfl rfl) fun a40 f40 => ?_
          clear f39 a39
          refine L.val f40 wantedN rfl (by decide) (E.not f40 rfl) fun a41 f41 => ?_
          clear f40 a40
          refine L.val f41 wantedN rfl (by decide) (E.move f41 rfl) fun a42 f42 => ?_
          clear f41 a41
          first | refine f42.splitD 36 rfl (fun h4 f43 => ?_) (fun h4 f43 => ?_) | refine f42.splitN 36 rfl (fun h4 f43 => ?_) (fun h4 f43 => ?_) | refine f42.splitNB 36 rfl (fun h4 f43 => ?_) (fun h4 f43 => ?_) | refine f42.split 36 rfl (fun h4 f43 => ?_) (fun h4 f43 => ?_)
          · clear f42
            have h36 := h4
            refine L.val f43 (f43.yes rfl rfl) rfl (by decide) (E.move f43 rfl) fun a44 f44 => ?_
            clear f43 a42
            refine L.val f44 (f44.yes rfl rfl) rfl (by decide) (E.move f44 rfl) fun a45 f45 => ?_
            clear f44 a44
            refine L.call f45 (f45.yes rfl rfl) rfl (by decide) (run_call Tryd.call30 (args2 f45 rfl rfl)) (goes_any (levelsL u) (levelsL v) Af At cf ct w4 LF LT f2 t2 (by omega) (by omega)) ?_
            rintro e w5 ⟨kc5, rfl⟩
            refine ⟨_, rfl, fun a46 f46 => ?_⟩
            clear f45 a45
            have szw5 := kc5.size
            replace HK := HK.trans kc5 (by simp)
            replace LF := LF.kept kc5
            replace LT := LT.kept kc5
            clear kc5
            refine L.val f46 wantedN rfl (by decide) (E.pickT f46 rfl rfl) fun a47 f47 => ?_
            clear f46 a46
            refine L.val f47 wantedN rfl (by decide) (E.assign f47 rfl) fun a48 f48 => ?_
            clear f47 a47
            refine wpList_nil (hK6 _ _ ?_)
            try clear hK6 K6
            have f49 := f48.sub (sub_cons (i := 4) rfl sub_nil)
            clear f48
            refine wp_ret ?_
            try simp only [Exit.inBlock, Exit.then]
            refine C.ret (P := Tryd.prog) (fn := Tryd.f19) f49 rfl rfl ?_
            exact ⟨HK, by unfold matchB; rw [hd_of hx, hd_of hy]; simp [h10, h14, h23, h28, h36]⟩
          · clear f42
            have h36 := h4
            refine L.skip f43 (f43.noT rfl rfl) rfl (by decide) fun a44 f44 => ?_
            clear f43 a42
            refine L.skip f44 (f44.noT rfl rfl) rfl (by decide) fun a45 f45 => ?_
            clear f44 a44
            refine L.skip f45 (f45.noT rfl rfl) rfl (by decide) fun a46 f46 => ?_
            clear f45 a45
            refine L.val f46 wantedN rfl (by decide) (E.pickF f46 rfl rfl) fun a47 f47 => ?_
            clear f46 a46
            refine L.val f47 wantedN rfl (by decide) (E.assign f47 rfl) fun a48 f48 => ?_
            clear f47 a47
            refine wpList_nil (hK6 _ _ ?_)
            try clear hK6 K6
            have f49 := f48.sub (sub_cons (i := 4) rfl sub_nil)
            clear f48
            refine wp_ret ?_
            try simp only [Exit.inBlock, Exit.then]
            refine C.ret (P := Tryd.prog) (fn := Tryd.f19) f49 rfl rfl ?_
            exact ⟨HK, by unfold matchB; rw [hd_of hx, hd_of hy]; simp [h10, h14, h23, h28, h36]⟩
      · clear f27
        have h23 := h2
        refine L.skip f28 (f28.noT rfl rfl) rfl (by decide) fun a29 f29 => ?_
        clear f28 a27
        refine L.skip f29 (f29.noT rfl rfl) rfl (by decide) fun a30 f30 => ?_
        clear f29 a29
        refine L.skip f30 (f30.noT rfl rfl) rfl (by decide) fun a31 f31 => ?_
        clear f30 a30
        refine L.skip f31 (f31.noT rfl rfl) rfl (by decide) fun a32 f32 => ?_
        clear f31 a31
        refine L.skip f32 (f32.noT rfl rfl) rfl (by decide) fun a33 f33 => ?_
        clear f32 a32
        refine L.skip f33 (f33.noU rfl rfl) rfl (by decide) fun a34 f34 => ?_
        clear f33 a33
        refine L.skip f34 (f34.noU rfl rfl) rfl (by decide) fun a35 f35 => ?_
        clear f34 a34
        refine L.skip f35 (f35.noU rfl rfl) rfl (by decide) fun a36 f36 => ?_
        clear f35 a35
        refine L.skip f36 (f36.noU rfl rfl) rfl (by decide) fun a37 f37 => ?_
        clear f36 a36
        refine L.skip f37 (f37.noT rfl rfl) rfl (by decide) fun a38 f38 => ?_
        clear f37 a37
        refine L.val f38 wantedN rfl (by decide) (E.pickF f38 rfl rfl) fun a39 f39 => ?_
        clear f38 a38
        refine L.val f39 wantedN rfl (by decide) (E.not f39 rfl) fun a40 f40 => ?_
        clear f39 a39
        refine L.val f40 wantedN rfl (by decide) (E.move f40 rfl) fun a41 f41 => ?_
        clear f40 a40
        refine L.val f41 (f41.yes rfl rfl) rfl (by decide) (E.move f41 rfl) fun a42 f42 => ?_
        clear f41 a41
        refine L.val f42 (f42.yes rfl rfl) rfl (by decide) (E.move f42 rfl) fun a43 f43 => ?_
        clear f42 a42
        refine L.call f43 (f43.yes rfl rfl) rfl (by decide) (run_call Tryd.call30 (args2 f43 rfl rfl)) (goes_any (levelsL u) (levelsL v) Af At cf ct w4 LF LT f2 t2 (by omega) (by omega)) ?_
        rintro e w5 ⟨kc5, rfl⟩
        refine ⟨_, rfl, fun a44 f44 => ?_⟩
        clear f43 a43
        have szw5 := kc5.size
        replace HK := HK.trans kc5 (by simp)
        replace LF := LF.kept kc5
        replace LT := LT.kept kc5
        clear kc5
        refine L.val f44 wantedN rfl (by decide) (E.pickT f44 rfl rfl) fun a45 f45 => ?_
        clear f44 a44
        refine L.val f45 wantedN rfl (by decide) (E.assign f45 rfl) fun a46 f46 => ?_
        clear f45 a45
        refine wpList_nil (hK6 _ _ ?_)
        try clear hK6 K6
        have f47 := f46.sub (sub_cons (i := 4) rfl sub_nil)
        clear f46
        refine wp_ret ?_
        try simp only [Exit.inBlock, Exit.then]
        refine C.ret (P := Tryd.prog) (fn := Tryd.f19) f47 rfl rfl ?_
        exact ⟨HK, by unfold matchB; rw [hd_of hx, hd_of hy]; simp [h10, h14, h23]⟩

set_option maxHeartbeats 1000000 in
theorem within_any (u v : ByteArray) (w : World) (G : Glob w) (hu : u.size ≤ 100000) (hv : v.size ≤ 100000) : Calls Tryd.prog 21 #[.string u, .string v] w (fun e w' => Kept [] w w' ∧ e = .returned (.bool (withinFB u v))) := by
  have HK : Kept [] w w := Kept.refl [] w
  refine C.enter Tryd.func21 rfl Tryd.ntmps21 rfl ?_
  intro a0 f0
  have f1 : Fr 41 a0 [(0, .string u), (1, .string v)] := f0
  clear f0
  refine wp_seq_k fun K0 hK0 => ?_
  refine C.region ?_
  refine L.val f1 wantedN rfl (by decide) (E.assign f1 rfl) fun a2 f2 => ?_
  clear f1 a0
  refine wpList_nil (hK0 _ _ ?_)
  try clear hK0 K0
  have f3 := f2.sub (sub_cons (i := 0) rfl (sub_cons (i := 1) rfl (sub_cons (i := 4) rfl sub_nil)))
  clear f2
  refine wp_seq_k fun K1 hK1 => ?_
  refine wp_seq_k fun K2 hK2 => ?_
  refine C.region ?_
  refine L.val f3 wantedN rfl (by decide) (E.move f3 rfl) fun a4 f4 => ?_
  clear f3 a2
  refine L.call f4 wantedN rfl (by decide) (run_call Tryd.call14 (args1 f4 rfl)) (filter_any u w (G.kept HK) (by omega)) ?_
  rintro e w1 ⟨kc1, rfl⟩
  refine ⟨_, rfl, fun a5 f5 => ?_⟩
  clear f4 a4
  have szw1 := kc1.size
  replace HK := HK.trans kc1 (by simp)
  clear kc1
  refine L.val f5 wantedN rfl (by decide) (E.not f5 rfl) fun a6 f6 => ?_
  clear f5 a5
  refine L.val f6 wantedN rfl (by decide) (E.move f6 rfl) fun a7 f7 => ?_
  clear f6 a6
  first | refine f7.splitD 10 rfl (fun h0 f8 => ?_) (fun h0 f8 => ?_) | refine f7.splitN 10 rfl (fun h0 f8 => ?_) (fun h0 f8 => ?_) | refine f7.splitNB 10 rfl (fun h0 f8 => ?_) (fun h0 f8 => ?_) | refine f7.split 10 rfl (fun h0 f8 => ?_) (fun h0 f8 => ?_)
  · clear f7
    have h10 := h0
    refine L.skip f8 (f8.noF rfl rfl) rfl (by decide) fun a9 f9 => ?_
    clear f8 a7
    refine L.skip f9 (f9.noF rfl rfl) rfl (by decide) fun a10 f10 => ?_
    clear f9 a9
    refine L.skip f10 (f10.noF rfl rfl) rfl (by decide) fun a11 f11 => ?_
    clear f10 a10
    refine L.val f11 wantedN rfl (by decide) (E.pickT f11 rfl rfl) fun a12 f12 => ?_
    clear f11 a11
    refine wpList_nil (hK2 _ _ ?_)
    try clear hK2 K2
    have f13 := f12.sub (sub_cons (i := 0) rfl (sub_cons (i := 1) rfl (sub_cons (i := 4) rfl (sub_cons (i := 14) rfl sub_nil))))
    clear f12
    refine C.condT f13 rfl ?_
    refine wp_seq_k fun K3 hK3 => ?_
    refine C.region ?_
    refine L.val f13 wantedN rfl (by decide) (E.assign f13 rfl) fun a14 f14 => ?_
    clear f13 a12
    refine wpList_nil (hK3 _ _ ?_)
    try clear hK3 K3
    have f15 := f14.sub (sub_cons (i := 0) rfl (sub_cons (i := 1) rfl (sub_cons (i := 4) rfl sub_nil)))
    clear f14
    refine wp_ret ?_
    try simp only [Exit.inBlock, Exit.then]
    refine C.ret (P := Tryd.prog) (fn := Tryd.f21) f15 rfl rfl ?_
    exact ⟨HK, by unfold withinFB; simp [h10]⟩
  · clear f7
    have h10 := h0
    refine L.val f8 (f8.yes rfl rfl) rfl (by decide) (E.move f8 rfl) fun a9 f9 => ?_
    clear f8 a7
    refine L.call f9 (f9.yes rfl rfl) rfl (by decide) (run_call Tryd.call14 (args1 f9 rfl)) (filter_any v w1 (G.kept HK) (by omega)) ?_
    rintro e w2 ⟨kc2, rfl⟩
    refine ⟨_, rfl, fun a10 f10 => ?_⟩
    clear f9 a9
    have szw2 := kc2.size
    replace HK := HK.trans kc2 (by simp)
    clear kc2
    refine L.val f10 (f10.yes rfl rfl) rfl (by decide) (E.not f10 rfl) fun a11 f11 => ?_
    clear f10 a10
    refine L.val f11 wantedN rfl (by decide) (E.pickF f11 rfl rfl) fun a12 f12 => ?_
    clear f11 a11
    refine wpList_nil (hK2 _ _ ?_)
    try clear hK2 K2
    have f13 := f12.sub (sub_cons (i := 0) rfl (sub_cons (i := 1) rfl (sub_cons (i := 4) rfl (sub_cons (i := 14) rfl sub_nil))))
    clear f12
    first | refine f13.splitD 14 rfl (fun h1 f14 => ?_) (fun h1 f14 => ?_) | refine f13.splitN 14 rfl (fun h1 f14 => ?_) (fun h1 f14 => ?_) | refine f13.splitNB 14 rfl (fun h1 f14 => ?_) (fun h1 f14 => ?_) | refine f13.split 14 rfl (fun h1 f14 => ?_) (fun h1 f14 => ?_)
    · clear f13
      have h14 := h1
      refine C.condT f14 rfl ?_
      refine wp_seq_k fun K4 hK4 => ?_
      refine C.region ?_
      refine L.val f14 wantedN rfl (by decide) (E.assign f14 rfl) fun a15 f15 => ?_
      clear f14 a12
      refine wpList_nil (hK4 _ _ ?_)
      try clear hK4 K4
      have f16 := f15.sub (sub_cons (i := 0) rfl (sub_cons (i := 1) rfl (sub_cons (i := 4) rfl sub_nil)))
      clear f15
      refine wp_ret ?_
      try simp only [Exit.inBlock, Exit.then]
      refine C.ret (P := Tryd.prog) (fn := Tryd.f21) f16 rfl rfl ?_
      exact ⟨HK, by unfold withinFB; simp [h10, h14]⟩
    · clear f13
      have h14 := h1
      refine C.condF f14 rfl ?_
      refine wp_skip (hK1 _ _ ?_)
      try clear hK1 K1
      have f15 := f14.sub (sub_cons (i := 0) rfl (sub_cons (i := 1) rfl (sub_cons (i := 4) rfl sub_nil)))
      clear f14
      refine wp_seq_k fun K5 hK5 => ?_
      refine C.region ?_
      refine L.val f15 wantedN rfl (by decide) (E.move f15 rfl) fun a16 f16 => ?_
      clear f15 a12
      refine L.call f16 wantedN rfl (by decide) (run_call Tryd.call17 (args1 f16 rfl)) (levels_any u w2 (G.kept HK) (by omega)) ?_
      rintro e w3 ⟨kc3, Af, cf, rfl, LF, f2, f3, f4⟩
      refine ⟨_, rfl, fun a17 f17 => ?_⟩
      clear f16 a16
      have szw3 := kc3.size
      replace HK := HK.trans kc3 (by simp)
      clear kc3
      refine L.val f17 wantedN rfl (by decide) (E.move f17 rfl) fun a18 f18 => ?_
      clear f17 a17
      refine L.call f18 wantedN rfl (by decide) (run_call Tryd.call17 (args1 f18 rfl)) (levels_any v w3 (G.kept HK) (by omega)) ?_
      rintro e w4 ⟨kc4, At, ct, rfl, LT, t2, t3, t4⟩
      refine ⟨_, rfl, fun a19 f19 => ?_⟩
      clear f18 a18
      have szw4 := kc4.size
      replace HK := HK.trans kc4 (by simp)
      replace LF := LF.kept kc4
      clear kc4
      refine L.val f19 wantedN rfl (by decide) (E.assign f19 rfl) fun a20 f20 => ?_
      clear f19 a19
      refine L.val f20 wantedN rfl (by decide) (E.assign f20 rfl) fun a21 f21 => ?_
      clear f20 a20
      refine wpList_nil (hK5 _ _ ?_)
      try clear hK5 K5
      have f22 := f21.sub (sub_cons (i := 4) rfl (sub_cons (i := 5) rfl (sub_cons (i := 6) rfl sub_nil)))
      clear f21
      refine wp_seq_k fun K6 hK6 => ?_
      obtain ⟨x, hx⟩ : ∃ x, (levelsL u)[0]? = some x := ⟨(levelsL u)[0]'(by omega), List.getElem?_eq_getElem _⟩
      obtain ⟨bf, of, hAf⟩ := LF.addr (k := 0) (by omega)
      obtain ⟨y, hy⟩ : ∃ y, (levelsL v)[0]? = some y := ⟨(levelsL v)[0]'(by omega), List.getElem?_eq_getElem _⟩
      obtain ⟨bt, ot, hAt⟩ := LT.addr (k := 0) (by omega)
      refine C.region ?_
      refine L.val f22 wantedN rfl (by decide) (E.move f22 rfl) fun a23 f23 => ?_
      clear f22 a21
      refine L.val f23 wantedN rfl (by decide) (E.indexA f23 (by first | rfl | assumption) Tryd.underlying26 wsz9_th rfl rfl (by omega) (by omega)) fun a24 f24 => ?_
      clear f23 a23
      refine L.val f24 wantedN rfl (by decide) (by first | exact E.load f24 Tryd.underlying9 rfl rfl (ss_cell0 LF hAf hx) | exact E.load f24 Tryd.underlying9 rfl rfl (ss_cell0 LT hAt hy) | exact E.load f24 Tryd.underlying9 rfl rfl (ss_cell0 (LF.kept HK) hAf hx) | exact E.load f24 Tryd.underlying9 rfl rfl (ss_cell0 (LT.kept HK) hAt hy)) fun a25 f25 => ?_
      clear f24 a24
      refine L.call f25 wantedN rfl (by decide) (run_call Tryd.call29 (args1 f25 rfl)) (hidden_any _ _) ?_
      rintro e w4x ⟨rfl, rfl⟩
      refine ⟨_, rfl, fun a26 f26 => ?_⟩
      clear f25 a25
      refine L.val f26 wantedN rfl (by decide) (E.move f26 rfl) fun a27 f27 => ?_
      clear f26 a26
      first | refine f27.splitD 23 rfl (fun h2 f28 => ?_) (fun h2 f28 => ?_) | refine f27.splitN 23 rfl (fun h2 f28 => ?_) (fun h2 f28 => ?_) | refine f27.splitNB 23 rfl (fun h2 f28 => ?_) (fun h2 f28 => ?_) | refine f27.split 23 rfl (fun h2 f28 => ?_) (fun h2 f28 => ?_)
      · clear f27
        have h23 := h2
        refine L.val f28 (f28.yes rfl rfl) rfl (by decide) (E.move f28 rfl) fun a29 f29 => ?_
        clear f28 a27
        refine L.val f29 (f29.yes rfl rfl) rfl (by decide) (E.indexA f29 (by first | rfl | assumption) Tryd.underlying26 wsz9_th rfl rfl (by omega) (by omega)) fun a30 f30 => ?_
        clear f29 a29
        refine L.val f30 (f30.yes rfl rfl) rfl (by decide) (by first | exact E.load f30 Tryd.underlying9 rfl rfl (ss_cell0 LF hAf hx) | exact E.load f30 Tryd.underlying9 rfl rfl (ss_cell0 LT hAt hy) | exact E.load f30 Tryd.underlying9 rfl rfl (ss_cell0 (LF.kept HK) hAf hx) | exact E.load f30 Tryd.underlying9 rfl rfl (ss_cell0 (LT.kept HK) hAt hy)) fun a31 f31 => ?_
        clear f30 a30
        refine L.val f31 (f31.yes rfl rfl) rfl (by decide) (E.eqlS f31 rfl rfl) fun a32 f32 => ?_
        clear f31 a31
        refine L.val f32 (f32.yes rfl rfl) rfl (by decide) (E.move f32 rfl) fun a33 f33 => ?_
        clear f32 a32
        first | refine f33.splitD 28 rfl (fun h3 f34 => ?_) (fun h3 f34 => ?_) | refine f33.splitN 28 rfl (fun h3 f34 => ?_) (fun h3 f34 => ?_) | refine f33.splitNB 28 rfl (fun h3 f34 => ?_) (fun h3 f34 => ?_) | refine f33.split 28 rfl (fun h3 f34 => ?_) (fun h3 f34 => ?_)
        · clear f33
          have h28 := h3
          refine L.skip f34 (f34.noF rfl rfl) rfl (by decide) fun a35 f35 => ?_
          clear f34 a33
          refine L.skip f35 (f35.noF rfl rfl) rfl (by decide) fun a36 f36 => ?_
          clear f35 a35
          refine L.skip f36 (f36.noF rfl rfl) rfl (by decide) fun a37 f37 => ?_
          clear f36 a36
          refine L.skip f37 (f37.noF rfl rfl) rfl (by decide) fun a38 f38 => ?_
          clear f37 a37
          refine L.val f38 (f38.yes rfl rfl) rfl (by decide) (E.pickT f38 rfl rfl) fun a39 f39 => ?_
          clear f38 a38
          refine L.val f39 wantedN rfl (by decide) (E.pickT f39 rfl rfl) fun a40 f40 => ?_
          clear f39 a39
          refine L.val f40 wantedN rfl (by decide) (E.not f40 rfl) fun a41 f41 => ?_
          clear f40 a40
          refine L.val f41 wantedN rfl (by decide) (E.move f41 rfl) fun a42 f42 => ?_
          clear f41 a41
          refine L.skip f42 (f42.noT rfl rfl) rfl (by decide) fun a43 f43 => ?_
          clear f42 a42
          refine L.skip f43 (f43.noT rfl rfl) rfl (by decide) fun a44 f44 => ?_
          clear f43 a43
          refine L.skip f44 (f44.noT rfl rfl) rfl (by decide) fun a45 f45 => ?_
          clear f44 a44
          refine L.val f45 wantedN rfl (by decide) (E.pickF f45 rfl rfl) fun a46 f46 => ?_
          clear f45 a45
          refine L.val f46 wantedN rfl (by decide) (E.assign f46 rfl) fun a47 f47 => ?_
          clear f46 a46
          refine wpList_nil (hK6 _ _ ?_)
          try clear hK6 K6
          have f48 := f47.sub (sub_cons (i := 4) rfl sub_nil)
          clear f47
          refine wp_ret ?_
          try simp only [Exit.inBlock, Exit.then]
          refine C.ret (P := Tryd.prog) (fn := Tryd.f21) f48 rfl rfl ?_
          exact ⟨HK, by unfold withinFB; rw [hd_of hx, hd_of hy]; simp [h10, h14, h23, h28]⟩
        · clear f33
          have h28 := h3
          refine L.val f34 (f34.yes rfl rfl) rfl (by decide) (E.move f34 rfl) fun a35 f35 => ?_
          clear f34 a33
          refine L.val f35 (f35.yes rfl rfl) rfl (by decide) (E.indexA f35 (by first | rfl | assumption) Tryd.underlying26 wsz9_th rfl rfl (by omega) (by omega)) fun a36 f36 => ?_
          clear f35 a35
          refine L.val f36 (f36.yes rfl rfl) rfl (by decide) (by first | exact E.load f36 Tryd.underlying9 rfl rfl (ss_cell0 LF hAf hx) | exact E.load f36 Tryd.underlying9 rfl rfl (ss_cell0 LT hAt hy) | exact E.load f36 Tryd.underlying9 rfl rfl (ss_cell0 (LF.kept HK) hAf hx) | exact E.load f36 Tryd.underlying9 rfl rfl (ss_cell0 (LT.kept HK) hAt hy)) fun a37 f37 => ?_
          clear f36 a36
          refine L.val f37 (f37.yes rfl rfl) rfl (by decide) (E.eqlS f37 rfl rfl) fun a38 f38 => ?_
          clear f37 a37
          refine L.val f38 (f38.yes rfl rfl) rfl (by decide) (E.pickF f38 rfl rfl) fun a39 f39 => ?_
          clear f38 a38
          refine L.val f39 wantedN rfl (by decide) (E.pickT f39 rfl rfl) fun a40 f40 => ?_
          clear f39 a39
          refine L.val f40 wantedN rfl (by decide) (E.not f40 rfl) fun a41 f41 => ?_
          clear f40 a40
          refine L.val f41 wantedN rfl (by decide) (E.move f41 rfl) fun a42 f42 => ?_
          clear f41 a41
          first | refine f42.splitD 36 rfl (fun h4 f43 => ?_) (fun h4 f43 => ?_) | refine f42.splitN 36 rfl (fun h4 f43 => ?_) (fun h4 f43 => ?_) | refine f42.splitNB 36 rfl (fun h4 f43 => ?_) (fun h4 f43 => ?_) | refine f42.split 36 rfl (fun h4 f43 => ?_) (fun h4 f43 => ?_)
          · clear f42
            have h36 := h4
            refine L.val f43 (f43.yes rfl rfl) rfl (by decide) (E.move f43 rfl) fun a44 f44 => ?_
            clear f43 a42
            refine L.val f44 (f44.yes rfl rfl) rfl (by decide) (E.move f44 rfl) fun a45 f45 => ?_
            clear f44 a44
            refine L.call f45 (f45.yes rfl rfl) rfl (by decide) (run_call Tryd.call32 (args2 f45 rfl rfl)) (withinT_any (levelsL u) (levelsL v) Af At cf ct w4 LF LT f2 t2 (by omega) (by omega)) ?_
            rintro e w5 ⟨kc5, rfl⟩
            refine ⟨_, rfl, fun a46 f46 => ?_⟩
            clear f45 a45
            have szw5 := kc5.size
            replace HK := HK.trans kc5 (by simp)
            replace LF := LF.kept kc5
            replace LT := LT.kept kc5
            clear kc5
            refine L.val f46 wantedN rfl (by decide) (E.pickT f46 rfl rfl) fun a47 f47 => ?_
            clear f46 a46
            refine L.val f47 wantedN rfl (by decide) (E.assign f47 rfl) fun a48 f48 => ?_
            clear f47 a47
            refine wpList_nil (hK6 _ _ ?_)
            try clear hK6 K6
            have f49 := f48.sub (sub_cons (i := 4) rfl sub_nil)
            clear f48
            refine wp_ret ?_
            try simp only [Exit.inBlock, Exit.then]
            refine C.ret (P := Tryd.prog) (fn := Tryd.f21) f49 rfl rfl ?_
            exact ⟨HK, by unfold withinFB; rw [hd_of hx, hd_of hy]; simp [h10, h14, h23, h28, h36]⟩
          · clear f42
            have h36 := h4
            refine L.skip f43 (f43.noT rfl rfl) rfl (by decide) fun a44 f44 => ?_
            clear f43 a42
            refine L.skip f44 (f44.noT rfl rfl) rfl (by decide) fun a45 f45 => ?_
            clear f44 a44
            refine L.skip f45 (f45.noT rfl rfl) rfl (by decide) fun a46 f46 => ?_
            clear f45 a45
            refine L.val f46 wantedN rfl (by decide) (E.pickF f46 rfl rfl) fun a47 f47 => ?_
            clear f46 a46
            refine L.val f47 wantedN rfl (by decide) (E.assign f47 rfl) fun a48 f48 => ?_
            clear f47 a47
            refine wpList_nil (hK6 _ _ ?_)
            try clear hK6 K6
            have f49 := f48.sub (sub_cons (i := 4) rfl sub_nil)
            clear f48
            refine wp_ret ?_
            try simp only [Exit.inBlock, Exit.then]
            refine C.ret (P := Tryd.prog) (fn := Tryd.f21) f49 rfl rfl ?_
            exact ⟨HK, by unfold withinFB; rw [hd_of hx, hd_of hy]; simp [h10, h14, h23, h28, h36]⟩
      · clear f27
        have h23 := h2
        refine L.skip f28 (f28.noT rfl rfl) rfl (by decide) fun a29 f29 => ?_
        clear f28 a27
        refine L.skip f29 (f29.noT rfl rfl) rfl (by decide) fun a30 f30 => ?_
        clear f29 a29
        refine L.skip f30 (f30.noT rfl rfl) rfl (by decide) fun a31 f31 => ?_
        clear f30 a30
        refine L.skip f31 (f31.noT rfl rfl) rfl (by decide) fun a32 f32 => ?_
        clear f31 a31
        refine L.skip f32 (f32.noT rfl rfl) rfl (by decide) fun a33 f33 => ?_
        clear f32 a32
        refine L.skip f33 (f33.noU rfl rfl) rfl (by decide) fun a34 f34 => ?_
        clear f33 a33
        refine L.skip f34 (f34.noU rfl rfl) rfl (by decide) fun a35 f35 => ?_
        clear f34 a34
        refine L.skip f35 (f35.noU rfl rfl) rfl (by decide) fun a36 f36 => ?_
        clear f35 a35
        refine L.skip f36 (f36.noU rfl rfl) rfl (by decide) fun a37 f37 => ?_
        clear f36 a36
        refine L.skip f37 (f37.noT rfl rfl) rfl (by decide) fun a38 f38 => ?_
        clear f37 a37
        refine L.val f38 wantedN rfl (by decide) (E.pickF f38 rfl rfl) fun a39 f39 => ?_
        clear f38 a38
        refine L.val f39 wantedN rfl (by decide) (E.not f39 rfl) fun a40 f40 => ?_
        clear f39 a39
        refine L.val f40 wantedN rfl (by decide) (E.move f40 rfl) fun a41 f41 => ?_
        clear f40 a40
        refine L.val f41 (f41.yes rfl rfl) rfl (by decide) (E.move f41 rfl) fun a42 f42 => ?_
        clear f41 a41
        refine L.val f42 (f42.yes rfl rfl) rfl (by decide) (E.move f42 rfl) fun a43 f43 => ?_
        clear f42 a42
        refine L.call f43 (f43.yes rfl rfl) rfl (by decide) (run_call Tryd.call32 (args2 f43 rfl rfl)) (withinT_any (levelsL u) (levelsL v) Af At cf ct w4 LF LT f2 t2 (by omega) (by omega)) ?_
        rintro e w5 ⟨kc5, rfl⟩
        refine ⟨_, rfl, fun a44 f44 => ?_⟩
        clear f43 a43
        have szw5 := kc5.size
        replace HK := HK.trans kc5 (by simp)
        replace LF := LF.kept kc5
        replace LT := LT.kept kc5
        clear kc5
        refine L.val f44 wantedN rfl (by decide) (E.pickT f44 rfl rfl) fun a45 f45 => ?_
        clear f44 a44
        refine L.val f45 wantedN rfl (by decide) (E.assign f45 rfl) fun a46 f46 => ?_
        clear f45 a45
        refine wpList_nil (hK6 _ _ ?_)
        try clear hK6 K6
        have f47 := f46.sub (sub_cons (i := 4) rfl sub_nil)
        clear f46
        refine wp_ret ?_
        try simp only [Exit.inBlock, Exit.then]
        refine C.ret (P := Tryd.prog) (fn := Tryd.f21) f47 rfl rfl ?_
        exact ⟨HK, by unfold withinFB; rw [hd_of hx, hd_of hy]; simp [h10, h14, h23]⟩

end Go.Proofs.YtpdacegpjofdeaaDoor
