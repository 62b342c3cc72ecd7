/- Contracts: filters. -/
import Derived.Test.YtpdacegpjofdeaaDoorTf
set_option linter.all false
namespace Go.Proofs.YtpdacegpjofdeaaDoor
open Go.RowKit Go.Hub Go.Lib
theorem wsz9_tg : (Tryd.prog.info? 9).map (·.size) = some 1 := by kernel_rfl

def okL (p : ByteArray) (last : Bool) : Bool := decide (p = ⟨#[43]⟩) || (decide (p = ⟨#[35]⟩) && last) || !anyW p
theorem any35 : anyW ⟨#[35]⟩ = true := by kernel_rfl
def okAll : List ByteArray → Bool
  | [] => true
  | p :: r => okL p r.isEmpty && okAll r
theorem ok_at {l : List ByteArray} {k : Nat} {p : ByteArray} (h : l[k]? = some p) : okAll (l.drop k) = (okL p (decide (((k : Nat) : Int) = (l.length : Int) - 1)) && okAll (l.drop (k + 1))) := by
  obtain ⟨hk, rfl⟩ := List.getElem?_eq_some_iff.1 h
  rw [List.drop_eq_getElem_cons hk, okAll]
  have e : (l.drop (k + 1)).isEmpty = decide (((k : Nat) : Int) = (l.length : Int) - 1) := by
    rw [Bool.eq_iff_iff]
    simp [List.isEmpty_iff, List.drop_eq_nil_iff]
    omega
  rw [e]
def filterB (s : ByteArray) : Bool := textB s && okAll (levelsL s)
theorem ok_next {l : List ByteArray} {k : Nat} {p : ByteArray} (h : l[k]? = some p) (ho : okL p (decide (((k : Nat) : Int) = (l.length : Int) - 1)) = true) : okAll (l.drop (k + 1)) = okAll (l.drop k) := by
  rw [ok_at h, ho, Bool.true_and]

set_option maxHeartbeats 1000000 in
theorem filter_any (s : ByteArray) (w : World) (G : Glob w) (hs : s.size ≤ 1000000) : Calls Tryd.prog 14 #[.string s] w (fun e w' => Kept [] w w' ∧ e = .returned (.bool (filterB s))) := by
  have HK : Kept [] w w := Kept.refl [] w
  refine C.enter Tryd.func14 rfl Tryd.ntmps14 rfl ?_
  intro a0 f0
  have f1 : Fr 37 a0 [(0, .string s)] := f0
  clear f0
  refine wp_seq_k fun K0 hK0 => ?_
  refine C.region ?_
  refine L.val f1 wantedN rfl (by decide) (E.assign f1 rfl) fun a2 f2 => ?_
  clear f1 a0
  refine wpList_nil (hK0 _ _ ?_)
  try clear hK0 K0
  have f3 := f2.sub (sub_cons (i := 0) rfl (sub_cons (i := 2) rfl sub_nil))
  clear f2
  refine wp_seq_k fun K1 hK1 => ?_
  refine wp_seq_k fun K2 hK2 => ?_
  refine C.region ?_
  refine L.val f3 wantedN rfl (by decide) (E.move f3 rfl) fun a4 f4 => ?_
  clear f3 a2
  refine L.call f4 wantedN rfl (by decide) (run_call Tryd.call24 (args1 f4 rfl)) (text_any s w (G.kept HK).1 hs) ?_
  rintro e w1 ⟨kc1, rfl⟩
  refine ⟨_, rfl, fun a5 f5 => ?_⟩
  clear f4 a4
  have szw1 := kc1.size
  replace HK := HK.trans kc1 (by simp)
  clear kc1
  refine L.val f5 wantedN rfl (by decide) (E.not f5 rfl) fun a6 f6 => ?_
  clear f5 a5
  refine wpList_nil (hK2 _ _ ?_)
  try clear hK2 K2
  have f7 := f6.sub (sub_cons (i := 0) rfl (sub_cons (i := 2) rfl (sub_cons (i := 8) rfl sub_nil)))
  clear f6
  first | refine f7.splitD 8 rfl (fun h0 f8 => ?_) (fun h0 f8 => ?_) | refine f7.splitN 8 rfl (fun h0 f8 => ?_) (fun h0 f8 => ?_) | refine f7.splitNB 8 rfl (fun h0 f8 => ?_) (fun h0 f8 => ?_) | refine f7.split 8 rfl (fun h0 f8 => ?_) (fun h0 f8 => ?_)
  · clear f7
    have h8 := h0
    refine C.condT f8 rfl ?_
    refine wp_seq_k fun K3 hK3 => ?_
    refine C.region ?_
    refine L.val f8 wantedN rfl (by decide) (E.assign f8 rfl) fun a9 f9 => ?_
    clear f8 a6
    refine wpList_nil (hK3 _ _ ?_)
    try clear hK3 K3
    have f10 := f9.sub (sub_cons (i := 0) rfl (sub_cons (i := 2) rfl sub_nil))
    clear f9
    refine wp_ret ?_
    try simp only [Exit.inBlock, Exit.then]
    refine C.ret (P := Tryd.prog) (fn := Tryd.f14) f10 rfl rfl ?_
    exact ⟨HK, by unfold filterB; simp [*]⟩
  · clear f7
    have h8 := h0
    refine C.condF f8 rfl ?_
    refine wp_skip (hK1 _ _ ?_)
    try clear hK1 K1
    have f9 := f8.sub (sub_cons (i := 0) rfl (sub_cons (i := 2) rfl sub_nil))
    clear f8
    refine wp_seq_k fun K4 hK4 => ?_
    refine C.region ?_
    refine L.val f9 wantedN rfl (by decide) (E.move f9 rfl) fun a10 f10 => ?_
    clear f9 a6
    refine L.call f10 wantedN rfl (by decide) (run_call Tryd.call17 (args1 f10 rfl)) (levels_any s w1 (G.kept HK) hs) ?_
    rintro e w2 ⟨kc2, A, c, rfl, LS, l2, l3, l4⟩
    refine ⟨_, rfl, fun a11 f11 => ?_⟩
    clear f10 a10
    have szw2 := kc2.size
    replace HK := HK.trans kc2 (by simp)
    clear kc2
    refine L.val f11 wantedN rfl (by decide) (E.assign f11 rfl) fun a12 f12 => ?_
    clear f11 a11
    refine wpList_nil (hK4 _ _ ?_)
    try clear hK4 K4
    have f13 := f12.sub (sub_cons (i := 2) rfl (sub_cons (i := 3) rfl sub_nil))
    clear f12
    refine wp_seq_k fun K5 hK5 => ?_
    refine wp_seq_k fun K6 hK6 => ?_
    refine C.region ?_
    refine L.val f13 wantedN rfl (by decide) (E.move f13 rfl) fun a14 f14 => ?_
    clear f13 a12
    refine L.val f14 wantedN rfl (by decide) (E.lenL f14 Tryd.underlying26 rfl) fun a15 f15 => ?_
    clear f14 a14
    refine L.val f15 wantedN rfl (by decide) (E.move f15 rfl) fun a16 f16 => ?_
    clear f15 a15
    refine wpList_nil (hK6 _ _ ?_)
    try clear hK6 K6
    have f17 := f16.sub (sub_cons (i := 2) rfl (sub_cons (i := 3) rfl (sub_cons (i := 11) rfl (sub_cons (i := 12) rfl (sub_cons (i := 13) rfl sub_nil)))))
    clear f16
    refine wp_block ?_
    refine C.loop (fun gk a W => ∃ k : Nat, k + gk = (levelsL s).length ∧ okAll ((levelsL s).drop k) = okAll (levelsL s) ∧ Kept [] w W ∧ Ss W A (levelsL s) ∧ Fr 37 a [(3, .slice A (levelsL s).length c), (11, .slice A (levelsL s).length c), (12, .int .i64 (levelsL s).length), (13, .int .i64 k)]) ((levelsL s).length) ?_ ?_
    · exact ⟨0, by omega, rfl, HK, LS, f17.sub (sub_cons rfl (sub_cons rfl (sub_cons rfl (sub_cons rfl sub_nil))))⟩
    · intro gk8 a18 w3 hI KL7 hKL7
      obtain ⟨k, hk, hq, HK, LS, f18⟩ := hI
      try clear f17
      refine wp_seq_k fun K8 hK8 => ?_
      refine C.region ?_
      refine L.val f18 wantedN rfl (by decide) (E.lss f18 rfl rfl) fun a19 f19 => ?_
      clear f18 a18
      refine wpList_nil (hK8 _ _ ?_)
      try clear hK8 K8
      have f20 := f19.sub (sub_cons (i := 3) rfl (sub_cons (i := 11) rfl (sub_cons (i := 12) rfl (sub_cons (i := 13) rfl (sub_cons (i := 14) rfl sub_nil)))))
      clear f19
      refine wp_seq_k fun K9 hK9 => ?_
      first | refine f20.splitD 14 rfl (fun h1 f21 => ?_) (fun h1 f21 => ?_) | refine f20.splitN 14 rfl (fun h1 f21 => ?_) (fun h1 f21 => ?_) | refine f20.splitNB 14 rfl (fun h1 f21 => ?_) (fun h1 f21 => ?_) | refine f20.split 14 rfl (fun h1 f21 => ?_) (fun h1 f21 => ?_)
      · clear f20
        obtain ⟨p, hx⟩ : ∃ p, (levelsL s)[k]? = some p := ⟨(levelsL s)[k]'(by omega), List.getElem?_eq_getElem _⟩
        obtain ⟨b1, o1, hA⟩ := LS.addr (k := k) (by omega)
        refine C.condT f21 rfl ?_
        refine wp_skip (hK9 _ _ ?_)
        try clear hK9 K9
        have f22 := f21.sub (sub_cons (i := 3) rfl (sub_cons (i := 11) rfl (sub_cons (i := 12) rfl (sub_cons (i := 13) rfl (sub_cons (i := 14) rfl sub_nil)))))
        clear f21
        refine wp_seq_k fun K10 hK10 => ?_
        refine wp_block ?_
        refine wp_seq_k fun K11 hK11 => ?_
        refine C.region ?_
        refine L.val f22 wantedN rfl (by decide) (E.move f22 rfl) fun a23 f23 => ?_
        clear f22 a19
        refine L.val f23 wantedN rfl (by decide) (E.indexA f23 (by first | rfl | assumption) Tryd.underlying26 wsz9_tg rfl rfl (by omega) (by omega)) fun a24 f24 => ?_
        clear f23 a23
        refine L.val f24 wantedN rfl (by decide) (by first | exact E.load f24 Tryd.underlying9 rfl rfl (ss_cell (LS.kept HK) hA hx) | exact E.load f24 Tryd.underlying9 rfl rfl (ss_cell LS hA hx)) fun a25 f25 => ?_
        clear f24 a24
        refine L.val f25 wantedN rfl (by decide) (E.assign f25 rfl) fun a26 f26 => ?_
        clear f25 a25
        refine L.val f26 wantedN rfl (by decide) (E.assign f26 rfl) fun a27 f27 => ?_
        clear f26 a26
        refine wpList_nil (hK11 _ _ ?_)
        try clear hK11 K11
        have f28 := f27.sub (sub_cons (i := 3) rfl (sub_cons (i := 4) rfl (sub_cons (i := 5) rfl (sub_cons (i := 11) rfl (sub_cons (i := 12) rfl (sub_cons (i := 13) rfl (sub_cons (i := 14) rfl (sub_cons (i := 15) rfl (sub_cons (i := 16) rfl (sub_cons (i := 17) rfl sub_nil))))))))))
        clear f27
        refine wp_seq_k fun K12 hK12 => ?_
        refine C.region ?_
        refine L.val f28 wantedN rfl (by decide) (E.move f28 rfl) fun a29 f29 => ?_
        clear f28 a27
        refine L.val f29 wantedN rfl (by decide) (E.neqS f29 rfl rfl) fun a30 f30 => ?_
        clear f29 a29
        refine L.val f30 wantedN rfl (by decide) (E.move f30 rfl) fun a31 f31 => ?_
        clear f30 a30
        first | refine f31.splitD 20 rfl (fun h2 f32 => ?_) (fun h2 f32 => ?_) | refine f31.splitN 20 rfl (fun h2 f32 => ?_) (fun h2 f32 => ?_) | refine f31.splitNB 20 rfl (fun h2 f32 => ?_) (fun h2 f32 => ?_) | refine f31.split 20 rfl (fun h2 f32 => ?_) (fun h2 f32 => ?_)
        · clear f31
          have h20 := h2
          refine L.val f32 (f32.yes rfl rfl) rfl (by decide) (E.move f32 rfl) fun a33 f33 => ?_
          clear f32 a31
          refine L.val f33 (f33.yes rfl rfl) rfl (by decide) (E.eqlS f33 rfl rfl) fun a34 f34 => ?_
          clear f33 a33
          refine L.val f34 (f34.yes rfl rfl) rfl (by decide) (E.move f34 rfl) fun a35 f35 => ?_
          clear f34 a34
          first | refine f35.splitD 23 rfl (fun h3 f36 => ?_) (fun h3 f36 => ?_) | refine f35.splitN 23 rfl (fun h3 f36 => ?_) (fun h3 f36 => ?_) | refine f35.splitNB 23 rfl (fun h3 f36 => ?_) (fun h3 f36 => ?_) | refine f35.split 23 rfl (fun h3 f36 => ?_) (fun h3 f36 => ?_)
          · clear f35
            have h23 := h3
            refine L.val f36 (f36.yes rfl rfl) rfl (by decide) (E.move f36 rfl) fun a37 f37 => ?_
            clear f36 a35
            refine L.val f37 (f37.yes rfl rfl) rfl (by decide) (E.move f37 rfl) fun a38 f38 => ?_
            clear f37 a37
            refine L.val f38 (f38.yes rfl rfl) rfl (by decide) (E.lenL f38 Tryd.underlying26 rfl) fun a39 f39 => ?_
            clear f38 a38
            refine L.val f39 (f39.yes rfl rfl) rfl (by decide) (E.sub f39 rfl rfl (IntWalk.i64_in _ (by omega))) fun a40 f40 => ?_
            clear f39 a39
            refine L.val f40 (f40.yes rfl rfl) rfl (by decide) (E.eql f40 rfl rfl) fun a41 f41 => ?_
            clear f40 a40
            refine L.val f41 (f41.yes rfl rfl) rfl (by decide) (E.pickT f41 rfl rfl) fun a42 f42 => ?_
            clear f41 a41
            refine L.val f42 (f42.yes rfl rfl) rfl (by decide) (E.not f42 rfl) fun a43 f43 => ?_
            clear f42 a42
            refine L.val f43 wantedN rfl (by decide) (E.pickT f43 rfl rfl) fun a44 f44 => ?_
            clear f43 a43
            refine L.val f44 wantedN rfl (by decide) (E.move f44 rfl) fun a45 f45 => ?_
            clear f44 a44
            first | refine f45.splitD 32 rfl (fun h4 f46 => ?_) (fun h4 f46 => ?_) | refine f45.splitN 32 rfl (fun h4 f46 => ?_) (fun h4 f46 => ?_) | refine f45.splitNB 32 rfl (fun h4 f46 => ?_) (fun h4 f46 => ?_) | refine f45.split 32 rfl (fun h4 f46 => ?_) (fun h4 f46 => ?_)
            · clear f45
              have h32 := h4
              refine L.val f46 (f46.yes rfl rfl) rfl (by decide) (E.move f46 rfl) fun a47 f47 => ?_
              clear f46 a45
              refine L.call f47 (f47.yes rfl rfl) rfl (by decide) (run_call Tryd.call27 (args2 f47 rfl rfl)) (cont_any p w3) ?_
              rintro e w4 ⟨kc4, rfl⟩
              refine ⟨_, rfl, fun a48 f48 => ?_⟩
              clear f47 a47
              have szw4 := kc4.size
              replace HK := HK.trans kc4 (by simp)
              replace LS := LS.kept kc4
              clear kc4
              refine L.val f48 wantedN rfl (by decide) (E.pickT f48 rfl rfl) fun a49 f49 => ?_
              clear f48 a48
              refine wpList_nil (hK12 _ _ ?_)
              try clear hK12 K12
              have f50 := f49.sub (sub_cons (i := 3) rfl (sub_cons (i := 4) rfl (sub_cons (i := 5) rfl (sub_cons (i := 11) rfl (sub_cons (i := 12) rfl (sub_cons (i := 13) rfl (sub_cons (i := 14) rfl (sub_cons (i := 15) rfl (sub_cons (i := 16) rfl (sub_cons (i := 17) rfl (sub_cons (i := 18) rfl (sub_cons (i := 19) rfl (sub_cons (i := 20) rfl (sub_cons (i := 21) rfl (sub_cons (i := 22) rfl (sub_cons (i := 23) rfl (sub_cons (i := 24) rfl (sub_cons (i := 25) rfl (sub_cons (i := 26) rfl (sub_cons (i := 27) rfl (sub_cons (i := 28) rfl (sub_cons (i := 29) rfl (sub_cons (i := 30) rfl (sub_cons (i := 31) rfl (sub_cons (i := 32) rfl (sub_cons (i := 33) rfl (sub_cons (i := 34) rfl (sub_cons (i := 35) rfl sub_nil))))))))))))))))))))))))))))
              clear f49
              first | refine f50.splitD 35 rfl (fun h5 f51 => ?_) (fun h5 f51 => ?_) | refine f50.splitN 35 rfl (fun h5 f51 => ?_) (fun h5 f51 => ?_) | refine f50.splitNB 35 rfl (fun h5 f51 => ?_) (fun h5 f51 => ?_) | refine f50.split 35 rfl (fun h5 f51 => ?_) (fun h5 f51 => ?_)
              · clear f50
                have h35 := h5
                refine C.condT f51 rfl ?_
                refine wp_seq_k fun K13 hK13 => ?_
                refine C.region ?_
                refine L.val f51 wantedN rfl (by decide) (E.assign f51 rfl) fun a52 f52 => ?_
                clear f51 a49
                refine wpList_nil (hK13 _ _ ?_)
                try clear hK13 K13
                have f53 := f52.sub (sub_cons (i := 2) rfl (sub_cons (i := 3) rfl (sub_cons (i := 4) rfl (sub_cons (i := 5) rfl (sub_cons (i := 11) rfl (sub_cons (i := 12) rfl (sub_cons (i := 13) rfl (sub_cons (i := 14) rfl (sub_cons (i := 15) rfl (sub_cons (i := 16) rfl (sub_cons (i := 17) rfl (sub_cons (i := 18) rfl (sub_cons (i := 19) rfl (sub_cons (i := 20) rfl (sub_cons (i := 21) rfl (sub_cons (i := 22) rfl (sub_cons (i := 23) rfl (sub_cons (i := 24) rfl (sub_cons (i := 25) rfl (sub_cons (i := 26) rfl (sub_cons (i := 27) rfl (sub_cons (i := 28) rfl (sub_cons (i := 29) rfl (sub_cons (i := 30) rfl (sub_cons (i := 31) rfl (sub_cons (i := 32) rfl (sub_cons (i := 33) rfl (sub_cons (i := 34) rfl (sub_cons (i := 35) rfl sub_nil)))))))))))))))))))))))))))))
                clear f52
                refine wp_ret ?_
                try simp only [Exit.inBlock, Exit.then]
                refine C.ret (P := Tryd.prog) (fn := Tryd.f14) f53 rfl rfl ?_
                exact ⟨HK, by unfold filterB; rw [← hq, ok_at hx]; simp [okL, any35, h20, h23, h32, h35]⟩
              · clear f50
                have h35 := h5
                refine C.condF f51 rfl ?_
                refine wp_skip (hK10 _ _ ?_)
                try clear hK10 K10
                have f52 := f51.sub (sub_cons (i := 3) rfl (sub_cons (i := 4) rfl (sub_cons (i := 5) rfl (sub_cons (i := 11) rfl (sub_cons (i := 12) rfl (sub_cons (i := 13) rfl (sub_cons (i := 14) rfl (sub_cons (i := 15) rfl (sub_cons (i := 16) rfl (sub_cons (i := 17) rfl (sub_cons (i := 18) rfl (sub_cons (i := 19) rfl (sub_cons (i := 20) rfl (sub_cons (i := 21) rfl (sub_cons (i := 22) rfl (sub_cons (i := 23) rfl (sub_cons (i := 24) rfl (sub_cons (i := 25) rfl (sub_cons (i := 26) rfl (sub_cons (i := 27) rfl (sub_cons (i := 28) rfl (sub_cons (i := 29) rfl (sub_cons (i := 30) rfl (sub_cons (i := 31) rfl (sub_cons (i := 32) rfl (sub_cons (i := 33) rfl (sub_cons (i := 34) rfl (sub_cons (i := 35) rfl sub_nil))))))))))))))))))))))))))))
                clear f51
                refine C.region ?_
                refine L.val f52 wantedN rfl (by decide) (E.add f52 rfl rfl (IntWalk.i64_in _ (by omega))) fun a53 f53 => ?_
                clear f52 a49
                refine L.val f53 wantedN rfl (by decide) (E.move f53 rfl) fun a54 f54 => ?_
                clear f53 a53
                refine wpList_nil (hKL7 _ _ (gk8 - 1) ?_ ?_)
                · omega
                · exact ⟨k + 1, by omega, (ok_next hx (by rw [h23, any35] at h35; cases h35)).trans hq, HK, LS, f54.sub (sub_cons rfl (sub_cons rfl (sub_cons rfl (sub_cons rfl sub_nil))))⟩
            · clear f45
              have h32 := h4
              refine L.skip f46 (f46.noT rfl rfl) rfl (by decide) fun a47 f47 => ?_
              clear f46 a45
              refine L.skip f47 (f47.noT rfl rfl) rfl (by decide) fun a48 f48 => ?_
              clear f47 a47
              refine L.val f48 wantedN rfl (by decide) (E.pickF f48 rfl rfl) fun a49 f49 => ?_
              clear f48 a48
              refine wpList_nil (hK12 _ _ ?_)
              try clear hK12 K12
              have f50 := f49.sub (sub_cons (i := 3) rfl (sub_cons (i := 4) rfl (sub_cons (i := 5) rfl (sub_cons (i := 11) rfl (sub_cons (i := 12) rfl (sub_cons (i := 13) rfl (sub_cons (i := 14) rfl (sub_cons (i := 15) rfl (sub_cons (i := 16) rfl (sub_cons (i := 17) rfl (sub_cons (i := 18) rfl (sub_cons (i := 19) rfl (sub_cons (i := 20) rfl (sub_cons (i := 21) rfl (sub_cons (i := 22) rfl (sub_cons (i := 23) rfl (sub_cons (i := 24) rfl (sub_cons (i := 25) rfl (sub_cons (i := 26) rfl (sub_cons (i := 27) rfl (sub_cons (i := 28) rfl (sub_cons (i := 29) rfl (sub_cons (i := 30) rfl (sub_cons (i := 31) rfl (sub_cons (i := 32) rfl (sub_cons (i := 33) rfl (sub_cons (i := 34) rfl (sub_cons (i := 35) rfl sub_nil))))))))))))))))))))))))))))
              clear f49
              refine C.condF f50 rfl ?_
              refine wp_skip (hK10 _ _ ?_)
              try clear hK10 K10
              have f51 := f50.sub (sub_cons (i := 3) rfl (sub_cons (i := 4) rfl (sub_cons (i := 5) rfl (sub_cons (i := 11) rfl (sub_cons (i := 12) rfl (sub_cons (i := 13) rfl (sub_cons (i := 14) rfl (sub_cons (i := 15) rfl (sub_cons (i := 16) rfl (sub_cons (i := 17) rfl (sub_cons (i := 18) rfl (sub_cons (i := 19) rfl (sub_cons (i := 20) rfl (sub_cons (i := 21) rfl (sub_cons (i := 22) rfl (sub_cons (i := 23) rfl (sub_cons (i := 24) rfl (sub_cons (i := 25) rfl (sub_cons (i := 26) rfl (sub_cons (i := 27) rfl (sub_cons (i := 28) rfl (sub_cons (i := 29) rfl (sub_cons (i := 30) rfl (sub_cons (i := 31) rfl (sub_cons (i := 32) rfl (sub_cons (i := 33) rfl (sub_cons (i := 34) rfl (sub_cons (i := 35) rfl sub_nil))))))))))))))))))))))))))))
              clear f50
              refine C.region ?_
              refine L.val f51 wantedN rfl (by decide) (E.add f51 rfl rfl (IntWalk.i64_in _ (by omega))) fun a52 f52 => ?_
              clear f51 a49
              refine L.val f52 wantedN rfl (by decide) (E.move f52 rfl) fun a53 f53 => ?_
              clear f52 a52
              refine wpList_nil (hKL7 _ _ (gk8 - 1) ?_ ?_)
              · omega
              · exact ⟨k + 1, by omega, (ok_next hx (by simp [okL, h20, h23, h32])).trans hq, HK, LS, f53.sub (sub_cons rfl (sub_cons rfl (sub_cons rfl (sub_cons rfl sub_nil))))⟩
          · clear f35
            have h23 := h3
            refine L.skip f36 (f36.noT rfl rfl) rfl (by decide) fun a37 f37 => ?_
            clear f36 a35
            refine L.skip f37 (f37.noT rfl rfl) rfl (by decide) fun a38 f38 => ?_
            clear f37 a37
            refine L.skip f38 (f38.noT rfl rfl) rfl (by decide) fun a39 f39 => ?_
            clear f38 a38
            refine L.skip f39 (f39.noT rfl rfl) rfl (by decide) fun a40 f40 => ?_
            clear f39 a39
            refine L.skip f40 (f40.noT rfl rfl) rfl (by decide) fun a41 f41 => ?_
            clear f40 a40
            refine L.val f41 (f41.yes rfl rfl) rfl (by decide) (E.pickF f41 rfl rfl) fun a42 f42 => ?_
            clear f41 a41
            refine L.val f42 (f42.yes rfl rfl) rfl (by decide) (E.not f42 rfl) fun a43 f43 => ?_
            clear f42 a42
            refine L.val f43 wantedN rfl (by decide) (E.pickT f43 rfl rfl) fun a44 f44 => ?_
            clear f43 a43
            refine L.val f44 wantedN rfl (by decide) (E.move f44 rfl) fun a45 f45 => ?_
            clear f44 a44
            refine L.val f45 (f45.yes rfl rfl) rfl (by decide) (E.move f45 rfl) fun a46 f46 => ?_
            clear f45 a45
            refine L.call f46 (f46.yes rfl rfl) rfl (by decide) (run_call Tryd.call27 (args2 f46 rfl rfl)) (cont_any p w3) ?_
            rintro e w4 ⟨kc4, rfl⟩
            refine ⟨_, rfl, fun a47 f47 => ?_⟩
            clear f46 a46
            have szw4 := kc4.size
            replace HK := HK.trans kc4 (by simp)
            replace LS := LS.kept kc4
            clear kc4
            refine L.val f47 wantedN rfl (by decide) (E.pickT f47 rfl rfl) fun a48 f48 => ?_
            clear f47 a47
            refine wpList_nil (hK12 _ _ ?_)
            try clear hK12 K12
            have f49 := f48.sub (sub_cons (i := 3) rfl (sub_cons (i := 4) rfl (sub_cons (i := 5) rfl (sub_cons (i := 11) rfl (sub_cons (i := 12) rfl (sub_cons (i := 13) rfl (sub_cons (i := 14) rfl (sub_cons (i := 15) rfl (sub_cons (i := 16) rfl (sub_cons (i := 17) rfl (sub_cons (i := 18) rfl (sub_cons (i := 19) rfl (sub_cons (i := 20) rfl (sub_cons (i := 21) rfl (sub_cons (i := 22) rfl (sub_cons (i := 23) rfl (sub_cons (i := 24) rfl (sub_cons (i := 25) rfl (sub_cons (i := 26) rfl (sub_cons (i := 27) rfl (sub_cons (i := 28) rfl (sub_cons (i := 29) rfl (sub_cons (i := 30) rfl (sub_cons (i := 31) rfl (sub_cons (i := 32) rfl (sub_cons (i := 33) rfl (sub_cons (i := 34) rfl (sub_cons (i := 35) rfl sub_nil))))))))))))))))))))))))))))
            clear f48
            first | refine f49.splitD 35 rfl (fun h6 f50 => ?_) (fun h6 f50 => ?_) | refine f49.splitN 35 rfl (fun h6 f50 => ?_) (fun h6 f50 => ?_) | refine f49.splitNB 35 rfl (fun h6 f50 => ?_) (fun h6 f50 => ?_) | refine f49.split 35 rfl (fun h6 f50 => ?_) (fun h6 f50 => ?_)
            · clear f49
              have h35 := h6
              refine C.condT f50 rfl ?_
              refine wp_seq_k fun K14 hK14 => ?_
              refine C.region ?_
              refine L.val f50 wantedN rfl (by decide) (E.assign f50 rfl) fun a51 f51 => ?_
              clear f50 a48
              refine wpList_nil (hK14 _ _ ?_)
              try clear hK14 K14
              have f52 := f51.sub (sub_cons (i := 2) rfl (sub_cons (i := 3) rfl (sub_cons (i := 4) rfl (sub_cons (i := 5) rfl (sub_cons (i := 11) rfl (sub_cons (i := 12) rfl (sub_cons (i := 13) rfl (sub_cons (i := 14) rfl (sub_cons (i := 15) rfl (sub_cons (i := 16) rfl (sub_cons (i := 17) rfl (sub_cons (i := 18) rfl (sub_cons (i := 19) rfl (sub_cons (i := 20) rfl (sub_cons (i := 21) rfl (sub_cons (i := 22) rfl (sub_cons (i := 23) rfl (sub_cons (i := 24) rfl (sub_cons (i := 25) rfl (sub_cons (i := 26) rfl (sub_cons (i := 27) rfl (sub_cons (i := 28) rfl (sub_cons (i := 29) rfl (sub_cons (i := 30) rfl (sub_cons (i := 31) rfl (sub_cons (i := 32) rfl (sub_cons (i := 33) rfl (sub_cons (i := 34) rfl (sub_cons (i := 35) rfl sub_nil)))))))))))))))))))))))))))))
              clear f51
              refine wp_ret ?_
              try simp only [Exit.inBlock, Exit.then]
              refine C.ret (P := Tryd.prog) (fn := Tryd.f14) f52 rfl rfl ?_
              exact ⟨HK, by unfold filterB; rw [← hq, ok_at hx]; simp [okL, any35, h20, h23, h35]⟩
            · clear f49
              have h35 := h6
              refine C.condF f50 rfl ?_
              refine wp_skip (hK10 _ _ ?_)
              try clear hK10 K10
              have f51 := f50.sub (sub_cons (i := 3) rfl (sub_cons (i := 4) rfl (sub_cons (i := 5) rfl (sub_cons (i := 11) rfl (sub_cons (i := 12) rfl (sub_cons (i := 13) rfl (sub_cons (i := 14) rfl (sub_cons (i := 15) rfl (sub_cons (i := 16) rfl (sub_cons (i := 17) rfl (sub_cons (i := 18) rfl (sub_cons (i := 19) rfl (sub_cons (i := 20) rfl (sub_cons (i := 21) rfl (sub_cons (i := 22) rfl (sub_cons (i := 23) rfl (sub_cons (i := 24) rfl (sub_cons (i := 25) rfl (sub_cons (i := 26) rfl (sub_cons (i := 27) rfl (sub_cons (i := 28) rfl (sub_cons (i := 29) rfl (sub_cons (i := 30) rfl (sub_cons (i := 31) rfl (sub_cons (i := 32) rfl (sub_cons (i := 33) rfl (sub_cons (i := 34) rfl (sub_cons (i := 35) rfl sub_nil))))))))))))))))))))))))))))
              clear f50
              refine C.region ?_
              refine L.val f51 wantedN rfl (by decide) (E.add f51 rfl rfl (IntWalk.i64_in _ (by omega))) fun a52 f52 => ?_
              clear f51 a48
              refine L.val f52 wantedN rfl (by decide) (E.move f52 rfl) fun a53 f53 => ?_
              clear f52 a52
              refine wpList_nil (hKL7 _ _ (gk8 - 1) ?_ ?_)
              · omega
              · exact ⟨k + 1, by omega, (ok_next hx (by simp [okL, h20, h23, h35])).trans hq, HK, LS, f53.sub (sub_cons rfl (sub_cons rfl (sub_cons rfl (sub_cons rfl sub_nil))))⟩
        · clear f31
          have h20 := h2
          refine L.skip f32 (f32.noT rfl rfl) rfl (by decide) fun a33 f33 => ?_
          clear f32 a31
          refine L.skip f33 (f33.noT rfl rfl) rfl (by decide) fun a34 f34 => ?_
          clear f33 a33
          refine L.skip f34 (f34.noT rfl rfl) rfl (by decide) fun a35 f35 => ?_
          clear f34 a34
          refine L.skip f35 (f35.noU rfl rfl) rfl (by decide) fun a36 f36 => ?_
          clear f35 a35
          refine L.skip f36 (f36.noU rfl rfl) rfl (by decide) fun a37 f37 => ?_
          clear f36 a36
          refine L.skip f37 (f37.noU rfl rfl) rfl (by decide) fun a38 f38 => ?_
          clear f37 a37
          refine L.skip f38 (f38.noU rfl rfl) rfl (by decide) fun a39 f39 => ?_
          clear f38 a38
          refine L.skip f39 (f39.noU rfl rfl) rfl (by decide) fun a40 f40 => ?_
          clear f39 a39
          refine L.skip f40 (f40.noT rfl rfl) rfl (by decide) fun a41 f41 => ?_
          clear f40 a40
          refine L.skip f41 (f41.noT rfl rfl) rfl (by decide) fun a42 f42 => ?_
          clear f41 a41
          refine L.val f42 wantedN rfl (by decide) (E.pickF f42 rfl rfl) fun a43 f43 => ?_
          clear f42 a42
          refine L.val f43 wantedN rfl (by decide) (E.move f43 rfl) fun a44 f44 => ?_
          clear f43 a43
          refine L.skip f44 (f44.noT rfl rfl) rfl (by decide) fun a45 f45 => ?_
          clear f44 a44
          refine L.skip f45 (f45.noT rfl rfl) rfl (by decide) fun a46 f46 => ?_
          clear f45 a45
          refine L.val f46 wantedN rfl (by decide) (E.pickF f46 rfl rfl) fun a47 f47 => ?_
          clear f46 a46
          refine wpList_nil (hK12 _ _ ?_)
          try clear hK12 K12
          have f48 := f47.sub (sub_cons (i := 3) rfl (sub_cons (i := 4) rfl (sub_cons (i := 5) rfl (sub_cons (i := 11) rfl (sub_cons (i := 12) rfl (sub_cons (i := 13) rfl (sub_cons (i := 14) rfl (sub_cons (i := 15) rfl (sub_cons (i := 16) rfl (sub_cons (i := 17) rfl (sub_cons (i := 18) rfl (sub_cons (i := 19) rfl (sub_cons (i := 20) rfl (sub_cons (i := 21) rfl (sub_cons (i := 22) rfl (sub_cons (i := 23) rfl (sub_cons (i := 24) rfl (sub_cons (i := 25) rfl (sub_cons (i := 26) rfl (sub_cons (i := 27) rfl (sub_cons (i := 28) rfl (sub_cons (i := 29) rfl (sub_cons (i := 30) rfl (sub_cons (i := 31) rfl (sub_cons (i := 32) rfl (sub_cons (i := 33) rfl (sub_cons (i := 34) rfl (sub_cons (i := 35) rfl sub_nil))))))))))))))))))))))))))))
          clear f47
          refine C.condF f48 rfl ?_
          refine wp_skip (hK10 _ _ ?_)
          try clear hK10 K10
          have f49 := f48.sub (sub_cons (i := 3) rfl (sub_cons (i := 4) rfl (sub_cons (i := 5) rfl (sub_cons (i := 11) rfl (sub_cons (i := 12) rfl (sub_cons (i := 13) rfl (sub_cons (i := 14) rfl (sub_cons (i := 15) rfl (sub_cons (i := 16) rfl (sub_cons (i := 17) rfl (sub_cons (i := 18) rfl (sub_cons (i := 19) rfl (sub_cons (i := 20) rfl (sub_cons (i := 21) rfl (sub_cons (i := 22) rfl (sub_cons (i := 23) rfl (sub_cons (i := 24) rfl (sub_cons (i := 25) rfl (sub_cons (i := 26) rfl (sub_cons (i := 27) rfl (sub_cons (i := 28) rfl (sub_cons (i := 29) rfl (sub_cons (i := 30) rfl (sub_cons (i := 31) rfl (sub_cons (i := 32) rfl (sub_cons (i := 33) rfl (sub_cons (i := 34) rfl (sub_cons (i := 35) rfl sub_nil))))))))))))))))))))))))))))
          clear f48
          refine C.region ?_
          refine L.val f49 wantedN rfl (by decide) (E.add f49 rfl rfl (IntWalk.i64_in _ (by omega))) fun a50 f50 => ?_
          clear f49 a47
          refine L.val f50 wantedN rfl (by decide) (E.move f50 rfl) fun a51 f51 => ?_
          clear f50 a50
          refine wpList_nil (hKL7 _ _ (gk8 - 1) ?_ ?_)
          · omega
          · exact ⟨k + 1, by omega, (ok_next hx (by simp [okL, h20])).trans hq, HK, LS, f51.sub (sub_cons rfl (sub_cons rfl (sub_cons rfl (sub_cons rfl sub_nil))))⟩
      · clear f20
        have hend := h1
        refine C.condF f21 rfl ?_
        refine wp_exit (hK5 _ _ ?_)
        try clear hK5 K5
        have f22 := f21.sub sub_nil
        clear f21
        refine wp_seq_k fun K15 hK15 => ?_
        refine C.region ?_
        refine L.val f22 wantedN rfl (by decide) (E.assign f22 rfl) fun a23 f23 => ?_
        clear f22 a19
        refine wpList_nil (hK15 _ _ ?_)
        try clear hK15 K15
        have f24 := f23.sub (sub_cons (i := 2) rfl sub_nil)
        clear f23
        refine wp_ret ?_
        try simp only [Exit.inBlock, Exit.then]
        refine C.ret (P := Tryd.prog) (fn := Tryd.f14) f24 rfl rfl ?_
        exact ⟨HK, by unfold filterB; rw [← hq, List.drop_eq_nil_of_le (by omega)]; simp [okAll, h8]⟩

end Go.Proofs.YtpdacegpjofdeaaDoor
