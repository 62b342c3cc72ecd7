/- AcksCut: the walk. -/
import Derived.Test.YtahmlcjgcdajbaaMl
set_option linter.all false
namespace Go.Proofs.Ytahmlcjgcdajbaa
open Go.RowKit Go.Hub
theorem wsz5_s : (Try.prog.info? 5).map (·.size) = some 1 := by kernel_rfl
theorem wbl32_0_1_2_s (x0 : Int) (x1 : Int) (x2 : Int) : Try.prog.built 32 [(0, .int .i64 x0), (1, .int .i64 x1), (2, .int .i64 x2)] = some #[.int .i64 x0, .int .i64 x1, .int .i64 x2] := by kernel_rfl

theorem hearR_step2 {p k : Nat} {own s : List Dt} {bs : List Int} {b : Int} (hb : bs[k]? = some b) (h2 : k + 1 < p) (hq : seenOf own b = s) (hs : rightB s = true) (ht : 0 ≤ b) : hearR (rowsK p own bs k) 0 ((k : Int) + 1) 1 (b % 3) s = rowsK p own bs (k + 1) := by
  subst hq
  exact hearR_step (s := []) hb h2 hs ht
theorem ss_len {al : Bool} {X : List (List Dt)} {ss : List SD} {n : Nat} (hl : ss.map (·.2.2) = (if al = true then some X else none).getD []) (hX : al = true → X.length = n) : ss.length = if al = true then n else 0 := by
  have hln := congrArg List.length hl
  rw [List.length_map] at hln
  rw [hln]
  cases al with
  | false => rfl
  | true => simpa using hX rfl
theorem cut_end {p k : Nat} {own : List Dt} {bs : List Int} (h : k + 1 = p) (hr : rightB own = true) (hn : ∀ x ∈ own, x.node < 3) : cutL (rowsK p own bs (min k bs.length)) 0 own 1 = if (decide (k ≤ bs.length) && (bs.take k).all goodB) = true then some ((bs.take k).map (seenOf own)) else none := by
  by_cases hk : k ≤ bs.length
  · rw [Nat.min_eq_left hk, cut_whole h hr hn, decide_eq_true hk, Bool.true_and]
  · rw [Nat.min_eq_right (by omega), cut_short (by omega), decide_eq_false hk]
    rfl
def Ys (w : World) (A : Option Addr) (l : List Int) : Prop := Sl w A l.length 1 (l.map (.int .u8))
theorem Ys.kept {w w' : World} {A : Option Addr} {l : List Int} (h : Ys w A l) (hk : Kept [] w w') : Ys w' A l := Sl.kept h hk
theorem ys_cell {w : World} {A : Option Addr} {l : List Int} (h : Ys w A l) {b off k : Nat} {x i : Int} (hA : A = some ⟨b, off, none⟩) (hx : l[k]? = some x) (hi : i = k) : w.cell? ⟨b, off + Int.toNat i * 1, none⟩ = some (.int .u8 x) := by
  subst hi
  have := (List.getElem?_eq_some_iff.1 hx).1
  simpa using Sl.cell h (j := k) (by omega) hA (by simp [hx])
theorem take_good {bs : List Int} {k : Nat} {b : Int} (hb : bs[k]? = some b) : (bs.take (k + 1)).all goodB = ((bs.take k).all goodB && goodB b) := by
  rw [List.take_succ, hb, List.all_append]
  simp
theorem al_step {bs : List Int} {k : Nat} {b : Int} {al v : Bool} (hb : bs[k]? = some b) (hal : al = (decide (k ≤ bs.length) && (bs.take k).all goodB)) (hv : v = (al && goodB b)) : v = (decide (k + 1 ≤ bs.length) && (bs.take (k + 1)).all goodB) := by
  have h1 := (List.getElem?_eq_some_iff.1 hb).1
  rw [decide_eq_true (by omega : k ≤ bs.length), Bool.true_and] at hal
  rw [hv, hal, take_good hb, decide_eq_true (by omega : k + 1 ≤ bs.length), Bool.true_and]
theorem fold_len : ∀ (us : List Int) (acc : List Dt), (us.foldl addN acc).length ≤ acc.length + us.length
  | [], acc => by simp
  | u :: us, acc => by
    have h1 := fold_len us (addN acc u)
    have h2 : (addN acc u).length ≤ acc.length + 1 := addD_len acc (dotOf u)
    simp only [List.foldl_cons, List.length_cons] at *
    omega
theorem ofL_len (us : List Int) : (ofL us).length ≤ us.length := by have := fold_len us []; simpa [ofL] using this

set_option maxRecDepth 100000 in
set_option maxHeartbeats 2000000 in
theorem acksCut_any (n : Int) (bs us : List Int) (Ab Au : Option Addr) (cb cu : Nat) (w : World) (hn : 0 ≤ n ∧ n ≤ 255) (A1 : Ys w Ab bs) (A2 : Us w Au us) (hbb : ∀ x ∈ bs, 0 ≤ x ∧ x ≤ 255) (hbu : ∀ x ∈ us, 0 ≤ x ∧ x ≤ 65535) (hlb : bs.length ≤ maxLen) (hlu : us.length ≤ maxLen) : Calls Try.prog 8 #[.int .u8 n, .slice Ab bs.length cb, .slice Au us.length cu] w (fun e w' => e = .returned (.bool true) ∧ Below w.heap.size w w') := by
  have HK : Kept [] w w := Kept.refl _ _
  unfold maxLen at hlb hlu
  obtain ⟨p, hp⟩ : ∃ p : Nat, n % 4 + 1 = (p : Int) := ⟨(n % 4 + 1).toNat, by omega⟩
  have hpn : n % 4 + 1 = (p : Int) := hp
  have hself : newSelf (n % 4 + 1) 0 = 0 := by unfold newSelf; omega
  refine C.enter Try.func8 rfl Try.ntmps8 rfl ?_
  intro a0 f0
  have f1 : Fr 103 a0 [(0, .int .u8 n), (1, .slice Ab bs.length cb), (2, .slice Au us.length cu)] := f0
  clear f0
  refine wp_seq_k fun K0 hK0 => ?_
  refine C.region ?_
  refine L.val f1 wantedN rfl (by decide) (E.assign f1 rfl) fun a2 f2 => ?_
  clear f1 a0
  refine wpList_nil (hK0 _ _ ?_)
  try clear hK0 K0
  have f3 := f2.sub (sub_cons (i := 0) rfl (sub_cons (i := 1) rfl (sub_cons (i := 2) rfl (sub_cons (i := 6) rfl sub_nil))))
  clear f2
  refine wp_seq_k fun K1 hK1 => ?_
  refine wp_seq_k fun K2 hK2 => ?_
  refine C.region ?_
  refine L.call f3 wantedN rfl (by decide) (run_call Try.call28 (args0 f3)) (known_any _) ?_
  rintro e w1 ⟨kc1, rfl⟩
  refine ⟨_, rfl, fun a4 f4 => ?_⟩
  clear f3 a2
  have szw1 := kc1.size
  replace HK := HK.trans kc1 (by simp)
  clear kc1
  refine L.val f4 wantedN rfl (by decide) (E.not f4 rfl) fun a5 f5 => ?_
  clear f4 a4
  refine wpList_nil (hK2 _ _ ?_)
  try clear hK2 K2
  have f6 := f5.sub (sub_cons (i := 0) rfl (sub_cons (i := 1) rfl (sub_cons (i := 2) rfl (sub_cons (i := 6) rfl (sub_cons (i := 17) rfl sub_nil)))))
  clear f5
  refine C.condF f6 rfl ?_
  refine wp_skip (hK1 _ _ ?_)
  try clear hK1 K1
  have f7 := f6.sub (sub_cons (i := 0) rfl (sub_cons (i := 1) rfl (sub_cons (i := 2) rfl (sub_cons (i := 6) rfl sub_nil))))
  clear f6
  refine wp_seq_k fun K3 hK3 => ?_
  refine wp_seq_k fun K4 hK4 => ?_
  refine C.region ?_
  refine L.val f7 wantedN rfl (by decide) (E.move f7 rfl) fun a8 f8 => ?_
  clear f7 a5
  refine L.val f8 wantedN rfl (by decide) (E.lenL f8 Try.underlying22 rfl) fun a9 f9 => ?_
  clear f8 a8
  refine L.val f9 wantedN rfl (by decide) (E.gtr f9 rfl rfl) fun a10 f10 => ?_
  clear f9 a9
  refine wpList_nil (hK4 _ _ ?_)
  try clear hK4 K4
  have f11 := f10.sub (sub_cons (i := 0) rfl (sub_cons (i := 1) rfl (sub_cons (i := 2) rfl (sub_cons (i := 6) rfl (sub_cons (i := 20) rfl sub_nil)))))
  clear f10
  first | refine f11.splitD 20 rfl (fun h0 f12 => ?_) (fun h0 f12 => ?_) | refine f11.splitN 20 rfl (fun h0 f12 => ?_) (fun h0 f12 => ?_) | refine f11.splitNB 20 rfl (fun h0 f12 => ?_) (fun h0 f12 => ?_) | refine f11.split 20 rfl (fun h0 f12 => ?_) (fun h0 f12 => ?_)
  · clear f11
    refine C.condT f12 rfl ?_
    refine wp_seq_k fun K5 hK5 => ?_
    refine C.region ?_
    refine L.val f12 wantedN rfl (by decide) (E.assign f12 rfl) fun a13 f13 => ?_
    clear f12 a10
    refine wpList_nil (hK5 _ _ ?_)
    try clear hK5 K5
    have f14 := f13.sub (sub_cons (i := 0) rfl (sub_cons (i := 1) rfl (sub_cons (i := 2) rfl (sub_cons (i := 6) rfl sub_nil))))
    clear f13
    refine wp_ret ?_
    try simp only [Exit.inBlock, Exit.then]
    refine C.ret (P := Try.prog) (fn := Try.f8) f14 rfl rfl ?_
    exact ⟨rfl, HK.below0⟩
  · clear f11
    have h12 : us.length ≤ 12 := by omega
    refine C.condF f12 rfl ?_
    refine wp_skip (hK3 _ _ ?_)
    try clear hK3 K3
    have f13 := f12.sub (sub_cons (i := 0) rfl (sub_cons (i := 1) rfl (sub_cons (i := 2) rfl (sub_cons (i := 6) rfl sub_nil))))
    clear f12
    refine wp_seq_k fun K6 hK6 => ?_
    refine C.region ?_
    refine L.val f13 wantedN rfl (by decide) (E.move f13 rfl) fun a14 f14 => ?_
    clear f13 a10
    refine L.val f14 wantedN rfl (by decide) (E.rem f14 rfl rfl (by omega) (Int.tmod_eq_emod_of_nonneg (by omega))) fun a15 f15 => ?_
    clear f14 a14
    refine L.val f15 wantedN rfl (by decide) (E.conv f15 Try.underlying5 Try.underlying3 rfl (IntWalk.i64_in _ (by omega))) fun a16 f16 => ?_
    clear f15 a15
    refine L.val f16 wantedN rfl (by decide) (E.add f16 rfl rfl (IntWalk.i64_in _ (by omega))) fun a17 f17 => ?_
    clear f16 a16
    refine L.val f17 wantedN rfl (by decide) (E.assign f17 rfl) fun a18 f18 => ?_
    clear f17 a17
    refine wpList_nil (hK6 _ _ ?_)
    try clear hK6 K6
    have f19 := f18.sub (sub_cons (i := 1) rfl (sub_cons (i := 2) rfl (sub_cons (i := 6) rfl (sub_cons (i := 7) rfl sub_nil))))
    clear f18
    refine wp_seq_k fun K7 hK7 => ?_
    refine C.region ?_
    refine L.val f19 wantedN rfl (by decide) (E.move f19 rfl) fun a20 f20 => ?_
    clear f19 a18
    refine L.call f20 wantedN rfl (by decide) (run_call Try.call29 (args2 f20 rfl rfl)) (new_any (n % 4 + 1) 0 _) ?_
    rintro e w2 ⟨m, fp, rfl, ⟨r, en, hr, M⟩, kc2, lo0⟩
    have lo : ∀ x ∈ fp, w.heap.size ≤ x := fun x hx => Nat.le_trans HK.size (lo0 x hx)
    rw [hself] at M
    rw [hpn, rows0 p (ofL us) bs (by omega) (by omega)] at hr
    have ltM := M.lt
    refine ⟨_, rfl, fun a21 f21 => ?_⟩
    clear f20 a20
    have szw2 := kc2.size
    replace HK := HK.trans kc2 (by simp)
    clear kc2
    refine L.val f21 wantedN rfl (by decide) (E.assign f21 rfl) fun a22 f22 => ?_
    clear f21 a21
    refine wpList_nil (hK7 _ _ ?_)
    try clear hK7 K7
    have f23 := f22.sub (sub_cons (i := 1) rfl (sub_cons (i := 2) rfl (sub_cons (i := 6) rfl (sub_cons (i := 7) rfl (sub_cons (i := 8) rfl sub_nil)))))
    clear f22
    refine wp_seq_k fun K8 hK8 => ?_
    refine C.region ?_
    refine L.val f23 wantedN rfl (by decide) (E.assign f23 rfl) fun a24 f24 => ?_
    clear f23 a22
    refine wpList_nil (hK8 _ _ ?_)
    try clear hK8 K8
    have f25 := f24.sub (sub_cons (i := 1) rfl (sub_cons (i := 2) rfl (sub_cons (i := 6) rfl (sub_cons (i := 7) rfl (sub_cons (i := 8) rfl (sub_cons (i := 9) rfl sub_nil))))))
    clear f24
    refine wp_seq_k fun K9 hK9 => ?_
    refine C.region ?_
    refine L.val f25 wantedN rfl (by decide) (E.move f25 rfl) fun a26 f26 => ?_
    clear f25 a24
    refine L.call f26 wantedN rfl (by decide) (run_call Try.call30 (args1 f26 rfl)) (of_any us _ _ _ (A2.kept HK) h12 hbu) ?_
    rintro e w3 ⟨kc3, Aw, cw, rfl, FO⟩
    have dO : ∀ b, Aw.map (·.block) = some b → b ∉ fp := fun b hb hx => by have := FO.lo b hb; have := M.lt b hx; omega
    refine ⟨_, rfl, fun a27 f27 => ?_⟩
    clear f26 a26
    have szw3 := kc3.size
    replace HK := HK.trans kc3 (by simp)
    replace M := M.kept kc3 (by simp)
    clear kc3
    refine L.val f27 wantedN rfl (by decide) (E.assign f27 rfl) fun a28 f28 => ?_
    clear f27 a27
    refine wpList_nil (hK9 _ _ ?_)
    try clear hK9 K9
    have f29 := f28.sub (sub_cons (i := 1) rfl (sub_cons (i := 6) rfl (sub_cons (i := 7) rfl (sub_cons (i := 8) rfl (sub_cons (i := 9) rfl (sub_cons (i := 10) rfl sub_nil))))))
    clear f28
    refine wp_seq_k fun K10 hK10 => ?_
    refine wp_seq_k fun K11 hK11 => ?_
    refine C.region ?_
    refine L.val f29 wantedN rfl (by decide) (E.assign f29 rfl) fun a30 f30 => ?_
    clear f29 a28
    refine wpList_nil (hK11 _ _ ?_)
    try clear hK11 K11
    have f31 := f30.sub (sub_cons (i := 1) rfl (sub_cons (i := 6) rfl (sub_cons (i := 7) rfl (sub_cons (i := 8) rfl (sub_cons (i := 9) rfl (sub_cons (i := 10) rfl (sub_cons (i := 11) rfl sub_nil)))))))
    clear f30
    refine wp_block ?_
    obtain ⟨own, hown⟩ : ∃ own, own = ofL us := ⟨_, rfl⟩
    have hro : rightB own = true := hown ▸ ofL_right us
    have hno : ∀ x ∈ own, x.node < 3 := hown ▸ ofL_node us
    have hlo : own.length ≤ 12 := by rw [hown]; exact Nat.le_trans (ofL_len us) h12
    rw [← hown] at FO hr f31
    have FO := FO.lower (w0 := w) (by omega)
    refine C.loop (fun gk a W => ∃ (k m r : Nat) (fp : List Nat) (en : List Ent) (al : Bool), k + gk = p - 1 ∧ (∀ x ∈ fp, w.heap.size ≤ x) ∧ (∀ b, Aw.map (·.block) = some b → b ∉ fp) ∧ en.map Ent.abs = rowsK p own bs (min k bs.length) ∧ MatA (71, 73) W m r fp en 0 ∧ al = (decide (k ≤ bs.length) && (bs.take k).all goodB) ∧ Kept [] w W ∧ Fresh w W 32 3 Aw own.length cw (dcells own) ∧ Fr 103 a [(1, .slice Ab bs.length cb), (7, .int .i64 (n % 4 + 1)), (8, .pointer (some ⟨m, 0, none⟩)), (9, .bool al), (10, .slice Aw own.length cw), (11, .int .i64 ((k : Int) + 1))]) (p - 1) ?_ ?_
    · exact ⟨0, m, r, fp, en, true, by omega, lo, dO, by rw [Nat.zero_min]; exact hr, M, by simp, HK, FO, by simpa using f31.sub (sub_cons rfl (sub_cons rfl (sub_cons rfl (sub_cons rfl (sub_cons rfl (sub_cons rfl sub_nil))))))⟩
    · intro gk13 a32 w4 hI KL12 hKL12
      obtain ⟨k, m, r, fp, en, al, hk, lo, dO, hr, M, hal, HK, FO, f32⟩ := hI
      try clear f31
      have szw1x := HK.size
      refine wp_seq_k fun K13 hK13 => ?_
      refine wp_seq_k fun K14 hK14 => ?_
      refine C.region ?_
      refine L.val f32 wantedN rfl (by decide) (E.move f32 rfl) fun a33 f33 => ?_
      clear f32 a32
      refine L.val f33 wantedN rfl (by decide) (E.move f33 rfl) fun a34 f34 => ?_
      clear f33 a33
      refine L.val f34 wantedN rfl (by decide) (E.lss f34 rfl rfl) fun a35 f35 => ?_
      clear f34 a34
      refine wpList_nil (hK14 _ _ ?_)
      try clear hK14 K14
      have f36 := f35.sub (sub_cons (i := 1) rfl (sub_cons (i := 7) rfl (sub_cons (i := 8) rfl (sub_cons (i := 9) rfl (sub_cons (i := 10) rfl (sub_cons (i := 11) rfl (sub_cons (i := 29) rfl (sub_cons (i := 30) rfl (sub_cons (i := 31) rfl sub_nil)))))))))
      clear f35
      first | refine f36.splitD 31 rfl (fun h1 f37 => ?_) (fun h1 f37 => ?_) | refine f36.splitN 31 rfl (fun h1 f37 => ?_) (fun h1 f37 => ?_) | refine f36.splitNB 31 rfl (fun h1 f37 => ?_) (fun h1 f37 => ?_) | refine f36.split 31 rfl (fun h1 f37 => ?_) (fun h1 f37 => ?_)
      · clear f36
        refine C.condT f37 rfl ?_
        refine wp_skip (hK13 _ _ ?_)
        try clear hK13 K13
        have f38 := f37.sub (sub_cons (i := 1) rfl (sub_cons (i := 7) rfl (sub_cons (i := 8) rfl (sub_cons (i := 9) rfl (sub_cons (i := 10) rfl (sub_cons (i := 11) rfl (sub_cons (i := 29) rfl (sub_cons (i := 30) rfl (sub_cons (i := 31) rfl sub_nil)))))))))
        clear f37
        refine wp_seq_k fun K15 hK15 => ?_
        refine wp_block ?_
        refine wp_seq_k fun K16 hK16 => ?_
        refine wp_seq_k fun K17 hK17 => ?_
        refine C.region ?_
        refine L.val f38 wantedN rfl (by decide) (E.move f38 rfl) fun a39 f39 => ?_
        clear f38 a35
        refine L.val f39 wantedN rfl (by decide) (E.sub f39 rfl rfl (IntWalk.i64_in _ (by omega))) fun a40 f40 => ?_
        clear f39 a39
        refine L.val f40 wantedN rfl (by decide) (E.move f40 rfl) fun a41 f41 => ?_
        clear f40 a40
        refine L.val f41 wantedN rfl (by decide) (E.lenL f41 Try.underlying42 rfl) fun a42 f42 => ?_
        clear f41 a41
        refine L.val f42 wantedN rfl (by decide) (E.geq f42 rfl rfl) fun a43 f43 => ?_
        clear f42 a42
        refine wpList_nil (hK17 _ _ ?_)
        try clear hK17 K17
        have f44 := f43.sub (sub_cons (i := 1) rfl (sub_cons (i := 7) rfl (sub_cons (i := 8) rfl (sub_cons (i := 9) rfl (sub_cons (i := 10) rfl (sub_cons (i := 11) rfl (sub_cons (i := 29) rfl (sub_cons (i := 30) rfl (sub_cons (i := 31) rfl (sub_cons (i := 34) rfl (sub_cons (i := 35) rfl (sub_cons (i := 36) rfl (sub_cons (i := 37) rfl (sub_cons (i := 38) rfl sub_nil))))))))))))))
        clear f43
        first | refine f44.splitD 38 rfl (fun h2 f45 => ?_) (fun h2 f45 => ?_) | refine f44.splitN 38 rfl (fun h2 f45 => ?_) (fun h2 f45 => ?_) | refine f44.splitNB 38 rfl (fun h2 f45 => ?_) (fun h2 f45 => ?_) | refine f44.split 38 rfl (fun h2 f45 => ?_) (fun h2 f45 => ?_)
        · clear f44
          refine C.condT f45 rfl ?_
          refine wp_seq_k fun K18 hK18 => ?_
          refine C.region ?_
          refine L.val f45 wantedN rfl (by decide) (E.assign f45 rfl) fun a46 f46 => ?_
          clear f45 a43
          refine wpList_nil (hK18 _ _ ?_)
          try clear hK18 K18
          have f47 := f46.sub (sub_cons (i := 1) rfl (sub_cons (i := 7) rfl (sub_cons (i := 8) rfl (sub_cons (i := 9) rfl (sub_cons (i := 10) rfl (sub_cons (i := 11) rfl (sub_cons (i := 29) rfl (sub_cons (i := 30) rfl (sub_cons (i := 31) rfl (sub_cons (i := 34) rfl (sub_cons (i := 35) rfl (sub_cons (i := 36) rfl (sub_cons (i := 37) rfl (sub_cons (i := 38) rfl sub_nil))))))))))))))
          clear f46
          refine wp_exit (hK15 _ _ ?_)
          try clear hK15 K15
          have f48 := f47.sub (sub_cons (i := 1) rfl (sub_cons (i := 7) rfl (sub_cons (i := 8) rfl (sub_cons (i := 9) rfl (sub_cons (i := 10) rfl (sub_cons (i := 11) rfl (sub_cons (i := 29) rfl (sub_cons (i := 30) rfl (sub_cons (i := 31) rfl (sub_cons (i := 34) rfl (sub_cons (i := 35) rfl (sub_cons (i := 36) rfl (sub_cons (i := 37) rfl (sub_cons (i := 38) rfl sub_nil))))))))))))))
          clear f47
          refine C.region ?_
          refine L.val f48 wantedN rfl (by decide) (E.move f48 rfl) fun a49 f49 => ?_
          clear f48 a46
          refine L.val f49 wantedN rfl (by decide) (E.add f49 rfl rfl (IntWalk.i64_in _ (by omega))) fun a50 f50 => ?_
          clear f49 a49
          refine L.val f50 wantedN rfl (by decide) (E.assign f50 rfl) fun a51 f51 => ?_
          clear f50 a50
          refine wpList_nil (hKL12 _ _ (gk13 - 1) ?_ ?_)
          · omega
          · exact ⟨k + 1, m, r, fp, en, false, by omega, lo, dO, by rw [show min (k + 1) bs.length = min k bs.length by omega]; exact hr, M, by rw [decide_eq_false (by omega)]; rfl, HK, FO, by simpa using f51.sub (sub_cons rfl (sub_cons rfl (sub_cons rfl (sub_cons rfl (sub_cons rfl (sub_cons rfl sub_nil))))))⟩
        · clear f44
          obtain ⟨b, hb⟩ : ∃ b, bs[k]? = some b := ⟨bs[k]'(by omega), List.getElem?_eq_getElem _⟩
          have hbx := hbb b (List.mem_of_getElem? hb)
          obtain ⟨bk, off, hB⟩ := Sl.addr A1 (by omega)
          refine C.condF f45 rfl ?_
          refine wp_skip (hK16 _ _ ?_)
          try clear hK16 K16
          have f46 := f45.sub (sub_cons (i := 1) rfl (sub_cons (i := 7) rfl (sub_cons (i := 8) rfl (sub_cons (i := 9) rfl (sub_cons (i := 10) rfl (sub_cons (i := 11) rfl (sub_cons (i := 29) rfl (sub_cons (i := 30) rfl (sub_cons (i := 31) rfl (sub_cons (i := 34) rfl (sub_cons (i := 35) rfl (sub_cons (i := 36) rfl (sub_cons (i := 37) rfl (sub_cons (i := 38) rfl sub_nil))))))))))))))
          clear f45
          refine wp_seq_k fun K19 hK19 => ?_
          refine C.region ?_
          refine L.val f46 wantedN rfl (by decide) (E.move f46 rfl) fun a47 f47 => ?_
          clear f46 a43
          refine L.val f47 wantedN rfl (by decide) (E.move f47 rfl) fun a48 f48 => ?_
          clear f47 a47
          refine L.val f48 wantedN rfl (by decide) (E.sub f48 rfl rfl (IntWalk.i64_in _ (by omega))) fun a49 f49 => ?_
          clear f48 a48
          refine L.val f49 wantedN rfl (by decide) (E.indexA f49 (by first | rfl | assumption) Try.underlying42 wsz5_s rfl rfl (by omega) (by omega)) fun a50 f50 => ?_
          clear f49 a49
          refine L.val f50 wantedN rfl (by decide) (by exact E.load f50 Try.underlying5 rfl rfl (ys_cell (A1.kept HK) hB hb (by omega))) fun a51 f51 => ?_
          clear f50 a50
          refine L.val f51 wantedN rfl (by decide) (E.rem f51 rfl rfl (by omega) (Int.tmod_eq_emod_of_nonneg (by omega))) fun a52 f52 => ?_
          clear f51 a51
          refine L.val f52 wantedN rfl (by decide) (E.conv f52 Try.underlying5 Try.underlying3 rfl (IntWalk.i64_in _ (by omega))) fun a53 f53 => ?_
          clear f52 a52
          refine L.val f53 wantedN rfl (by decide) (E.assign f53 rfl) fun a54 f54 => ?_
          clear f53 a53
          refine wpList_nil (hK19 _ _ ?_)
          try clear hK19 K19
          have f55 := f54.sub (sub_cons (i := 1) rfl (sub_cons (i := 7) rfl (sub_cons (i := 8) rfl (sub_cons (i := 9) rfl (sub_cons (i := 10) rfl (sub_cons (i := 11) rfl (sub_cons (i := 12) rfl (sub_cons (i := 29) rfl (sub_cons (i := 30) rfl (sub_cons (i := 31) rfl (sub_cons (i := 34) rfl (sub_cons (i := 35) rfl (sub_cons (i := 36) rfl (sub_cons (i := 37) rfl (sub_cons (i := 38) rfl (sub_cons (i := 39) rfl (sub_cons (i := 40) rfl (sub_cons (i := 41) rfl (sub_cons (i := 42) rfl (sub_cons (i := 43) rfl (sub_cons (i := 44) rfl (sub_cons (i := 45) rfl sub_nil))))))))))))))))))))))
          clear f54
          refine wp_seq_k fun K20 hK20 => ?_
          refine C.region ?_
          refine L.val f55 wantedN rfl (by decide) (E.move f55 rfl) fun a56 f56 => ?_
          clear f55 a54
          refine L.val f56 wantedN rfl (by decide) (E.assign f56 rfl) fun a57 f57 => ?_
          clear f56 a56
          refine wpList_nil (hK20 _ _ ?_)
          try clear hK20 K20
          have f58 := f57.sub (sub_cons (i := 1) rfl (sub_cons (i := 7) rfl (sub_cons (i := 8) rfl (sub_cons (i := 9) rfl (sub_cons (i := 10) rfl (sub_cons (i := 11) rfl (sub_cons (i := 12) rfl (sub_cons (i := 13) rfl (sub_cons (i := 29) rfl (sub_cons (i := 30) rfl (sub_cons (i := 31) rfl (sub_cons (i := 34) rfl (sub_cons (i := 35) rfl (sub_cons (i := 36) rfl (sub_cons (i := 37) rfl (sub_cons (i := 38) rfl (sub_cons (i := 39) rfl (sub_cons (i := 40) rfl (sub_cons (i := 41) rfl (sub_cons (i := 42) rfl (sub_cons (i := 43) rfl (sub_cons (i := 44) rfl (sub_cons (i := 45) rfl (sub_cons (i := 46) rfl sub_nil))))))))))))))))))))))))
          clear f57
          refine wp_seq_k fun K21 hK21 => ?_
          refine wp_seq_k fun K22 hK22 => ?_
          refine C.region ?_
          refine L.val f58 wantedN rfl (by decide) (E.move f58 rfl) fun a59 f59 => ?_
          clear f58 a57
          refine L.val f59 wantedN rfl (by decide) (E.move f59 rfl) fun a60 f60 => ?_
          clear f59 a59
          refine L.val f60 wantedN rfl (by decide) (E.sub f60 rfl rfl (IntWalk.i64_in _ (by omega))) fun a61 f61 => ?_
          clear f60 a60
          refine L.val f61 wantedN rfl (by decide) (E.indexA f61 (by first | rfl | assumption) Try.underlying42 wsz5_s rfl rfl (by omega) (by omega)) fun a62 f62 => ?_
          clear f61 a61
          refine L.val f62 wantedN rfl (by decide) (by exact E.load f62 Try.underlying5 rfl rfl (ys_cell (A1.kept HK) hB hb (by omega))) fun a63 f63 => ?_
          clear f62 a62
          refine L.val f63 wantedN rfl (by decide) (E.geq f63 rfl rfl) fun a64 f64 => ?_
          clear f63 a63
          refine wpList_nil (hK22 _ _ ?_)
          try clear hK22 K22
          have f65 := f64.sub (sub_cons (i := 1) rfl (sub_cons (i := 7) rfl (sub_cons (i := 8) rfl (sub_cons (i := 9) rfl (sub_cons (i := 10) rfl (sub_cons (i := 11) rfl (sub_cons (i := 12) rfl (sub_cons (i := 13) rfl (sub_cons (i := 29) rfl (sub_cons (i := 30) rfl (sub_cons (i := 31) rfl (sub_cons (i := 34) rfl (sub_cons (i := 35) rfl (sub_cons (i := 36) rfl (sub_cons (i := 37) rfl (sub_cons (i := 38) rfl (sub_cons (i := 39) rfl (sub_cons (i := 40) rfl (sub_cons (i := 41) rfl (sub_cons (i := 42) rfl (sub_cons (i := 43) rfl (sub_cons (i := 44) rfl (sub_cons (i := 45) rfl (sub_cons (i := 46) rfl (sub_cons (i := 47) rfl (sub_cons (i := 48) rfl (sub_cons (i := 49) rfl (sub_cons (i := 50) rfl (sub_cons (i := 51) rfl (sub_cons (i := 52) rfl sub_nil))))))))))))))))))))))))))))))
          clear f64
          first | refine f65.splitD 52 rfl (fun h3 f66 => ?_) (fun h3 f66 => ?_) | refine f65.splitN 52 rfl (fun h3 f66 => ?_) (fun h3 f66 => ?_) | refine f65.splitNB 52 rfl (fun h3 f66 => ?_) (fun h3 f66 => ?_) | refine f65.split 52 rfl (fun h3 f66 => ?_) (fun h3 f66 => ?_)
          · clear f65
            refine C.condT f66 rfl ?_
            refine C.region ?_
            refine L.val f66 wantedN rfl (by decide) (E.move f66 rfl) fun a67 f67 => ?_
            clear f66 a64
            refine L.val f67 wantedN rfl (by decide) (E.build f67 (parts3 f67 rfl rfl rfl) (wbl32_0_1_2_s _ _ _)) fun a68 f68 => ?_
            clear f67 a67
            refine L.call f68 wantedN rfl (by decide) (run_call Try.call25 (args2 f68 rfl rfl)) (AddR_any own _ _ ⟨5, 1, 1⟩ _ FO.sl (by omega)) ?_
            rintro e w5 ⟨kc5, Ac, cc, rfl, FC⟩
            refine ⟨_, rfl, fun a69 f69 => ?_⟩
            clear f68 a68
            have szw5 := kc5.size
            replace HK := HK.trans kc5 (by simp)
            replace M := M.kept kc5 (by simp)
            replace FO := FO.kept0 kc5
            clear kc5
            refine L.val f69 wantedN rfl (by decide) (E.assign f69 rfl) fun a70 f70 => ?_
            clear f69 a69
            refine wpList_nil (hK21 _ _ ?_)
            try clear hK21 K21
            have f71 := f70.sub (sub_cons (i := 1) rfl (sub_cons (i := 7) rfl (sub_cons (i := 8) rfl (sub_cons (i := 9) rfl (sub_cons (i := 10) rfl (sub_cons (i := 11) rfl (sub_cons (i := 12) rfl (sub_cons (i := 13) rfl (sub_cons (i := 29) rfl (sub_cons (i := 30) rfl (sub_cons (i := 31) rfl (sub_cons (i := 34) rfl (sub_cons (i := 35) rfl (sub_cons (i := 36) rfl (sub_cons (i := 37) rfl (sub_cons (i := 38) rfl (sub_cons (i := 39) rfl (sub_cons (i := 40) rfl (sub_cons (i := 41) rfl (sub_cons (i := 42) rfl (sub_cons (i := 43) rfl (sub_cons (i := 44) rfl (sub_cons (i := 45) rfl (sub_cons (i := 46) rfl (sub_cons (i := 47) rfl (sub_cons (i := 48) rfl (sub_cons (i := 49) rfl (sub_cons (i := 50) rfl (sub_cons (i := 51) rfl (sub_cons (i := 52) rfl (sub_cons (i := 53) rfl (sub_cons (i := 54) rfl (sub_cons (i := 55) rfl sub_nil)))))))))))))))))))))))))))))))))
            clear f70
            refine wp_seq_k fun K23 hK23 => ?_
            refine wp_seq_k fun K24 hK24 => ?_
            refine C.region ?_
            refine L.val f71 wantedN rfl (by decide) (E.move f71 rfl) fun a72 f72 => ?_
            clear f71 a70
            refine L.val f72 wantedN rfl (by decide) (E.move f72 rfl) fun a73 f73 => ?_
            clear f72 a72
            refine L.val f73 wantedN rfl (by decide) (E.move f73 rfl) fun a74 f74 => ?_
            clear f73 a73
            refine L.val f74 wantedN rfl (by decide) (E.move f74 rfl) fun a75 f75 => ?_
            clear f74 a74
            have hseen : seenOf own b = (addD own ⟨5, 1, 1⟩) := by unfold seenOf; rw [if_pos (by omega)]
            have hsr : rightB (addD own ⟨5, 1, 1⟩) = true := addD_right hro _
            have hH := hear_any m r fp en 0 ((k : Int) + 1) 1 (b % 3) (addD own ⟨5, 1, 1⟩) Ac cc w5 M FC.sl (by have := addD_len own ⟨5, 1, 1⟩; omega)
            rw [hr, show min k bs.length = k by omega] at hH
            unfold HearPost at hH
            rw [hearB_step (by omega) (by omega) hsr (by omega), hearR_step2 hb (by omega) hseen hsr (by omega)] at hH
            refine L.call f75 wantedN rfl (by decide) (run_call Try.call31 (args5 f75 rfl rfl rfl rfl rfl)) hH ?_
            rintro e w6 ⟨rfl, kc6, fp', ⟨r', en', hr', M'⟩, hf'⟩
            have lo' : ∀ x ∈ fp', w.heap.size ≤ x := fun x hx => (hf' x hx).elim (lo x) fun h => by have := HK.size; omega
            have dO' : ∀ b, Aw.map (·.block) = some b → b ∉ fp' := fun b hb hx => (hf' b hx).elim (dO b hb) fun h => by have := (FO.own.blk b ((own_block Aw own.length cw b).2 hb)).1; omega
            have ltM' := M'.lt
            refine ⟨_, rfl, fun a76 f76 => ?_⟩
            clear f75 a75
            have szw6 := kc6.size
            replace HK := HK.trans kc6 (fun x hx hlt => absurd (lo x hx) (by omega))
            replace FO := FO.kept kc6 dO
            clear kc6
            refine L.val f76 wantedN rfl (by decide) (E.not f76 rfl) fun a77 f77 => ?_
            clear f76 a76
            refine wpList_nil (hK24 _ _ ?_)
            try clear hK24 K24
            have f78 := f77.sub (sub_cons (i := 1) rfl (sub_cons (i := 7) rfl (sub_cons (i := 8) rfl (sub_cons (i := 9) rfl (sub_cons (i := 10) rfl (sub_cons (i := 11) rfl (sub_cons (i := 12) rfl (sub_cons (i := 13) rfl (sub_cons (i := 29) rfl (sub_cons (i := 30) rfl (sub_cons (i := 31) rfl (sub_cons (i := 34) rfl (sub_cons (i := 35) rfl (sub_cons (i := 36) rfl (sub_cons (i := 37) rfl (sub_cons (i := 38) rfl (sub_cons (i := 39) rfl (sub_cons (i := 40) rfl (sub_cons (i := 41) rfl (sub_cons (i := 42) rfl (sub_cons (i := 43) rfl (sub_cons (i := 44) rfl (sub_cons (i := 45) rfl (sub_cons (i := 46) rfl (sub_cons (i := 47) rfl (sub_cons (i := 48) rfl (sub_cons (i := 49) rfl (sub_cons (i := 50) rfl (sub_cons (i := 51) rfl (sub_cons (i := 52) rfl (sub_cons (i := 53) rfl (sub_cons (i := 54) rfl (sub_cons (i := 55) rfl (sub_cons (i := 56) rfl (sub_cons (i := 57) rfl (sub_cons (i := 58) rfl (sub_cons (i := 59) rfl (sub_cons (i := 60) rfl (sub_cons (i := 61) rfl sub_nil)))))))))))))))))))))))))))))))))))))))
            clear f77
            refine C.condF f78 rfl ?_
            refine wp_skip (hK23 _ _ ?_)
            try clear hK23 K23
            have f79 := f78.sub (sub_cons (i := 1) rfl (sub_cons (i := 7) rfl (sub_cons (i := 8) rfl (sub_cons (i := 9) rfl (sub_cons (i := 10) rfl (sub_cons (i := 11) rfl (sub_cons (i := 12) rfl (sub_cons (i := 13) rfl (sub_cons (i := 29) rfl (sub_cons (i := 30) rfl (sub_cons (i := 31) rfl (sub_cons (i := 34) rfl (sub_cons (i := 35) rfl (sub_cons (i := 36) rfl (sub_cons (i := 37) rfl (sub_cons (i := 38) rfl (sub_cons (i := 39) rfl (sub_cons (i := 40) rfl (sub_cons (i := 41) rfl (sub_cons (i := 42) rfl (sub_cons (i := 43) rfl (sub_cons (i := 44) rfl (sub_cons (i := 45) rfl (sub_cons (i := 46) rfl (sub_cons (i := 47) rfl (sub_cons (i := 48) rfl (sub_cons (i := 49) rfl (sub_cons (i := 50) rfl (sub_cons (i := 51) rfl (sub_cons (i := 52) rfl (sub_cons (i := 53) rfl (sub_cons (i := 54) rfl (sub_cons (i := 55) rfl (sub_cons (i := 56) rfl (sub_cons (i := 57) rfl (sub_cons (i := 58) rfl (sub_cons (i := 59) rfl (sub_cons (i := 60) rfl (sub_cons (i := 61) rfl sub_nil)))))))))))))))))))))))))))))))))))))))
            clear f78
            refine C.region ?_
            refine L.val f79 wantedN rfl (by decide) (E.move f79 rfl) fun a80 f80 => ?_
            clear f79 a77
            refine L.val f80 wantedN rfl (by decide) (E.move f80 rfl) fun a81 f81 => ?_
            clear f80 a80
            first | refine f81.splitD 63 rfl (fun h4 f82 => ?_) (fun h4 f82 => ?_) | refine f81.splitN 63 rfl (fun h4 f82 => ?_) (fun h4 f82 => ?_) | refine f81.splitNB 63 rfl (fun h4 f82 => ?_) (fun h4 f82 => ?_) | refine f81.split 63 rfl (fun h4 f82 => ?_) (fun h4 f82 => ?_)
            · clear f81
              refine L.val f82 (f82.yes rfl rfl) rfl (by decide) (E.move f82 rfl) fun a83 f83 => ?_
              clear f82 a81
              refine L.val f83 (f83.yes rfl rfl) rfl (by decide) (E.eql f83 rfl rfl) fun a84 f84 => ?_
              clear f83 a83
              refine L.val f84 wantedN rfl (by decide) (E.pickT f84 rfl rfl) fun a85 f85 => ?_
              clear f84 a84
              refine L.val f85 wantedN rfl (by decide) (E.move f85 rfl) fun a86 f86 => ?_
              clear f85 a85
              first | refine f86.splitD 67 rfl (fun h5 f87 => ?_) (fun h5 f87 => ?_) | refine f86.splitN 67 rfl (fun h5 f87 => ?_) (fun h5 f87 => ?_) | refine f86.splitNB 67 rfl (fun h5 f87 => ?_) (fun h5 f87 => ?_) | refine f86.split 67 rfl (fun h5 f87 => ?_) (fun h5 f87 => ?_)
              · clear f86
                refine L.val f87 (f87.yes rfl rfl) rfl (by decide) (E.move f87 rfl) fun a88 f88 => ?_
                clear f87 a86
                refine L.val f88 (f88.yes rfl rfl) rfl (by decide) (E.move f88 rfl) fun a89 f89 => ?_
                clear f88 a88
                refine L.val f89 (f89.yes rfl rfl) rfl (by decide) (E.sub f89 rfl rfl (IntWalk.i64_in _ (by omega))) fun a90 f90 => ?_
                clear f89 a89
                refine L.val f90 (f90.yes rfl rfl) rfl (by decide) (E.indexA f90 (by first | rfl | assumption) Try.underlying42 wsz5_s rfl rfl (by omega) (by omega)) fun a91 f91 => ?_
                clear f90 a90
                refine L.val f91 (f91.yes rfl rfl) rfl (by decide) (by exact E.load f91 Try.underlying5 rfl rfl (ys_cell (A1.kept HK) hB hb (by omega))) fun a92 f92 => ?_
                clear f91 a91
                refine L.val f92 (f92.yes rfl rfl) rfl (by decide) (E.lss f92 rfl rfl) fun a93 f93 => ?_
                clear f92 a92
                refine L.val f93 wantedN rfl (by decide) (E.pickT f93 rfl rfl) fun a94 f94 => ?_
                clear f93 a93
                refine L.val f94 wantedN rfl (by decide) (E.assign f94 rfl) fun a95 f95 => ?_
                clear f94 a94
                refine wpList_nil (hK15 _ _ ?_)
                try clear hK15 K15
                have f96 := f95.sub (sub_cons (i := 1) rfl (sub_cons (i := 7) rfl (sub_cons (i := 8) rfl (sub_cons (i := 9) rfl (sub_cons (i := 10) rfl (sub_cons (i := 11) rfl (sub_cons (i := 12) rfl (sub_cons (i := 13) rfl (sub_cons (i := 29) rfl (sub_cons (i := 30) rfl (sub_cons (i := 31) rfl (sub_cons (i := 34) rfl (sub_cons (i := 35) rfl (sub_cons (i := 36) rfl (sub_cons (i := 37) rfl (sub_cons (i := 38) rfl (sub_cons (i := 39) rfl (sub_cons (i := 40) rfl (sub_cons (i := 41) rfl (sub_cons (i := 42) rfl (sub_cons (i := 43) rfl (sub_cons (i := 44) rfl (sub_cons (i := 45) rfl (sub_cons (i := 46) rfl (sub_cons (i := 47) rfl (sub_cons (i := 48) rfl (sub_cons (i := 49) rfl (sub_cons (i := 50) rfl (sub_cons (i := 51) rfl (sub_cons (i := 52) rfl (sub_cons (i := 53) rfl (sub_cons (i := 54) rfl (sub_cons (i := 55) rfl (sub_cons (i := 56) rfl (sub_cons (i := 57) rfl (sub_cons (i := 58) rfl (sub_cons (i := 59) rfl (sub_cons (i := 60) rfl (sub_cons (i := 61) rfl (sub_cons (i := 62) rfl (sub_cons (i := 63) rfl (sub_cons (i := 64) rfl (sub_cons (i := 65) rfl (sub_cons (i := 66) rfl (sub_cons (i := 67) rfl (sub_cons (i := 68) rfl (sub_cons (i := 69) rfl (sub_cons (i := 70) rfl (sub_cons (i := 71) rfl (sub_cons (i := 72) rfl (sub_cons (i := 73) rfl (sub_cons (i := 74) rfl sub_nil))))))))))))))))))))))))))))))))))))))))))))))))))))
                clear f95
                refine C.region ?_
                refine L.val f96 wantedN rfl (by decide) (E.move f96 rfl) fun a97 f97 => ?_
                clear f96 a95
                refine L.val f97 wantedN rfl (by decide) (E.add f97 rfl rfl (IntWalk.i64_in _ (by omega))) fun a98 f98 => ?_
                clear f97 a97
                refine L.val f98 wantedN rfl (by decide) (E.assign f98 rfl) fun a99 f99 => ?_
                clear f98 a98
                refine wpList_nil (hKL12 _ _ (gk13 - 1) ?_ ?_)
                · omega
                · exact ⟨k + 1, m, r', fp', en', decide (b < 200), by omega, lo', dO', by rw [show min (k + 1) bs.length = k + 1 by omega]; exact hr', M', al_step hb hal (by clear hal; simp [goodB, *]), HK, FO, by simpa using f99.sub (sub_cons rfl (sub_cons rfl (sub_cons rfl (sub_cons rfl (sub_cons rfl (sub_cons rfl sub_nil))))))⟩
              · clear f86
                refine L.skip f87 (f87.noT rfl rfl) rfl (by decide) fun a88 f88 => ?_
                clear f87 a86
                refine L.skip f88 (f88.noT rfl rfl) rfl (by decide) fun a89 f89 => ?_
                clear f88 a88
                refine L.skip f89 (f89.noT rfl rfl) rfl (by decide) fun a90 f90 => ?_
                clear f89 a89
                refine L.skip f90 (f90.noT rfl rfl) rfl (by decide) fun a91 f91 => ?_
                clear f90 a90
                refine L.skip f91 (f91.noT rfl rfl) rfl (by decide) fun a92 f92 => ?_
                clear f91 a91
                refine L.skip f92 (f92.noT rfl rfl) rfl (by decide) fun a93 f93 => ?_
                clear f92 a92
                refine L.val f93 wantedN rfl (by decide) (E.pickF f93 rfl rfl) fun a94 f94 => ?_
                clear f93 a93
                refine L.val f94 wantedN rfl (by decide) (E.assign f94 rfl) fun a95 f95 => ?_
                clear f94 a94
                refine wpList_nil (hK15 _ _ ?_)
                try clear hK15 K15
                have f96 := f95.sub (sub_cons (i := 1) rfl (sub_cons (i := 7) rfl (sub_cons (i := 8) rfl (sub_cons (i := 9) rfl (sub_cons (i := 10) rfl (sub_cons (i := 11) rfl (sub_cons (i := 12) rfl (sub_cons (i := 13) rfl (sub_cons (i := 29) rfl (sub_cons (i := 30) rfl (sub_cons (i := 31) rfl (sub_cons (i := 34) rfl (sub_cons (i := 35) rfl (sub_cons (i := 36) rfl (sub_cons (i := 37) rfl (sub_cons (i := 38) rfl (sub_cons (i := 39) rfl (sub_cons (i := 40) rfl (sub_cons (i := 41) rfl (sub_cons (i := 42) rfl (sub_cons (i := 43) rfl (sub_cons (i := 44) rfl (sub_cons (i := 45) rfl (sub_cons (i := 46) rfl (sub_cons (i := 47) rfl (sub_cons (i := 48) rfl (sub_cons (i := 49) rfl (sub_cons (i := 50) rfl (sub_cons (i := 51) rfl (sub_cons (i := 52) rfl (sub_cons (i := 53) rfl (sub_cons (i := 54) rfl (sub_cons (i := 55) rfl (sub_cons (i := 56) rfl (sub_cons (i := 57) rfl (sub_cons (i := 58) rfl (sub_cons (i := 59) rfl (sub_cons (i := 60) rfl (sub_cons (i := 61) rfl (sub_cons (i := 62) rfl (sub_cons (i := 63) rfl (sub_cons (i := 64) rfl (sub_cons (i := 65) rfl (sub_cons (i := 66) rfl (sub_cons (i := 67) rfl (sub_cons (i := 68) rfl (sub_cons (i := 69) rfl (sub_cons (i := 70) rfl (sub_cons (i := 71) rfl (sub_cons (i := 72) rfl (sub_cons (i := 73) rfl (sub_cons (i := 74) rfl sub_nil))))))))))))))))))))))))))))))))))))))))))))))))))))
                clear f95
                refine C.region ?_
                refine L.val f96 wantedN rfl (by decide) (E.move f96 rfl) fun a97 f97 => ?_
                clear f96 a95
                refine L.val f97 wantedN rfl (by decide) (E.add f97 rfl rfl (IntWalk.i64_in _ (by omega))) fun a98 f98 => ?_
                clear f97 a97
                refine L.val f98 wantedN rfl (by decide) (E.assign f98 rfl) fun a99 f99 => ?_
                clear f98 a98
                refine wpList_nil (hKL12 _ _ (gk13 - 1) ?_ ?_)
                · omega
                · exact ⟨k + 1, m, r', fp', en', false, by omega, lo', dO', by rw [show min (k + 1) bs.length = k + 1 by omega]; exact hr', M', al_step hb hal (by clear hal; simp [goodB, *]), HK, FO, by simpa using f99.sub (sub_cons rfl (sub_cons rfl (sub_cons rfl (sub_cons rfl (sub_cons rfl (sub_cons rfl sub_nil))))))⟩
            · clear f81
              refine L.skip f82 (f82.noT rfl rfl) rfl (by decide) fun a83 f83 => ?_
              clear f82 a81
              refine L.skip f83 (f83.noT rfl rfl) rfl (by decide) fun a84 f84 => ?_
              clear f83 a83
              refine L.val f84 wantedN rfl (by decide) (E.pickF f84 rfl rfl) fun a85 f85 => ?_
              clear f84 a84
              refine L.val f85 wantedN rfl (by decide) (E.move f85 rfl) fun a86 f86 => ?_
              clear f85 a85
              refine L.skip f86 (f86.noT rfl rfl) rfl (by decide) fun a87 f87 => ?_
              clear f86 a86
              refine L.skip f87 (f87.noT rfl rfl) rfl (by decide) fun a88 f88 => ?_
              clear f87 a87
              refine L.skip f88 (f88.noT rfl rfl) rfl (by decide) fun a89 f89 => ?_
              clear f88 a88
              refine L.skip f89 (f89.noT rfl rfl) rfl (by decide) fun a90 f90 => ?_
              clear f89 a89
              refine L.skip f90 (f90.noT rfl rfl) rfl (by decide) fun a91 f91 => ?_
              clear f90 a90
              refine L.skip f91 (f91.noT rfl rfl) rfl (by decide) fun a92 f92 => ?_
              clear f91 a91
              refine L.val f92 wantedN rfl (by decide) (E.pickF f92 rfl rfl) fun a93 f93 => ?_
              clear f92 a92
              refine L.val f93 wantedN rfl (by decide) (E.assign f93 rfl) fun a94 f94 => ?_
              clear f93 a93
              refine wpList_nil (hK15 _ _ ?_)
              try clear hK15 K15
              have f95 := f94.sub (sub_cons (i := 1) rfl (sub_cons (i := 7) rfl (sub_cons (i := 8) rfl (sub_cons (i := 9) rfl (sub_cons (i := 10) rfl (sub_cons (i := 11) rfl (sub_cons (i := 12) rfl (sub_cons (i := 13) rfl (sub_cons (i := 29) rfl (sub_cons (i := 30) rfl (sub_cons (i := 31) rfl (sub_cons (i := 34) rfl (sub_cons (i := 35) rfl (sub_cons (i := 36) rfl (sub_cons (i := 37) rfl (sub_cons (i := 38) rfl (sub_cons (i := 39) rfl (sub_cons (i := 40) rfl (sub_cons (i := 41) rfl (sub_cons (i := 42) rfl (sub_cons (i := 43) rfl (sub_cons (i := 44) rfl (sub_cons (i := 45) rfl (sub_cons (i := 46) rfl (sub_cons (i := 47) rfl (sub_cons (i := 48) rfl (sub_cons (i := 49) rfl (sub_cons (i := 50) rfl (sub_cons (i := 51) rfl (sub_cons (i := 52) rfl (sub_cons (i := 53) rfl (sub_cons (i := 54) rfl (sub_cons (i := 55) rfl (sub_cons (i := 56) rfl (sub_cons (i := 57) rfl (sub_cons (i := 58) rfl (sub_cons (i := 59) rfl (sub_cons (i := 60) rfl (sub_cons (i := 61) rfl (sub_cons (i := 62) rfl (sub_cons (i := 63) rfl (sub_cons (i := 64) rfl (sub_cons (i := 65) rfl (sub_cons (i := 66) rfl (sub_cons (i := 67) rfl (sub_cons (i := 68) rfl (sub_cons (i := 69) rfl (sub_cons (i := 70) rfl (sub_cons (i := 71) rfl (sub_cons (i := 72) rfl (sub_cons (i := 73) rfl (sub_cons (i := 74) rfl sub_nil))))))))))))))))))))))))))))))))))))))))))))))))))))
              clear f94
              refine C.region ?_
              refine L.val f95 wantedN rfl (by decide) (E.move f95 rfl) fun a96 f96 => ?_
              clear f95 a94
              refine L.val f96 wantedN rfl (by decide) (E.add f96 rfl rfl (IntWalk.i64_in _ (by omega))) fun a97 f97 => ?_
              clear f96 a96
              refine L.val f97 wantedN rfl (by decide) (E.assign f97 rfl) fun a98 f98 => ?_
              clear f97 a97
              refine wpList_nil (hKL12 _ _ (gk13 - 1) ?_ ?_)
              · omega
              · exact ⟨k + 1, m, r', fp', en', false, by omega, lo', dO', by rw [show min (k + 1) bs.length = k + 1 by omega]; exact hr', M', al_step hb hal (by clear hal; simp [goodB, *]), HK, FO, by simpa using f98.sub (sub_cons rfl (sub_cons rfl (sub_cons rfl (sub_cons rfl (sub_cons rfl (sub_cons rfl sub_nil))))))⟩
          · clear f65
            refine C.condF f66 rfl ?_
            refine wp_skip (hK21 _ _ ?_)
            try clear hK21 K21
            have f67 := f66.sub (sub_cons (i := 1) rfl (sub_cons (i := 7) rfl (sub_cons (i := 8) rfl (sub_cons (i := 9) rfl (sub_cons (i := 10) rfl (sub_cons (i := 11) rfl (sub_cons (i := 12) rfl (sub_cons (i := 13) rfl (sub_cons (i := 29) rfl (sub_cons (i := 30) rfl (sub_cons (i := 31) rfl (sub_cons (i := 34) rfl (sub_cons (i := 35) rfl (sub_cons (i := 36) rfl (sub_cons (i := 37) rfl (sub_cons (i := 38) rfl (sub_cons (i := 39) rfl (sub_cons (i := 40) rfl (sub_cons (i := 41) rfl (sub_cons (i := 42) rfl (sub_cons (i := 43) rfl (sub_cons (i := 44) rfl (sub_cons (i := 45) rfl (sub_cons (i := 46) rfl (sub_cons (i := 47) rfl (sub_cons (i := 48) rfl (sub_cons (i := 49) rfl (sub_cons (i := 50) rfl (sub_cons (i := 51) rfl (sub_cons (i := 52) rfl sub_nil))))))))))))))))))))))))))))))
            clear f66
            refine wp_seq_k fun K25 hK25 => ?_
            refine wp_seq_k fun K26 hK26 => ?_
            refine C.region ?_
            refine L.val f67 wantedN rfl (by decide) (E.move f67 rfl) fun a68 f68 => ?_
            clear f67 a64
            refine L.val f68 wantedN rfl (by decide) (E.move f68 rfl) fun a69 f69 => ?_
            clear f68 a68
            refine L.val f69 wantedN rfl (by decide) (E.move f69 rfl) fun a70 f70 => ?_
            clear f69 a69
            refine L.val f70 wantedN rfl (by decide) (E.move f70 rfl) fun a71 f71 => ?_
            clear f70 a70
            have hseen : seenOf own b = own := by unfold seenOf; rw [if_neg (by omega)]
            have hsr : rightB own = true := hro
            have hH := hear_any m r fp en 0 ((k : Int) + 1) 1 (b % 3) own Aw cw w4 M FO.sl (by omega)
            rw [hr, show min k bs.length = k by omega] at hH
            unfold HearPost at hH
            rw [hearB_step (by omega) (by omega) hsr (by omega), hearR_step2 hb (by omega) hseen hsr (by omega)] at hH
            refine L.call f71 wantedN rfl (by decide) (run_call Try.call31 (args5 f71 rfl rfl rfl rfl rfl)) hH ?_
            rintro e w5 ⟨rfl, kc5, fp', ⟨r', en', hr', M'⟩, hf'⟩
            have lo' : ∀ x ∈ fp', w.heap.size ≤ x := fun x hx => (hf' x hx).elim (lo x) fun h => by have := HK.size; omega
            have dO' : ∀ b, Aw.map (·.block) = some b → b ∉ fp' := fun b hb hx => (hf' b hx).elim (dO b hb) fun h => by have := (FO.own.blk b ((own_block Aw own.length cw b).2 hb)).1; omega
            have ltM' := M'.lt
            refine ⟨_, rfl, fun a72 f72 => ?_⟩
            clear f71 a71
            have szw5 := kc5.size
            replace HK := HK.trans kc5 (fun x hx hlt => absurd (lo x hx) (by omega))
            replace FO := FO.kept kc5 dO
            clear kc5
            refine L.val f72 wantedN rfl (by decide) (E.not f72 rfl) fun a73 f73 => ?_
            clear f72 a72
            refine wpList_nil (hK26 _ _ ?_)
            try clear hK26 K26
            have f74 := f73.sub (sub_cons (i := 1) rfl (sub_cons (i := 7) rfl (sub_cons (i := 8) rfl (sub_cons (i := 9) rfl (sub_cons (i := 10) rfl (sub_cons (i := 11) rfl (sub_cons (i := 12) rfl (sub_cons (i := 13) rfl (sub_cons (i := 29) rfl (sub_cons (i := 30) rfl (sub_cons (i := 31) rfl (sub_cons (i := 34) rfl (sub_cons (i := 35) rfl (sub_cons (i := 36) rfl (sub_cons (i := 37) rfl (sub_cons (i := 38) rfl (sub_cons (i := 39) rfl (sub_cons (i := 40) rfl (sub_cons (i := 41) rfl (sub_cons (i := 42) rfl (sub_cons (i := 43) rfl (sub_cons (i := 44) rfl (sub_cons (i := 45) rfl (sub_cons (i := 46) rfl (sub_cons (i := 47) rfl (sub_cons (i := 48) rfl (sub_cons (i := 49) rfl (sub_cons (i := 50) rfl (sub_cons (i := 51) rfl (sub_cons (i := 52) rfl (sub_cons (i := 56) rfl (sub_cons (i := 57) rfl (sub_cons (i := 58) rfl (sub_cons (i := 59) rfl (sub_cons (i := 60) rfl (sub_cons (i := 61) rfl sub_nil))))))))))))))))))))))))))))))))))))
            clear f73
            refine C.condF f74 rfl ?_
            refine wp_skip (hK25 _ _ ?_)
            try clear hK25 K25
            have f75 := f74.sub (sub_cons (i := 1) rfl (sub_cons (i := 7) rfl (sub_cons (i := 8) rfl (sub_cons (i := 9) rfl (sub_cons (i := 10) rfl (sub_cons (i := 11) rfl (sub_cons (i := 12) rfl (sub_cons (i := 13) rfl (sub_cons (i := 29) rfl (sub_cons (i := 30) rfl (sub_cons (i := 31) rfl (sub_cons (i := 34) rfl (sub_cons (i := 35) rfl (sub_cons (i := 36) rfl (sub_cons (i := 37) rfl (sub_cons (i := 38) rfl (sub_cons (i := 39) rfl (sub_cons (i := 40) rfl (sub_cons (i := 41) rfl (sub_cons (i := 42) rfl (sub_cons (i := 43) rfl (sub_cons (i := 44) rfl (sub_cons (i := 45) rfl (sub_cons (i := 46) rfl (sub_cons (i := 47) rfl (sub_cons (i := 48) rfl (sub_cons (i := 49) rfl (sub_cons (i := 50) rfl (sub_cons (i := 51) rfl (sub_cons (i := 52) rfl (sub_cons (i := 56) rfl (sub_cons (i := 57) rfl (sub_cons (i := 58) rfl (sub_cons (i := 59) rfl (sub_cons (i := 60) rfl (sub_cons (i := 61) rfl sub_nil))))))))))))))))))))))))))))))))))))
            clear f74
            refine C.region ?_
            refine L.val f75 wantedN rfl (by decide) (E.move f75 rfl) fun a76 f76 => ?_
            clear f75 a73
            refine L.val f76 wantedN rfl (by decide) (E.move f76 rfl) fun a77 f77 => ?_
            clear f76 a76
            first | refine f77.splitD 63 rfl (fun h6 f78 => ?_) (fun h6 f78 => ?_) | refine f77.splitN 63 rfl (fun h6 f78 => ?_) (fun h6 f78 => ?_) | refine f77.splitNB 63 rfl (fun h6 f78 => ?_) (fun h6 f78 => ?_) | refine f77.split 63 rfl (fun h6 f78 => ?_) (fun h6 f78 => ?_)
            · clear f77
              refine L.val f78 (f78.yes rfl rfl) rfl (by decide) (E.move f78 rfl) fun a79 f79 => ?_
              clear f78 a77
              refine L.val f79 (f79.yes rfl rfl) rfl (by decide) (E.eql f79 rfl rfl) fun a80 f80 => ?_
              clear f79 a79
              refine L.val f80 wantedN rfl (by decide) (E.pickT f80 rfl rfl) fun a81 f81 => ?_
              clear f80 a80
              refine L.val f81 wantedN rfl (by decide) (E.move f81 rfl) fun a82 f82 => ?_
              clear f81 a81
              first | refine f82.splitD 67 rfl (fun h7 f83 => ?_) (fun h7 f83 => ?_) | refine f82.splitN 67 rfl (fun h7 f83 => ?_) (fun h7 f83 => ?_) | refine f82.splitNB 67 rfl (fun h7 f83 => ?_) (fun h7 f83 => ?_) | refine f82.split 67 rfl (fun h7 f83 => ?_) (fun h7 f83 => ?_)
              · clear f82
                refine L.val f83 (f83.yes rfl rfl) rfl (by decide) (E.move f83 rfl) fun a84 f84 => ?_
                clear f83 a82
                refine L.val f84 (f84.yes rfl rfl) rfl (by decide) (E.move f84 rfl) fun a85 f85 => ?_
                clear f84 a84
                refine L.val f85 (f85.yes rfl rfl) rfl (by decide) (E.sub f85 rfl rfl (IntWalk.i64_in _ (by omega))) fun a86 f86 => ?_
                clear f85 a85
                refine L.val f86 (f86.yes rfl rfl) rfl (by decide) (E.indexA f86 (by first | rfl | assumption) Try.underlying42 wsz5_s rfl rfl (by omega) (by omega)) fun a87 f87 => ?_
                clear f86 a86
                refine L.val f87 (f87.yes rfl rfl) rfl (by decide) (by exact E.load f87 Try.underlying5 rfl rfl (ys_cell (A1.kept HK) hB hb (by omega))) fun a88 f88 => ?_
                clear f87 a87
                refine L.val f88 (f88.yes rfl rfl) rfl (by decide) (E.lss f88 rfl rfl) fun a89 f89 => ?_
                clear f88 a88
                refine L.val f89 wantedN rfl (by decide) (E.pickT f89 rfl rfl) fun a90 f90 => ?_
                clear f89 a89
                refine L.val f90 wantedN rfl (by decide) (E.assign f90 rfl) fun a91 f91 => ?_
                clear f90 a90
                refine wpList_nil (hK15 _ _ ?_)
                try clear hK15 K15
                have f92 := f91.sub (sub_cons (i := 1) rfl (sub_cons (i := 7) rfl (sub_cons (i := 8) rfl (sub_cons (i := 9) rfl (sub_cons (i := 10) rfl (sub_cons (i := 11) rfl (sub_cons (i := 12) rfl (sub_cons (i := 13) rfl (sub_cons (i := 29) rfl (sub_cons (i := 30) rfl (sub_cons (i := 31) rfl (sub_cons (i := 34) rfl (sub_cons (i := 35) rfl (sub_cons (i := 36) rfl (sub_cons (i := 37) rfl (sub_cons (i := 38) rfl (sub_cons (i := 39) rfl (sub_cons (i := 40) rfl (sub_cons (i := 41) rfl (sub_cons (i := 42) rfl (sub_cons (i := 43) rfl (sub_cons (i := 44) rfl (sub_cons (i := 45) rfl (sub_cons (i := 46) rfl (sub_cons (i := 47) rfl (sub_cons (i := 48) rfl (sub_cons (i := 49) rfl (sub_cons (i := 50) rfl (sub_cons (i := 51) rfl (sub_cons (i := 52) rfl (sub_cons (i := 56) rfl (sub_cons (i := 57) rfl (sub_cons (i := 58) rfl (sub_cons (i := 59) rfl (sub_cons (i := 60) rfl (sub_cons (i := 61) rfl (sub_cons (i := 62) rfl (sub_cons (i := 63) rfl (sub_cons (i := 64) rfl (sub_cons (i := 65) rfl (sub_cons (i := 66) rfl (sub_cons (i := 67) rfl (sub_cons (i := 68) rfl (sub_cons (i := 69) rfl (sub_cons (i := 70) rfl (sub_cons (i := 71) rfl (sub_cons (i := 72) rfl (sub_cons (i := 73) rfl (sub_cons (i := 74) rfl sub_nil)))))))))))))))))))))))))))))))))))))))))))))))))
                clear f91
                refine C.region ?_
                refine L.val f92 wantedN rfl (by decide) (E.move f92 rfl) fun a93 f93 => ?_
                clear f92 a91
                refine L.val f93 wantedN rfl (by decide) (E.add f93 rfl rfl (IntWalk.i64_in _ (by omega))) fun a94 f94 => ?_
                clear f93 a93
                refine L.val f94 wantedN rfl (by decide) (E.assign f94 rfl) fun a95 f95 => ?_
                clear f94 a94
                refine wpList_nil (hKL12 _ _ (gk13 - 1) ?_ ?_)
                · omega
                · exact ⟨k + 1, m, r', fp', en', decide (b < 200), by omega, lo', dO', by rw [show min (k + 1) bs.length = k + 1 by omega]; exact hr', M', al_step hb hal (by clear hal; simp [goodB, *]), HK, FO, by simpa using f95.sub (sub_cons rfl (sub_cons rfl (sub_cons rfl (sub_cons rfl (sub_cons rfl (sub_cons rfl sub_nil))))))⟩
              · clear f82
                refine L.skip f83 (f83.noT rfl rfl) rfl (by decide) fun a84 f84 => ?_
                clear f83 a82
                refine L.skip f84 (f84.noT rfl rfl) rfl (by decide) fun a85 f85 => ?_
                clear f84 a84
                refine L.skip f85 (f85.noT rfl rfl) rfl (by decide) fun a86 f86 => ?_
                clear f85 a85
                refine L.skip f86 (f86.noT rfl rfl) rfl (by decide) fun a87 f87 => ?_
                clear f86 a86
                refine L.skip f87 (f87.noT rfl rfl) rfl (by decide) fun a88 f88 => ?_
                clear f87 a87
                refine L.skip f88 (f88.noT rfl rfl) rfl (by decide) fun a89 f89 => ?_
                clear f88 a88
                refine L.val f89 wantedN rfl (by decide) (E.pickF f89 rfl rfl) fun a90 f90 => ?_
                clear f89 a89
                refine L.val f90 wantedN rfl (by decide) (E.assign f90 rfl) fun a91 f91 => ?_
                clear f90 a90
                refine wpList_nil (hK15 _ _ ?_)
                try clear hK15 K15
                have f92 := f91.sub (sub_cons (i := 1) rfl (sub_cons (i := 7) rfl (sub_cons (i := 8) rfl (sub_cons (i := 9) rfl (sub_cons (i := 10) rfl (sub_cons (i := 11) rfl (sub_cons (i := 12) rfl (sub_cons (i := 13) rfl (sub_cons (i := 29) rfl (sub_cons (i := 30) rfl (sub_cons (i := 31) rfl (sub_cons (i := 34) rfl (sub_cons (i := 35) rfl (sub_cons (i := 36) rfl (sub_cons (i := 37) rfl (sub_cons (i := 38) rfl (sub_cons (i := 39) rfl (sub_cons (i := 40) rfl (sub_cons (i := 41) rfl (sub_cons (i := 42) rfl (sub_cons (i := 43) rfl (sub_cons (i := 44) rfl (sub_cons (i := 45) rfl (sub_cons (i := 46) rfl (sub_cons (i := 47) rfl (sub_cons (i := 48) rfl (sub_cons (i := 49) rfl (sub_cons (i := 50) rfl (sub_cons (i := 51) rfl (sub_cons (i := 52) rfl (sub_cons (i := 56) rfl (sub_cons (i := 57) rfl (sub_cons (i := 58) rfl (sub_cons (i := 59) rfl (sub_cons (i := 60) rfl (sub_cons (i := 61) rfl (sub_cons (i := 62) rfl (sub_cons (i := 63) rfl (sub_cons (i := 64) rfl (sub_cons (i := 65) rfl (sub_cons (i := 66) rfl (sub_cons (i := 67) rfl (sub_cons (i := 68) rfl (sub_cons (i := 69) rfl (sub_cons (i := 70) rfl (sub_cons (i := 71) rfl (sub_cons (i := 72) rfl (sub_cons (i := 73) rfl (sub_cons (i := 74) rfl sub_nil)))))))))))))))))))))))))))))))))))))))))))))))))
                clear f91
                refine C.region ?_
                refine L.val f92 wantedN rfl (by decide) (E.move f92 rfl) fun a93 f93 => ?_
                clear f92 a91
                refine L.val f93 wantedN rfl (by decide) (E.add f93 rfl rfl (IntWalk.i64_in _ (by omega))) fun a94 f94 => ?_
                clear f93 a93
                refine L.val f94 wantedN rfl (by decide) (E.assign f94 rfl) fun a95 f95 => ?_
                clear f94 a94
                refine wpList_nil (hKL12 _ _ (gk13 - 1) ?_ ?_)
                · omega
                · exact ⟨k + 1, m, r', fp', en', false, by omega, lo', dO', by rw [show min (k + 1) bs.length = k + 1 by omega]; exact hr', M', al_step hb hal (by clear hal; simp [goodB, *]), HK, FO, by simpa using f95.sub (sub_cons rfl (sub_cons rfl (sub_cons rfl (sub_cons rfl (sub_cons rfl (sub_cons rfl sub_nil))))))⟩
            · clear f77
              refine L.skip f78 (f78.noT rfl rfl) rfl (by decide) fun a79 f79 => ?_
              clear f78 a77
              refine L.skip f79 (f79.noT rfl rfl) rfl (by decide) fun a80 f80 => ?_
              clear f79 a79
              refine L.val f80 wantedN rfl (by decide) (E.pickF f80 rfl rfl) fun a81 f81 => ?_
              clear f80 a80
              refine L.val f81 wantedN rfl (by decide) (E.move f81 rfl) fun a82 f82 => ?_
              clear f81 a81
              refine L.skip f82 (f82.noT rfl rfl) rfl (by decide) fun a83 f83 => ?_
              clear f82 a82
              refine L.skip f83 (f83.noT rfl rfl) rfl (by decide) fun a84 f84 => ?_
              clear f83 a83
              refine L.skip f84 (f84.noT rfl rfl) rfl (by decide) fun a85 f85 => ?_
              clear f84 a84
              refine L.skip f85 (f85.noT rfl rfl) rfl (by decide) fun a86 f86 => ?_
              clear f85 a85
              refine L.skip f86 (f86.noT rfl rfl) rfl (by decide) fun a87 f87 => ?_
              clear f86 a86
              refine L.skip f87 (f87.noT rfl rfl) rfl (by decide) fun a88 f88 => ?_
              clear f87 a87
              refine L.val f88 wantedN rfl (by decide) (E.pickF f88 rfl rfl) fun a89 f89 => ?_
              clear f88 a88
              refine L.val f89 wantedN rfl (by decide) (E.assign f89 rfl) fun a90 f90 => ?_
              clear f89 a89
              refine wpList_nil (hK15 _ _ ?_)
              try clear hK15 K15
              have f91 := f90.sub (sub_cons (i := 1) rfl (sub_cons (i := 7) rfl (sub_cons (i := 8) rfl (sub_cons (i := 9) rfl (sub_cons (i := 10) rfl (sub_cons (i := 11) rfl (sub_cons (i := 12) rfl (sub_cons (i := 13) rfl (sub_cons (i := 29) rfl (sub_cons (i := 30) rfl (sub_cons (i := 31) rfl (sub_cons (i := 34) rfl (sub_cons (i := 35) rfl (sub_cons (i := 36) rfl (sub_cons (i := 37) rfl (sub_cons (i := 38) rfl (sub_cons (i := 39) rfl (sub_cons (i := 40) rfl (sub_cons (i := 41) rfl (sub_cons (i := 42) rfl (sub_cons (i := 43) rfl (sub_cons (i := 44) rfl (sub_cons (i := 45) rfl (sub_cons (i := 46) rfl (sub_cons (i := 47) rfl (sub_cons (i := 48) rfl (sub_cons (i := 49) rfl (sub_cons (i := 50) rfl (sub_cons (i := 51) rfl (sub_cons (i := 52) rfl (sub_cons (i := 56) rfl (sub_cons (i := 57) rfl (sub_cons (i := 58) rfl (sub_cons (i := 59) rfl (sub_cons (i := 60) rfl (sub_cons (i := 61) rfl (sub_cons (i := 62) rfl (sub_cons (i := 63) rfl (sub_cons (i := 64) rfl (sub_cons (i := 65) rfl (sub_cons (i := 66) rfl (sub_cons (i := 67) rfl (sub_cons (i := 68) rfl (sub_cons (i := 69) rfl (sub_cons (i := 70) rfl (sub_cons (i := 71) rfl (sub_cons (i := 72) rfl (sub_cons (i := 73) rfl (sub_cons (i := 74) rfl sub_nil)))))))))))))))))))))))))))))))))))))))))))))))))
              clear f90
              refine C.region ?_
              refine L.val f91 wantedN rfl (by decide) (E.move f91 rfl) fun a92 f92 => ?_
              clear f91 a90
              refine L.val f92 wantedN rfl (by decide) (E.add f92 rfl rfl (IntWalk.i64_in _ (by omega))) fun a93 f93 => ?_
              clear f92 a92
              refine L.val f93 wantedN rfl (by decide) (E.assign f93 rfl) fun a94 f94 => ?_
              clear f93 a93
              refine wpList_nil (hKL12 _ _ (gk13 - 1) ?_ ?_)
              · omega
              · exact ⟨k + 1, m, r', fp', en', false, by omega, lo', dO', by rw [show min (k + 1) bs.length = k + 1 by omega]; exact hr', M', al_step hb hal (by clear hal; simp [goodB, *]), HK, FO, by simpa using f94.sub (sub_cons rfl (sub_cons rfl (sub_cons rfl (sub_cons rfl (sub_cons rfl (sub_cons rfl sub_nil))))))⟩
      · clear f36
        refine C.condF f37 rfl ?_
        refine wp_exit (hK10 _ _ ?_)
        try clear hK10 K10
        have f38 := f37.sub (sub_cons (i := 7) rfl (sub_cons (i := 8) rfl (sub_cons (i := 9) rfl (sub_cons (i := 10) rfl sub_nil))))
        clear f37
        refine wp_seq_k fun K27 hK27 => ?_
        refine C.region ?_
        refine L.val f38 wantedN rfl (by decide) (E.move f38 rfl) fun a39 f39 => ?_
        clear f38 a35
        refine L.val f39 wantedN rfl (by decide) (E.move f39 rfl) fun a40 f40 => ?_
        clear f39 a39
        have hC := cut_any m r fp en 0 1 own Aw cw w4 M FO.sl (by omega)
        rw [hr] at hC
        unfold CutPost at hC
        rw [cut_end (by omega) hro hno, ← hal] at hC
        have hsm : (if al = true then some ((bs.take k).map (seenOf own)) else none).isSome = al := by cases al <;> rfl
        rw [hsm] at hC
        refine L.call f40 wantedN rfl (by decide) (run_call Try.call32 (args3 f40 rfl rfl rfl)) hC ?_
        rintro e w5 ⟨kc5, AX, cX, ss, rfl, RO, hl, hq⟩
        have hlen := ss_len (n := p - 1) hl (fun h => by rw [h] at hal; have h1 := hal.symm; rw [Bool.and_eq_true, decide_eq_true_eq] at h1; simp; omega)
        clear hl hal hC RO
        refine ⟨_, rfl, fun a41 f41 => ?_⟩
        clear f40 a40
        have szw5 := kc5.size
        replace HK := HK.trans kc5 (by simp)
        replace M := M.kept kc5 (by simp)
        replace FO := FO.kept0 kc5
        clear kc5
        refine L.val f41 wantedN rfl (by decide) (E.move f41 rfl) fun a42 f42 => ?_
        clear f41 a41
        refine L.val f42 wantedN rfl (by decide) (E.extract f42 rfl rfl) fun a43 f43 => ?_
        clear f42 a42
        refine L.val f43 wantedN rfl (by decide) (E.extract f43 rfl rfl) fun a44 f44 => ?_
        clear f43 a43
        refine L.val f44 wantedN rfl (by decide) (E.assign f44 rfl) fun a45 f45 => ?_
        clear f44 a44
        refine L.val f45 wantedN rfl (by decide) (E.assign f45 rfl) fun a46 f46 => ?_
        clear f45 a45
        refine wpList_nil (hK27 _ _ ?_)
        try clear hK27 K27
        have f47 := f46.sub (sub_cons (i := 7) rfl (sub_cons (i := 9) rfl (sub_cons (i := 14) rfl (sub_cons (i := 15) rfl sub_nil))))
        clear f46
        refine wp_seq_k fun K28 hK28 => ?_
        refine C.region ?_
        refine L.val f47 wantedN rfl (by decide) (E.move f47 rfl) fun a48 f48 => ?_
        clear f47 a46
        refine L.val f48 wantedN rfl (by decide) (E.move f48 rfl) fun a49 f49 => ?_
        clear f48 a48
        refine L.val f49 wantedN rfl (by decide) (E.eqlB f49 Try.underlying4 rfl rfl) fun a50 f50 => ?_
        clear f49 a49
        refine L.val f50 wantedN rfl (by decide) (E.move f50 rfl) fun a51 f51 => ?_
        clear f50 a50
        first | refine f51.splitD 84 rfl (fun h8 f52 => ?_) (fun h8 f52 => ?_) | refine f51.splitN 84 rfl (fun h8 f52 => ?_) (fun h8 f52 => ?_) | refine f51.splitNB 84 rfl (fun h8 f52 => ?_) (fun h8 f52 => ?_) | refine f51.split 84 rfl (fun h8 f52 => ?_) (fun h8 f52 => ?_)
        · clear f51
          refine L.val f52 (f52.yes rfl rfl) rfl (by decide) (E.move f52 rfl) fun a53 f53 => ?_
          clear f52 a51
          refine L.val f53 (f53.yes rfl rfl) rfl (by decide) (E.not f53 rfl) fun a54 f54 => ?_
          clear f53 a53
          refine L.val f54 (f54.yes rfl rfl) rfl (by decide) (E.move f54 rfl) fun a55 f55 => ?_
          clear f54 a54
          first | refine f55.splitD 87 rfl (fun h9 f56 => ?_) (fun h9 f56 => ?_) | refine f55.splitN 87 rfl (fun h9 f56 => ?_) (fun h9 f56 => ?_) | refine f55.splitNB 87 rfl (fun h9 f56 => ?_) (fun h9 f56 => ?_) | refine f55.split 87 rfl (fun h9 f56 => ?_) (fun h9 f56 => ?_)
          · clear f55
            refine L.skip f56 (f56.noF rfl rfl) rfl (by decide) fun a57 f57 => ?_
            clear f56 a55
            refine L.skip f57 (f57.noF rfl rfl) rfl (by decide) fun a58 f58 => ?_
            clear f57 a57
            refine L.skip f58 (f58.noF rfl rfl) rfl (by decide) fun a59 f59 => ?_
            clear f58 a58
            refine L.skip f59 (f59.noF rfl rfl) rfl (by decide) fun a60 f60 => ?_
            clear f59 a59
            refine L.skip f60 (f60.noF rfl rfl) rfl (by decide) fun a61 f61 => ?_
            clear f60 a60
            refine L.val f61 (f61.yes rfl rfl) rfl (by decide) (E.pickT f61 rfl rfl) fun a62 f62 => ?_
            clear f61 a61
            refine L.val f62 wantedN rfl (by decide) (E.pickT f62 rfl rfl) fun a63 f63 => ?_
            clear f62 a62
            refine L.val f63 wantedN rfl (by decide) (E.move f63 rfl) fun a64 f64 => ?_
            clear f63 a63
            refine L.val f64 (f64.yes rfl rfl) rfl (by decide) (E.move f64 rfl) fun a65 f65 => ?_
            clear f64 a64
            refine L.val f65 (f65.yes rfl rfl) rfl (by decide) (E.move f65 rfl) fun a66 f66 => ?_
            clear f65 a65
            first | refine f66.splitD 97 rfl (fun h10 f67 => ?_) (fun h10 f67 => ?_) | refine f66.splitN 97 rfl (fun h10 f67 => ?_) (fun h10 f67 => ?_) | refine f66.splitNB 97 rfl (fun h10 f67 => ?_) (fun h10 f67 => ?_) | refine f66.split 97 rfl (fun h10 f67 => ?_) (fun h10 f67 => ?_)
            · clear f66
              refine L.skip f67 (f67.noF rfl rfl) rfl (by decide) fun a68 f68 => ?_
              clear f67 a66
              refine L.skip f68 (f68.noF rfl rfl) rfl (by decide) fun a69 f69 => ?_
              clear f68 a68
              refine L.skip f69 (f69.noF rfl rfl) rfl (by decide) fun a70 f70 => ?_
              clear f69 a69
              refine L.val f70 (f70.yes rfl rfl) rfl (by decide) (E.pickT f70 rfl rfl) fun a71 f71 => ?_
              clear f70 a70
              refine L.val f71 wantedN rfl (by decide) (E.pickT f71 rfl rfl) fun a72 f72 => ?_
              clear f71 a71
              refine L.val f72 wantedN rfl (by decide) (E.assign f72 rfl) fun a73 f73 => ?_
              clear f72 a72
              refine wpList_nil (hK28 _ _ ?_)
              try clear hK28 K28
              have f74 := f73.sub (sub_cons (i := 6) rfl sub_nil)
              clear f73
              refine wp_ret ?_
              try simp only [Exit.inBlock, Exit.then]
              refine C.ret (P := Try.prog) (fn := Try.f8) f74 rfl rfl ?_
              exact ⟨by cases al <;> simp_all <;> omega, HK.below0⟩
            · clear f66
              refine L.val f67 (f67.yes rfl rfl) rfl (by decide) (E.move f67 rfl) fun a68 f68 => ?_
              clear f67 a66
              refine L.val f68 (f68.yes rfl rfl) rfl (by decide) (E.lenL f68 Try.underlying46 rfl) fun a69 f69 => ?_
              clear f68 a68
              refine L.val f69 (f69.yes rfl rfl) rfl (by decide) (E.eql f69 rfl rfl) fun a70 f70 => ?_
              clear f69 a69
              refine L.val f70 (f70.yes rfl rfl) rfl (by decide) (E.pickF f70 rfl rfl) fun a71 f71 => ?_
              clear f70 a70
              refine L.val f71 wantedN rfl (by decide) (E.pickT f71 rfl rfl) fun a72 f72 => ?_
              clear f71 a71
              refine L.val f72 wantedN rfl (by decide) (E.assign f72 rfl) fun a73 f73 => ?_
              clear f72 a72
              refine wpList_nil (hK28 _ _ ?_)
              try clear hK28 K28
              have f74 := f73.sub (sub_cons (i := 6) rfl sub_nil)
              clear f73
              refine wp_ret ?_
              try simp only [Exit.inBlock, Exit.then]
              refine C.ret (P := Try.prog) (fn := Try.f8) f74 rfl rfl ?_
              exact ⟨by cases al <;> simp_all <;> omega, HK.below0⟩
          · clear f55
            refine L.val f56 (f56.yes rfl rfl) rfl (by decide) (E.move f56 rfl) fun a57 f57 => ?_
            clear f56 a55
            refine L.val f57 (f57.yes rfl rfl) rfl (by decide) (E.lenL f57 Try.underlying46 rfl) fun a58 f58 => ?_
            clear f57 a57
            refine L.val f58 (f58.yes rfl rfl) rfl (by decide) (E.move f58 rfl) fun a59 f59 => ?_
            clear f58 a58
            refine L.val f59 (f59.yes rfl rfl) rfl (by decide) (E.sub f59 rfl rfl (IntWalk.i64_in _ (by omega))) fun a60 f60 => ?_
            clear f59 a59
            refine L.val f60 (f60.yes rfl rfl) rfl (by decide) (E.eql f60 rfl rfl) fun a61 f61 => ?_
            clear f60 a60
            refine L.val f61 (f61.yes rfl rfl) rfl (by decide) (E.pickF f61 rfl rfl) fun a62 f62 => ?_
            clear f61 a61
            refine L.val f62 wantedN rfl (by decide) (E.pickT f62 rfl rfl) fun a63 f63 => ?_
            clear f62 a62
            refine L.val f63 wantedN rfl (by decide) (E.move f63 rfl) fun a64 f64 => ?_
            clear f63 a63
            first | refine f64.splitD 95 rfl (fun h11 f65 => ?_) (fun h11 f65 => ?_) | refine f64.splitN 95 rfl (fun h11 f65 => ?_) (fun h11 f65 => ?_) | refine f64.splitNB 95 rfl (fun h11 f65 => ?_) (fun h11 f65 => ?_) | refine f64.split 95 rfl (fun h11 f65 => ?_) (fun h11 f65 => ?_)
            · clear f64
              refine L.val f65 (f65.yes rfl rfl) rfl (by decide) (E.move f65 rfl) fun a66 f66 => ?_
              clear f65 a64
              refine L.val f66 (f66.yes rfl rfl) rfl (by decide) (E.move f66 rfl) fun a67 f67 => ?_
              clear f66 a66
              first | refine f67.splitD 97 rfl (fun h12 f68 => ?_) (fun h12 f68 => ?_) | refine f67.splitN 97 rfl (fun h12 f68 => ?_) (fun h12 f68 => ?_) | refine f67.splitNB 97 rfl (fun h12 f68 => ?_) (fun h12 f68 => ?_) | refine f67.split 97 rfl (fun h12 f68 => ?_) (fun h12 f68 => ?_)
              · clear f67
                refine L.skip f68 (f68.noF rfl rfl) rfl (by decide) fun a69 f69 => ?_
                clear f68 a67
                refine L.skip f69 (f69.noF rfl rfl) rfl (by decide) fun a70 f70 => ?_
                clear f69 a69
                refine L.skip f70 (f70.noF rfl rfl) rfl (by decide) fun a71 f71 => ?_
                clear f70 a70
                refine L.val f71 (f71.yes rfl rfl) rfl (by decide) (E.pickT f71 rfl rfl) fun a72 f72 => ?_
                clear f71 a71
                refine L.val f72 wantedN rfl (by decide) (E.pickT f72 rfl rfl) fun a73 f73 => ?_
                clear f72 a72
                refine L.val f73 wantedN rfl (by decide) (E.assign f73 rfl) fun a74 f74 => ?_
                clear f73 a73
                refine wpList_nil (hK28 _ _ ?_)
                try clear hK28 K28
                have f75 := f74.sub (sub_cons (i := 6) rfl sub_nil)
                clear f74
                refine wp_ret ?_
                try simp only [Exit.inBlock, Exit.then]
                refine C.ret (P := Try.prog) (fn := Try.f8) f75 rfl rfl ?_
                exact ⟨by cases al <;> simp_all <;> omega, HK.below0⟩
              · clear f67
                refine L.val f68 (f68.yes rfl rfl) rfl (by decide) (E.move f68 rfl) fun a69 f69 => ?_
                clear f68 a67
                refine L.val f69 (f69.yes rfl rfl) rfl (by decide) (E.lenL f69 Try.underlying46 rfl) fun a70 f70 => ?_
                clear f69 a69
                refine L.val f70 (f70.yes rfl rfl) rfl (by decide) (E.eql f70 rfl rfl) fun a71 f71 => ?_
                clear f70 a70
                refine L.val f71 (f71.yes rfl rfl) rfl (by decide) (E.pickF f71 rfl rfl) fun a72 f72 => ?_
                clear f71 a71
                refine L.val f72 wantedN rfl (by decide) (E.pickT f72 rfl rfl) fun a73 f73 => ?_
                clear f72 a72
                refine L.val f73 wantedN rfl (by decide) (E.assign f73 rfl) fun a74 f74 => ?_
                clear f73 a73
                refine wpList_nil (hK28 _ _ ?_)
                try clear hK28 K28
                have f75 := f74.sub (sub_cons (i := 6) rfl sub_nil)
                clear f74
                refine wp_ret ?_
                try simp only [Exit.inBlock, Exit.then]
                refine C.ret (P := Try.prog) (fn := Try.f8) f75 rfl rfl ?_
                exact ⟨by cases al <;> simp_all <;> omega, HK.below0⟩
            · clear f64
              refine L.skip f65 (f65.noT rfl rfl) rfl (by decide) fun a66 f66 => ?_
              clear f65 a64
              refine L.skip f66 (f66.noT rfl rfl) rfl (by decide) fun a67 f67 => ?_
              clear f66 a66
              refine L.skip f67 (f67.noU rfl rfl) rfl (by decide) fun a68 f68 => ?_
              clear f67 a67
              refine L.skip f68 (f68.noU rfl rfl) rfl (by decide) fun a69 f69 => ?_
              clear f68 a68
              refine L.skip f69 (f69.noU rfl rfl) rfl (by decide) fun a70 f70 => ?_
              clear f69 a69
              refine L.skip f70 (f70.noT rfl rfl) rfl (by decide) fun a71 f71 => ?_
              clear f70 a70
              refine L.val f71 wantedN rfl (by decide) (E.pickF f71 rfl rfl) fun a72 f72 => ?_
              clear f71 a71
              refine L.val f72 wantedN rfl (by decide) (E.assign f72 rfl) fun a73 f73 => ?_
              clear f72 a72
              refine wpList_nil (hK28 _ _ ?_)
              try clear hK28 K28
              have f74 := f73.sub (sub_cons (i := 6) rfl sub_nil)
              clear f73
              refine wp_ret ?_
              try simp only [Exit.inBlock, Exit.then]
              refine C.ret (P := Try.prog) (fn := Try.f8) f74 rfl rfl ?_
              exact ⟨by cases al <;> simp_all <;> omega, HK.below0⟩
        · clear f51
          refine L.skip f52 (f52.noT rfl rfl) rfl (by decide) fun a53 f53 => ?_
          clear f52 a51
          refine L.skip f53 (f53.noT rfl rfl) rfl (by decide) fun a54 f54 => ?_
          clear f53 a53
          refine L.skip f54 (f54.noT rfl rfl) rfl (by decide) fun a55 f55 => ?_
          clear f54 a54
          refine L.skip f55 (f55.noU rfl rfl) rfl (by decide) fun a56 f56 => ?_
          clear f55 a55
          refine L.skip f56 (f56.noU rfl rfl) rfl (by decide) fun a57 f57 => ?_
          clear f56 a56
          refine L.skip f57 (f57.noU rfl rfl) rfl (by decide) fun a58 f58 => ?_
          clear f57 a57
          refine L.skip f58 (f58.noU rfl rfl) rfl (by decide) fun a59 f59 => ?_
          clear f58 a58
          refine L.skip f59 (f59.noU rfl rfl) rfl (by decide) fun a60 f60 => ?_
          clear f59 a59
          refine L.skip f60 (f60.noT rfl rfl) rfl (by decide) fun a61 f61 => ?_
          clear f60 a60
          refine L.val f61 wantedN rfl (by decide) (E.pickF f61 rfl rfl) fun a62 f62 => ?_
          clear f61 a61
          refine L.val f62 wantedN rfl (by decide) (E.move f62 rfl) fun a63 f63 => ?_
          clear f62 a62
          refine L.skip f63 (f63.noT rfl rfl) rfl (by decide) fun a64 f64 => ?_
          clear f63 a63
          refine L.skip f64 (f64.noT rfl rfl) rfl (by decide) fun a65 f65 => ?_
          clear f64 a64
          refine L.skip f65 (f65.noU rfl rfl) rfl (by decide) fun a66 f66 => ?_
          clear f65 a65
          refine L.skip f66 (f66.noU rfl rfl) rfl (by decide) fun a67 f67 => ?_
          clear f66 a66
          refine L.skip f67 (f67.noU rfl rfl) rfl (by decide) fun a68 f68 => ?_
          clear f67 a67
          refine L.skip f68 (f68.noT rfl rfl) rfl (by decide) fun a69 f69 => ?_
          clear f68 a68
          refine L.val f69 wantedN rfl (by decide) (E.pickF f69 rfl rfl) fun a70 f70 => ?_
          clear f69 a69
          refine L.val f70 wantedN rfl (by decide) (E.assign f70 rfl) fun a71 f71 => ?_
          clear f70 a70
          refine wpList_nil (hK28 _ _ ?_)
          try clear hK28 K28
          have f72 := f71.sub (sub_cons (i := 6) rfl sub_nil)
          clear f71
          refine wp_ret ?_
          try simp only [Exit.inBlock, Exit.then]
          refine C.ret (P := Try.prog) (fn := Try.f8) f72 rfl rfl ?_
          exact ⟨by cases al <;> simp_all <;> omega, HK.below0⟩

end Go.Proofs.Ytahmlcjgcdajbaa
