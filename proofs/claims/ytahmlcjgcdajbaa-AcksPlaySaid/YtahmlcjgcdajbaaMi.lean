/- AcksOwn: the walk. -/
import Derived.Test.YtahmlcjgcdajbaaMh
set_option linter.all false
namespace Go.Proofs.Ytahmlcjgcdajbaa
open Go.RowKit Go.Hub
theorem wsz3_t : (Try.prog.info? 3).map (·.size) = some 1 := by kernel_rfl
theorem wsz32_t : (Try.prog.info? 32).map (·.size) = some 3 := by kernel_rfl

theorem insD_n {P : Int → Prop} : ∀ (l : List Dt) (d : Dt), P d.n → (∀ x ∈ l, P x.n) → ∀ x ∈ insD l d, P x.n
  | [], d, hd, _ => by simpa [insD] using hd
  | y :: r, d, hd, h => by
    unfold insD
    intro x hx
    split at hx
    · rcases List.mem_cons.1 hx with rfl | hx
      · exact h _ (by simp)
      · exact insD_n r d hd (fun z hz => h z (by simp [hz])) x hx
    · split at hx
      · rcases List.mem_cons.1 hx with rfl | hx
        · exact hd
        · exact h _ hx
      · rcases List.mem_cons.1 hx with rfl | hx
        · exact hd
        · exact h x (by simp [hx])
theorem fold_n {P : Int → Prop} : ∀ (us : List Int) (acc : List Dt), (∀ u, P (dotOf u).n) → (∀ x ∈ acc, P x.n) → ∀ x ∈ us.foldl addN acc, P x.n
  | [], _, _, h => h
  | u :: us, acc, hu, h => fold_n us _ hu (by
    show ∀ x ∈ addD acc (dotOf u), P x.n
    unfold addD
    split
    · simp
    · split
      · exact h
      · exact insD_n acc _ (hu u) h)
theorem ofL_n (l : List Int) : ∀ x ∈ ofL l, 0 ≤ x.n ∧ x.n ≤ 5 := fold_n (P := fun n => 0 ≤ n ∧ n ≤ 5) l [] (fun u => by simp only [dotOf]; omega) (by simp)
theorem ins_pos (l : List Dt) (d : Dt) : 0 < (insD l d).length := by
  cases l with
  | nil => simp [insD]
  | cons x r =>
    unfold insD
    repeat' split
    all_goals simp
theorem add_pos {l : List Dt} {d : Dt} (h : rightB l = true) (hl : 0 < l.length) : 0 < (addD l d).length := by
  unfold addD
  rw [if_neg (by simp [h])]
  split
  · exact hl
  · exact ins_pos l d
theorem fold_pos : ∀ (us : List Int) (acc : List Dt), rightB acc = true → 0 < acc.length → 0 < (us.foldl addN acc).length
  | [], _, _, h => h
  | u :: us, acc, hr, h => fold_pos us _ (addD_right hr _) (add_pos hr h)
theorem mayB_dotOf (u : Int) : mayB (dotOf u) = true := by
  have h1 : 0 ≤ u % 3 ∧ u % 3 < 16 := by omega
  have h2 : 1 ≤ u / 3 % 2 + 1 := by omega
  have h3 : 1 ≤ u / 6 % 5 + 1 := by omega
  show ((decide (0 ≤ u % 3) && decide (u % 3 < 16)) && decide (1 ≤ u / 3 % 2 + 1) && decide (1 ≤ u / 6 % 5 + 1)) = true
  rw [decide_eq_true h1.1, decide_eq_true h1.2, decide_eq_true h2, decide_eq_true h3]
  rfl
theorem ofL_pos (us : List Int) (h : 0 < us.length) : 0 < (ofL us).length := by
  cases us with
  | nil => simp at h
  | cons u us =>
    refine fold_pos us _ (addD_right rfl _) ?_
    show 0 < (addD [] (dotOf u)).length
    have hm : mayB (dotOf u) = true := mayB_dotOf u
    have hh : hasB [] (dotOf u) = false := by
      have : topR [] (dotOf u).node (dotOf u).epoch = 0 := rfl
      unfold hasB
      rw [this]
      simp only [Bool.and_eq_false_iff, decide_eq_false_iff_not]
      omega
    unfold addD
    rw [if_neg (by simp [rightB, rightFrom]), if_neg (by simp [hm, hh])]
    exact ins_pos _ _
theorem hear3b {own : List Dt} (h : rightB own = true) : hearB (newRows 3) (newSelf 3 1) 2 1 4 own = true := by
  unfold hearB
  rw [h]
  rfl
theorem hear3r {own : List Dt} (h : rightB own = true) : hearR (newRows 3) (newSelf 3 1) 2 1 4 own = [(0, 0, []), (0, 0, []), (1, 4, own)] := by
  unfold hearR
  rw [if_pos (hear3b h)]
  rfl

set_option maxHeartbeats 2000000 in
theorem acksOwn_any (us : List Int) (b : Int) (Au : Option Addr) (cu : Nat) (w : World) (hb : 0 ≤ b ∧ b ≤ 255) (A2 : Us w Au us) (hbu : ∀ x ∈ us, 0 ≤ x ∧ x ≤ 65535) (hlu : us.length ≤ maxLen) : Calls Try.prog 10 #[.slice Au us.length cu, .int .u8 b] w (fun e w' => e = .returned (.bool true) ∧ Below w.heap.size w w') := by
  have HK : Kept [] w w := Kept.refl _ _
  unfold maxLen at hlu
  refine C.enter Try.func10 rfl Try.ntmps10 rfl ?_
  intro a0 f0
  have f1 : Fr 78 a0 [(0, .slice Au us.length cu), (1, .int .u8 b)] := f0
  clear f0
  refine wp_seq_k fun K0 hK0 => ?_
  refine C.region ?_
  refine L.val f1 wantedN rfl (by decide) (E.assign f1 rfl) fun a2 f2 => ?_
  clear f1 a0
  refine wpList_nil (hK0 _ _ ?_)
  try clear hK0 K0
  have f3 := f2.sub (sub_cons (i := 0) rfl (sub_cons (i := 1) rfl (sub_cons (i := 4) rfl sub_nil)))
  clear f2
  refine wp_seq_k fun K1 hK1 => ?_
  refine wp_seq_k fun K2 hK2 => ?_
  refine C.region ?_
  refine L.call f3 wantedN rfl (by decide) (run_call Try.call28 (args0 f3)) (known_any _) ?_
  rintro e w1 ⟨kc1, rfl⟩
  refine ⟨_, rfl, fun a4 f4 => ?_⟩
  clear f3 a2
  have szw1 := kc1.size
  replace HK := HK.trans kc1 (by simp)
  clear kc1
  refine L.val f4 wantedN rfl (by decide) (E.not f4 rfl) fun a5 f5 => ?_
  clear f4 a4
  refine wpList_nil (hK2 _ _ ?_)
  try clear hK2 K2
  have f6 := f5.sub (sub_cons (i := 0) rfl (sub_cons (i := 1) rfl (sub_cons (i := 4) rfl (sub_cons (i := 14) rfl sub_nil))))
  clear f5
  refine C.condF f6 rfl ?_
  refine wp_skip (hK1 _ _ ?_)
  try clear hK1 K1
  have f7 := f6.sub (sub_cons (i := 0) rfl (sub_cons (i := 1) rfl (sub_cons (i := 4) rfl sub_nil)))
  clear f6
  refine wp_seq_k fun K3 hK3 => ?_
  refine wp_seq_k fun K4 hK4 => ?_
  refine C.region ?_
  refine L.val f7 wantedN rfl (by decide) (E.move f7 rfl) fun a8 f8 => ?_
  clear f7 a5
  refine L.val f8 wantedN rfl (by decide) (E.lenL f8 Try.underlying22 rfl) fun a9 f9 => ?_
  clear f8 a8
  refine L.val f9 wantedN rfl (by decide) (E.gtr f9 rfl rfl) fun a10 f10 => ?_
  clear f9 a9
  refine L.val f10 wantedN rfl (by decide) (E.move f10 rfl) fun a11 f11 => ?_
  clear f10 a10
  first | refine f11.splitD 18 rfl (fun h0 f12 => ?_) (fun h0 f12 => ?_) | refine f11.splitN 18 rfl (fun h0 f12 => ?_) (fun h0 f12 => ?_) | refine f11.splitNB 18 rfl (fun h0 f12 => ?_) (fun h0 f12 => ?_) | refine f11.split 18 rfl (fun h0 f12 => ?_) (fun h0 f12 => ?_)
  · clear f11
    refine L.skip f12 (f12.noF rfl rfl) rfl (by decide) fun a13 f13 => ?_
    clear f12 a11
    refine L.skip f13 (f13.noF rfl rfl) rfl (by decide) fun a14 f14 => ?_
    clear f13 a13
    refine L.skip f14 (f14.noF rfl rfl) rfl (by decide) fun a15 f15 => ?_
    clear f14 a14
    refine L.val f15 wantedN rfl (by decide) (E.pickT f15 rfl rfl) fun a16 f16 => ?_
    clear f15 a15
    refine wpList_nil (hK4 _ _ ?_)
    try clear hK4 K4
    have f17 := f16.sub (sub_cons (i := 0) rfl (sub_cons (i := 1) rfl (sub_cons (i := 4) rfl (sub_cons (i := 22) rfl sub_nil))))
    clear f16
    refine C.condT f17 rfl ?_
    refine wp_seq_k fun K5 hK5 => ?_
    refine C.region ?_
    refine L.val f17 wantedN rfl (by decide) (E.assign f17 rfl) fun a18 f18 => ?_
    clear f17 a16
    refine wpList_nil (hK5 _ _ ?_)
    try clear hK5 K5
    have f19 := f18.sub (sub_cons (i := 0) rfl (sub_cons (i := 1) rfl (sub_cons (i := 4) rfl sub_nil)))
    clear f18
    refine wp_ret ?_
    try simp only [Exit.inBlock, Exit.then]
    refine C.ret (P := Try.prog) (fn := Try.f10) f19 rfl rfl ?_
    exact ⟨rfl, HK.below0⟩
  · clear f11
    refine L.val f12 (f12.yes rfl rfl) rfl (by decide) (E.move f12 rfl) fun a13 f13 => ?_
    clear f12 a11
    refine L.val f13 (f13.yes rfl rfl) rfl (by decide) (E.lenL f13 Try.underlying22 rfl) fun a14 f14 => ?_
    clear f13 a13
    refine L.val f14 (f14.yes rfl rfl) rfl (by decide) (E.eql f14 rfl rfl) fun a15 f15 => ?_
    clear f14 a14
    refine L.val f15 wantedN rfl (by decide) (E.pickF f15 rfl rfl) fun a16 f16 => ?_
    clear f15 a15
    refine wpList_nil (hK4 _ _ ?_)
    try clear hK4 K4
    have f17 := f16.sub (sub_cons (i := 0) rfl (sub_cons (i := 1) rfl (sub_cons (i := 4) rfl (sub_cons (i := 22) rfl sub_nil))))
    clear f16
    first | refine f17.splitD 22 rfl (fun h1 f18 => ?_) (fun h1 f18 => ?_) | refine f17.splitN 22 rfl (fun h1 f18 => ?_) (fun h1 f18 => ?_) | refine f17.splitNB 22 rfl (fun h1 f18 => ?_) (fun h1 f18 => ?_) | refine f17.split 22 rfl (fun h1 f18 => ?_) (fun h1 f18 => ?_)
    · clear f17
      refine C.condT f18 rfl ?_
      refine wp_seq_k fun K6 hK6 => ?_
      refine C.region ?_
      refine L.val f18 wantedN rfl (by decide) (E.assign f18 rfl) fun a19 f19 => ?_
      clear f18 a16
      refine wpList_nil (hK6 _ _ ?_)
      try clear hK6 K6
      have f20 := f19.sub (sub_cons (i := 0) rfl (sub_cons (i := 1) rfl (sub_cons (i := 4) rfl sub_nil)))
      clear f19
      refine wp_ret ?_
      try simp only [Exit.inBlock, Exit.then]
      refine C.ret (P := Try.prog) (fn := Try.f10) f20 rfl rfl ?_
      exact ⟨rfl, HK.below0⟩
    · clear f17
      have h12 : us.length ≤ 12 := by omega
      have hpos := ofL_pos us (by omega)
      have hlo : (ofL us).length ≤ 12 := Nat.le_trans (ofL_len us) h12
      refine C.condF f18 rfl ?_
      refine wp_skip (hK3 _ _ ?_)
      try clear hK3 K3
      have f19 := f18.sub (sub_cons (i := 0) rfl (sub_cons (i := 1) rfl (sub_cons (i := 4) rfl sub_nil)))
      clear f18
      refine wp_seq_k fun K7 hK7 => ?_
      refine C.region ?_
      refine L.call f19 wantedN rfl (by decide) (run_call Try.call29 (args2 f19 rfl rfl)) (new_any 3 1 _) ?_
      rintro e w2 ⟨m, fp, rfl, ⟨r, en, hr, M⟩, kc2, lo0⟩
      have lo : ∀ x ∈ fp, w.heap.size ≤ x := fun x hx => Nat.le_trans HK.size (lo0 x hx)
      refine ⟨_, rfl, fun a20 f20 => ?_⟩
      clear f19 a16
      have szw2 := kc2.size
      replace HK := HK.trans kc2 (by simp)
      clear kc2
      refine L.val f20 wantedN rfl (by decide) (E.assign f20 rfl) fun a21 f21 => ?_
      clear f20 a20
      refine wpList_nil (hK7 _ _ ?_)
      try clear hK7 K7
      have f22 := f21.sub (sub_cons (i := 0) rfl (sub_cons (i := 1) rfl (sub_cons (i := 4) rfl (sub_cons (i := 5) rfl sub_nil))))
      clear f21
      refine wp_seq_k fun K8 hK8 => ?_
      refine C.region ?_
      refine L.val f22 wantedN rfl (by decide) (E.move f22 rfl) fun a23 f23 => ?_
      clear f22 a21
      refine L.call f23 wantedN rfl (by decide) (run_call Try.call30 (args1 f23 rfl)) (of_any us _ _ _ (A2.kept HK) h12 hbu) ?_
      rintro e w3 ⟨kc3, Aw, cw, rfl, FO⟩
      skip
      have dO : ∀ b, Aw.map (·.block) = some b → b ∉ fp ∧ w.heap.size ≤ b := fun b hb => ⟨fun hx => by have := FO.lo b hb; have := M.lt b hx; omega, Nat.le_trans HK.size (FO.lo b hb)⟩
      refine ⟨_, rfl, fun a24 f24 => ?_⟩
      clear f23 a23
      have szw3 := kc3.size
      replace HK := HK.trans kc3 (by simp)
      replace M := M.kept kc3 (by simp)
      clear kc3
      refine L.val f24 wantedN rfl (by decide) (E.assign f24 rfl) fun a25 f25 => ?_
      clear f24 a24
      refine wpList_nil (hK8 _ _ ?_)
      try clear hK8 K8
      have f26 := f25.sub (sub_cons (i := 0) rfl (sub_cons (i := 1) rfl (sub_cons (i := 4) rfl (sub_cons (i := 5) rfl (sub_cons (i := 6) rfl sub_nil)))))
      clear f25
      refine wp_seq_k fun K9 hK9 => ?_
      refine wp_seq_k fun K10 hK10 => ?_
      refine C.region ?_
      refine L.val f26 wantedN rfl (by decide) (E.move f26 rfl) fun a27 f27 => ?_
      clear f26 a25
      refine L.val f27 wantedN rfl (by decide) (E.move f27 rfl) fun a28 f28 => ?_
      clear f27 a27
      have hH := hear_any m r fp en (newSelf 3 1) 2 1 4 (ofL us) Aw cw w3 M FO.sl (by omega)
      rw [hr] at hH
      unfold HearPost at hH
      rw [hear3b (ofL_right us), hear3r (ofL_right us)] at hH
      refine L.call f28 wantedN rfl (by decide) (run_call Try.call31 (args5 f28 rfl rfl rfl rfl rfl)) hH ?_
      rintro e w4 ⟨rfl, kc4, fp', ⟨r', en', hr', M'⟩, hf'⟩
      clear hH
      have lo' : ∀ x ∈ fp', w.heap.size ≤ x := fun x hx => (hf' x hx).elim (lo x) fun h => by have := HK.size; omega
      have dO' : ∀ b, Aw.map (·.block) = some b → b ∉ fp' := fun b hb hx => (hf' b hx).elim (dO b hb).1 fun h => by have := (FO.own.blk b ((own_block Aw (ofL us).length cw b).2 hb)).1; omega
      refine ⟨_, rfl, fun a29 f29 => ?_⟩
      clear f28 a28
      have szw4 := kc4.size
      replace HK := HK.trans kc4 (fun x hx hlt => absurd (lo x hx) (by omega))
      replace FO := FO.kept kc4 (fun b hb => (dO b hb).1)
      clear kc4
      refine L.val f29 wantedN rfl (by decide) (E.not f29 rfl) fun a30 f30 => ?_
      clear f29 a29
      refine wpList_nil (hK10 _ _ ?_)
      try clear hK10 K10
      have f31 := f30.sub (sub_cons (i := 0) rfl (sub_cons (i := 1) rfl (sub_cons (i := 4) rfl (sub_cons (i := 5) rfl (sub_cons (i := 6) rfl (sub_cons (i := 29) rfl sub_nil))))))
      clear f30
      refine C.condF f31 rfl ?_
      refine wp_skip (hK9 _ _ ?_)
      try clear hK9 K9
      have f32 := f31.sub (sub_cons (i := 0) rfl (sub_cons (i := 1) rfl (sub_cons (i := 4) rfl (sub_cons (i := 5) rfl (sub_cons (i := 6) rfl sub_nil)))))
      clear f31
      refine wp_seq_k fun K11 hK11 => ?_
      obtain ⟨d0, hd0⟩ : ∃ d, (ofL us)[0]? = some d := ⟨(ofL us)[0]'(by omega), List.getElem?_eq_getElem _⟩
      have hn0 := ofL_n us d0 (List.mem_of_getElem? hd0)
      obtain ⟨bkw, offw, hAw⟩ := FO.sl.addr (by omega)
      refine C.region ?_
      refine L.val f32 wantedN rfl (by decide) (E.move f32 rfl) fun a33 f33 => ?_
      clear f32 a30
      refine L.val f33 wantedN rfl (by decide) (E.indexA f33 (by first | rfl | assumption) Try.underlying24 wsz32_t rfl rfl (by omega) (by omega)) fun a34 f34 => ?_
      clear f33 a33
      refine L.val f34 wantedN rfl (by decide) (E.fieldAddr f34 Try.underlying32 rfl rfl wsz3_t) fun a35 f35 => ?_
      clear f34 a34
      refine L.val f35 wantedN rfl (by decide) (by exact E.load f35 Try.underlying3 rfl rfl (by have := (FO.sl.row (by omega) hAw (dcells_at (ofL us) 0 d0 hd0)) 2 _ rfl; simpa [Nat.add_assoc] using this)) fun a36 f36 => ?_
      clear f35 a35
      refine L.val f36 wantedN rfl (by decide) (E.add f36 rfl rfl (IntWalk.i64_in _ (by omega))) fun a37 f37 => ?_
      clear f36 a36
      refine L.val f37 wantedN rfl (by decide) (E.indexA f37 (by first | rfl | assumption) Try.underlying24 wsz32_t rfl rfl (by omega) (by omega)) fun a38 f38 => ?_
      clear f37 a37
      refine L.val f38 wantedN rfl (by decide) (E.fieldAddr f38 Try.underlying32 rfl rfl wsz3_t) fun a39 f39 => ?_
      clear f38 a38
      refine L.storeF f39 wantedN wsz3_t hAw FO (j := 0 * 3 + 2) rfl (by rw [dcells_len]; omega) rfl rfl fun a40 w5 f40 FS ks loS => ?_
      clear f39 a39
      have szw5 := ks.size
      have hbw := (fun b hb => And.intro (dO' b hb) (dO b hb).2) bkw (by rw [hAw]; rfl)
      replace HK := HK.trans ks (fun x hx hlt => by simp at hx; subst hx; exfalso; have := hbw.2; omega)
      replace M' := M'.kept ks (by intro x hx; simp at hx; subst hx; exact hbw.1)
      clear ks FS loS FO
      refine wpList_nil (hK11 _ _ ?_)
      try clear hK11 K11
      have f41 := f40.sub (sub_cons (i := 0) rfl (sub_cons (i := 1) rfl (sub_cons (i := 4) rfl (sub_cons (i := 5) rfl sub_nil))))
      clear f40
      refine wp_seq_k fun K12 hK12 => ?_
      refine C.region ?_
      refine L.val f41 wantedN rfl (by decide) (E.move f41 rfl) fun a42 f42 => ?_
      clear f41 a40
      have hR := row_any m r' fp' en' (newSelf 3 1) 2 w5 M'
      rw [hr'] at hR
      unfold RowPost at hR
      rw [show rowOf [(0, 0, []), (0, 0, []), (1, 4, ofL us)] 2 = (1, 4, ofL us) from rfl] at hR
      dsimp only at hR
      refine L.call f42 wantedN rfl (by decide) (run_call Try.call36 (args2 f42 rfl rfl)) hR ?_
      rintro e w6 ⟨kc6, Ar, cr, rfl, FR⟩
      clear hR
      have hnr : ∀ b, Ar.map (·.block) = some b → b ∉ fp' ∧ w.heap.size ≤ b := fun b hb => ⟨fun hx => by have := FR.lo b hb; have := M'.lt b hx; omega, Nat.le_trans HK.size (FR.lo b hb)⟩
      refine ⟨_, rfl, fun a43 f43 => ?_⟩
      clear f42 a42
      have szw6 := kc6.size
      replace HK := HK.trans kc6 (by simp)
      replace M' := M'.kept kc6 (by simp)
      clear kc6
      refine L.val f43 wantedN rfl (by decide) (E.move f43 rfl) fun a44 f44 => ?_
      clear f43 a43
      refine L.val f44 wantedN rfl (by decide) (E.extract f44 rfl rfl) fun a45 f45 => ?_
      clear f44 a44
      refine L.val f45 wantedN rfl (by decide) (E.extract f45 rfl rfl) fun a46 f46 => ?_
      clear f45 a45
      refine L.val f46 wantedN rfl (by decide) (E.extract f46 rfl rfl) fun a47 f47 => ?_
      clear f46 a46
      refine L.val f47 wantedN rfl (by decide) (E.assign f47 rfl) fun a48 f48 => ?_
      clear f47 a47
      refine L.val f48 wantedN rfl (by decide) (E.assign f48 rfl) fun a49 f49 => ?_
      clear f48 a48
      refine L.val f49 wantedN rfl (by decide) (E.assign f49 rfl) fun a50 f50 => ?_
      clear f49 a49
      refine wpList_nil (hK12 _ _ ?_)
      try clear hK12 K12
      have f51 := f50.sub (sub_cons (i := 0) rfl (sub_cons (i := 1) rfl (sub_cons (i := 4) rfl (sub_cons (i := 5) rfl (sub_cons (i := 9) rfl sub_nil)))))
      clear f50
      refine wp_seq_k fun K13 hK13 => ?_
      refine wp_seq_k fun K14 hK14 => ?_
      refine C.region ?_
      refine L.val f51 wantedN rfl (by decide) (E.move f51 rfl) fun a52 f52 => ?_
      clear f51 a50
      refine L.val f52 wantedN rfl (by decide) (E.move f52 rfl) fun a53 f53 => ?_
      clear f52 a52
      refine L.call f53 wantedN rfl (by decide) (run_call Try.call30 (args1 f53 rfl)) (of_any us _ _ _ (A2.kept HK) h12 hbu) ?_
      rintro e w7 ⟨kc7, Ay, cy, rfl, FY⟩
      refine ⟨_, rfl, fun a54 f54 => ?_⟩
      clear f53 a53
      have szw7 := kc7.size
      replace HK := HK.trans kc7 (by simp)
      replace M' := M'.kept kc7 (by simp)
      replace FR := FR.kept0 kc7
      clear kc7
      refine L.call f54 wantedN rfl (by decide) (run_call Try.call14 (args2 f54 rfl rfl)) (dotsEq_any (ofL us) (ofL us) _ _ _ _ _ FR.sl FY.sl (by unfold maxLen; omega) (by unfold maxLen; omega)) ?_
      rintro e w8 ⟨kc8, rfl⟩
      refine ⟨_, rfl, fun a55 f55 => ?_⟩
      clear f54 a54
      have szw8 := kc8.size
      replace HK := HK.trans kc8 (by simp)
      replace M' := M'.kept kc8 (by simp)
      replace FR := FR.kept0 kc8
      replace FY := FY.kept0 kc8
      clear kc8
      have f56 := f55.as (i := 46) (v' := .bool true) rfl (by simp)
      clear f55
      refine L.val f56 wantedN rfl (by decide) (E.not f56 rfl) fun a57 f57 => ?_
      clear f56 a55
      refine wpList_nil (hK14 _ _ ?_)
      try clear hK14 K14
      have f58 := f57.sub (sub_cons (i := 0) rfl (sub_cons (i := 1) rfl (sub_cons (i := 4) rfl (sub_cons (i := 5) rfl (sub_cons (i := 9) rfl (sub_cons (i := 47) rfl sub_nil))))))
      clear f57
      refine C.condF f58 rfl ?_
      refine wp_skip (hK13 _ _ ?_)
      try clear hK13 K13
      have f59 := f58.sub (sub_cons (i := 0) rfl (sub_cons (i := 1) rfl (sub_cons (i := 4) rfl (sub_cons (i := 5) rfl (sub_cons (i := 9) rfl sub_nil)))))
      clear f58
      refine wp_seq_k fun K15 hK15 => ?_
      obtain ⟨bkr, offr, hAr⟩ := FR.sl.addr (by omega)
      refine C.region ?_
      refine L.val f59 wantedN rfl (by decide) (E.move f59 rfl) fun a60 f60 => ?_
      clear f59 a57
      refine L.val f60 wantedN rfl (by decide) (E.indexA f60 (by first | rfl | assumption) Try.underlying24 wsz32_t rfl rfl (by omega) (by omega)) fun a61 f61 => ?_
      clear f60 a60
      refine L.val f61 wantedN rfl (by decide) (E.fieldAddr f61 Try.underlying32 rfl rfl wsz3_t) fun a62 f62 => ?_
      clear f61 a61
      refine L.val f62 wantedN rfl (by decide) (by exact E.load f62 Try.underlying3 rfl rfl (by have := (FR.sl.row (by omega) hAr (dcells_at (ofL us) 0 d0 hd0)) 2 _ rfl; simpa [Nat.add_assoc] using this)) fun a63 f63 => ?_
      clear f62 a62
      refine L.val f63 wantedN rfl (by decide) (E.add f63 rfl rfl (IntWalk.i64_in _ (by omega))) fun a64 f64 => ?_
      clear f63 a63
      refine L.val f64 wantedN rfl (by decide) (E.indexA f64 (by first | rfl | assumption) Try.underlying24 wsz32_t rfl rfl (by omega) (by omega)) fun a65 f65 => ?_
      clear f64 a64
      refine L.val f65 wantedN rfl (by decide) (E.fieldAddr f65 Try.underlying32 rfl rfl wsz3_t) fun a66 f66 => ?_
      clear f65 a65
      refine L.storeF f66 wantedN wsz3_t hAr FR (j := 0 * 3 + 2) rfl (by rw [dcells_len]; omega) rfl rfl fun a67 w9 f67 FS ks loS => ?_
      clear f66 a66
      have szw9 := ks.size
      have hbr := hnr bkr (by rw [hAr]; rfl)
      replace HK := HK.trans ks (fun x hx hlt => by simp at hx; subst hx; exfalso; have := hbr.2; omega)
      replace M' := M'.kept ks (by intro x hx; simp at hx; subst hx; exact hbr.1)
      clear ks FS loS FR
      refine wpList_nil (hK15 _ _ ?_)
      try clear hK15 K15
      have f68 := f67.sub (sub_cons (i := 0) rfl (sub_cons (i := 1) rfl (sub_cons (i := 4) rfl (sub_cons (i := 5) rfl sub_nil))))
      clear f67
      refine wp_seq_k fun K16 hK16 => ?_
      refine C.region ?_
      refine L.val f68 wantedN rfl (by decide) (E.move f68 rfl) fun a69 f69 => ?_
      clear f68 a67
      have hR := row_any m r' fp' en' (newSelf 3 1) 2 w9 M'
      rw [hr'] at hR
      unfold RowPost at hR
      rw [show rowOf [(0, 0, []), (0, 0, []), (1, 4, ofL us)] 2 = (1, 4, ofL us) from rfl] at hR
      dsimp only at hR
      refine L.call f69 wantedN rfl (by decide) (run_call Try.call36 (args2 f69 rfl rfl)) hR ?_
      rintro e w10 ⟨kc10, Arz, crz, rfl, FRz⟩
      clear hR
      have hnrz : ∀ b, Arz.map (·.block) = some b → b ∉ fp' ∧ w.heap.size ≤ b := fun b hb => ⟨fun hx => by have := FRz.lo b hb; have := M'.lt b hx; omega, Nat.le_trans HK.size (FRz.lo b hb)⟩
      refine ⟨_, rfl, fun a70 f70 => ?_⟩
      clear f69 a69
      have szw10 := kc10.size
      replace HK := HK.trans kc10 (by simp)
      replace M' := M'.kept kc10 (by simp)
      clear kc10
      refine L.val f70 wantedN rfl (by decide) (E.move f70 rfl) fun a71 f71 => ?_
      clear f70 a70
      refine L.val f71 wantedN rfl (by decide) (E.extract f71 rfl rfl) fun a72 f72 => ?_
      clear f71 a71
      refine L.val f72 wantedN rfl (by decide) (E.extract f72 rfl rfl) fun a73 f73 => ?_
      clear f72 a72
      refine L.val f73 wantedN rfl (by decide) (E.extract f73 rfl rfl) fun a74 f74 => ?_
      clear f73 a73
      refine L.val f74 wantedN rfl (by decide) (E.assign f74 rfl) fun a75 f75 => ?_
      clear f74 a74
      refine L.val f75 wantedN rfl (by decide) (E.assign f75 rfl) fun a76 f76 => ?_
      clear f75 a75
      refine L.val f76 wantedN rfl (by decide) (E.assign f76 rfl) fun a77 f77 => ?_
      clear f76 a76
      refine wpList_nil (hK16 _ _ ?_)
      try clear hK16 K16
      have f78 := f77.sub (sub_cons (i := 0) rfl (sub_cons (i := 1) rfl (sub_cons (i := 4) rfl (sub_cons (i := 5) rfl (sub_cons (i := 12) rfl sub_nil)))))
      clear f77
      refine wp_seq_k fun K17 hK17 => ?_
      refine C.region ?_
      refine L.val f78 wantedN rfl (by decide) (E.move f78 rfl) fun a79 f79 => ?_
      clear f78 a77
      refine L.val f79 wantedN rfl (by decide) (E.move f79 rfl) fun a80 f80 => ?_
      clear f79 a79
      refine L.call f80 wantedN rfl (by decide) (run_call Try.call30 (args1 f80 rfl)) (of_any us _ _ _ (A2.kept HK) h12 hbu) ?_
      rintro e w11 ⟨kc11, Ay, cy, rfl, FY⟩
      refine ⟨_, rfl, fun a81 f81 => ?_⟩
      clear f80 a80
      have szw11 := kc11.size
      replace HK := HK.trans kc11 (by simp)
      replace M' := M'.kept kc11 (by simp)
      replace FRz := FRz.kept0 kc11
      clear kc11
      refine L.call f81 wantedN rfl (by decide) (run_call Try.call14 (args2 f81 rfl rfl)) (dotsEq_any (ofL us) (ofL us) _ _ _ _ _ FRz.sl FY.sl (by unfold maxLen; omega) (by unfold maxLen; omega)) ?_
      rintro e w12 ⟨kc12, rfl⟩
      refine ⟨_, rfl, fun a82 f82 => ?_⟩
      clear f81 a81
      have szw12 := kc12.size
      replace HK := HK.trans kc12 (by simp)
      replace M' := M'.kept kc12 (by simp)
      replace FRz := FRz.kept0 kc12
      replace FY := FY.kept0 kc12
      clear kc12
      have f83 := f82.as (i := 64) (v' := .bool true) rfl (by simp)
      clear f82
      refine L.val f83 wantedN rfl (by decide) (E.move f83 rfl) fun a84 f84 => ?_
      clear f83 a82
      refine L.val f84 (f84.yes rfl rfl) rfl (by decide) (E.move f84 rfl) fun a85 f85 => ?_
      clear f84 a84
      have hH := hear_any m r' fp' en' (newSelf 3 1) 2 1 3 [] none 0 w12 M' (Ds.nil _ _) (by decide)
      rw [hr'] at hH
      unfold HearPost at hH
      rw [show hearB [(0, 0, []), (0, 0, []), (1, 4, ofL us)] (newSelf 3 1) 2 1 3 [] = false from rfl, show hearR [(0, 0, []), (0, 0, []), (1, 4, ofL us)] (newSelf 3 1) 2 1 3 [] = [(0, 0, []), (0, 0, []), (1, 4, ofL us)] from rfl] at hH
      refine L.call f85 (f85.yes rfl rfl) rfl (by decide) (run_call Try.call31 (args5 f85 rfl rfl rfl rfl rfl)) hH ?_
      rintro e w13 ⟨rfl, kc13, fp2, ⟨r2, en2, hr2, M2⟩, hf2⟩
      clear hH
      have lo2 : ∀ x ∈ fp2, w.heap.size ≤ x := fun x hx => (hf2 x hx).elim (lo' x) fun h => by have := HK.size; omega
      refine ⟨_, rfl, fun a86 f86 => ?_⟩
      clear f85 a85
      have szw13 := kc13.size
      replace HK := HK.trans kc13 (fun x hx hlt => absurd (lo' x hx) (by omega))
      clear kc13
      refine L.val f86 (f86.yes rfl rfl) rfl (by decide) (E.not f86 rfl) fun a87 f87 => ?_
      clear f86 a86
      refine L.val f87 wantedN rfl (by decide) (E.pickT f87 rfl rfl) fun a88 f88 => ?_
      clear f87 a87
      refine L.val f88 wantedN rfl (by decide) (E.move f88 rfl) fun a89 f89 => ?_
      clear f88 a88
      refine L.val f89 (f89.yes rfl rfl) rfl (by decide) (E.move f89 rfl) fun a90 f90 => ?_
      clear f89 a89
      have hH := hear_any m r2 fp2 en2 (newSelf 3 1) 2 2 0 [] none 0 w13 M2 (Ds.nil _ _) (by decide)
      rw [hr2] at hH
      unfold HearPost at hH
      rw [show hearB [(0, 0, []), (0, 0, []), (1, 4, ofL us)] (newSelf 3 1) 2 2 0 [] = true from rfl] at hH
      refine L.call f90 (f90.yes rfl rfl) rfl (by decide) (run_call Try.call31 (args5 f90 rfl rfl rfl rfl rfl)) hH ?_
      rintro e w14 ⟨rfl, kc14, hZ⟩
      refine ⟨_, rfl, fun a91 f91 => ?_⟩
      clear f90 a90
      have szw14 := kc14.size
      replace HK := HK.trans kc14 (fun x hx hlt => absurd (lo2 x hx) (by omega))
      clear kc14
      refine L.val f91 wantedN rfl (by decide) (E.pickT f91 rfl rfl) fun a92 f92 => ?_
      clear f91 a91
      refine L.val f92 wantedN rfl (by decide) (E.move f92 rfl) fun a93 f93 => ?_
      clear f92 a92
      refine L.val f93 (f93.yes rfl rfl) rfl (by decide) (E.move f93 rfl) fun a94 f94 => ?_
      clear f93 a93
      refine L.val f94 (f94.yes rfl rfl) rfl (by decide) (E.geq f94 rfl rfl) fun a95 f95 => ?_
      clear f94 a94
      have f96 := f95.as (i := 76) (v' := .bool true) rfl (by simp; omega)
      clear f95
      refine L.val f96 wantedN rfl (by decide) (E.pickT f96 rfl rfl) fun a97 f97 => ?_
      clear f96 a95
      refine L.val f97 wantedN rfl (by decide) (E.assign f97 rfl) fun a98 f98 => ?_
      clear f97 a97
      refine wpList_nil (hK17 _ _ ?_)
      try clear hK17 K17
      have f99 := f98.sub (sub_cons (i := 4) rfl sub_nil)
      clear f98
      refine wp_ret ?_
      try simp only [Exit.inBlock, Exit.then]
      refine C.ret (P := Try.prog) (fn := Try.f10) f99 rfl rfl ?_
      exact ⟨rfl, HK.below0⟩

end Go.Proofs.Ytahmlcjgcdajbaa
