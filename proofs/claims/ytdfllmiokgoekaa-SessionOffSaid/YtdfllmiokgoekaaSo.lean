/- SessionOnce: the walk. -/
import Derived.Test.YtdfllmiokgoekaaSn
set_option linter.all false
namespace Go.Proofs.Ytdfllmiokgoekaa
open Go.RowKit Go.Hub
theorem wsz3_n : (Try.prog.info? 3).map (·.size) = some 1 := by kernel_rfl
theorem wsz4_n : (Try.prog.info? 4).map (·.size) = some 1 := by kernel_rfl
theorem wsz5_n : (Try.prog.info? 5).map (·.size) = some 1 := by kernel_rfl
theorem wsz35_n : (Try.prog.info? 35).map (·.size) = some 24 := by kernel_rfl
theorem wbl35_0_3_4_1_5_n (x0 : Int) (x1 : Int) (x2 : Int) (x3 : Bool) (x4 : ByteArray) : Try.prog.built 35 [(0, .int .i64 x0), (3, .int .i64 x1), (4, .int .i64 x2), (1, .bool x3), (5, .string x4)] = some #[.int .i64 x0, .bool x3, (.bool false), .int .i64 x1, .int .i64 x2, .string x4, (.slice none 0 0), (.int .i64 0), (.string ⟨#[]⟩), (.bool false), (.int .i64 0), (.bool false), (.string ⟨#[]⟩), (.slice none 0 0), (.int .i64 0), (.bool false), (.bool false), (.bool false), (.string ⟨#[]⟩), (.slice none 0 0), (.bool false), (.int .i64 0), (.slice none 0 0), (.slice none 0 0)] := by kernel_rfl
theorem wbl35_0_4_n (x0 : Int) (x1 : Int) : Try.prog.built 35 [(0, .int .i64 x0), (4, .int .i64 x1)] = some #[.int .i64 x0, (.bool false), (.bool false), (.int .i64 0), .int .i64 x1, (.string ⟨#[]⟩), (.slice none 0 0), (.int .i64 0), (.string ⟨#[]⟩), (.bool false), (.int .i64 0), (.bool false), (.string ⟨#[]⟩), (.slice none 0 0), (.int .i64 0), (.bool false), (.bool false), (.bool false), (.string ⟨#[]⟩), (.slice none 0 0), (.bool false), (.int .i64 0), (.slice none 0 0), (.slice none 0 0)] := by kernel_rfl

def Ys (w : World) (A : Option Addr) (l : List Int) : Prop := Sl w A l.length 1 (l.map (.int .u8))
theorem Ys.below {w w' : World} {A : Option Addr} {l : List Int} (h : Ys w A l) (hk : Below w.heap.size w w') : Ys w' A l :=
  ⟨h.1, fun hn => by
    obtain ⟨b, off, e, hl, hc⟩ := h.2 hn
    refine ⟨b, off, e, Nat.lt_of_lt_of_le hl hk.size, fun j u hu => ?_⟩
    rw [World.cell?_of_block (w := w) (a := ⟨b, off + j, none⟩) (hk.block b hl)]
    exact hc j u hu⟩
theorem ys_cell {w : World} {A : Option Addr} {l : List Int} (h : Ys w A l) {b off k : Nat} {x i : Int} (hA : A = some ⟨b, off, none⟩) (hx : l[k]? = some x) (hi : i = k) : w.cell? ⟨b, off + Int.toNat i * 1, none⟩ = some (.int .u8 x) := by
  subst hi
  have := (List.getElem?_eq_some_iff.1 hx).1
  simpa using Sl.cell h (j := k) (by omega) hA (by simp [hx])
theorem of_below {w W : World} (h : Below w.heap.size w W) : Mod [] [] w.heap.size w W := ⟨h.os, h.tape, h.output, h.size, fun k hk _ => h.block k hk⟩
theorem lit_ne {a b : Int} (h : a = b) : Value.bool (!decide (a = b)) = .bool false := by simp [h]
theorem lit_eq {a b : Int} (h : a = b) : Value.bool (decide (a = b)) = .bool true := by simp [h]
theorem lit_eqF {a b : Int} (h : ¬ a = b) : Value.bool (decide (a = b)) = .bool false := by simp [h]
theorem lit_neT {a b : Int} (h : ¬ a = b) : Value.bool (!decide (a = b)) = .bool true := by simp [h]
structure Once (G : List Int) (arr : List Bool) : Prop where
  len : arr.length = 8
  nd : G.Nodup
  at_ : ∀ d : Nat, 1 ≤ d → d ≤ 7 → arr[d]? = some (decide ((d : Int) ∈ G))
theorem once_start : Once [] (List.replicate 8 false) := ⟨rfl, List.nodup_nil, fun d h1 h2 => by
  rw [List.getElem?_replicate, if_pos (by omega)]
  simp⟩
theorem arr_at {arr : List Bool} {x : Int} {d : Nat} {v : Bool} (hd : x = d) (h : arr[d]? = some v) : (arr.map Value.bool).toArray.toList[0 + x.toNat * 1]? = some (.bool v) := by
  subst hd
  simp [h]
theorem arr_set {w : World} {g : Nat} {arr : List Bool} {x : Int} {d : Nat} {v : Bool} (h : Blk w g 26 ((arr.map Value.bool).toArray.setIfInBounds (0 + x.toNat * 1) (.bool v))) (hd : x = d) : Blk w g 26 ((arr.set d v).map Value.bool).toArray := by
  subst hd
  simpa using h
theorem once_drop {G : List Int} {arr : List Bool} {x : Int} {d : Nat} (h : Once G arr) (hd : x = d) (hx : 1 ≤ d ∧ d ≤ 7) : Once (G.erase x) (arr.set d false) := by
  subst hd
  refine ⟨by simp [h.len], h.nd.erase _, fun k h1 h2 => ?_⟩
  rw [List.getElem?_set]
  by_cases hk : d = k
  · subst hk
    rw [if_pos rfl, if_pos (by rw [h.len]; omega)]
    simp [h.nd.mem_erase_iff]
  · rw [if_neg hk, h.at_ k h1 h2]
    have : ((k : Int) ∈ G.erase (d : Int)) ↔ (k : Int) ∈ G := by
      rw [h.nd.mem_erase_iff]
      exact ⟨fun h => h.2, fun h => ⟨by omega, h⟩⟩
    simp [this]
theorem once_put {G : List Int} {arr : List Bool} {x : Int} {d : Nat} (h : Once G arr) (hd : x = d) (hx : 1 ≤ d ∧ d ≤ 7) : Once (insS x G) (arr.set d true) := by
  subst hd
  refine ⟨by simp [h.len], ?_, fun k h1 h2 => ?_⟩
  · unfold insS
    split
    · exact h.nd
    · rename_i hn
      exact List.nodup_cons.2 ⟨hn, h.nd⟩
  · rw [List.getElem?_set]
    by_cases hk : d = k
    · subst hk
      rw [if_pos rfl, if_pos (by rw [h.len]; omega)]
      simp [mem_insS]
    · rw [if_neg hk, h.at_ k h1 h2]
      have : ((k : Int) ∈ insS (d : Int) G) ↔ (k : Int) ∈ G := by
        rw [mem_insS]
        exact ⟨fun h => h.elim (fun e => by omega) id, .inr⟩
      simp [this]

set_option maxRecDepth 100000 in
set_option maxHeartbeats 3000000 in
theorem once_any (bs : List Int) (Ab : Option Addr) (cb : Nat) (w : World) (A1 : Ys w Ab bs) (hbb : ∀ x ∈ bs, 0 ≤ x ∧ x ≤ 255) (hlb : bs.length ≤ maxLen) : Calls Try.prog 3 #[.slice Ab bs.length cb] w (fun e w' => e = .returned (.bool true) ∧ Below w.heap.size w w') := by
  have HK : Below w.heap.size w w := Below.refl _ _
  unfold maxLen at hlb
  refine C.enter Try.func3 rfl Try.ntmps3 rfl ?_
  intro a0 f0
  have f1 : Fr 105 a0 [(0, .slice Ab bs.length cb)] := f0
  clear f0
  refine wp_seq_k fun K0 hK0 => ?_
  refine C.region ?_
  refine L.val f1 wantedN rfl (by decide) (E.assign f1 rfl) fun a2 f2 => ?_
  clear f1 a0
  refine wpList_nil (hK0 _ _ ?_)
  try clear hK0 K0
  have f3 := f2.sub (sub_cons (i := 0) rfl (sub_cons (i := 2) rfl sub_nil))
  clear f2
  refine wp_seq_k fun K1 hK1 => ?_
  refine wp_seq_k fun K2 hK2 => ?_
  refine C.region ?_
  refine L.call f3 wantedN rfl (by decide) (run_call Try.call9 (args0 f3)) (known_any _) ?_
  rintro e w1 ⟨rfl, kb⟩
  have kc1 : Mod [] [] w.heap.size w w1 := of_below kb
  refine ⟨_, rfl, fun a4 f4 => ?_⟩
  clear f3 a2
  have szw1 := kc1.size
  replace HK := blwm HK kc1
  clear kc1
  refine L.val f4 wantedN rfl (by decide) (E.not f4 rfl) fun a5 f5 => ?_
  clear f4 a4
  refine wpList_nil (hK2 _ _ ?_)
  try clear hK2 K2
  have f6 := f5.sub (sub_cons (i := 0) rfl (sub_cons (i := 2) rfl (sub_cons (i := 12) rfl sub_nil)))
  clear f5
  refine C.condF f6 rfl ?_
  refine wp_skip (hK1 _ _ ?_)
  try clear hK1 K1
  have f7 := f6.sub (sub_cons (i := 0) rfl (sub_cons (i := 2) rfl sub_nil))
  clear f6
  refine wp_seq_k fun K3 hK3 => ?_
  refine wp_seq_k fun K4 hK4 => ?_
  refine C.region ?_
  refine L.val f7 wantedN rfl (by decide) (E.move f7 rfl) fun a8 f8 => ?_
  clear f7 a5
  refine L.val f8 wantedN rfl (by decide) (E.lenL f8 Try.underlying22 rfl) fun a9 f9 => ?_
  clear f8 a8
  refine L.val f9 wantedN rfl (by decide) (E.gtr f9 rfl rfl) fun a10 f10 => ?_
  clear f9 a9
  refine wpList_nil (hK4 _ _ ?_)
  try clear hK4 K4
  have f11 := f10.sub (sub_cons (i := 0) rfl (sub_cons (i := 2) rfl (sub_cons (i := 15) rfl sub_nil)))
  clear f10
  first | refine f11.splitD 15 rfl (fun h0 f12 => ?_) (fun h0 f12 => ?_) | refine f11.splitN 15 rfl (fun h0 f12 => ?_) (fun h0 f12 => ?_) | refine f11.splitNB 15 rfl (fun h0 f12 => ?_) (fun h0 f12 => ?_) | refine f11.split 15 rfl (fun h0 f12 => ?_) (fun h0 f12 => ?_)
  · clear f11
    refine C.condT f12 rfl ?_
    refine wp_seq_k fun K5 hK5 => ?_
    refine C.region ?_
    refine L.val f12 wantedN rfl (by decide) (E.assign f12 rfl) fun a13 f13 => ?_
    clear f12 a10
    refine wpList_nil (hK5 _ _ ?_)
    try clear hK5 K5
    have f14 := f13.sub (sub_cons (i := 0) rfl (sub_cons (i := 2) rfl sub_nil))
    clear f13
    refine wp_ret ?_
    try simp only [Exit.inBlock, Exit.then]
    refine C.ret (P := Try.prog) (fn := Try.f3) f14 rfl rfl ?_
    exact ⟨rfl, HK⟩
  · clear f11
    refine C.condF f12 rfl ?_
    refine wp_skip (hK3 _ _ ?_)
    try clear hK3 K3
    have f13 := f12.sub (sub_cons (i := 0) rfl (sub_cons (i := 2) rfl sub_nil))
    clear f12
    refine wp_seq_k fun K6 hK6 => ?_
    refine C.region ?_
    refine L.call f13 wantedN rfl (by decide) (run_call Try.call10 (args1 f13 rfl)) (new_any ⟨#[107]⟩ w.heap.size _ HK.size) ?_
    rintro e w2 ⟨p, s, rfl, HS, hab, hcl, kc2⟩
    refine ⟨_, rfl, fun a14 f14 => ?_⟩
    clear f13 a10
    have szw2 := kc2.size
    replace HK := blwm HK kc2
    clear kc2
    refine L.val f14 wantedN rfl (by decide) (E.assign f14 rfl) fun a15 f15 => ?_
    clear f14 a14
    refine wpList_nil (hK6 _ _ ?_)
    try clear hK6 K6
    have f16 := f15.sub (sub_cons (i := 0) rfl (sub_cons (i := 2) rfl (sub_cons (i := 3) rfl sub_nil)))
    clear f15
    refine wp_seq_k fun K7 hK7 => ?_
    refine C.region ?_
    refine L.alloc f16 wantedN (by decide) (z := (.agg #[(.bool false), (.bool false), (.bool false), (.bool false), (.bool false), (.bool false), (.bool false), (.bool false)])) (fun _ => by kernel_rfl) rfl fun a17 w3 g2 N2 f17 => ?_
    have Bg2 := N2.blk
    have kg2 := N2.kept
    have log2 := N2.lo
    have ltg2 := Bg2.lt
    have szw3 := kg2.size
    replace HK := blwm HK (.of_kept0 (T := []) (M := []) kg2)
    replace HS := HS.mod (Mod.of_kept0 (T := []) (M := []) (B := (w.heap.size)) kg2) (by decide)
    clear N2 kg2
    clear f16 a15
    refine wpList_nil (hK7 _ _ ?_)
    try clear hK7 K7
    have f18 := f17.sub (sub_cons (i := 0) rfl (sub_cons (i := 2) rfl (sub_cons (i := 3) rfl (sub_cons (i := 4) rfl sub_nil))))
    clear f17
    refine wp_seq_k fun K8 hK8 => ?_
    refine wp_seq_k fun K9 hK9 => ?_
    refine C.region ?_
    refine L.val f18 wantedN rfl (by decide) (E.assign f18 rfl) fun a19 f19 => ?_
    clear f18 a17
    refine wpList_nil (hK9 _ _ ?_)
    try clear hK9 K9
    have f20 := f19.sub (sub_cons (i := 0) rfl (sub_cons (i := 2) rfl (sub_cons (i := 3) rfl (sub_cons (i := 4) rfl (sub_cons (i := 5) rfl sub_nil)))))
    clear f19
    refine wp_block ?_
    have BA : Blk w3 g2 26 ((List.replicate 8 false).map Value.bool).toArray := Bg2
    refine C.loop (fun gk a W => ∃ (k : Nat) (u : Ses) (G : List Int) (arr : List Bool), k + gk = bs.length ∧ SesAt w.heap.size W p u ∧ u.abs = ⟨[], 0, [], [], 0, G⟩ ∧ Once G arr ∧ G.length ≤ k ∧ Blk W g2 26 (arr.map Value.bool).toArray ∧ Below w.heap.size w W ∧ Fr 105 a [(0, .slice Ab bs.length cb), (3, .pointer (some ⟨p, 0, none⟩)), (4, .pointer (some ⟨g2, 0, none⟩)), (5, .int .i64 k)]) (bs.length) ?_ ?_
    · exact ⟨0, s, [], List.replicate 8 false, by omega, HS, hab, once_start, by simp, BA, HK, f20.sub (sub_cons rfl (sub_cons rfl (sub_cons rfl (sub_cons rfl sub_nil))))⟩
    · intro gk11 a21 w4 hI KL10 hKL10
      obtain ⟨k, u, G, arr, hk, HS, hab, hO, hG, BA, HK, f21⟩ := hI
      try clear f20
      have szw1x := HK.size
      refine wp_seq_k fun K11 hK11 => ?_
      refine wp_seq_k fun K12 hK12 => ?_
      refine C.region ?_
      refine L.val f21 wantedN rfl (by decide) (E.move f21 rfl) fun a22 f22 => ?_
      clear f21 a21
      refine L.val f22 wantedN rfl (by decide) (E.move f22 rfl) fun a23 f23 => ?_
      clear f22 a22
      refine L.val f23 wantedN rfl (by decide) (E.lenL f23 Try.underlying22 rfl) fun a24 f24 => ?_
      clear f23 a23
      refine L.val f24 wantedN rfl (by decide) (E.lss f24 rfl rfl) fun a25 f25 => ?_
      clear f24 a24
      refine wpList_nil (hK12 _ _ ?_)
      try clear hK12 K12
      have f26 := f25.sub (sub_cons (i := 0) rfl (sub_cons (i := 3) rfl (sub_cons (i := 4) rfl (sub_cons (i := 5) rfl (sub_cons (i := 17) rfl (sub_cons (i := 18) rfl (sub_cons (i := 19) rfl (sub_cons (i := 20) rfl sub_nil))))))))
      clear f25
      first | refine f26.splitD 20 rfl (fun h1 f27 => ?_) (fun h1 f27 => ?_) | refine f26.splitN 20 rfl (fun h1 f27 => ?_) (fun h1 f27 => ?_) | refine f26.splitNB 20 rfl (fun h1 f27 => ?_) (fun h1 f27 => ?_) | refine f26.split 20 rfl (fun h1 f27 => ?_) (fun h1 f27 => ?_)
      · clear f26
        obtain ⟨b, hb⟩ : ∃ b, bs[k]? = some b := ⟨bs[k]'(by omega), List.getElem?_eq_getElem _⟩
        have hbx := hbb b (List.mem_of_getElem? hb)
        obtain ⟨bk, off, hB⟩ := Sl.addr A1 (by omega)
        obtain ⟨d, hd⟩ : ∃ d : Nat, b % 7 + 1 = (d : Int) := ⟨(b % 7 + 1).toNat, by omega⟩
        have hdx : 1 ≤ d ∧ d ≤ 7 := by omega
        refine C.condT f27 rfl ?_
        refine wp_skip (hK11 _ _ ?_)
        try clear hK11 K11
        have f28 := f27.sub (sub_cons (i := 0) rfl (sub_cons (i := 3) rfl (sub_cons (i := 4) rfl (sub_cons (i := 5) rfl (sub_cons (i := 17) rfl (sub_cons (i := 18) rfl (sub_cons (i := 19) rfl (sub_cons (i := 20) rfl sub_nil))))))))
        clear f27
        refine wp_seq_k fun K13 hK13 => ?_
        refine wp_block ?_
        refine wp_seq_k fun K14 hK14 => ?_
        refine C.region ?_
        refine L.val f28 wantedN rfl (by decide) (E.move f28 rfl) fun a29 f29 => ?_
        clear f28 a25
        refine L.val f29 wantedN rfl (by decide) (E.move f29 rfl) fun a30 f30 => ?_
        clear f29 a29
        refine L.val f30 wantedN rfl (by decide) (E.indexA f30 (by first | rfl | assumption) Try.underlying22 wsz5_n rfl rfl (by omega) (by omega)) fun a31 f31 => ?_
        clear f30 a30
        refine L.val f31 wantedN rfl (by decide) (by first | exact E.load f31 Try.underlying5 rfl rfl ((BA).cl rfl) | exact E.load f31 Try.underlying5 rfl rfl (ys_cell (A1.below HK) hB hb (by omega))) fun a32 f32 => ?_
        clear f31 a31
        refine L.val f32 wantedN rfl (by decide) (E.rem f32 rfl rfl (by omega) (Int.tmod_eq_emod_of_nonneg (by omega))) fun a33 f33 => ?_
        clear f32 a32
        refine L.val f33 wantedN rfl (by decide) (E.conv f33 Try.underlying5 Try.underlying3 rfl (IntWalk.i64_in _ (by omega))) fun a34 f34 => ?_
        clear f33 a33
        refine L.val f34 wantedN rfl (by decide) (E.add f34 rfl rfl (IntWalk.i64_in _ (by omega))) fun a35 f35 => ?_
        clear f34 a34
        refine L.val f35 wantedN rfl (by decide) (E.assign f35 rfl) fun a36 f36 => ?_
        clear f35 a35
        refine wpList_nil (hK14 _ _ ?_)
        try clear hK14 K14
        have f37 := f36.sub (sub_cons (i := 0) rfl (sub_cons (i := 3) rfl (sub_cons (i := 4) rfl (sub_cons (i := 5) rfl (sub_cons (i := 6) rfl (sub_cons (i := 17) rfl (sub_cons (i := 18) rfl (sub_cons (i := 19) rfl (sub_cons (i := 20) rfl (sub_cons (i := 23) rfl (sub_cons (i := 24) rfl (sub_cons (i := 25) rfl (sub_cons (i := 26) rfl (sub_cons (i := 27) rfl (sub_cons (i := 28) rfl (sub_cons (i := 29) rfl sub_nil))))))))))))))))
        clear f36
        refine wp_seq_k fun K15 hK15 => ?_
        refine wp_seq_k fun K16 hK16 => ?_
        refine C.region ?_
        refine L.val f37 wantedN rfl (by decide) (E.move f37 rfl) fun a38 f38 => ?_
        clear f37 a36
        refine L.val f38 wantedN rfl (by decide) (E.move f38 rfl) fun a39 f39 => ?_
        clear f38 a38
        refine L.val f39 wantedN rfl (by decide) (E.indexA f39 (by first | rfl | assumption) Try.underlying22 wsz5_n rfl rfl (by omega) (by omega)) fun a40 f40 => ?_
        clear f39 a39
        refine L.val f40 wantedN rfl (by decide) (by first | exact E.load f40 Try.underlying5 rfl rfl ((BA).cl rfl) | exact E.load f40 Try.underlying5 rfl rfl (ys_cell (A1.below HK) hB hb (by omega))) fun a41 f41 => ?_
        clear f40 a40
        refine L.val f41 wantedN rfl (by decide) (E.geq f41 rfl rfl) fun a42 f42 => ?_
        clear f41 a41
        refine wpList_nil (hK16 _ _ ?_)
        try clear hK16 K16
        have f43 := f42.sub (sub_cons (i := 0) rfl (sub_cons (i := 3) rfl (sub_cons (i := 4) rfl (sub_cons (i := 5) rfl (sub_cons (i := 6) rfl (sub_cons (i := 17) rfl (sub_cons (i := 18) rfl (sub_cons (i := 19) rfl (sub_cons (i := 20) rfl (sub_cons (i := 23) rfl (sub_cons (i := 24) rfl (sub_cons (i := 25) rfl (sub_cons (i := 26) rfl (sub_cons (i := 27) rfl (sub_cons (i := 28) rfl (sub_cons (i := 29) rfl (sub_cons (i := 30) rfl (sub_cons (i := 31) rfl (sub_cons (i := 32) rfl (sub_cons (i := 33) rfl (sub_cons (i := 34) rfl sub_nil)))))))))))))))))))))
        clear f42
        first | refine f43.splitD 34 rfl (fun h2 f44 => ?_) (fun h2 f44 => ?_) | refine f43.splitN 34 rfl (fun h2 f44 => ?_) (fun h2 f44 => ?_) | refine f43.splitNB 34 rfl (fun h2 f44 => ?_) (fun h2 f44 => ?_) | refine f43.split 34 rfl (fun h2 f44 => ?_) (fun h2 f44 => ?_)
        · clear f43
          have h200 := h2
          refine C.condT f44 rfl ?_
          refine wp_seq_k fun K17 hK17 => ?_
          refine C.region ?_
          refine L.val f44 wantedN rfl (by decide) (E.move f44 rfl) fun a45 f45 => ?_
          clear f44 a42
          refine L.val f45 wantedN rfl (by decide) (E.move f45 rfl) fun a46 f46 => ?_
          clear f45 a45
          refine L.val f46 wantedN rfl (by decide) (E.build f46 (parts2 f46 rfl rfl) (wbl35_0_4_n _ _)) fun a47 f47 => ?_
          clear f46 a46
          have hC := got_any w.heap.size p u 6 0 (b % 7 + 1) #[(.int .i64 6), (.bool false), (.bool false), (.int .i64 0), (.int .i64 (b % 7 + 1)), (.string ⟨#[]⟩), (.slice none 0 0), (.int .i64 0), (.string ⟨#[]⟩), (.bool false), (.int .i64 0), (.bool false), (.string ⟨#[]⟩), (.slice none 0 0), (.int .i64 0), (.bool false), (.bool false), (.bool false), (.string ⟨#[]⟩), (.slice none 0 0), (.bool false), (.int .i64 0), (.slice none 0 0), (.slice none 0 0)] rfl rfl rfl w4 HS HK.size (wf64 (by omega)) (by rw [got_of hab]; unfold maxLen; show G.length < _; omega)
          rw [hab, show gotS ⟨[], 0, [], [], 0, G⟩ 6 0 (b % 7 + 1) = (⟨[], 0, [], [], 0, G.erase (b % 7 + 1)⟩, false, [ackP 7 (b % 7 + 1)]) by rfl] at hC
          refine L.call f47 wantedN rfl (by decide) (run_call Try.call11 (args2 f47 rfl rfl)) hC ?_
          rintro e w5 ⟨u2, A2, c2, pk2, rfl, HS2, hab2, hp2, hL2, kc5, PK2, -⟩
          obtain ⟨x2, rfl, hx2⟩ := one_of hp2
          refine ⟨_, rfl, fun a48 f48 => ?_⟩
          clear f47 a47
          have szw5 := kc5.size
          replace HK := blwm HK kc5
          replace BA := BA.mod kc5 (by decide)
          clear kc5
          refine L.val f48 wantedN rfl (by decide) (E.move f48 rfl) fun a49 f49 => ?_
          clear f48 a48
          refine L.val f49 wantedN rfl (by decide) (E.extract f49 rfl rfl) fun a50 f50 => ?_
          clear f49 a49
          have f51 := f50.as (i := 40) (v' := .bool false) rfl (by rfl)
          clear f50
          refine L.val f51 wantedN rfl (by decide) (E.extract f51 rfl rfl) fun a52 f52 => ?_
          clear f51 a50
          refine L.val f52 wantedN rfl (by decide) (E.assign f52 rfl) fun a53 f53 => ?_
          clear f52 a52
          refine L.val f53 wantedN rfl (by decide) (E.assign f53 rfl) fun a54 f54 => ?_
          clear f53 a53
          refine wpList_nil (hK17 _ _ ?_)
          try clear hK17 K17
          have f55 := f54.sub (sub_cons (i := 0) rfl (sub_cons (i := 3) rfl (sub_cons (i := 4) rfl (sub_cons (i := 5) rfl (sub_cons (i := 6) rfl (sub_cons (i := 7) rfl (sub_cons (i := 8) rfl (sub_cons (i := 17) rfl (sub_cons (i := 18) rfl (sub_cons (i := 19) rfl (sub_cons (i := 20) rfl (sub_cons (i := 23) rfl (sub_cons (i := 24) rfl (sub_cons (i := 25) rfl (sub_cons (i := 26) rfl (sub_cons (i := 27) rfl (sub_cons (i := 28) rfl (sub_cons (i := 29) rfl (sub_cons (i := 30) rfl (sub_cons (i := 31) rfl (sub_cons (i := 32) rfl (sub_cons (i := 33) rfl (sub_cons (i := 34) rfl (sub_cons (i := 35) rfl (sub_cons (i := 36) rfl (sub_cons (i := 37) rfl (sub_cons (i := 38) rfl (sub_cons (i := 39) rfl (sub_cons (i := 40) rfl (sub_cons (i := 41) rfl sub_nil))))))))))))))))))))))))))))))
          clear f54
          refine wp_seq_k fun K18 hK18 => ?_
          refine wp_seq_k fun K19 hK19 => ?_
          obtain ⟨b2, o2, hA2⟩ := (Sl.of_own PK2.fr.own).addr (by simp)
          refine C.region ?_
          refine L.val f55 wantedN rfl (by decide) (E.move f55 rfl) fun a56 f56 => ?_
          clear f55 a54
          refine L.val f56 wantedN rfl (by decide) (E.move f56 rfl) fun a57 f57 => ?_
          clear f56 a56
          refine L.val f57 (f57.yes rfl rfl) rfl (by decide) (E.move f57 rfl) fun a58 f58 => ?_
          clear f57 a57
          refine L.val f58 (f58.yes rfl rfl) rfl (by decide) (E.lenL f58 Try.underlying27 rfl) fun a59 f59 => ?_
          clear f58 a58
          refine L.val f59 (f59.yes rfl rfl) rfl (by decide) (E.neq f59 rfl rfl) fun a60 f60 => ?_
          clear f59 a59
          have f61 := f60.as (i := 46) (v' := .bool false) rfl (by rfl)
          clear f60
          refine L.val f61 wantedN rfl (by decide) (E.pickF f61 rfl rfl) fun a62 f62 => ?_
          clear f61 a60
          refine L.val f62 wantedN rfl (by decide) (E.move f62 rfl) fun a63 f63 => ?_
          clear f62 a62
          refine L.val f63 (f63.yes rfl rfl) rfl (by decide) (E.move f63 rfl) fun a64 f64 => ?_
          clear f63 a63
          refine L.val f64 (f64.yes rfl rfl) rfl (by decide) (E.indexA f64 hA2 Try.underlying27 wsz35_n rfl rfl (by decide) (by simp)) fun a65 f65 => ?_
          clear f64 a64
          refine L.val f65 (f65.yes rfl rfl) rfl (by decide) (E.fieldAddr f65 Try.underlying35 rfl rfl wsz3_n) fun a66 f66 => ?_
          clear f65 a65
          refine L.val f66 (f66.yes rfl rfl) rfl (by decide) (E.load f66 Try.underlying3 rfl rfl (pk_cell PK2.fr.own hA2 (i := 0) (x := x2) rfl 0 rfl (show o2 + 0 * 24 + 0 = _ by omega))) fun a67 f67 => ?_
          clear f66 a66
          refine L.val f67 (f67.yes rfl rfl) rfl (by decide) (E.neq f67 rfl rfl) fun a68 f68 => ?_
          clear f67 a67
          have f69 := f68.as (i := 53) (v' := .bool false) rfl (by rw [hx2]; rfl)
          clear f68
          refine L.val f69 wantedN rfl (by decide) (E.pickF f69 rfl rfl) fun a70 f70 => ?_
          clear f69 a68
          refine L.val f70 wantedN rfl (by decide) (E.move f70 rfl) fun a71 f71 => ?_
          clear f70 a70
          refine L.val f71 (f71.yes rfl rfl) rfl (by decide) (E.move f71 rfl) fun a72 f72 => ?_
          clear f71 a71
          refine L.val f72 (f72.yes rfl rfl) rfl (by decide) (E.indexA f72 hA2 Try.underlying27 wsz35_n rfl rfl (by decide) (by simp)) fun a73 f73 => ?_
          clear f72 a72
          refine L.val f73 (f73.yes rfl rfl) rfl (by decide) (E.fieldAddr f73 Try.underlying35 rfl rfl wsz3_n) fun a74 f74 => ?_
          clear f73 a73
          refine L.val f74 (f74.yes rfl rfl) rfl (by decide) (E.load f74 Try.underlying3 rfl rfl (pk_cell PK2.fr.own hA2 (i := 0) (x := x2) rfl 4 rfl (show o2 + 0 * 24 + 4 = _ by omega))) fun a75 f75 => ?_
          clear f74 a74
          refine L.val f75 (f75.yes rfl rfl) rfl (by decide) (E.move f75 rfl) fun a76 f76 => ?_
          clear f75 a75
          refine L.val f76 (f76.yes rfl rfl) rfl (by decide) (E.neq f76 rfl rfl) fun a77 f77 => ?_
          clear f76 a76
          have f78 := f77.as (i := 61) (v' := .bool false) rfl (by rw [hx2]; exact lit_ne rfl)
          clear f77
          refine L.val f78 wantedN rfl (by decide) (E.pickF f78 rfl rfl) fun a79 f79 => ?_
          clear f78 a77
          refine wpList_nil (hK19 _ _ ?_)
          try clear hK19 K19
          have f80 := f79.sub (sub_cons (i := 0) rfl (sub_cons (i := 3) rfl (sub_cons (i := 4) rfl (sub_cons (i := 5) rfl (sub_cons (i := 6) rfl (sub_cons (i := 7) rfl (sub_cons (i := 8) rfl (sub_cons (i := 17) rfl (sub_cons (i := 18) rfl (sub_cons (i := 19) rfl (sub_cons (i := 20) rfl (sub_cons (i := 23) rfl (sub_cons (i := 24) rfl (sub_cons (i := 25) rfl (sub_cons (i := 26) rfl (sub_cons (i := 27) rfl (sub_cons (i := 28) rfl (sub_cons (i := 29) rfl (sub_cons (i := 30) rfl (sub_cons (i := 31) rfl (sub_cons (i := 32) rfl (sub_cons (i := 33) rfl (sub_cons (i := 34) rfl (sub_cons (i := 35) rfl (sub_cons (i := 36) rfl (sub_cons (i := 37) rfl (sub_cons (i := 38) rfl (sub_cons (i := 39) rfl (sub_cons (i := 40) rfl (sub_cons (i := 41) rfl (sub_cons (i := 42) rfl (sub_cons (i := 43) rfl (sub_cons (i := 44) rfl (sub_cons (i := 45) rfl (sub_cons (i := 46) rfl (sub_cons (i := 47) rfl (sub_cons (i := 48) rfl (sub_cons (i := 49) rfl (sub_cons (i := 50) rfl (sub_cons (i := 51) rfl (sub_cons (i := 52) rfl (sub_cons (i := 53) rfl (sub_cons (i := 54) rfl (sub_cons (i := 55) rfl (sub_cons (i := 56) rfl (sub_cons (i := 57) rfl (sub_cons (i := 58) rfl (sub_cons (i := 59) rfl (sub_cons (i := 60) rfl (sub_cons (i := 61) rfl (sub_cons (i := 62) rfl sub_nil)))))))))))))))))))))))))))))))))))))))))))))))))))
          clear f79
          refine C.condF f80 rfl ?_
          refine wp_skip (hK18 _ _ ?_)
          try clear hK18 K18
          have f81 := f80.sub (sub_cons (i := 0) rfl (sub_cons (i := 3) rfl (sub_cons (i := 4) rfl (sub_cons (i := 5) rfl (sub_cons (i := 6) rfl (sub_cons (i := 7) rfl (sub_cons (i := 8) rfl (sub_cons (i := 17) rfl (sub_cons (i := 18) rfl (sub_cons (i := 19) rfl (sub_cons (i := 20) rfl (sub_cons (i := 23) rfl (sub_cons (i := 24) rfl (sub_cons (i := 25) rfl (sub_cons (i := 26) rfl (sub_cons (i := 27) rfl (sub_cons (i := 28) rfl (sub_cons (i := 29) rfl (sub_cons (i := 30) rfl (sub_cons (i := 31) rfl (sub_cons (i := 32) rfl (sub_cons (i := 33) rfl (sub_cons (i := 34) rfl (sub_cons (i := 35) rfl (sub_cons (i := 36) rfl (sub_cons (i := 37) rfl (sub_cons (i := 38) rfl (sub_cons (i := 39) rfl (sub_cons (i := 40) rfl (sub_cons (i := 41) rfl (sub_cons (i := 42) rfl (sub_cons (i := 43) rfl (sub_cons (i := 44) rfl (sub_cons (i := 45) rfl (sub_cons (i := 46) rfl (sub_cons (i := 47) rfl (sub_cons (i := 48) rfl (sub_cons (i := 49) rfl (sub_cons (i := 50) rfl (sub_cons (i := 51) rfl (sub_cons (i := 52) rfl (sub_cons (i := 53) rfl (sub_cons (i := 54) rfl (sub_cons (i := 55) rfl (sub_cons (i := 56) rfl (sub_cons (i := 57) rfl (sub_cons (i := 58) rfl (sub_cons (i := 59) rfl (sub_cons (i := 60) rfl (sub_cons (i := 61) rfl (sub_cons (i := 62) rfl sub_nil)))))))))))))))))))))))))))))))))))))))))))))))))))
          clear f80
          refine wp_seq_k fun K20 hK20 => ?_
          refine C.region ?_
          refine L.val f81 wantedN rfl (by decide) (E.move f81 rfl) fun a82 f82 => ?_
          clear f81 a79
          refine L.val f82 wantedN rfl (by decide) (E.indexArr f82 Try.underlying26 wsz4_n rfl rfl (by omega) (by omega)) fun a83 f83 => ?_
          clear f82 a82
          refine L.store f83 wantedN wsz4_n rfl rfl rfl BA (by simp [hO.len]; omega) fun a84 w6 f84 NB ks => ?_
          have szw6 := ks.size
          have BA2 := arr_set NB hd
          replace HK := blwm HK (Mod.of_blk1 (M := []) ks BA (by omega))
          replace HS2 := HS2.mod (Mod.of_blk1 (M := []) (B := (w.heap.size)) ks BA (by omega)) (by decide)
          replace PK2 := PK2.mod (Mod.of_blk1 (M := []) (B := (w.heap.size)) ks BA (by omega)) (by decide)
          clear f83 a83 ks NB
          refine wpList_nil (hK20 _ _ ?_)
          try clear hK20 K20
          have f85 := f84.sub (sub_cons (i := 0) rfl (sub_cons (i := 3) rfl (sub_cons (i := 4) rfl (sub_cons (i := 5) rfl (sub_cons (i := 6) rfl (sub_cons (i := 7) rfl (sub_cons (i := 8) rfl (sub_cons (i := 17) rfl (sub_cons (i := 18) rfl (sub_cons (i := 19) rfl (sub_cons (i := 20) rfl (sub_cons (i := 23) rfl (sub_cons (i := 24) rfl (sub_cons (i := 25) rfl (sub_cons (i := 26) rfl (sub_cons (i := 27) rfl (sub_cons (i := 28) rfl (sub_cons (i := 29) rfl (sub_cons (i := 30) rfl (sub_cons (i := 31) rfl (sub_cons (i := 32) rfl (sub_cons (i := 33) rfl (sub_cons (i := 34) rfl (sub_cons (i := 35) rfl (sub_cons (i := 36) rfl (sub_cons (i := 37) rfl (sub_cons (i := 38) rfl (sub_cons (i := 39) rfl (sub_cons (i := 40) rfl (sub_cons (i := 41) rfl (sub_cons (i := 42) rfl (sub_cons (i := 43) rfl (sub_cons (i := 44) rfl (sub_cons (i := 45) rfl (sub_cons (i := 46) rfl (sub_cons (i := 47) rfl (sub_cons (i := 48) rfl (sub_cons (i := 49) rfl (sub_cons (i := 50) rfl (sub_cons (i := 51) rfl (sub_cons (i := 52) rfl (sub_cons (i := 53) rfl (sub_cons (i := 54) rfl (sub_cons (i := 55) rfl (sub_cons (i := 56) rfl (sub_cons (i := 57) rfl (sub_cons (i := 58) rfl (sub_cons (i := 59) rfl (sub_cons (i := 60) rfl (sub_cons (i := 61) rfl (sub_cons (i := 62) rfl (sub_cons (i := 63) rfl (sub_cons (i := 64) rfl sub_nil)))))))))))))))))))))))))))))))))))))))))))))))))))))
          clear f84
          refine wp_exit (hK13 _ _ ?_)
          try clear hK13 K13
          have f86 := f85.sub (sub_cons (i := 0) rfl (sub_cons (i := 3) rfl (sub_cons (i := 4) rfl (sub_cons (i := 5) rfl (sub_cons (i := 6) rfl (sub_cons (i := 7) rfl (sub_cons (i := 8) rfl (sub_cons (i := 17) rfl (sub_cons (i := 18) rfl (sub_cons (i := 19) rfl (sub_cons (i := 20) rfl (sub_cons (i := 23) rfl (sub_cons (i := 24) rfl (sub_cons (i := 25) rfl (sub_cons (i := 26) rfl (sub_cons (i := 27) rfl (sub_cons (i := 28) rfl (sub_cons (i := 29) rfl (sub_cons (i := 30) rfl (sub_cons (i := 31) rfl (sub_cons (i := 32) rfl (sub_cons (i := 33) rfl (sub_cons (i := 34) rfl (sub_cons (i := 35) rfl (sub_cons (i := 36) rfl (sub_cons (i := 37) rfl (sub_cons (i := 38) rfl (sub_cons (i := 39) rfl (sub_cons (i := 40) rfl (sub_cons (i := 41) rfl (sub_cons (i := 42) rfl (sub_cons (i := 43) rfl (sub_cons (i := 44) rfl (sub_cons (i := 45) rfl (sub_cons (i := 46) rfl (sub_cons (i := 47) rfl (sub_cons (i := 48) rfl (sub_cons (i := 49) rfl (sub_cons (i := 50) rfl (sub_cons (i := 51) rfl (sub_cons (i := 52) rfl (sub_cons (i := 53) rfl (sub_cons (i := 54) rfl (sub_cons (i := 55) rfl (sub_cons (i := 56) rfl (sub_cons (i := 57) rfl (sub_cons (i := 58) rfl (sub_cons (i := 59) rfl (sub_cons (i := 60) rfl (sub_cons (i := 61) rfl (sub_cons (i := 62) rfl (sub_cons (i := 63) rfl (sub_cons (i := 64) rfl sub_nil)))))))))))))))))))))))))))))))))))))))))))))))))))))
          clear f85
          refine C.region ?_
          refine L.val f86 wantedN rfl (by decide) (E.move f86 rfl) fun a87 f87 => ?_
          clear f86 a84
          refine L.val f87 wantedN rfl (by decide) (E.add f87 rfl rfl (IntWalk.i64_in _ (by omega))) fun a88 f88 => ?_
          clear f87 a87
          refine L.val f88 wantedN rfl (by decide) (E.assign f88 rfl) fun a89 f89 => ?_
          clear f88 a88
          refine wpList_nil (hKL10 _ _ (gk11 - 1) ?_ ?_)
          · omega
          · exact ⟨k + 1, u2, G.erase (b % 7 + 1), arr.set d false, by omega, HS2, hab2, once_drop hO hd hdx, by have := List.length_erase_le (a := b % 7 + 1) (l := G); omega, BA2, HK, by simpa using f89.sub (sub_cons rfl (sub_cons rfl (sub_cons rfl (sub_cons rfl sub_nil))))⟩
        · clear f43
          have h200 := h2
          refine C.condF f44 rfl ?_
          refine wp_skip (hK15 _ _ ?_)
          try clear hK15 K15
          have f45 := f44.sub (sub_cons (i := 0) rfl (sub_cons (i := 3) rfl (sub_cons (i := 4) rfl (sub_cons (i := 5) rfl (sub_cons (i := 6) rfl (sub_cons (i := 17) rfl (sub_cons (i := 18) rfl (sub_cons (i := 19) rfl (sub_cons (i := 20) rfl (sub_cons (i := 23) rfl (sub_cons (i := 24) rfl (sub_cons (i := 25) rfl (sub_cons (i := 26) rfl (sub_cons (i := 27) rfl (sub_cons (i := 28) rfl (sub_cons (i := 29) rfl (sub_cons (i := 30) rfl (sub_cons (i := 31) rfl (sub_cons (i := 32) rfl (sub_cons (i := 33) rfl (sub_cons (i := 34) rfl sub_nil)))))))))))))))))))))
          clear f44
          refine wp_seq_k fun K21 hK21 => ?_
          refine C.region ?_
          refine L.val f45 wantedN rfl (by decide) (E.move f45 rfl) fun a46 f46 => ?_
          clear f45 a42
          refine L.val f46 wantedN rfl (by decide) (E.move f46 rfl) fun a47 f47 => ?_
          clear f46 a46
          refine L.val f47 wantedN rfl (by decide) (E.move f47 rfl) fun a48 f48 => ?_
          clear f47 a47
          refine L.val f48 wantedN rfl (by decide) (E.move f48 rfl) fun a49 f49 => ?_
          clear f48 a48
          refine L.val f49 wantedN rfl (by decide) (E.indexA f49 (by first | rfl | assumption) Try.underlying22 wsz5_n rfl rfl (by omega) (by omega)) fun a50 f50 => ?_
          clear f49 a49
          refine L.val f50 wantedN rfl (by decide) (by first | exact E.load f50 Try.underlying5 rfl rfl ((BA).cl rfl) | exact E.load f50 Try.underlying5 rfl rfl (ys_cell (A1.below HK) hB hb (by omega))) fun a51 f51 => ?_
          clear f50 a50
          refine L.val f51 wantedN rfl (by decide) (E.rem f51 rfl rfl (by omega) (Int.tmod_eq_emod_of_nonneg (by omega))) fun a52 f52 => ?_
          clear f51 a51
          refine L.val f52 wantedN rfl (by decide) (E.eql f52 rfl rfl) fun a53 f53 => ?_
          clear f52 a52
          refine L.val f53 wantedN rfl (by decide) (E.build f53 (parts5 f53 rfl rfl rfl rfl rfl) (wbl35_0_3_4_1_5_n _ _ _ _ _)) fun a54 f54 => ?_
          clear f53 a53
          have hC := got_any w.heap.size p u 3 2 (b % 7 + 1) #[(.int .i64 3), (.bool (decide (b % 2 = 0))), (.bool false), (.int .i64 2), (.int .i64 (b % 7 + 1)), (.string ⟨#[116]⟩), (.slice none 0 0), (.int .i64 0), (.string ⟨#[]⟩), (.bool false), (.int .i64 0), (.bool false), (.string ⟨#[]⟩), (.slice none 0 0), (.int .i64 0), (.bool false), (.bool false), (.bool false), (.string ⟨#[]⟩), (.slice none 0 0), (.bool false), (.int .i64 0), (.slice none 0 0), (.slice none 0 0)] rfl rfl rfl w4 HS HK.size (wf64 (by omega)) (by rw [got_of hab]; unfold maxLen; show G.length < _; omega)
          rw [hab, show gotS ⟨[], 0, [], [], 0, G⟩ 3 2 (b % 7 + 1) = (⟨[], 0, [], [], 0, insS (b % 7 + 1) G⟩, !decide (b % 7 + 1 ∈ G), [ackP 5 (b % 7 + 1)]) by rfl] at hC
          refine L.call f54 wantedN rfl (by decide) (run_call Try.call11 (args2 f54 rfl rfl)) hC ?_
          rintro e w5 ⟨u2, A2, c2, pk2, rfl, HS2, hab2, hp2, hL2, kc5, PK2, -⟩
          obtain ⟨x2, rfl, hx2⟩ := one_of hp2
          refine ⟨_, rfl, fun a55 f55 => ?_⟩
          clear f54 a54
          have szw5 := kc5.size
          replace HK := blwm HK kc5
          replace BA := BA.mod kc5 (by decide)
          clear kc5
          refine L.val f55 wantedN rfl (by decide) (E.move f55 rfl) fun a56 f56 => ?_
          clear f55 a55
          refine L.val f56 wantedN rfl (by decide) (E.extract f56 rfl rfl) fun a57 f57 => ?_
          clear f56 a56
          refine L.val f57 wantedN rfl (by decide) (E.extract f57 rfl rfl) fun a58 f58 => ?_
          clear f57 a57
          refine L.val f58 wantedN rfl (by decide) (E.assign f58 rfl) fun a59 f59 => ?_
          clear f58 a58
          refine L.val f59 wantedN rfl (by decide) (E.assign f59 rfl) fun a60 f60 => ?_
          clear f59 a59
          refine wpList_nil (hK21 _ _ ?_)
          try clear hK21 K21
          have f61 := f60.sub (sub_cons (i := 0) rfl (sub_cons (i := 3) rfl (sub_cons (i := 4) rfl (sub_cons (i := 5) rfl (sub_cons (i := 6) rfl (sub_cons (i := 9) rfl (sub_cons (i := 10) rfl (sub_cons (i := 17) rfl (sub_cons (i := 18) rfl (sub_cons (i := 19) rfl (sub_cons (i := 20) rfl (sub_cons (i := 23) rfl (sub_cons (i := 24) rfl (sub_cons (i := 25) rfl (sub_cons (i := 26) rfl (sub_cons (i := 27) rfl (sub_cons (i := 28) rfl (sub_cons (i := 29) rfl (sub_cons (i := 30) rfl (sub_cons (i := 31) rfl (sub_cons (i := 32) rfl (sub_cons (i := 33) rfl (sub_cons (i := 34) rfl (sub_cons (i := 65) rfl (sub_cons (i := 66) rfl (sub_cons (i := 67) rfl (sub_cons (i := 68) rfl (sub_cons (i := 69) rfl (sub_cons (i := 70) rfl (sub_cons (i := 71) rfl (sub_cons (i := 72) rfl (sub_cons (i := 73) rfl (sub_cons (i := 74) rfl (sub_cons (i := 75) rfl (sub_cons (i := 76) rfl (sub_cons (i := 77) rfl sub_nil))))))))))))))))))))))))))))))))))))
          clear f60
          refine wp_seq_k fun K22 hK22 => ?_
          refine wp_seq_k fun K23 hK23 => ?_
          obtain ⟨b2, o2, hA2⟩ := (Sl.of_own PK2.fr.own).addr (by simp)
          refine C.region ?_
          refine L.val f61 wantedN rfl (by decide) (E.move f61 rfl) fun a62 f62 => ?_
          clear f61 a60
          refine L.val f62 wantedN rfl (by decide) (E.move f62 rfl) fun a63 f63 => ?_
          clear f62 a62
          refine L.val f63 wantedN rfl (by decide) (E.indexArr f63 Try.underlying26 wsz4_n rfl rfl (by omega) (by omega)) fun a64 f64 => ?_
          clear f63 a63
          refine L.val f64 wantedN rfl (by decide) (E.load f64 Try.underlying4 rfl rfl (BA.cl (arr_at hd (hO.at_ d hdx.1 hdx.2)))) fun a65 f65 => ?_
          clear f64 a64
          refine L.val f65 wantedN rfl (by decide) (E.eqlB f65 Try.underlying4 rfl rfl) fun a66 f66 => ?_
          clear f65 a65
          have f67 := f66.as (i := 82) (v' := .bool false) rfl (by rw [hd]; by_cases hh : (d : Int) ∈ G <;> simp [hh])
          clear f66
          refine L.val f67 wantedN rfl (by decide) (E.move f67 rfl) fun a68 f68 => ?_
          clear f67 a66
          refine L.val f68 (f68.yes rfl rfl) rfl (by decide) (E.move f68 rfl) fun a69 f69 => ?_
          clear f68 a68
          refine L.val f69 (f69.yes rfl rfl) rfl (by decide) (E.lenL f69 Try.underlying27 rfl) fun a70 f70 => ?_
          clear f69 a69
          refine L.val f70 (f70.yes rfl rfl) rfl (by decide) (E.neq f70 rfl rfl) fun a71 f71 => ?_
          clear f70 a70
          have f72 := f71.as (i := 86) (v' := .bool false) rfl (by rfl)
          clear f71
          refine L.val f72 wantedN rfl (by decide) (E.pickF f72 rfl rfl) fun a73 f73 => ?_
          clear f72 a71
          refine L.val f73 wantedN rfl (by decide) (E.move f73 rfl) fun a74 f74 => ?_
          clear f73 a73
          refine L.val f74 (f74.yes rfl rfl) rfl (by decide) (E.move f74 rfl) fun a75 f75 => ?_
          clear f74 a74
          refine L.val f75 (f75.yes rfl rfl) rfl (by decide) (E.indexA f75 hA2 Try.underlying27 wsz35_n rfl rfl (by decide) (by simp)) fun a76 f76 => ?_
          clear f75 a75
          refine L.val f76 (f76.yes rfl rfl) rfl (by decide) (E.fieldAddr f76 Try.underlying35 rfl rfl wsz3_n) fun a77 f77 => ?_
          clear f76 a76
          refine L.val f77 (f77.yes rfl rfl) rfl (by decide) (E.load f77 Try.underlying3 rfl rfl (pk_cell PK2.fr.own hA2 (i := 0) (x := x2) rfl 0 rfl (show o2 + 0 * 24 + 0 = _ by omega))) fun a78 f78 => ?_
          clear f77 a77
          refine L.val f78 (f78.yes rfl rfl) rfl (by decide) (E.neq f78 rfl rfl) fun a79 f79 => ?_
          clear f78 a78
          have f80 := f79.as (i := 93) (v' := .bool false) rfl (by rw [hx2]; rfl)
          clear f79
          refine L.val f80 wantedN rfl (by decide) (E.pickF f80 rfl rfl) fun a81 f81 => ?_
          clear f80 a79
          refine L.val f81 wantedN rfl (by decide) (E.move f81 rfl) fun a82 f82 => ?_
          clear f81 a81
          refine L.val f82 (f82.yes rfl rfl) rfl (by decide) (E.move f82 rfl) fun a83 f83 => ?_
          clear f82 a82
          refine L.val f83 (f83.yes rfl rfl) rfl (by decide) (E.indexA f83 hA2 Try.underlying27 wsz35_n rfl rfl (by decide) (by simp)) fun a84 f84 => ?_
          clear f83 a83
          refine L.val f84 (f84.yes rfl rfl) rfl (by decide) (E.fieldAddr f84 Try.underlying35 rfl rfl wsz3_n) fun a85 f85 => ?_
          clear f84 a84
          refine L.val f85 (f85.yes rfl rfl) rfl (by decide) (E.load f85 Try.underlying3 rfl rfl (pk_cell PK2.fr.own hA2 (i := 0) (x := x2) rfl 4 rfl (show o2 + 0 * 24 + 4 = _ by omega))) fun a86 f86 => ?_
          clear f85 a85
          refine L.val f86 (f86.yes rfl rfl) rfl (by decide) (E.move f86 rfl) fun a87 f87 => ?_
          clear f86 a86
          refine L.val f87 (f87.yes rfl rfl) rfl (by decide) (E.neq f87 rfl rfl) fun a88 f88 => ?_
          clear f87 a87
          have f89 := f88.as (i := 101) (v' := .bool false) rfl (by rw [hx2]; exact lit_ne rfl)
          clear f88
          refine L.val f89 wantedN rfl (by decide) (E.pickF f89 rfl rfl) fun a90 f90 => ?_
          clear f89 a88
          refine wpList_nil (hK23 _ _ ?_)
          try clear hK23 K23
          have f91 := f90.sub (sub_cons (i := 0) rfl (sub_cons (i := 3) rfl (sub_cons (i := 4) rfl (sub_cons (i := 5) rfl (sub_cons (i := 6) rfl (sub_cons (i := 9) rfl (sub_cons (i := 10) rfl (sub_cons (i := 17) rfl (sub_cons (i := 18) rfl (sub_cons (i := 19) rfl (sub_cons (i := 20) rfl (sub_cons (i := 23) rfl (sub_cons (i := 24) rfl (sub_cons (i := 25) rfl (sub_cons (i := 26) rfl (sub_cons (i := 27) rfl (sub_cons (i := 28) rfl (sub_cons (i := 29) rfl (sub_cons (i := 30) rfl (sub_cons (i := 31) rfl (sub_cons (i := 32) rfl (sub_cons (i := 33) rfl (sub_cons (i := 34) rfl (sub_cons (i := 65) rfl (sub_cons (i := 66) rfl (sub_cons (i := 67) rfl (sub_cons (i := 68) rfl (sub_cons (i := 69) rfl (sub_cons (i := 70) rfl (sub_cons (i := 71) rfl (sub_cons (i := 72) rfl (sub_cons (i := 73) rfl (sub_cons (i := 74) rfl (sub_cons (i := 75) rfl (sub_cons (i := 76) rfl (sub_cons (i := 77) rfl (sub_cons (i := 78) rfl (sub_cons (i := 79) rfl (sub_cons (i := 80) rfl (sub_cons (i := 81) rfl (sub_cons (i := 82) rfl (sub_cons (i := 83) rfl (sub_cons (i := 84) rfl (sub_cons (i := 85) rfl (sub_cons (i := 86) rfl (sub_cons (i := 87) rfl (sub_cons (i := 88) rfl (sub_cons (i := 89) rfl (sub_cons (i := 90) rfl (sub_cons (i := 91) rfl (sub_cons (i := 92) rfl (sub_cons (i := 93) rfl (sub_cons (i := 94) rfl (sub_cons (i := 95) rfl (sub_cons (i := 96) rfl (sub_cons (i := 97) rfl (sub_cons (i := 98) rfl (sub_cons (i := 99) rfl (sub_cons (i := 100) rfl (sub_cons (i := 101) rfl (sub_cons (i := 102) rfl sub_nil)))))))))))))))))))))))))))))))))))))))))))))))))))))))))))))
          clear f90
          refine C.condF f91 rfl ?_
          refine wp_skip (hK22 _ _ ?_)
          try clear hK22 K22
          have f92 := f91.sub (sub_cons (i := 0) rfl (sub_cons (i := 3) rfl (sub_cons (i := 4) rfl (sub_cons (i := 5) rfl (sub_cons (i := 6) rfl (sub_cons (i := 9) rfl (sub_cons (i := 10) rfl (sub_cons (i := 17) rfl (sub_cons (i := 18) rfl (sub_cons (i := 19) rfl (sub_cons (i := 20) rfl (sub_cons (i := 23) rfl (sub_cons (i := 24) rfl (sub_cons (i := 25) rfl (sub_cons (i := 26) rfl (sub_cons (i := 27) rfl (sub_cons (i := 28) rfl (sub_cons (i := 29) rfl (sub_cons (i := 30) rfl (sub_cons (i := 31) rfl (sub_cons (i := 32) rfl (sub_cons (i := 33) rfl (sub_cons (i := 34) rfl (sub_cons (i := 65) rfl (sub_cons (i := 66) rfl (sub_cons (i := 67) rfl (sub_cons (i := 68) rfl (sub_cons (i := 69) rfl (sub_cons (i := 70) rfl (sub_cons (i := 71) rfl (sub_cons (i := 72) rfl (sub_cons (i := 73) rfl (sub_cons (i := 74) rfl (sub_cons (i := 75) rfl (sub_cons (i := 76) rfl (sub_cons (i := 77) rfl (sub_cons (i := 78) rfl (sub_cons (i := 79) rfl (sub_cons (i := 80) rfl (sub_cons (i := 81) rfl (sub_cons (i := 82) rfl (sub_cons (i := 83) rfl (sub_cons (i := 84) rfl (sub_cons (i := 85) rfl (sub_cons (i := 86) rfl (sub_cons (i := 87) rfl (sub_cons (i := 88) rfl (sub_cons (i := 89) rfl (sub_cons (i := 90) rfl (sub_cons (i := 91) rfl (sub_cons (i := 92) rfl (sub_cons (i := 93) rfl (sub_cons (i := 94) rfl (sub_cons (i := 95) rfl (sub_cons (i := 96) rfl (sub_cons (i := 97) rfl (sub_cons (i := 98) rfl (sub_cons (i := 99) rfl (sub_cons (i := 100) rfl (sub_cons (i := 101) rfl (sub_cons (i := 102) rfl sub_nil)))))))))))))))))))))))))))))))))))))))))))))))))))))))))))))
          clear f91
          refine C.region ?_
          refine L.val f92 wantedN rfl (by decide) (E.move f92 rfl) fun a93 f93 => ?_
          clear f92 a90
          refine L.val f93 wantedN rfl (by decide) (E.indexArr f93 Try.underlying26 wsz4_n rfl rfl (by omega) (by omega)) fun a94 f94 => ?_
          clear f93 a93
          refine L.store f94 wantedN wsz4_n rfl rfl rfl BA (by simp [hO.len]; omega) fun a95 w6 f95 NB ks => ?_
          have szw6 := ks.size
          have BA2 := arr_set NB hd
          replace HK := blwm HK (Mod.of_blk1 (M := []) ks BA (by omega))
          replace HS2 := HS2.mod (Mod.of_blk1 (M := []) (B := (w.heap.size)) ks BA (by omega)) (by decide)
          replace PK2 := PK2.mod (Mod.of_blk1 (M := []) (B := (w.heap.size)) ks BA (by omega)) (by decide)
          clear f94 a94 ks NB
          refine wpList_nil (hK13 _ _ ?_)
          try clear hK13 K13
          have f96 := f95.sub (sub_cons (i := 0) rfl (sub_cons (i := 3) rfl (sub_cons (i := 4) rfl (sub_cons (i := 5) rfl (sub_cons (i := 6) rfl (sub_cons (i := 9) rfl (sub_cons (i := 10) rfl (sub_cons (i := 17) rfl (sub_cons (i := 18) rfl (sub_cons (i := 19) rfl (sub_cons (i := 20) rfl (sub_cons (i := 23) rfl (sub_cons (i := 24) rfl (sub_cons (i := 25) rfl (sub_cons (i := 26) rfl (sub_cons (i := 27) rfl (sub_cons (i := 28) rfl (sub_cons (i := 29) rfl (sub_cons (i := 30) rfl (sub_cons (i := 31) rfl (sub_cons (i := 32) rfl (sub_cons (i := 33) rfl (sub_cons (i := 34) rfl (sub_cons (i := 65) rfl (sub_cons (i := 66) rfl (sub_cons (i := 67) rfl (sub_cons (i := 68) rfl (sub_cons (i := 69) rfl (sub_cons (i := 70) rfl (sub_cons (i := 71) rfl (sub_cons (i := 72) rfl (sub_cons (i := 73) rfl (sub_cons (i := 74) rfl (sub_cons (i := 75) rfl (sub_cons (i := 76) rfl (sub_cons (i := 77) rfl (sub_cons (i := 78) rfl (sub_cons (i := 79) rfl (sub_cons (i := 80) rfl (sub_cons (i := 81) rfl (sub_cons (i := 82) rfl (sub_cons (i := 83) rfl (sub_cons (i := 84) rfl (sub_cons (i := 85) rfl (sub_cons (i := 86) rfl (sub_cons (i := 87) rfl (sub_cons (i := 88) rfl (sub_cons (i := 89) rfl (sub_cons (i := 90) rfl (sub_cons (i := 91) rfl (sub_cons (i := 92) rfl (sub_cons (i := 93) rfl (sub_cons (i := 94) rfl (sub_cons (i := 95) rfl (sub_cons (i := 96) rfl (sub_cons (i := 97) rfl (sub_cons (i := 98) rfl (sub_cons (i := 99) rfl (sub_cons (i := 100) rfl (sub_cons (i := 101) rfl (sub_cons (i := 102) rfl (sub_cons (i := 103) rfl (sub_cons (i := 104) rfl sub_nil)))))))))))))))))))))))))))))))))))))))))))))))))))))))))))))))
          clear f95
          refine C.region ?_
          refine L.val f96 wantedN rfl (by decide) (E.move f96 rfl) fun a97 f97 => ?_
          clear f96 a95
          refine L.val f97 wantedN rfl (by decide) (E.add f97 rfl rfl (IntWalk.i64_in _ (by omega))) fun a98 f98 => ?_
          clear f97 a97
          refine L.val f98 wantedN rfl (by decide) (E.assign f98 rfl) fun a99 f99 => ?_
          clear f98 a98
          refine wpList_nil (hKL10 _ _ (gk11 - 1) ?_ ?_)
          · omega
          · exact ⟨k + 1, u2, insS (b % 7 + 1) G, arr.set d true, by omega, HS2, hab2, once_put hO hd hdx, by have := insS_len (b % 7 + 1) G; omega, BA2, HK, by simpa using f99.sub (sub_cons rfl (sub_cons rfl (sub_cons rfl (sub_cons rfl sub_nil))))⟩
      · clear f26
        refine C.condF f27 rfl ?_
        refine wp_exit (hK8 _ _ ?_)
        try clear hK8 K8
        have f28 := f27.sub sub_nil
        clear f27
        refine wp_seq_k fun K24 hK24 => ?_
        refine C.region ?_
        refine L.val f28 wantedN rfl (by decide) (E.assign f28 rfl) fun a29 f29 => ?_
        clear f28 a25
        refine wpList_nil (hK24 _ _ ?_)
        try clear hK24 K24
        have f30 := f29.sub (sub_cons (i := 2) rfl sub_nil)
        clear f29
        refine wp_ret ?_
        try simp only [Exit.inBlock, Exit.then]
        refine C.ret (P := Try.prog) (fn := Try.f3) f30 rfl rfl ?_
        exact ⟨rfl, HK⟩

end Go.Proofs.Ytdfllmiokgoekaa
