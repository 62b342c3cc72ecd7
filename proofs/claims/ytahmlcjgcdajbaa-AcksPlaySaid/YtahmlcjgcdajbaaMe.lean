/- Contracts: the set of a row of words. -/
import Derived.Test.YtahmlcjgcdajbaaMd
set_option linter.all false
namespace Go.Proofs.Ytahmlcjgcdajbaa
open Go.RowKit Go.Hub
theorem wsz30_q : (Try.prog.info? 30).map (·.size) = some 1 := by kernel_rfl
theorem wbl32_0_1_2_q (x0 : Int) (x1 : Int) (x2 : Int) : Try.prog.built 32 [(0, .int .i64 x0), (1, .int .i64 x1), (2, .int .i64 x2)] = some #[.int .i64 x0, .int .i64 x1, .int .i64 x2] := by kernel_rfl

def Us (w : World) (A : Option Addr) (l : List Int) : Prop := Sl w A l.length 1 (l.map (.int .u16))
theorem Us.kept {w w' : World} {A : Option Addr} {l : List Int} (h : Us w A l) (hk : Kept [] w w') : Us w' A l := Sl.kept h hk
theorem us_cell {w : World} {A : Option Addr} {l : List Int} (h : Us w A l) {b off k : Nat} {x : Int} (hA : A = some ⟨b, off, none⟩) (hx : l[k]? = some x) : w.cell? ⟨b, off + Int.toNat (k : Int) * 1, none⟩ = some (.int .u16 x) := by
  have := (List.getElem?_eq_some_iff.1 hx).1
  simpa using Sl.cell h (j := k) (by omega) hA (by simp [hx])
def dotOf (x : Int) : Dt := ⟨x % 3, x / 3 % 2 + 1, x / 6 % 5 + 1⟩
abbrev addN (acc : List Dt) (x : Int) : List Dt := addD acc (dotOf x)
def ofL (l : List Int) : List Dt := l.foldl addN []
theorem of_step {l : List Int} {k : Nat} {x : Int} (h : l[k]? = some x) (acc : List Dt) : (l.drop k).foldl addN acc = (l.drop (k + 1)).foldl addN (addD acc (dotOf x)) := by
  have h := (List.getElem?_eq_some_iff.1 h)
  rw [List.drop_eq_getElem_cons h.1, h.2]
  rfl
theorem insD_len : ∀ (l : List Dt) (d : Dt), (insD l d).length ≤ l.length + 1
  | [], d => by simp [insD]
  | a :: l, d => by
    unfold insD
    have := insD_len l d
    repeat' split
    all_goals simp
    all_goals omega
theorem addD_len (l : List Dt) (d : Dt) : (addD l d).length ≤ l.length + 1 := by
  unfold addD
  have := insD_len l d
  repeat' split
  all_goals simp
  all_goals omega

set_option maxHeartbeats 1000000 in
theorem of_any (l : List Int) (A : Option Addr) (c : Nat) (w : World) (A1 : Us w A l) (hm : l.length ≤ 12) (hb : ∀ x ∈ l, 0 ≤ x ∧ x ≤ 65535) : Calls Try.prog 30 #[.slice A l.length c] w (DotsPost (ofL l) w) := by
  have HK : Kept [] w w := Kept.refl [] w
  refine C.enter Try.func30 rfl Try.ntmps30 rfl ?_
  intro a0 f0
  have f1 : Fr 37 a0 [(0, .slice A l.length c)] := f0
  clear f0
  refine wp_seq_k fun K0 hK0 => ?_
  refine C.region ?_
  refine L.val f1 wantedN rfl (by decide) (E.assign f1 rfl) fun a2 f2 => ?_
  clear f1 a0
  refine wpList_nil (hK0 _ _ ?_)
  try clear hK0 K0
  have f3 := f2.sub (sub_cons (i := 0) rfl (sub_cons (i := 2) rfl sub_nil))
  clear f2
  refine wp_seq_k fun K1 hK1 => ?_
  refine C.region ?_
  refine L.val f3 wantedN rfl (by decide) (E.assign f3 rfl) fun a4 f4 => ?_
  clear f3 a2
  refine wpList_nil (hK1 _ _ ?_)
  try clear hK1 K1
  have f5 := f4.sub (sub_cons (i := 0) rfl (sub_cons (i := 2) rfl (sub_cons (i := 3) rfl sub_nil)))
  clear f4
  refine wp_seq_k fun K2 hK2 => ?_
  refine wp_seq_k fun K3 hK3 => ?_
  refine C.region ?_
  refine L.val f5 wantedN rfl (by decide) (E.assign f5 rfl) fun a6 f6 => ?_
  clear f5 a4
  refine wpList_nil (hK3 _ _ ?_)
  try clear hK3 K3
  have f7 := f6.sub (sub_cons (i := 0) rfl (sub_cons (i := 2) rfl (sub_cons (i := 3) rfl (sub_cons (i := 4) rfl sub_nil))))
  clear f6
  refine wp_block ?_
  refine C.loop (fun gk a W => ∃ (k : Nat) (Aa : Option Addr) (ca : Nat) (acc : List Dt), k + gk = l.length ∧ Kept [] w W ∧ ofL l = (l.drop k).foldl addN acc ∧ acc.length ≤ k ∧ Fresh w W 32 3 Aa acc.length ca (dcells acc) ∧ Fr 37 a [(0, .slice A l.length c), (3, .slice Aa acc.length ca), (4, .int .i64 k)]) (l.length) ?_ ?_
  · exact ⟨0, none, 0, [], by omega, HK, rfl, by simp, Fresh.nil _ _ _ _, f7.sub (sub_cons rfl (sub_cons rfl (sub_cons rfl sub_nil)))⟩
  · intro gk5 a8 w1 hI KL4 hKL4
    obtain ⟨k, Aa, ca, acc, hk, HK, hq, hac, FA, f8⟩ := hI
    try clear f7
    have hw1 := HK.size
    refine wp_seq_k fun K5 hK5 => ?_
    refine wp_seq_k fun K6 hK6 => ?_
    refine C.region ?_
    refine L.val f8 wantedN rfl (by decide) (E.move f8 rfl) fun a9 f9 => ?_
    clear f8 a8
    refine L.val f9 wantedN rfl (by decide) (E.move f9 rfl) fun a10 f10 => ?_
    clear f9 a9
    refine L.val f10 wantedN rfl (by decide) (E.lenL f10 Try.underlying22 rfl) fun a11 f11 => ?_
    clear f10 a10
    refine L.val f11 wantedN rfl (by decide) (E.lss f11 rfl rfl) fun a12 f12 => ?_
    clear f11 a11
    refine wpList_nil (hK6 _ _ ?_)
    try clear hK6 K6
    have f13 := f12.sub (sub_cons (i := 0) rfl (sub_cons (i := 3) rfl (sub_cons (i := 4) rfl (sub_cons (i := 5) rfl (sub_cons (i := 6) rfl (sub_cons (i := 7) rfl (sub_cons (i := 8) rfl sub_nil)))))))
    clear f12
    first | refine f13.splitD 8 rfl (fun h0 f14 => ?_) (fun h0 f14 => ?_) | refine f13.splitN 8 rfl (fun h0 f14 => ?_) (fun h0 f14 => ?_) | refine f13.splitNB 8 rfl (fun h0 f14 => ?_) (fun h0 f14 => ?_) | refine f13.split 8 rfl (fun h0 f14 => ?_) (fun h0 f14 => ?_)
    · clear f13
      obtain ⟨x, hx⟩ : ∃ x, l[k]? = some x := ⟨l[k]'(by omega), List.getElem?_eq_getElem _⟩
      have hbx := hb x (List.mem_of_getElem? hx)
      obtain ⟨bk, off, hA⟩ := Sl.addr A1 (by omega)
      have hst := of_step hx acc
      refine C.condT f14 rfl ?_
      refine wp_skip (hK5 _ _ ?_)
      try clear hK5 K5
      have f15 := f14.sub (sub_cons (i := 0) rfl (sub_cons (i := 3) rfl (sub_cons (i := 4) rfl (sub_cons (i := 5) rfl (sub_cons (i := 6) rfl (sub_cons (i := 7) rfl (sub_cons (i := 8) rfl sub_nil)))))))
      clear f14
      refine wp_seq_k fun K7 hK7 => ?_
      refine wp_block ?_
      refine R.begin (S := fun W => Kept [] w1 W) (by kernel_rfl) (by exact (Kept.refl _ _).drewN 1) ?_
      have hS5 : Kept [] w1 (w1.drewN 1) := (Kept.refl _ _).drewN 1
      have hd5 : Kept [] w1 (w1.drewN 1) := (Kept.refl _ _).drewN 1
      obtain ⟨w2, hww2⟩ : ∃ W, W = w1.drewN 1 := ⟨_, rfl⟩
      rw [← hww2] at hS5 hd5 ⊢
      clear hww2
      have szw2 := hS5.size
      refine R.take 0 f15 rfl rfl (by decide) (by kernel_rfl) (by kernel_rfl) (by kernel_rfl) (fun _ _ _ _ h => h) wantedN hS5 (fun W hW => (E.move f15 rfl)) fun a16 f16 => ?_
      clear f15 a12
      refine R.take 1 f16 rfl rfl (by decide) (by kernel_rfl) (by kernel_rfl) (by kernel_rfl) (fun _ _ _ _ h => h) wantedN hS5 (fun W hW => (E.move f16 rfl)) fun a17 f17 => ?_
      clear f16 a16
      refine R.take 2 f17 rfl rfl (by decide) (by kernel_rfl) (by kernel_rfl) (by kernel_rfl) (fun _ _ _ _ h => h) wantedN hS5 (fun W hW => (E.move f17 rfl)) fun a18 f18 => ?_
      clear f17 a17
      refine R.take 3 f18 rfl rfl (by decide) (by kernel_rfl) (by kernel_rfl) (by kernel_rfl) (fun _ _ _ _ h => h) wantedN hS5 (fun W hW => (E.indexA f18 (by first | rfl | assumption) Try.underlying22 wsz30_q rfl rfl (by omega) (by omega))) fun a19 f19 => ?_
      clear f18 a18
      refine R.take 4 f19 rfl rfl (by decide) (by kernel_rfl) (by kernel_rfl) (by kernel_rfl) (fun _ _ _ _ h => h) wantedN hS5 (fun W hW => (by exact E.load f19 Try.underlying30 rfl rfl (us_cell (A1.kept (HK.trans hW (by simp))) hA hx))) fun a20 f20 => ?_
      clear f19 a19
      refine R.take 5 f20 rfl rfl (by decide) (by kernel_rfl) (by kernel_rfl) (by kernel_rfl) (fun _ _ _ _ h => h) wantedN hS5 (fun W hW => (E.rem f20 rfl rfl (by omega) (Int.tmod_eq_emod_of_nonneg (by omega)))) fun a21 f21 => ?_
      clear f20 a20
      refine R.take 6 f21 rfl rfl (by decide) (by kernel_rfl) (by kernel_rfl) (by kernel_rfl) (fun _ _ _ _ h => h) wantedN hS5 (fun W hW => (E.conv f21 Try.underlying30 Try.underlying3 rfl (IntWalk.i64_in _ (by omega)))) fun a22 f22 => ?_
      clear f21 a21
      refine R.take 7 f22 rfl rfl (by decide) (by kernel_rfl) (by kernel_rfl) (by kernel_rfl) (fun _ _ _ _ h => h) wantedN hS5 (fun W hW => (E.move f22 rfl)) fun a23 f23 => ?_
      clear f22 a22
      refine R.take 8 f23 rfl rfl (by decide) (by kernel_rfl) (by kernel_rfl) (by kernel_rfl) (fun _ _ _ _ h => h) wantedN hS5 (fun W hW => (E.move f23 rfl)) fun a24 f24 => ?_
      clear f23 a23
      refine R.take 9 f24 rfl rfl (by decide) (by kernel_rfl) (by kernel_rfl) (by kernel_rfl) (fun _ _ _ _ h => h) wantedN hS5 (fun W hW => (E.indexA f24 (by first | rfl | assumption) Try.underlying22 wsz30_q rfl rfl (by omega) (by omega))) fun a25 f25 => ?_
      clear f24 a24
      refine R.take 10 f25 rfl rfl (by decide) (by kernel_rfl) (by kernel_rfl) (by kernel_rfl) (fun _ _ _ _ h => h) wantedN hS5 (fun W hW => (by exact E.load f25 Try.underlying30 rfl rfl (us_cell (A1.kept (HK.trans hW (by simp))) hA hx))) fun a26 f26 => ?_
      clear f25 a25
      refine R.take 11 f26 rfl rfl (by decide) (by kernel_rfl) (by kernel_rfl) (by kernel_rfl) (fun _ _ _ _ h => h) wantedN hS5 (fun W hW => (E.quo f26 rfl rfl (by omega) (u16_quo _ _ ⟨by omega, by omega, by omega⟩))) fun a27 f27 => ?_
      clear f26 a26
      refine R.take 12 f27 rfl rfl (by decide) (by kernel_rfl) (by kernel_rfl) (by kernel_rfl) (fun _ _ _ _ h => h) wantedN hS5 (fun W hW => (E.rem f27 rfl rfl (by omega) (Int.tmod_eq_emod_of_nonneg (by omega)))) fun a28 f28 => ?_
      clear f27 a27
      refine R.take 13 f28 rfl rfl (by decide) (by kernel_rfl) (by kernel_rfl) (by kernel_rfl) (fun _ _ _ _ h => h) wantedN hS5 (fun W hW => (E.conv f28 Try.underlying30 Try.underlying3 rfl (IntWalk.i64_in _ (by omega)))) fun a29 f29 => ?_
      clear f28 a28
      refine R.take 14 f29 rfl rfl (by decide) (by kernel_rfl) (by kernel_rfl) (by kernel_rfl) (fun _ _ _ _ h => h) wantedN hS5 (fun W hW => (E.add f29 rfl rfl (IntWalk.i64_in _ (by omega)))) fun a30 f30 => ?_
      clear f29 a29
      refine R.take 15 f30 rfl rfl (by decide) (by kernel_rfl) (by kernel_rfl) (by kernel_rfl) (fun _ _ _ _ h => h) wantedN hS5 (fun W hW => (E.move f30 rfl)) fun a31 f31 => ?_
      clear f30 a30
      refine R.take 16 f31 rfl rfl (by decide) (by kernel_rfl) (by kernel_rfl) (by kernel_rfl) (fun _ _ _ _ h => h) wantedN hS5 (fun W hW => (E.move f31 rfl)) fun a32 f32 => ?_
      clear f31 a31
      refine R.take 17 f32 rfl rfl (by decide) (by kernel_rfl) (by kernel_rfl) (by kernel_rfl) (fun _ _ _ _ h => h) wantedN hS5 (fun W hW => (E.indexA f32 (by first | rfl | assumption) Try.underlying22 wsz30_q rfl rfl (by omega) (by omega))) fun a33 f33 => ?_
      clear f32 a32
      refine R.take 18 f33 rfl rfl (by decide) (by kernel_rfl) (by kernel_rfl) (by kernel_rfl) (fun _ _ _ _ h => h) wantedN hS5 (fun W hW => (by exact E.load f33 Try.underlying30 rfl rfl (us_cell (A1.kept (HK.trans hW (by simp))) hA hx))) fun a34 f34 => ?_
      clear f33 a33
      refine R.take 19 f34 rfl rfl (by decide) (by kernel_rfl) (by kernel_rfl) (by kernel_rfl) (fun _ _ _ _ h => h) wantedN hS5 (fun W hW => (E.quo f34 rfl rfl (by omega) (u16_quo _ _ ⟨by omega, by omega, by omega⟩))) fun a35 f35 => ?_
      clear f34 a34
      refine R.take 20 f35 rfl rfl (by decide) (by kernel_rfl) (by kernel_rfl) (by kernel_rfl) (fun _ _ _ _ h => h) wantedN hS5 (fun W hW => (E.rem f35 rfl rfl (by omega) (Int.tmod_eq_emod_of_nonneg (by omega)))) fun a36 f36 => ?_
      clear f35 a35
      refine R.take 21 f36 rfl rfl (by decide) (by kernel_rfl) (by kernel_rfl) (by kernel_rfl) (fun _ _ _ _ h => h) wantedN hS5 (fun W hW => (E.conv f36 Try.underlying30 Try.underlying3 rfl (IntWalk.i64_in _ (by omega)))) fun a37 f37 => ?_
      clear f36 a36
      refine R.take 22 f37 rfl rfl (by decide) (by kernel_rfl) (by kernel_rfl) (by kernel_rfl) (fun _ _ _ _ h => h) wantedN hS5 (fun W hW => (E.add f37 rfl rfl (IntWalk.i64_in _ (by omega)))) fun a38 f38 => ?_
      clear f37 a37
      refine R.take 23 f38 rfl rfl (by decide) (by kernel_rfl) (by kernel_rfl) (by kernel_rfl) (fun _ _ _ _ h => h) wantedN hS5 (fun W hW => (E.build f38 (parts3 f38 rfl rfl rfl) (wbl32_0_1_2_q _ _ _))) fun a39 f39 => ?_
      clear f38 a38
      refine R.call 24 f39 rfl rfl (by decide) (by kernel_rfl) wantedN (run_call Try.call25 (args2 f39 rfl rfl)) (AddR_any acc _ _ (dotOf x) _ (FA.kept0 hS5).sl (by omega)) ?_
      rintro e w3 ⟨kc3, Ac, cc, rfl, FC⟩
      replace hS5 := hS5.trans kc3 (by simp)
      refine ⟨_, rfl, hS5, fun a40 f40 => ?_⟩
      clear f39 a39
      have szw3 := kc3.size
      clear kc3
      refine R.take 25 f40 rfl rfl (by decide) (by kernel_rfl) (by kernel_rfl) (by kernel_rfl) (fun _ _ _ _ h => h) wantedN hS5 (fun W hW => (E.assign f40 rfl)) fun a41 f41 => ?_
      clear f40 a40
      have szw3r := hS5.size
      replace HK := HK.trans hS5 (by simp)
      replace FA := FA.kept0 hS5
      clear hS5
      refine R.done (by kernel_rfl) (hK7 _ _ ?_)
      try clear hK7 K7
      have f42 := f41.sub (sub_cons (i := 0) rfl (sub_cons (i := 3) rfl (sub_cons (i := 4) rfl (sub_cons (i := 5) rfl (sub_cons (i := 6) rfl (sub_cons (i := 7) rfl (sub_cons (i := 8) rfl (sub_cons (i := 11) rfl (sub_cons (i := 12) rfl (sub_cons (i := 13) rfl (sub_cons (i := 14) rfl (sub_cons (i := 15) rfl (sub_cons (i := 16) rfl (sub_cons (i := 17) rfl (sub_cons (i := 18) rfl (sub_cons (i := 19) rfl (sub_cons (i := 20) rfl (sub_cons (i := 21) rfl (sub_cons (i := 22) rfl (sub_cons (i := 23) rfl (sub_cons (i := 24) rfl (sub_cons (i := 25) rfl (sub_cons (i := 26) rfl (sub_cons (i := 27) rfl (sub_cons (i := 28) rfl (sub_cons (i := 29) rfl (sub_cons (i := 30) rfl (sub_cons (i := 31) rfl (sub_cons (i := 32) rfl (sub_cons (i := 33) rfl (sub_cons (i := 34) rfl (sub_cons (i := 35) rfl sub_nil))))))))))))))))))))))))))))))))
      clear f41
      refine C.region ?_
      refine L.val f42 wantedN rfl (by decide) (E.move f42 rfl) fun a43 f43 => ?_
      clear f42 a41
      refine L.val f43 wantedN rfl (by decide) (E.add f43 rfl rfl (IntWalk.i64_in _ (by omega))) fun a44 f44 => ?_
      clear f43 a43
      refine L.val f44 wantedN rfl (by decide) (E.assign f44 rfl) fun a45 f45 => ?_
      clear f44 a44
      refine wpList_nil (hKL4 _ _ (gk5 - 1) ?_ ?_)
      · omega
      · exact ⟨k + 1, Ac, cc, addD acc (dotOf x), by omega, HK, by rw [hq, hst], Nat.le_trans (addD_len _ _) (by omega), FC.lower (by omega), f45.sub (sub_cons rfl (sub_cons rfl (sub_cons rfl sub_nil)))⟩
    · clear f13
      refine C.condF f14 rfl ?_
      refine wp_exit (hK2 _ _ ?_)
      try clear hK2 K2
      have f15 := f14.sub (sub_cons (i := 3) rfl sub_nil)
      clear f14
      refine wp_seq_k fun K8 hK8 => ?_
      refine C.region ?_
      refine L.val f15 wantedN rfl (by decide) (E.move f15 rfl) fun a16 f16 => ?_
      clear f15 a12
      refine L.val f16 wantedN rfl (by decide) (E.assign f16 rfl) fun a17 f17 => ?_
      clear f16 a16
      refine wpList_nil (hK8 _ _ ?_)
      try clear hK8 K8
      have f18 := f17.sub (sub_cons (i := 2) rfl sub_nil)
      clear f17
      refine wp_ret ?_
      try simp only [Exit.inBlock, Exit.then]
      refine C.ret (P := Try.prog) (fn := Try.f30) f18 rfl rfl ?_
      rw [List.drop_eq_nil_of_le (by omega)] at hq
      have e : ofL l = acc := hq
      exact ⟨HK, Aa, ca, by rw [e], by rw [e]; exact FA⟩

end Go.Proofs.Ytahmlcjgcdajbaa
