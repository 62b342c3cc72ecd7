/- Contracts: comparing dots. -/
import Derived.Test.YtahmlcjgcdajbaaRows
import Derived.Test.YtahmlcjgcdajbaaAp
import Derived.Test.YtahmlcjgcdajbaaDot
set_option linter.all false
namespace Go.Proofs.Ytahmlcjgcdajbaa
open Go.RowKit Go.Hub
theorem wsz3_a : (Try.prog.info? 3).map (·.size) = some 1 := by kernel_rfl
theorem wzi3_a : (Try.prog.info? 3).map (fun i => (i.zero, i.size)) = some (some (.int .i64 0), 1) := by kernel_rfl
theorem wbs82_2_a (x0 : Int) (x1 : Int) : Instr.fill (fun i => some (i * 1, 1)) ((Array.range (2 * 1)).map fun j => (Value.cells (.int .i64 0))[j % (Value.cells (.int .i64 0)).size]!) [(0, .int .i64 x0), (1, .int .i64 x1)] = some #[.int .i64 x0, .int .i64 x1] := by kernel_rfl

set_option maxHeartbeats 1000000 in
theorem nan_any (x : Int) (w : World) : Calls Try.prog 53 #[.int .i64 x] w (fun e w' => w = w' ∧ e = .returned (.bool false)) := by
  refine C.enter Try.func53 rfl Try.ntmps53 rfl ?_
  intro a0 f0
  have f1 : Fr 6 a0 [(0, .int .i64 x)] := f0
  clear f0
  refine wp_seq_k fun K0 hK0 => ?_
  refine C.region ?_
  refine L.val f1 wantedN rfl (by decide) (E.assign f1 rfl) fun a2 f2 => ?_
  clear f1 a0
  refine wpList_nil (hK0 _ _ ?_)
  try clear hK0 K0
  have f3 := f2.sub (sub_cons (i := 0) rfl (sub_cons (i := 2) rfl sub_nil))
  clear f2
  refine wp_seq_k fun K1 hK1 => ?_
  refine C.region ?_
  refine L.val f3 wantedN rfl (by decide) (E.move f3 rfl) fun a4 f4 => ?_
  clear f3 a2
  refine L.val f4 wantedN rfl (by decide) (E.move f4 rfl) fun a5 f5 => ?_
  clear f4 a4
  refine L.val f5 wantedN rfl (by decide) (E.neq f5 rfl rfl) fun a6 f6 => ?_
  clear f5 a5
  refine L.val f6 wantedN rfl (by decide) (E.assign f6 rfl) fun a7 f7 => ?_
  clear f6 a6
  refine wpList_nil (hK1 _ _ ?_)
  try clear hK1 K1
  have f8 := f7.sub (sub_cons (i := 2) rfl sub_nil)
  clear f7
  refine wp_ret ?_
  try simp only [Exit.inBlock, Exit.then]
  refine C.ret (P := Try.prog) (fn := Try.f53) f8 rfl rfl ?_
  exact ⟨rfl, by simp⟩

set_option maxHeartbeats 1000000 in
theorem cmp_any (x y : Int) (w : World) : Calls Try.prog 49 #[.int .i64 x, .int .i64 y] w (fun e w' => w = w' ∧ e = .returned (.int .i64 (cmpI x y))) := by
  refine C.enter Try.func49 rfl Try.ntmps49 rfl ?_
  intro a0 f0
  have f1 : Fr 20 a0 [(0, .int .i64 x), (1, .int .i64 y)] := f0
  clear f0
  refine wp_seq_k fun K0 hK0 => ?_
  refine C.region ?_
  refine L.val f1 wantedN rfl (by decide) (E.assign f1 rfl) fun a2 f2 => ?_
  clear f1 a0
  refine wpList_nil (hK0 _ _ ?_)
  try clear hK0 K0
  have f3 := f2.sub (sub_cons (i := 0) rfl (sub_cons (i := 1) rfl (sub_cons (i := 4) rfl sub_nil)))
  clear f2
  refine wp_seq_k fun K1 hK1 => ?_
  refine C.region ?_
  refine L.val f3 wantedN rfl (by decide) (E.move f3 rfl) fun a4 f4 => ?_
  clear f3 a2
  refine L.call f4 wantedN rfl (by decide) (run_call Try.call53 (args1 f4 rfl)) (nan_any _ _) ?_
  rintro e wx ⟨rfl, rfl⟩
  refine ⟨_, rfl, fun a5 f5 => ?_⟩
  clear f4 a4
  refine L.val f5 wantedN rfl (by decide) (E.assign f5 rfl) fun a6 f6 => ?_
  clear f5 a5
  refine wpList_nil (hK1 _ _ ?_)
  try clear hK1 K1
  have f7 := f6.sub (sub_cons (i := 0) rfl (sub_cons (i := 1) rfl (sub_cons (i := 4) rfl (sub_cons (i := 5) rfl sub_nil))))
  clear f6
  refine wp_seq_k fun K2 hK2 => ?_
  refine C.region ?_
  refine L.val f7 wantedN rfl (by decide) (E.move f7 rfl) fun a8 f8 => ?_
  clear f7 a6
  refine L.call f8 wantedN rfl (by decide) (run_call Try.call53 (args1 f8 rfl)) (nan_any _ _) ?_
  rintro e wx ⟨rfl, rfl⟩
  refine ⟨_, rfl, fun a9 f9 => ?_⟩
  clear f8 a8
  refine L.val f9 wantedN rfl (by decide) (E.assign f9 rfl) fun a10 f10 => ?_
  clear f9 a9
  refine wpList_nil (hK2 _ _ ?_)
  try clear hK2 K2
  have f11 := f10.sub (sub_cons (i := 0) rfl (sub_cons (i := 1) rfl (sub_cons (i := 4) rfl (sub_cons (i := 5) rfl (sub_cons (i := 6) rfl sub_nil)))))
  clear f10
  refine wp_seq_k fun K3 hK3 => ?_
  refine wp_seq_k fun K4 hK4 => ?_
  refine C.region ?_
  refine L.val f11 wantedN rfl (by decide) (E.move f11 rfl) fun a12 f12 => ?_
  clear f11 a10
  refine wpList_nil (hK4 _ _ ?_)
  try clear hK4 K4
  have f13 := f12.sub (sub_cons (i := 0) rfl (sub_cons (i := 1) rfl (sub_cons (i := 4) rfl (sub_cons (i := 6) rfl (sub_cons (i := 11) rfl sub_nil)))))
  clear f12
  refine C.condF f13 rfl ?_
  refine wp_skip (hK3 _ _ ?_)
  try clear hK3 K3
  have f14 := f13.sub (sub_cons (i := 0) rfl (sub_cons (i := 1) rfl (sub_cons (i := 4) rfl (sub_cons (i := 6) rfl sub_nil))))
  clear f13
  refine wp_seq_k fun K5 hK5 => ?_
  refine wp_seq_k fun K6 hK6 => ?_
  refine C.region ?_
  refine L.val f14 wantedN rfl (by decide) (E.move f14 rfl) fun a15 f15 => ?_
  clear f14 a12
  refine wpList_nil (hK6 _ _ ?_)
  try clear hK6 K6
  have f16 := f15.sub (sub_cons (i := 0) rfl (sub_cons (i := 1) rfl (sub_cons (i := 4) rfl (sub_cons (i := 13) rfl sub_nil))))
  clear f15
  refine C.condF f16 rfl ?_
  refine wp_skip (hK5 _ _ ?_)
  try clear hK5 K5
  have f17 := f16.sub (sub_cons (i := 0) rfl (sub_cons (i := 1) rfl (sub_cons (i := 4) rfl sub_nil)))
  clear f16
  refine wp_seq_k fun K7 hK7 => ?_
  refine wp_seq_k fun K8 hK8 => ?_
  refine C.region ?_
  refine L.val f17 wantedN rfl (by decide) (E.move f17 rfl) fun a18 f18 => ?_
  clear f17 a15
  refine L.val f18 wantedN rfl (by decide) (E.move f18 rfl) fun a19 f19 => ?_
  clear f18 a18
  refine L.val f19 wantedN rfl (by decide) (E.lss f19 rfl rfl) fun a20 f20 => ?_
  clear f19 a19
  refine wpList_nil (hK8 _ _ ?_)
  try clear hK8 K8
  have f21 := f20.sub (sub_cons (i := 0) rfl (sub_cons (i := 1) rfl (sub_cons (i := 4) rfl (sub_cons (i := 16) rfl sub_nil))))
  clear f20
  first | refine f21.splitD 16 rfl (fun h0 f22 => ?_) (fun h0 f22 => ?_) | refine f21.splitN 16 rfl (fun h0 f22 => ?_) (fun h0 f22 => ?_) | refine f21.splitNB 16 rfl (fun h0 f22 => ?_) (fun h0 f22 => ?_) | refine f21.split 16 rfl (fun h0 f22 => ?_) (fun h0 f22 => ?_)
  · clear f21
    refine C.condT f22 rfl ?_
    refine wp_seq_k fun K9 hK9 => ?_
    refine C.region ?_
    refine L.val f22 wantedN rfl (by decide) (E.assign f22 rfl) fun a23 f23 => ?_
    clear f22 a20
    refine wpList_nil (hK9 _ _ ?_)
    try clear hK9 K9
    have f24 := f23.sub (sub_cons (i := 0) rfl (sub_cons (i := 1) rfl (sub_cons (i := 4) rfl sub_nil)))
    clear f23
    refine wp_ret ?_
    try simp only [Exit.inBlock, Exit.then]
    refine C.ret (P := Try.prog) (fn := Try.f49) f24 rfl rfl ?_
    exact ⟨rfl, by simp [cmpI, *]⟩
  · clear f21
    refine C.condF f22 rfl ?_
    refine wp_skip (hK7 _ _ ?_)
    try clear hK7 K7
    have f23 := f22.sub (sub_cons (i := 0) rfl (sub_cons (i := 1) rfl (sub_cons (i := 4) rfl sub_nil)))
    clear f22
    refine wp_seq_k fun K10 hK10 => ?_
    refine wp_seq_k fun K11 hK11 => ?_
    refine C.region ?_
    refine L.val f23 wantedN rfl (by decide) (E.move f23 rfl) fun a24 f24 => ?_
    clear f23 a20
    refine L.val f24 wantedN rfl (by decide) (E.move f24 rfl) fun a25 f25 => ?_
    clear f24 a24
    refine L.val f25 wantedN rfl (by decide) (E.gtr f25 rfl rfl) fun a26 f26 => ?_
    clear f25 a25
    refine wpList_nil (hK11 _ _ ?_)
    try clear hK11 K11
    have f27 := f26.sub (sub_cons (i := 4) rfl (sub_cons (i := 19) rfl sub_nil))
    clear f26
    first | refine f27.splitD 19 rfl (fun h1 f28 => ?_) (fun h1 f28 => ?_) | refine f27.splitN 19 rfl (fun h1 f28 => ?_) (fun h1 f28 => ?_) | refine f27.splitNB 19 rfl (fun h1 f28 => ?_) (fun h1 f28 => ?_) | refine f27.split 19 rfl (fun h1 f28 => ?_) (fun h1 f28 => ?_)
    · clear f27
      refine C.condT f28 rfl ?_
      refine wp_seq_k fun K12 hK12 => ?_
      refine C.region ?_
      refine L.val f28 wantedN rfl (by decide) (E.assign f28 rfl) fun a29 f29 => ?_
      clear f28 a26
      refine wpList_nil (hK12 _ _ ?_)
      try clear hK12 K12
      have f30 := f29.sub (sub_cons (i := 4) rfl sub_nil)
      clear f29
      refine wp_ret ?_
      try simp only [Exit.inBlock, Exit.then]
      refine C.ret (P := Try.prog) (fn := Try.f49) f30 rfl rfl ?_
      exact ⟨rfl, by simp [cmpI, *]⟩
    · clear f27
      refine C.condF f28 rfl ?_
      refine wp_skip (hK10 _ _ ?_)
      try clear hK10 K10
      have f29 := f28.sub (sub_cons (i := 4) rfl sub_nil)
      clear f28
      refine wp_seq_k fun K13 hK13 => ?_
      refine C.region ?_
      refine L.val f29 wantedN rfl (by decide) (E.assign f29 rfl) fun a30 f30 => ?_
      clear f29 a26
      refine wpList_nil (hK13 _ _ ?_)
      try clear hK13 K13
      have f31 := f30.sub (sub_cons (i := 4) rfl sub_nil)
      clear f30
      refine wp_ret ?_
      try simp only [Exit.inBlock, Exit.then]
      refine C.ret (P := Try.prog) (fn := Try.f49) f31 rfl rfl ?_
      exact ⟨rfl, by simp [cmpI, *]⟩

set_option maxHeartbeats 1000000 in
theorem or_any (x y : Int) (b c : Nat) (w : World) (B : Blk w b 3 #[.int .i64 x, .int .i64 y]) : Calls Try.prog 48 #[.slice (some ⟨b, 0, none⟩) 2 c] w (fun e w' => w = w' ∧ e = .returned (.int .i64 (if x = 0 then y else x))) := by
  refine C.enter Try.func48 rfl Try.ntmps48 rfl ?_
  intro a0 f0
  have f1 : Fr 18 a0 [(0, .slice (some ⟨b, 0, none⟩) 2 c)] := f0
  clear f0
  refine wp_seq_k fun K0 hK0 => ?_
  refine C.region ?_
  refine L.val f1 wantedN rfl (by decide) (E.assign f1 rfl) fun a2 f2 => ?_
  clear f1 a0
  refine wpList_nil (hK0 _ _ ?_)
  try clear hK0 K0
  have f3 := f2.sub (sub_cons (i := 0) rfl (sub_cons (i := 2) rfl sub_nil))
  clear f2
  refine wp_seq_k fun K1 hK1 => ?_
  refine C.region ?_
  refine L.val f3 wantedN rfl (by decide) (E.assign f3 rfl) fun a4 f4 => ?_
  clear f3 a2
  refine wpList_nil (hK1 _ _ ?_)
  try clear hK1 K1
  have f5 := f4.sub (sub_cons (i := 0) rfl (sub_cons (i := 2) rfl (sub_cons (i := 3) rfl sub_nil)))
  clear f4
  refine wp_seq_k fun K2 hK2 => ?_
  refine wp_seq_k fun K3 hK3 => ?_
  refine C.region ?_
  refine L.val f5 wantedN rfl (by decide) (E.move f5 rfl) fun a6 f6 => ?_
  clear f5 a4
  refine L.val f6 wantedN rfl (by decide) (E.lenL f6 Try.underlying82 rfl) fun a7 f7 => ?_
  clear f6 a6
  refine L.val f7 wantedN rfl (by decide) (E.move f7 rfl) fun a8 f8 => ?_
  clear f7 a7
  refine wpList_nil (hK3 _ _ ?_)
  try clear hK3 K3
  have f9 := f8.sub (sub_cons (i := 2) rfl (sub_cons (i := 3) rfl (sub_cons (i := 6) rfl (sub_cons (i := 7) rfl (sub_cons (i := 8) rfl sub_nil)))))
  clear f8
  refine wp_block ?_
  refine C.loop (fun gk a W => w = W ∧ ∃ k : Nat, k + gk = 2 ∧ (0 < k → x = 0) ∧ (1 < k → y = 0) ∧ Fr 18 a [(3, .int .i64 0), (6, .slice (some ⟨b, 0, none⟩) 2 c), (7, .int .i64 2), (8, .int .i64 k)]) (2) ?_ ?_
  · exact ⟨rfl, 0, rfl, by omega, by omega, f9.sub (sub_cons rfl (sub_cons rfl (sub_cons rfl (sub_cons rfl sub_nil))))⟩
  · intro gk5 a10 w1 hI KL4 hKL4
    obtain ⟨hW, k, hk, hx, hy, f10⟩ := hI
    subst hW
    try clear f9
    have hcell : k < 2 → w.cell? ⟨b, 0 + (Int.toNat (k : Int)) * 1, none⟩ = some (.int .i64 (if k = 0 then x else y)) := fun h => by
      rcases (show k = 0 ∨ k = 1 by omega) with rfl | rfl
      · exact B.cell_ rfl
      · exact B.cell_ rfl
    refine wp_seq_k fun K5 hK5 => ?_
    refine C.region ?_
    refine L.val f10 wantedN rfl (by decide) (E.lss f10 rfl rfl) fun a11 f11 => ?_
    clear f10 a10
    refine wpList_nil (hK5 _ _ ?_)
    try clear hK5 K5
    have f12 := f11.sub (sub_cons (i := 3) rfl (sub_cons (i := 6) rfl (sub_cons (i := 7) rfl (sub_cons (i := 8) rfl (sub_cons (i := 9) rfl sub_nil)))))
    clear f11
    refine wp_seq_k fun K6 hK6 => ?_
    first | refine f12.splitD 9 rfl (fun h0 f13 => ?_) (fun h0 f13 => ?_) | refine f12.splitN 9 rfl (fun h0 f13 => ?_) (fun h0 f13 => ?_) | refine f12.splitNB 9 rfl (fun h0 f13 => ?_) (fun h0 f13 => ?_) | refine f12.split 9 rfl (fun h0 f13 => ?_) (fun h0 f13 => ?_)
    · clear f12
      refine C.condT f13 rfl ?_
      refine wp_skip (hK6 _ _ ?_)
      try clear hK6 K6
      have f14 := f13.sub (sub_cons (i := 3) rfl (sub_cons (i := 6) rfl (sub_cons (i := 7) rfl (sub_cons (i := 8) rfl (sub_cons (i := 9) rfl sub_nil)))))
      clear f13
      refine wp_seq_k fun K7 hK7 => ?_
      refine wp_block ?_
      refine wp_seq_k fun K8 hK8 => ?_
      refine C.region ?_
      refine L.val f14 wantedN rfl (by decide) (E.indexA f14 (by first | rfl | assumption) Try.underlying82 wsz3_a rfl rfl (by omega) (by omega)) fun a15 f15 => ?_
      clear f14 a11
      refine L.val f15 wantedN rfl (by decide) (by exact E.load f15 Try.underlying3 rfl rfl (hcell (by omega))) fun a16 f16 => ?_
      clear f15 a15
      refine L.val f16 wantedN rfl (by decide) (E.assign f16 rfl) fun a17 f17 => ?_
      clear f16 a16
      refine wpList_nil (hK8 _ _ ?_)
      try clear hK8 K8
      have f18 := f17.sub (sub_cons (i := 3) rfl (sub_cons (i := 5) rfl (sub_cons (i := 6) rfl (sub_cons (i := 7) rfl (sub_cons (i := 8) rfl (sub_cons (i := 9) rfl (sub_cons (i := 10) rfl (sub_cons (i := 11) rfl sub_nil))))))))
      clear f17
      refine wp_seq_k fun K9 hK9 => ?_
      refine C.region ?_
      refine L.val f18 wantedN rfl (by decide) (E.move f18 rfl) fun a19 f19 => ?_
      clear f18 a17
      refine L.val f19 wantedN rfl (by decide) (E.move f19 rfl) fun a20 f20 => ?_
      clear f19 a19
      refine L.val f20 wantedN rfl (by decide) (E.neq f20 rfl rfl) fun a21 f21 => ?_
      clear f20 a20
      refine wpList_nil (hK9 _ _ ?_)
      try clear hK9 K9
      have f22 := f21.sub (sub_cons (i := 3) rfl (sub_cons (i := 5) rfl (sub_cons (i := 6) rfl (sub_cons (i := 7) rfl (sub_cons (i := 8) rfl (sub_cons (i := 9) rfl (sub_cons (i := 10) rfl (sub_cons (i := 11) rfl (sub_cons (i := 12) rfl (sub_cons (i := 13) rfl (sub_cons (i := 14) rfl sub_nil)))))))))))
      clear f21
      first | refine f22.splitD 14 rfl (fun h1 f23 => ?_) (fun h1 f23 => ?_) | refine f22.splitN 14 rfl (fun h1 f23 => ?_) (fun h1 f23 => ?_) | refine f22.splitNB 14 rfl (fun h1 f23 => ?_) (fun h1 f23 => ?_) | refine f22.split 14 rfl (fun h1 f23 => ?_) (fun h1 f23 => ?_)
      · clear f22
        refine C.condT f23 rfl ?_
        refine wp_seq_k fun K10 hK10 => ?_
        refine C.region ?_
        refine L.val f23 wantedN rfl (by decide) (E.move f23 rfl) fun a24 f24 => ?_
        clear f23 a21
        refine L.val f24 wantedN rfl (by decide) (E.assign f24 rfl) fun a25 f25 => ?_
        clear f24 a24
        refine wpList_nil (hK10 _ _ ?_)
        try clear hK10 K10
        have f26 := f25.sub (sub_cons (i := 2) rfl (sub_cons (i := 3) rfl (sub_cons (i := 5) rfl (sub_cons (i := 6) rfl (sub_cons (i := 7) rfl (sub_cons (i := 8) rfl (sub_cons (i := 9) rfl (sub_cons (i := 10) rfl (sub_cons (i := 11) rfl (sub_cons (i := 12) rfl (sub_cons (i := 13) rfl (sub_cons (i := 14) rfl (sub_cons (i := 15) rfl sub_nil)))))))))))))
        clear f25
        refine wp_ret ?_
        try simp only [Exit.inBlock, Exit.then]
        refine C.ret (P := Try.prog) (fn := Try.f48) f26 rfl rfl ?_
        exact ⟨rfl, by rcases (show k = 0 ∨ k = 1 by omega) with rfl | rfl <;> simp_all⟩
      · clear f22
        refine C.condF f23 rfl ?_
        refine wp_skip (hK7 _ _ ?_)
        try clear hK7 K7
        have f24 := f23.sub (sub_cons (i := 3) rfl (sub_cons (i := 5) rfl (sub_cons (i := 6) rfl (sub_cons (i := 7) rfl (sub_cons (i := 8) rfl (sub_cons (i := 9) rfl (sub_cons (i := 10) rfl (sub_cons (i := 11) rfl (sub_cons (i := 12) rfl (sub_cons (i := 13) rfl (sub_cons (i := 14) rfl sub_nil)))))))))))
        clear f23
        refine C.region ?_
        refine L.val f24 wantedN rfl (by decide) (E.add f24 rfl rfl (IntWalk.i64_in _ (by omega))) fun a25 f25 => ?_
        clear f24 a21
        refine L.val f25 wantedN rfl (by decide) (E.move f25 rfl) fun a26 f26 => ?_
        clear f25 a25
        refine wpList_nil (hKL4 _ _ (gk5 - 1) ?_ ?_)
        · omega
        · exact ⟨rfl, k + 1, by omega, fun _ => by by_cases hk0 : k = 0 <;> simp [hk0] at h1 <;> first | exact h1 | exact hx (by omega), fun _ => by have hk0 : ¬ k = 0 := (by omega); simpa [hk0] using h1, f26.sub (sub_cons rfl (sub_cons rfl (sub_cons rfl (sub_cons rfl sub_nil))))⟩
    · clear f12
      refine C.condF f13 rfl ?_
      refine wp_exit (hK2 _ _ ?_)
      try clear hK2 K2
      have f14 := f13.sub (sub_cons (i := 3) rfl sub_nil)
      clear f13
      refine wp_seq_k fun K11 hK11 => ?_
      refine C.region ?_
      refine L.val f14 wantedN rfl (by decide) (E.move f14 rfl) fun a15 f15 => ?_
      clear f14 a11
      refine L.val f15 wantedN rfl (by decide) (E.assign f15 rfl) fun a16 f16 => ?_
      clear f15 a15
      refine wpList_nil (hK11 _ _ ?_)
      try clear hK11 K11
      have f17 := f16.sub (sub_cons (i := 2) rfl sub_nil)
      clear f16
      refine wp_ret ?_
      try simp only [Exit.inBlock, Exit.then]
      refine C.ret (P := Try.prog) (fn := Try.f48) f17 rfl rfl ?_
      exact ⟨rfl, by simp [hx (by omega), hy (by omega)]⟩

set_option maxHeartbeats 1000000 in
theorem lives_any (p q : Dt) (w : World) : Calls Try.prog 45 #[.agg (dcell p).toArray, .agg (dcell q).toArray] w (fun e w' => Kept [] w w' ∧ e = .returned (.int .i64 (livesI p q))) := by
  have HK : Kept [] w w := Kept.refl [] w
  refine C.enter Try.func45 rfl Try.ntmps45 rfl ?_
  intro a0 f0
  have f1 : Fr 17 a0 [(0, .agg (dcell p).toArray), (1, .agg (dcell q).toArray)] := f0
  clear f0
  refine wp_seq_k fun K0 hK0 => ?_
  refine C.region ?_
  refine L.box f1 wantedN (by decide) rfl rfl fun a2 w1 g0 N0 f2 => ?_
  have Bg0 := N0.blk
  have kg0 := N0.kept
  have log0 := N0.lo
  have ltg0 := Bg0.lt
  have szw1 := kg0.size
  have frg0 : w.heap.size ≤ g0 := Nat.le_trans HK.size log0
  replace HK := HK.trans kg0 (by simp)
  clear N0 kg0
  clear f1 a0
  refine L.box f2 wantedN (by decide) rfl rfl fun a3 w2 g1 N1 f3 => ?_
  have Bg1 := N1.blk
  have kg1 := N1.kept
  have log1 := N1.lo
  have ltg1 := Bg1.lt
  have szw2 := kg1.size
  have frg1 : w.heap.size ≤ g1 := Nat.le_trans HK.size log1
  have neg0_g1 : g0 ≠ g1 := by have := Bg0.lt; omega
  replace HK := HK.trans kg1 (by simp)
  replace Bg0 := Bg0.kept kg1 (by simp)
  clear N1 kg1
  clear f2 a2
  refine L.val f3 wantedN rfl (by decide) (E.assign f3 rfl) fun a4 f4 => ?_
  clear f3 a3
  refine wpList_nil (hK0 _ _ ?_)
  try clear hK0 K0
  have f5 := f4.sub (sub_cons (i := 2) rfl (sub_cons (i := 3) rfl (sub_cons (i := 4) rfl sub_nil)))
  clear f4
  refine wp_seq_k fun K1 hK1 => ?_
  refine R.begin (S := fun W => Kept [] w2 W) (by kernel_rfl) (by exact (Kept.refl _ _).drewN 1) ?_
  have hS1 : Kept [] w2 (w2.drewN 1) := (Kept.refl _ _).drewN 1
  have hd1 : Kept [] w2 (w2.drewN 1) := (Kept.refl _ _).drewN 1
  obtain ⟨w3, hww3⟩ : ∃ W, W = w2.drewN 1 := ⟨_, rfl⟩
  rw [← hww3] at hS1 hd1 ⊢
  clear hww3
  have szw3 := hS1.size
  refine R.take 0 f5 rfl rfl (by decide) (by kernel_rfl) (by kernel_rfl) (by kernel_rfl) (fun _ _ _ _ h => h) wantedN hS1 (fun W hW => (E.fieldAddr f5 Try.underlying32 rfl rfl wsz3_a)) fun a6 f6 => ?_
  clear f5 a4
  refine R.take 1 f6 rfl rfl (by decide) (by kernel_rfl) (by kernel_rfl) (by kernel_rfl) (fun _ _ _ _ h => h) wantedN hS1 (fun W hW => (by first | exact E.load f6 Try.underlying3 rfl rfl ((Bg0.kept hW (by simp)).cl rfl) | exact E.load f6 Try.underlying3 rfl rfl ((Bg1.kept hW (by simp)).cl rfl))) fun a7 f7 => ?_
  clear f6 a6
  refine R.take 2 f7 rfl rfl (by decide) (by kernel_rfl) (by kernel_rfl) (by kernel_rfl) (fun _ _ _ _ h => h) wantedN hS1 (fun W hW => (E.fieldAddr f7 Try.underlying32 rfl rfl wsz3_a)) fun a8 f8 => ?_
  clear f7 a7
  refine R.take 3 f8 rfl rfl (by decide) (by kernel_rfl) (by kernel_rfl) (by kernel_rfl) (fun _ _ _ _ h => h) wantedN hS1 (fun W hW => (by first | exact E.load f8 Try.underlying3 rfl rfl ((Bg0.kept hW (by simp)).cl rfl) | exact E.load f8 Try.underlying3 rfl rfl ((Bg1.kept hW (by simp)).cl rfl))) fun a9 f9 => ?_
  clear f8 a8
  refine R.take 5 f9 rfl rfl (by decide) (by kernel_rfl) (by kernel_rfl) (by kernel_rfl) (fun _ _ _ _ h => h) wantedN hS1 (fun W hW => (E.fieldAddr f9 Try.underlying32 rfl rfl wsz3_a)) fun a10 f10 => ?_
  clear f9 a9
  refine R.take 6 f10 rfl rfl (by decide) (by kernel_rfl) (by kernel_rfl) (by kernel_rfl) (fun _ _ _ _ h => h) wantedN hS1 (fun W hW => (by first | exact E.load f10 Try.underlying3 rfl rfl ((Bg0.kept hW (by simp)).cl rfl) | exact E.load f10 Try.underlying3 rfl rfl ((Bg1.kept hW (by simp)).cl rfl))) fun a11 f11 => ?_
  clear f10 a10
  refine R.take 7 f11 rfl rfl (by decide) (by kernel_rfl) (by kernel_rfl) (by kernel_rfl) (fun _ _ _ _ h => h) wantedN hS1 (fun W hW => (E.fieldAddr f11 Try.underlying32 rfl rfl wsz3_a)) fun a12 f12 => ?_
  clear f11 a11
  refine R.take 8 f12 rfl rfl (by decide) (by kernel_rfl) (by kernel_rfl) (by kernel_rfl) (fun _ _ _ _ h => h) wantedN hS1 (fun W hW => (by first | exact E.load f12 Try.underlying3 rfl rfl ((Bg0.kept hW (by simp)).cl rfl) | exact E.load f12 Try.underlying3 rfl rfl ((Bg1.kept hW (by simp)).cl rfl))) fun a13 f13 => ?_
  clear f12 a12
  refine R.call 4 f13 rfl rfl (by decide) (by kernel_rfl) wantedN (run_call Try.call49 (args2 f13 rfl rfl)) (cmp_any _ _ _) ?_
  rintro e w3x ⟨rfl, rfl⟩
  refine ⟨_, rfl, hS1, fun a14 f14 => ?_⟩
  clear f13 a13
  refine R.call 9 f14 rfl rfl (by decide) (by kernel_rfl) wantedN (run_call Try.call49 (args2 f14 rfl rfl)) (cmp_any _ _ _) ?_
  rintro e w3x ⟨rfl, rfl⟩
  refine ⟨_, rfl, hS1, fun a15 f15 => ?_⟩
  clear f14 a14
  refine R.one 10 (by kernel_rfl) ?_
  refine O.buildSlice f15 rfl wantedN (by decide) (parts2 f15 rfl rfl) Try.underlying82 wzi3_a rfl rfl (wbs82_2_a _ _) (fun _ hk => hS1.trans hk (by simp)) fun a16 w4 g3 N3 hSn f16 => ?_
  clear f15 a15
  have Bg3 := N3.blk
  have kg3 := N3.kept
  have log3 := N3.lo
  have ltg3 := Bg3.lt
  have szw4 := kg3.size
  have szSw4 := hS1.size
  clear N3 kg3
  replace hS1 := hSn
  clear hSn
  refine R.call 11 f16 rfl rfl (by decide) (by kernel_rfl) wantedN (run_call Try.call48 (args1 f16 rfl)) (or_any _ _ _ _ _ Bg3) ?_
  rintro e w4x ⟨rfl, rfl⟩
  refine ⟨_, rfl, hS1, fun a17 f17 => ?_⟩
  clear f16 a16
  refine R.take 12 f17 rfl rfl (by decide) (by kernel_rfl) (by kernel_rfl) (by kernel_rfl) (fun _ _ _ _ h => h) wantedN hS1 (fun W hW => (E.assign f17 rfl)) fun a18 f18 => ?_
  clear f17 a17
  have szw4r := hS1.size
  replace HK := HK.trans hS1 (by simp)
  replace Bg0 := Bg0.kept hS1 (by simp)
  replace Bg1 := Bg1.kept hS1 (by simp)
  clear hS1
  refine R.done (by kernel_rfl) (hK1 _ _ ?_)
  try clear hK1 K1
  have f19 := f18.sub (sub_cons (i := 4) rfl sub_nil)
  clear f18
  refine wp_ret ?_
  try simp only [Exit.inBlock, Exit.then]
  refine C.ret (P := Try.prog) (fn := Try.f45) f19 rfl rfl ?_
  exact ⟨HK, rfl⟩

set_option maxHeartbeats 1000000 in
theorem may_any (d : Dt) (w : World) : Calls Try.prog 44 #[.agg (dcell d).toArray] w (fun e w' => Kept [] w w' ∧ e = .returned (.bool (mayB d))) := by
  have HK : Kept [] w w := Kept.refl [] w
  refine C.enter Try.func44 rfl Try.ntmps44 rfl ?_
  intro a0 f0
  have f1 : Fr 21 a0 [(0, .agg (dcell d).toArray)] := f0
  clear f0
  refine wp_seq_k fun K0 hK0 => ?_
  refine C.region ?_
  refine L.box f1 wantedN (by decide) rfl rfl fun a2 w1 g0 N0 f2 => ?_
  have Bg0 := N0.blk
  have kg0 := N0.kept
  have log0 := N0.lo
  have ltg0 := Bg0.lt
  have szw1 := kg0.size
  have frg0 : w.heap.size ≤ g0 := Nat.le_trans HK.size log0
  replace HK := HK.trans kg0 (by simp)
  clear N0 kg0
  clear f1 a0
  refine L.val f2 wantedN rfl (by decide) (E.assign f2 rfl) fun a3 f3 => ?_
  clear f2 a2
  refine wpList_nil (hK0 _ _ ?_)
  try clear hK0 K0
  have f4 := f3.sub (sub_cons (i := 1) rfl (sub_cons (i := 2) rfl sub_nil))
  clear f3
  refine wp_seq_k fun K1 hK1 => ?_
  refine C.region ?_
  refine L.val f4 wantedN rfl (by decide) (E.fieldAddr f4 Try.underlying32 rfl rfl wsz3_a) fun a5 f5 => ?_
  clear f4 a3
  refine L.val f5 wantedN rfl (by decide) (by exact E.load f5 Try.underlying3 rfl rfl ((Bg0).cl rfl)) fun a6 f6 => ?_
  clear f5 a5
  refine L.val f6 wantedN rfl (by decide) (E.geq f6 rfl rfl) fun a7 f7 => ?_
  clear f6 a6
  refine L.val f7 wantedN rfl (by decide) (E.move f7 rfl) fun a8 f8 => ?_
  clear f7 a7
  first | refine f8.splitD 6 rfl (fun h0 f9 => ?_) (fun h0 f9 => ?_) | refine f8.splitN 6 rfl (fun h0 f9 => ?_) (fun h0 f9 => ?_) | refine f8.splitNB 6 rfl (fun h0 f9 => ?_) (fun h0 f9 => ?_) | refine f8.split 6 rfl (fun h0 f9 => ?_) (fun h0 f9 => ?_)
  · clear f8
    refine L.val f9 (f9.yes rfl rfl) rfl (by decide) (E.fieldAddr f9 Try.underlying32 rfl rfl wsz3_a) fun a10 f10 => ?_
    clear f9 a8
    refine L.val f10 (f10.yes rfl rfl) rfl (by decide) (by exact E.load f10 Try.underlying3 rfl rfl ((Bg0).cl rfl)) fun a11 f11 => ?_
    clear f10 a10
    refine L.val f11 (f11.yes rfl rfl) rfl (by decide) (E.lss f11 rfl rfl) fun a12 f12 => ?_
    clear f11 a11
    refine L.val f12 wantedN rfl (by decide) (E.pickT f12 rfl rfl) fun a13 f13 => ?_
    clear f12 a12
    refine L.val f13 wantedN rfl (by decide) (E.move f13 rfl) fun a14 f14 => ?_
    clear f13 a13
    first | refine f14.splitD 11 rfl (fun h1 f15 => ?_) (fun h1 f15 => ?_) | refine f14.splitN 11 rfl (fun h1 f15 => ?_) (fun h1 f15 => ?_) | refine f14.splitNB 11 rfl (fun h1 f15 => ?_) (fun h1 f15 => ?_) | refine f14.split 11 rfl (fun h1 f15 => ?_) (fun h1 f15 => ?_)
    · clear f14
      refine L.val f15 (f15.yes rfl rfl) rfl (by decide) (E.fieldAddr f15 Try.underlying32 rfl rfl wsz3_a) fun a16 f16 => ?_
      clear f15 a14
      refine L.val f16 (f16.yes rfl rfl) rfl (by decide) (by exact E.load f16 Try.underlying3 rfl rfl ((Bg0).cl rfl)) fun a17 f17 => ?_
      clear f16 a16
      refine L.val f17 (f17.yes rfl rfl) rfl (by decide) (E.geq f17 rfl rfl) fun a18 f18 => ?_
      clear f17 a17
      refine L.val f18 wantedN rfl (by decide) (E.pickT f18 rfl rfl) fun a19 f19 => ?_
      clear f18 a18
      refine L.val f19 wantedN rfl (by decide) (E.move f19 rfl) fun a20 f20 => ?_
      clear f19 a19
      first | refine f20.splitD 16 rfl (fun h2 f21 => ?_) (fun h2 f21 => ?_) | refine f20.splitN 16 rfl (fun h2 f21 => ?_) (fun h2 f21 => ?_) | refine f20.splitNB 16 rfl (fun h2 f21 => ?_) (fun h2 f21 => ?_) | refine f20.split 16 rfl (fun h2 f21 => ?_) (fun h2 f21 => ?_)
      · clear f20
        refine L.val f21 (f21.yes rfl rfl) rfl (by decide) (E.fieldAddr f21 Try.underlying32 rfl rfl wsz3_a) fun a22 f22 => ?_
        clear f21 a20
        refine L.val f22 (f22.yes rfl rfl) rfl (by decide) (by exact E.load f22 Try.underlying3 rfl rfl ((Bg0).cl rfl)) fun a23 f23 => ?_
        clear f22 a22
        refine L.val f23 (f23.yes rfl rfl) rfl (by decide) (E.geq f23 rfl rfl) fun a24 f24 => ?_
        clear f23 a23
        refine L.val f24 wantedN rfl (by decide) (E.pickT f24 rfl rfl) fun a25 f25 => ?_
        clear f24 a24
        refine L.val f25 wantedN rfl (by decide) (E.assign f25 rfl) fun a26 f26 => ?_
        clear f25 a25
        refine wpList_nil (hK1 _ _ ?_)
        try clear hK1 K1
        have f27 := f26.sub (sub_cons (i := 2) rfl sub_nil)
        clear f26
        refine wp_ret ?_
        try simp only [Exit.inBlock, Exit.then]
        refine C.ret (P := Try.prog) (fn := Try.f44) f27 rfl rfl ?_
        exact ⟨HK, by simp [mayB, *]⟩
      · clear f20
        refine L.skip f21 (f21.noT rfl rfl) rfl (by decide) fun a22 f22 => ?_
        clear f21 a20
        refine L.skip f22 (f22.noT rfl rfl) rfl (by decide) fun a23 f23 => ?_
        clear f22 a22
        refine L.skip f23 (f23.noT rfl rfl) rfl (by decide) fun a24 f24 => ?_
        clear f23 a23
        refine L.val f24 wantedN rfl (by decide) (E.pickF f24 rfl rfl) fun a25 f25 => ?_
        clear f24 a24
        refine L.val f25 wantedN rfl (by decide) (E.assign f25 rfl) fun a26 f26 => ?_
        clear f25 a25
        refine wpList_nil (hK1 _ _ ?_)
        try clear hK1 K1
        have f27 := f26.sub (sub_cons (i := 2) rfl sub_nil)
        clear f26
        refine wp_ret ?_
        try simp only [Exit.inBlock, Exit.then]
        refine C.ret (P := Try.prog) (fn := Try.f44) f27 rfl rfl ?_
        exact ⟨HK, by simp [mayB, *]⟩
    · clear f14
      refine L.skip f15 (f15.noT rfl rfl) rfl (by decide) fun a16 f16 => ?_
      clear f15 a14
      refine L.skip f16 (f16.noT rfl rfl) rfl (by decide) fun a17 f17 => ?_
      clear f16 a16
      refine L.skip f17 (f17.noT rfl rfl) rfl (by decide) fun a18 f18 => ?_
      clear f17 a17
      refine L.val f18 wantedN rfl (by decide) (E.pickF f18 rfl rfl) fun a19 f19 => ?_
      clear f18 a18
      refine L.val f19 wantedN rfl (by decide) (E.move f19 rfl) fun a20 f20 => ?_
      clear f19 a19
      refine L.skip f20 (f20.noT rfl rfl) rfl (by decide) fun a21 f21 => ?_
      clear f20 a20
      refine L.skip f21 (f21.noT rfl rfl) rfl (by decide) fun a22 f22 => ?_
      clear f21 a21
      refine L.skip f22 (f22.noT rfl rfl) rfl (by decide) fun a23 f23 => ?_
      clear f22 a22
      refine L.val f23 wantedN rfl (by decide) (E.pickF f23 rfl rfl) fun a24 f24 => ?_
      clear f23 a23
      refine L.val f24 wantedN rfl (by decide) (E.assign f24 rfl) fun a25 f25 => ?_
      clear f24 a24
      refine wpList_nil (hK1 _ _ ?_)
      try clear hK1 K1
      have f26 := f25.sub (sub_cons (i := 2) rfl sub_nil)
      clear f25
      refine wp_ret ?_
      try simp only [Exit.inBlock, Exit.then]
      refine C.ret (P := Try.prog) (fn := Try.f44) f26 rfl rfl ?_
      exact ⟨HK, by simp [mayB, *]⟩
  · clear f8
    refine L.skip f9 (f9.noT rfl rfl) rfl (by decide) fun a10 f10 => ?_
    clear f9 a8
    refine L.skip f10 (f10.noT rfl rfl) rfl (by decide) fun a11 f11 => ?_
    clear f10 a10
    refine L.skip f11 (f11.noT rfl rfl) rfl (by decide) fun a12 f12 => ?_
    clear f11 a11
    refine L.val f12 wantedN rfl (by decide) (E.pickF f12 rfl rfl) fun a13 f13 => ?_
    clear f12 a12
    refine L.val f13 wantedN rfl (by decide) (E.move f13 rfl) fun a14 f14 => ?_
    clear f13 a13
    refine L.skip f14 (f14.noT rfl rfl) rfl (by decide) fun a15 f15 => ?_
    clear f14 a14
    refine L.skip f15 (f15.noT rfl rfl) rfl (by decide) fun a16 f16 => ?_
    clear f15 a15
    refine L.skip f16 (f16.noT rfl rfl) rfl (by decide) fun a17 f17 => ?_
    clear f16 a16
    refine L.val f17 wantedN rfl (by decide) (E.pickF f17 rfl rfl) fun a18 f18 => ?_
    clear f17 a17
    refine L.val f18 wantedN rfl (by decide) (E.move f18 rfl) fun a19 f19 => ?_
    clear f18 a18
    refine L.skip f19 (f19.noT rfl rfl) rfl (by decide) fun a20 f20 => ?_
    clear f19 a19
    refine L.skip f20 (f20.noT rfl rfl) rfl (by decide) fun a21 f21 => ?_
    clear f20 a20
    refine L.skip f21 (f21.noT rfl rfl) rfl (by decide) fun a22 f22 => ?_
    clear f21 a21
    refine L.val f22 wantedN rfl (by decide) (E.pickF f22 rfl rfl) fun a23 f23 => ?_
    clear f22 a22
    refine L.val f23 wantedN rfl (by decide) (E.assign f23 rfl) fun a24 f24 => ?_
    clear f23 a23
    refine wpList_nil (hK1 _ _ ?_)
    try clear hK1 K1
    have f25 := f24.sub (sub_cons (i := 2) rfl sub_nil)
    clear f24
    refine wp_ret ?_
    try simp only [Exit.inBlock, Exit.then]
    refine C.ret (P := Try.prog) (fn := Try.f44) f25 rfl rfl ?_
    exact ⟨HK, by simp [mayB, *]⟩

end Go.Proofs.Ytahmlcjgcdajbaa
