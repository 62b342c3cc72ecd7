/- Merged by program (shrink.py): contracts and plain laws that the claim's statement uses, part 2. -/
import Derived.Test.YtdfllmiokgoekaaGreatDoorMa1
set_option linter.all false
set_option maxRecDepth 100000
set_option maxHeartbeats 8000000

namespace Go.Proofs.YtdfllmiokgoekaaGreatDoor
open Go.RowKit Go.Hub
theorem wbl92_0_2_ra (x0 : Int) (x1 : Option Nat) : Tryz.prog.built 92 [(0, .int .i64 x0), (2, .map x1)] = some #[.int .i64 x0, (.int .i64 0), .map x1] := by kernel_rfl
theorem wsz54_ra : (Tryz.prog.info? 54).map (·.size) = some 1 := by kernel_rfl
theorem wsz3_ra : (Tryz.prog.info? 3).map (·.size) = some 1 := by kernel_rfl
structure IdsR (w : World) (p im : Nat) (S : List Int) (most taken : Int) : Prop where
  top : Blk w p 92 #[.int .i64 most, .int .i64 taken, .map (some im)]
  set : IsSet Tryz.prog 3 4 w im S
  ne : im ≠ p
theorem IdsR.kept {w w' : World} {p im : Nat} {S : List Int} {most taken : Int} {L : List Nat} (h : IdsR w p im S most taken) (hk : Kept L w w') (h1 : p ∉ L) (h2 : im ∉ L) : IdsR w' p im S most taken := ⟨h.top.kept hk h1, h.set.kept hk h2, h.ne⟩
def IdsNewPostR (most : Int) (w : World) (e : Ending) (w' : World) : Prop := ∃ p im, e = .returned (.pointer (some ⟨p, 0, none⟩)) ∧ Kept [] w w' ∧ IdsR w' p im [] (mostI most 65535) 0 ∧ w.heap.size ≤ p ∧ w.heap.size ≤ im
def TakePostR (S : List Int) (most taken : Int) (p im : Nat) (w : World) (e : Ending) (w' : World) : Prop :=
  Kept [p, im] w w' ∧ if most ≤ S.length then e = .returned (.tuple #[.int .i64 0, .bool false]) ∧ IdsR w' p im S most taken else e = .returned (.tuple #[.int .i64 (Go.Ids.nxt S taken), .bool true]) ∧ IdsR w' p im (insS (Go.Ids.nxt S taken) S) most (Go.Ids.nxt S taken)
theorem take_fullR {S : List Int} {most taken : Int} {p im : Nat} {w w' : World} (h : most ≤ S.length) (hk : Kept [p, im] w w') (A : IdsR w' p im S most taken) : TakePostR S most taken p im w (.returned (.tuple #[.int .i64 0, .bool false])) w' := by
  refine ⟨hk, ?_⟩
  rw [if_pos h]
  exact ⟨rfl, A⟩
theorem take_gotR {S : List Int} {most taken u : Int} {p im : Nat} {w w' : World} (h : ¬ most ≤ S.length) (hk : Kept [p, im] w w') (A : IdsR w' p im (insS (Go.Ids.nxt S taken) S) most (Go.Ids.nxt S taken)) (he : u = Go.Ids.nxt S taken) : TakePostR S most taken p im w (.returned (.tuple #[.int .i64 u, .bool true])) w' := by
  refine ⟨hk, ?_⟩
  rw [if_neg h, he]
  exact ⟨rfl, A⟩
theorem timeR_any (x : Int) (w : World) : Calls Tryz.prog 55 #[.int .i64 x] w (fun e w' => w = w' ∧ e = .returned (.int .i64 (nearI x))) := by
 refine C.enter Tryz.func55 rfl Tryz.ntmps55 rfl ?_
 intro a0 f0
 have f1 : Fr 6 a0 [(0, .int .i64 x)] := f0
 refine C.sk fun K0 hK0 => ?_
 refine L.ag f1 fun a2 f2 => ?_
 have f3 := f2.pk [0, 2]
 refine wn hK0 (C.sk fun K1 hK1 => ?_)
 refine L.mv f3 fun a4 f4 => ?_
 refine L.va f4 (E.max f4 rfl rfl) fun a5 f5 => ?_
 refine L.va f5 (E.min f5 rfl rfl) fun a6 f6 => ?_
 refine L.ag f6 fun a7 f7 => ?_
 have f8 := f7.pk [2]
 refine wn hK1 (wp_ret ?_); (try simp only [xt, xb]); refine C.ret f8 rfl rfl ?_
 exact ⟨rfl, rfl⟩
theorem idsNewR_any (most : Int) (w : World) : Calls Tryz.prog 17 #[.int .i64 most] w (IdsNewPostR most w) := by
 have HK : Kept [] w w := Kept.refl [] w
 refine C.enter Tryz.func17 rfl Tryz.ntmps17 rfl ?_
 intro a0 f0
 have f1 : Fr 9 a0 [(0, .int .i64 most)] := f0
 refine C.sk fun K0 hK0 => ?_
 refine L.ag f1 fun a2 f2 => ?_
 have f3 := f2.pk [0, 2]
 refine wn hK0 (C.sk fun K1 hK1 => ?_)
 refine L.mv f3 fun a4 f4 => ?_
 refine L.va f4 (E.max f4 rfl rfl) fun a5 f5 => ?_
 refine L.va f5 (E.min f5 rfl rfl) fun a6 f6 => ?_
 refine L.makeMap f6 wantedN (by decide) 3 4 fun a7 w1 g0 Ig0 kg0 log0 f7 => ?_
 have ltg0 := Ig0.lt
 have szw1 := kg0.size
 have frg0 : w.heap.size ≤ g0 := Nat.le_trans HK.size log0
 replace HK := HK.z kg0
 clear f0 f1 a0 f2 f3 a2 f4 a4 f5 a5 f6 kg0 a6
 refine L.va f7 (E.build f7 (parts2 f7 rfl rfl) (wbl92_0_2_ra _ _)) fun a8 f8 => ?_
 refine L.box f8 wantedN (by decide) rfl rfl fun a9 w2 g1 N1 f9 => ?_
 have Bg1 := N1.blk
 have kg1 := N1.kept
 have log1 := N1.lo
 have ltg1 := Bg1.lt
 have szw2 := kg1.size
 have frg1 : w.heap.size ≤ g1 := Nat.le_trans HK.size log1
 have neg0_g1 : g0 ≠ g1 := by have := Ig0.lt; omega
 replace HK := HK.z kg1
 replace Ig0 := Ig0.kept kg1 (by simp)
 clear f7 a7 N1 kg1
 refine L.ag f9 fun a10 f10 => ?_
 have f11 := f10.pk [2]
 refine wn hK1 (wp_ret ?_); (try simp only [xt, xb]); refine C.ret f11 rfl rfl ?_
 exact ⟨_, _, rfl, HK, ⟨Bg1, Ig0, neg0_g1⟩, frg1, frg0⟩
theorem idsFreeR_any (p im : Nat) (S : List Int) (most taken : Int) (x : Int) (w : World) (A : IdsR w p im S most taken) (hx : (Lit.int .i64 x).wf = true) : Calls Tryz.prog 78 #[.pointer (some ⟨p, 0, none⟩), .int .i64 x] w (fun e w' => e = .returned (.bool (decide (x ∈ S))) ∧ Kept [im] w w' ∧ IdsR w' p im (S.erase x) most taken) := by
 have BP := A.top
 have IS := A.set
 have hne := A.ne
 have hne2 : p ≠ im := fun h => hne h.symm
 have HK : Kept [im] w w := Kept.refl _ w
 refine C.enter Tryz.func78 rfl Tryz.ntmps78 rfl ?_
 intro a0 f0
 have f1 : Fr 17 a0 [(0, .pointer (some ⟨p, 0, none⟩)), (1, .int .i64 x)] := f0
 refine C.sk fun K0 hK0 => ?_
 refine L.ag f1 fun a2 f2 => ?_
 refine wn hK0 ?_
 have f3 := f2.pk [0, 1, 4]
 refine wp_seq_k fun K1 hK1 => C.sk fun K2 hK2 => ?_
 refine L.mv f3 fun a4 f4 => ?_
 refine L.va f4 (E.nilCheck f4 rfl) fun a5 f5 => ?_
 refine L.va f5 (E.fa 2 f5 Tryz.underlying92 rfl wsz54_ra) fun a6 f6 => ?_
 refine L.va f6 (E.load f6 Tryz.underlying54 rfl rfl ((BP).cl rfl)) fun a7 f7 => ?_
 refine L.mv f7 fun a8 f8 => ?_
 clear f0 f1 a0 f2 f3 a2 f4 a4 f5 a5 f6 a6 f7 a7
 refine L.va f8 (E.look f8 IS U3 U4 Tryz.underlying54 (fun _ => by kernel_rfl) rfl rfl (by assumption)) fun a9 f9 => ?_
 refine L.va f9 (E.not f9 rfl) fun a10 f10 => ?_
 refine wn hK2 ?_
 have f11 := f10.pk [0, 1, 4, 11]
 clear f8 a8 f9 a9 f10
 refine f11.splitN 11 rfl (fun h0 f12 => ?_) (fun h0 f12 => ?_)
 ·have h11 := h0
  refine C.condT f12 rfl ?_
  refine C.sk fun K3 hK3 => ?_
  refine L.ag f12 fun a13 f13 => ?_
  have f14 := f13.pk [0, 1, 4]
  refine wn hK3 (wp_ret ?_); (try simp only [xt, xb]); refine C.ret f14 rfl rfl ?_
  exact ⟨by simp_all, HK, ⟨BP, by rw [List.erase_of_not_mem (by simp_all)]; exact IS, hne⟩⟩
 have h11 := h0
 refine C.condF f12 rfl ?_
 refine wp_skip (hK1 _ _ ?_)
 have f13 := f12.pk [0, 1, 4]
 refine C.sk fun K4 hK4 => ?_
 refine L.mv f13 fun a14 f14 => ?_
 refine L.va f14 (E.nilCheck f14 rfl) fun a15 f15 => ?_
 refine L.va f15 (E.fa 2 f15 Tryz.underlying92 rfl wsz54_ra) fun a16 f16 => ?_
 refine L.va f16 (E.load f16 Tryz.underlying54 rfl rfl ((BP).cl rfl)) fun a17 f17 => ?_
 refine L.mv f17 fun a18 f18 => ?_
 refine L.mapDrop f18 wantedN IS U3 Tryz.underlying54 rfl rfl (by assumption) fun a19 w1 IN ks f19 => ?_
 have szw1 := ks.size
 replace HK := HK.trans ks (by simp)
 replace BP := BP.kept ks (by simp; omega)
 replace IS := IN
 clear f11 f12 f13 a10 f14 a14 f15 a15 f16 a16 f17 a17 ks f18 a18
 have f20 := f19.pk [4]
 refine wn hK4 (C.sk fun K5 hK5 => ?_)
 refine L.ag f20 fun a21 f21 => ?_
 have f22 := f21.pk [4]
 refine wn hK5 (wp_ret ?_); (try simp only [xt, xb]); refine C.ret f22 rfl rfl ?_
 exact ⟨by simp_all, HK, ⟨BP, IS, hne⟩⟩
theorem takeR_any (p im : Nat) (S : List Int) (most taken : Int) (w : World) (A : IdsR w p im S most taken) (ht : 0 ≤ taken) (hm : most ≤ 65535) (htm : taken ≤ 9223372036854775807) : Calls Tryz.prog 77 #[.pointer (some ⟨p, 0, none⟩)] w (TakePostR S most taken p im w) := by
 have BP := A.top
 have IS := A.set
 have hne := A.ne
 have hne2 : p ≠ im := fun h => hne h.symm
 have HK : Kept [p, im] w w := Kept.refl _ w
 refine C.enter Tryz.func77 rfl Tryz.ntmps77 rfl ?_
 intro a0 f0
 have f1 : Fr 45 a0 [(0, .pointer (some ⟨p, 0, none⟩))] := f0
 refine C.sk fun K0 hK0 => ?_
 refine L.ag f1 fun a2 f2 => ?_
 refine L.ag f2 fun a3 f3 => ?_
 refine wn hK0 ?_
 have f4 := f3.pk [0, 2, 3]
 refine wp_seq_k fun K1 hK1 => ?_
 refine wp_seq_k fun K2 hK2 => ?_
 refine R.begin (S := fun W => Kept [] w W) (by kernel_rfl) (by exact (Kept.refl _ _).drewN 1) ?_
 have hS1 : Kept [] w (w.drewN 1) := (Kept.refl _ _).drewN 1
 have hd1 : Kept [] w (w.drewN 1) := (Kept.refl _ _).drewN 1
 obtain ⟨w1, hww1⟩ : ∃ W, W = w.drewN 1 := ⟨_, rfl⟩
 rw [← hww1] at hS1 hd1 ⊢
 clear f0 f1 a0 f2 a2 f3 hww1
 have szw1 := hS1.size
 refine R.mv 0 f4 rfl hS1 fun a5 f5 => ?_
 refine R.t 1 f5 rfl hS1 (fun W hW => (E.nilCheck f5 rfl)) fun a6 f6 => ?_
 refine R.t 2 f6 rfl hS1 (fun W hW => (E.fa 2 f6 Tryz.underlying92 rfl wsz54_ra)) fun a7 f7 => ?_
 refine R.t 3 f7 rfl hS1 (fun W hW => (E.load f7 Tryz.underlying54 rfl rfl ((BP.z hW).cl rfl))) fun a8 f8 => ?_
 refine R.t 4 f8 rfl hS1 (fun W hW => (E.lenM f8 (IS.kept hW (by simp)) Tryz.underlying54 rfl)) fun a9 f9 => ?_
 refine R.mv 5 f9 rfl hS1 fun a10 f10 => ?_
 refine R.t 6 f10 rfl hS1 (fun W hW => (E.nilCheck f10 rfl)) fun a11 f11 => ?_
 clear f4 a3 f5 a5 f6 a6 f7 a7 f8 a8 f9 a9 f10 a10
 refine R.t 7 f11 rfl hS1 (fun W hW => (E.fa 0 f11 Tryz.underlying92 rfl wsz3_ra)) fun a12 f12 => ?_
 refine R.t 8 f12 rfl hS1 (fun W hW => (E.load f12 U3 rfl rfl ((BP.z hW).cl rfl))) fun a13 f13 => ?_
 refine R.t 9 f13 rfl hS1 (fun W hW => (E.geq f13 rfl rfl)) fun a14 f14 => ?_
 have szw1r := hS1.size
 replace HK := HK.trans hS1 (by simp)
 replace BP := BP.z hS1
 replace IS := IS.kept hS1 (by simp)
 clear f11 a11 f12 a12 f13 a13 hS1
 refine R.done (by kernel_rfl) (hK2 _ _ ?_)
 have f15 := f14.pk [0, 2, 3, 13]
 clear f14
 refine f15.splitD 13 rfl (fun h0 f16 => ?_) (fun h0 f16 => ?_)
 ·have hfull := h0
  refine C.condT f16 rfl ?_
  refine C.sk fun K3 hK3 => ?_
  refine L.ag f16 fun a17 f17 => ?_
  refine L.ag f17 fun a18 f18 => ?_
  have f19 := f18.pk [0, 2, 3]
  refine wn hK3 (wp_ret ?_); (try simp only [xt, xb]); refine C.ret2 f19 rfl rfl rfl ?_
  exact take_fullR hfull HK ⟨BP, IS, hne⟩
 have hroom := h0
 have hr := Go.Ids.nxtG_some S taken ht (by omega)
 refine C.condF f16 rfl ?_
 refine wp_skip (hK1 _ _ ?_)
 have f17 := f16.pk [0, 2, 3]
 refine wp_block ?_
 clear f15 f16
 refine C.loop (fun gk a W => ∃ u : Int, Go.Ids.nxtG gk S (Go.Ids.stp u) = some (Go.Ids.nxt S taken) ∧ 0 ≤ u ∧ u ≤ 9223372036854775807 ∧ Blk W p 92 #[.int .i64 most, .int .i64 u, .map (some im)] ∧ IsSet Tryz.prog 3 4 W im S ∧ Kept [p, im] w W ∧ Fr 45 a [(0, .pointer (some ⟨p, 0, none⟩))]) (65535) ?_ ?_
 ·exact ⟨taken, hr, ht, htm, BP, IS, HK, f17.sub (sx sn)⟩
 intro gk5 a18 w2 hI KL4 hKL4
 obtain ⟨u, hq, hu1, hu2, BP, IS, HK, f18⟩ := hI
 try clear f17
 have hg := nx_pos hq
 have hb := Go.Ids.stp_bd u hu1
 refine wp_block ?_
 refine C.sk fun K5 hK5 => ?_
 refine L.mv f18 fun a19 f19 => ?_
 refine L.mv f19 fun a20 f20 => ?_
 refine L.va f20 (E.nilCheck f20 rfl) fun a21 f21 => ?_
 refine L.va f21 (E.fa 1 f21 Tryz.underlying92 rfl wsz3_ra) fun a22 f22 => ?_
 refine L.va f22 (E.load f22 U3 rfl rfl ((BP).cl rfl)) fun a23 f23 => ?_
 refine L.va f23 (E.rem f23 rfl rfl (by omega) (Int.tmod_eq_emod_of_nonneg (by omega))) fun a24 f24 => ?_
 refine L.va f24 (E.add f24 rfl rfl (IntWalk.i64_in _ (by omega))) fun a25 f25 => ?_
 clear f18 a18 f19 a19 f20 a20 f21 a21 f22 a22 f23 a23 f24 a24
 refine L.va f25 (E.nilCheck f25 rfl) fun a26 f26 => ?_
 refine L.va f26 (E.fa 1 f26 Tryz.underlying92 rfl wsz3_ra) fun a27 f27 => ?_
 refine L.store f27 wantedN wsz3_ra rfl rfl rfl BP (by (simp [Value.cells]; done)) fun a28 w3 f28 NB3 ks3 => ?_
 have szw3 := ks3.size
 replace HK := HK.trans ks3 (by simp)
 replace IS := IS.kept ks3 (by simp; omega)
 replace BP := NB3
 simp only [Value.cells, List.setIfInBounds_toArray, List.set_cons_zero, List.set_cons_succ, Nat.reduceAdd, Nat.zero_add] at BP
 clear f25 a25 f26 a26 ks3 f27 a27
 refine wn hK5 ?_
 have f29 := f28.pk [0, 14, 15, 16, 17, 18, 19, 20, 21, 22]
 refine wp_seq_k fun K6 hK6 => ?_
 refine R.begin (S := fun W => Kept [] w3 W) (by kernel_rfl) (by exact (Kept.refl _ _).drewN 1) ?_
 have hS4 : Kept [] w3 (w3.drewN 1) := (Kept.refl _ _).drewN 1
 have hd4 : Kept [] w3 (w3.drewN 1) := (Kept.refl _ _).drewN 1
 obtain ⟨w4, hww4⟩ : ∃ W, W = w3.drewN 1 := ⟨_, rfl⟩
 rw [← hww4] at hS4 hd4 ⊢
 clear f28 hww4
 have szw4 := hS4.size
 refine R.mv 0 f29 rfl hS4 fun a30 f30 => ?_
 refine R.t 1 f30 rfl hS4 (fun W hW => (E.nilCheck f30 rfl)) fun a31 f31 => ?_
 refine R.t 2 f31 rfl hS4 (fun W hW => (E.fa 2 f31 Tryz.underlying92 rfl wsz54_ra)) fun a32 f32 => ?_
 refine R.t 3 f32 rfl hS4 (fun W hW => (E.load f32 Tryz.underlying54 rfl rfl ((BP.z hW).cl rfl))) fun a33 f33 => ?_
 refine R.mv 4 f33 rfl hS4 fun a34 f34 => ?_
 refine R.t 5 f34 rfl hS4 (fun W hW => (E.nilCheck f34 rfl)) fun a35 f35 => ?_
 refine R.t 6 f35 rfl hS4 (fun W hW => (E.fa 1 f35 Tryz.underlying92 rfl wsz3_ra)) fun a36 f36 => ?_
 clear f29 a28 f30 a30 f31 a31 f32 a32 f33 a33 f34 a34 f35 a35
 refine R.t 7 f36 rfl hS4 (fun W hW => (E.load f36 U3 rfl rfl ((BP.z hW).cl rfl))) fun a37 f37 => ?_
 refine R.t 8 f37 rfl hS4 (fun W hW => (E.look f37 (IS.kept hW (by simp)) U3 U4 Tryz.underlying54 (fun _ => by kernel_rfl) rfl rfl (wf64 (by omega)))) fun a38 f38 => ?_
 refine R.t 9 f38 rfl hS4 (fun W hW => (E.not f38 rfl)) fun a39 f39 => ?_
 have szw4r := hS4.size
 replace HK := HK.trans hS4 (by simp)
 replace IS := IS.kept hS4 (by simp)
 replace BP := BP.z hS4
 clear f36 a36 f37 a37 f38 a38 hS4
 refine R.done (by kernel_rfl) (hK6 _ _ ?_)
 have f40 := f39.pk [0, 14, 15, 16, 17, 18, 19, 20, 21, 22, 23, 24, 25, 26, 27, 28, 29, 30, 31, 32]
 clear f39
 refine f40.splitN 32 rfl (fun h1 f41 => ?_) (fun h1 f41 => ?_)
 ·have hout := h1
  refine C.condT f41 rfl ?_
  refine wp_seq_k fun K7 hK7 => ?_
  have KN := Kept.refl [] w4
  refine R.begin (S := fun W => Kept [im] w4 W) (by kernel_rfl) (by exact (Kept.refl _ _).drewN 1) ?_
  have hS5 : Kept [im] w4 (w4.drewN 1) := (Kept.refl _ _).drewN 1
  have hd5 : Kept [] w4 (w4.drewN 1) := (Kept.refl _ _).drewN 1
  obtain ⟨w5, hww5⟩ : ∃ W, W = w4.drewN 1 := ⟨_, rfl⟩
  rw [← hww5] at hS5 hd5 ⊢
  clear f40 hww5
  have szw5 := hS5.size
  replace KN := KN.trans hd5 (by simp)
  refine R.mv 0 f41 rfl hS5 fun a42 f42 => ?_
  refine R.t 1 f42 rfl hS5 (fun W hW => (E.nilCheck f42 rfl)) fun a43 f43 => ?_
  refine R.t 2 f43 rfl hS5 (fun W hW => (E.fa 2 f43 Tryz.underlying92 rfl wsz54_ra)) fun a44 f44 => ?_
  refine R.t 3 f44 rfl hS5 (fun W hW => (E.load f44 Tryz.underlying54 rfl rfl ((BP.kept hW (by simp; omega)).cl rfl))) fun a45 f45 => ?_
  refine R.mv 4 f45 rfl hS5 fun a46 f46 => ?_
  refine R.t 5 f46 rfl hS5 (fun W hW => (E.nilCheck f46 rfl)) fun a47 f47 => ?_
  refine R.t 6 f47 rfl hS5 (fun W hW => (E.fa 1 f47 Tryz.underlying92 rfl wsz3_ra)) fun a48 f48 => ?_
  clear f41 a39 f42 a42 f43 a43 f44 a44 f45 a45 f46 a46 f47 a47
  refine R.t 7 f48 rfl hS5 (fun W hW => (E.load f48 U3 rfl rfl ((BP.kept hW (by simp; omega)).cl rfl))) fun a49 f49 => ?_
  refine R.one 8 (by kernel_rfl) ?_
  refine O.mapPut f49 rfl wantedN (IS.kept KN (by simp)) U3 U4 Tryz.underlying54 rfl rfl rfl (wf64 (by omega)) (by unfold maxLen; omega) (fun _ hk => hS5.trans hk (by simp)) fun a50 w6 IN ks f50 => ?_
  replace hS5 := hS5.trans ks (by simp)
  have szw6 := ks.size
  clear f48 a48 f49 a49 ks
  have szw6r := hS5.size
  replace HK := HK.trans hS5 (by simp)
  replace BP := BP.kept hS5 (by simp; omega)
  clear hS5
  refine R.done (by kernel_rfl) (hK7 _ _ ?_)
  have f51 := f50.pk [0, 14, 15, 16, 17, 18, 19, 20, 21, 22, 23, 24, 25, 26, 27, 28, 29, 30, 31, 32, 33, 34, 35, 36, 37, 38, 39, 40]
  refine C.sk fun K8 hK8 => ?_
  refine L.mv f51 fun a52 f52 => ?_
  refine L.va f52 (E.nilCheck f52 rfl) fun a53 f53 => ?_
  refine L.va f53 (E.fa 1 f53 Tryz.underlying92 rfl wsz3_ra) fun a54 f54 => ?_
  refine L.va f54 (E.load f54 U3 rfl rfl ((BP).cl rfl)) fun a55 f55 => ?_
  refine L.ag f55 fun a56 f56 => ?_
  refine L.ag f56 fun a57 f57 => ?_
  have f58 := f57.pk [0, 2, 3, 14, 15, 16, 17, 18, 19, 20, 21, 22, 23, 24, 25, 26, 27, 28, 29, 30, 31, 32, 33, 34, 35, 36, 37, 38, 39, 40, 41, 42, 43, 44]
  clear f50 f51 a50 f52 a52 f53 a53 f54 a54 f55 a55 f56 a56 f57
  refine wn hK8 (wp_ret ?_); (try simp only [xt, xb]); refine C.ret2 f58 rfl rfl rfl ?_
  have he := nx_done hq hout
  exact take_gotR (by omega) HK ⟨he ▸ BP, he ▸ IN, hne⟩ he
 have hin := h1
 refine C.condF f41 rfl ?_
 clear f40
 refine wp_skip (hKL4 _ _ (gk5 - 1) ?_ ?_)
 ·omega
 exact ⟨Go.Ids.stp u, nx_step hq hin, by omega, by omega, BP, IS, HK, f41.sub (sx sn)⟩
end Go.Proofs.YtdfllmiokgoekaaGreatDoor
namespace Go.Proofs.YtdfllmiokgoekaaGreatDoor
open Go.RowKit Go.Hub
theorem wzib5_c : (Tryz.prog.info? 5).map (fun i => (i.zero, i.size, i.bytes)) = some (some (.int .u8 0), 1, 1) := by kernel_rfl
theorem wsz5_c : (Tryz.prog.info? 5).map (·.size) = some 1 := by kernel_rfl
theorem wsz28_c : (Tryz.prog.info? 28).map (·.size) = some 1 := by kernel_rfl
theorem wsz30_c : (Tryz.prog.info? 30).map (·.size) = some 4 := by kernel_rfl
def BytesPost (n : Nat) (xs : List Value) (w : World) (e : Ending) (w' : World) : Prop := Kept [] w w' ∧ ∃ A c, e = .returned (.slice A n c) ∧ Fresh w w' 5 1 A n c xs
def CopyPost (tp : ByteArray) (n : Nat) (xs : List Value) (qos : Int) (ret : Bool) (w : World) (e : Ending) (w' : World) : Prop := Kept [] w w' ∧ ∃ A c, e = .returned (.agg #[.string tp, .slice A n c, .int .i64 qos, .bool ret]) ∧ Fresh w w' 5 1 A n c xs
theorem clone_any (A : Option Addr) (n c : Nat) (xs : List Value) (w : World) (A1 : Sl w A n 1 xs) (h1 : ∀ u ∈ xs, u.oneCell' = true) (hm : n ≤ 1000000000) : Calls Tryz.prog 64 #[.slice A n c] w (BytesPost n xs w) := by
 have HK : Kept [] w w := Kept.refl [] w
 refine C.enter Tryz.func64 rfl Tryz.ntmps64 rfl ?_
 intro a0 f0
 have f1 : Fr 8 a0 [(0, .slice A n c)] := f0
 refine C.sk fun K0 hK0 => ?_
 refine L.ag f1 fun a2 f2 => ?_
 refine wn hK0 ?_
 have f3 := f2.pk [0, 2]
 refine wp_seq_k fun K1 hK1 => C.sk fun K2 hK2 => ?_
 refine L.mv f3 fun a4 f4 => ?_
 refine L.va f4 (E.eqlNil f4 U28 rfl rfl) fun a5 f5 => ?_
 refine wn hK2 ?_
 have f6 := f5.pk [0, 2, 4]
 clear f0 f1 a0 f2 f3 a2 f4 a4 f5
 refine f6.split 4 rfl (fun h0 f7 => ?_) (fun h0 f7 => ?_)
 ·have hA0 : A = none := by simpa using h0
  clear f6
  have hn0 : n = 0 := by
   rcases Nat.eq_zero_or_pos n with h | h
   ·exact h
   obtain ⟨b, off, e⟩ := A1.addr h
   rw [hA0] at e
   cases e
  have hx0 : xs = [] := by have := A1.1; rw [hn0] at this; simpa using this
  refine C.condT f7 rfl ?_
  refine C.sk fun K3 hK3 => ?_
  refine L.ag f7 fun a8 f8 => ?_
  have f9 := f8.pk [0, 2]
  refine wn hK3 (wp_ret ?_); (try simp only [xt, xb]); refine C.ret f9 rfl rfl ?_
  clear f7 a5 f8
  subst hn0 hx0
  exact ⟨HK, none, 0, rfl, Fresh.nil _ _ _ _⟩
 refine C.condF f7 rfl ?_
 refine wp_skip (hK1 _ _ ?_)
 have f8 := f7.pk [0, 2]
 refine C.sk fun K4 hK4 => ?_
 refine L.buildNone f8 wantedN (by decide) U28 wsz5_c fun a9 w1 g0 N0 f9 => ?_
 have OW := N0.own (k := 0) (size := 1) rfl (by decide)
 have Bg0 := N0.blk
 have kg0 := N0.kept
 have log0 := N0.lo
 have ltg0 := Bg0.lt
 have szw1 := kg0.size
 have frg0 : w.heap.size ≤ g0 := Nat.le_trans HK.size log0
 replace HK := HK.z kg0
 clear f6 f7 N0 kg0
 refine L.mv f9 fun a10 f10 => ?_
 refine L.append f10 wantedN (by decide) U28 wzib5_c rfl rfl rfl rfl (OW) (A1.kept HK) (h1) (by unfold maxLen; omega) (by omega) fun a11 w2 A2 c2 AP2 f11 => ?_
 have kap2 : Kept [g0] w1 w2 := by simpa [Value.ownBlock] using AP2.kept
 have FR := AP2.next (⟨OW, fun b hb => by simp at hb; omega⟩ : Fresh w w1 5 1 (some ⟨g0, 0, none⟩) 0 0 _) HK.size
 have szw2 := kap2.size
 replace HK := HK.trans kap2 (by intro x hx hlt; simp at hx; subst hx; (exfalso; omega))
 clear f8 a5 f9 a9 f10 a10 kap2
 refine L.ag f11 fun a12 f12 => ?_
 have f13 := f12.pk [2]
 refine wn hK4 (wp_ret ?_); (try simp only [xt, xb]); refine C.ret f13 rfl rfl ?_
 simp only [Nat.zero_add] at FR f13 ⊢
 exact ⟨HK, _, _, rfl, by simpa using FR⟩
theorem copied_any (tp : ByteArray) (A : Option Addr) (n c : Nat) (xs : List Value) (qos : Int) (ret : Bool) (w : World) (A1 : Sl w A n 1 xs) (h1 : ∀ u ∈ xs, u.oneCell' = true) (hm : n ≤ 1000000000) : Calls Tryz.prog 66 #[.agg #[.string tp, .slice A n c, .int .i64 qos, .bool ret]] w (CopyPost tp n xs qos ret w) := by
 have HK : Kept [] w w := Kept.refl [] w
 refine C.enter Tryz.func66 rfl Tryz.ntmps66 rfl ?_
 intro a0 f0
 have f1 : Fr 8 a0 [(0, .agg #[.string tp, .slice A n c, .int .i64 qos, .bool ret])] := f0
 refine C.sk fun K0 hK0 => ?_
 refine L.box f1 wantedN (by decide) rfl rfl fun a2 w1 g0 N0 f2 => ?_
 have Bg0 := N0.blk
 have kg0 := N0.kept
 have log0 := N0.lo
 have ltg0 := Bg0.lt
 have szw1 := kg0.size
 have frg0 : w.heap.size ≤ g0 := Nat.le_trans HK.size log0
 replace HK := HK.z kg0
 clear f0 N0 kg0
 refine L.alloc f2 wantedN (by decide) (z := (.agg #[(.string ⟨#[]⟩), (.slice none 0 0), (.int .i64 0), (.bool false)])) (fun _ => by kernel_rfl) rfl fun a3 w2 g1 N1 f3 => ?_
 have Bg1 := N1.blk
 have kg1 := N1.kept
 have log1 := N1.lo
 have ltg1 := Bg1.lt
 have szw2 := kg1.size
 have frg1 : w.heap.size ≤ g1 := Nat.le_trans HK.size log1
 have neg0_g1 : g0 ≠ g1 := by have := Bg0.lt; omega
 replace HK := HK.z kg1
 replace Bg0 := Bg0.z kg1
 clear f1 a0 N1 kg1
 have f4 := f3.pk [1, 2]
 refine wn hK0 (C.sk fun K1 hK1 => ?_)
 refine L.fa 1 f4 U30 rfl wsz28_c fun a5 f5 => ?_
 refine L.va f5 (E.load f5 U28 rfl rfl ((Bg0).cl rfl)) fun a6 f6 => ?_
 refine L.cl f6 (run_call Tryz.call64 (args1 f6 rfl)) (clone_any A n c xs _ (A1.kept HK) h1 hm) ?_
 clear f2 a2 f3 f4 a3 f5 a5
 rintro e w3 ⟨kc3, Ac, cc, rfl, FC⟩
 refine ⟨_, rfl, fun a7 f7 => ?_⟩
 have szw3 := kc3.size
 replace HK := HK.z kc3
 replace Bg0 := Bg0.z kc3
 replace Bg1 := Bg1.z kc3
 clear f6 a6 kc3
 refine L.fa 1 f7 U30 rfl wsz28_c fun a8 f8 => ?_
 refine L.store f8 wantedN wsz28_c rfl rfl rfl Bg0 (by (simp [Value.cells]; done)) fun a9 w4 f9 NB4 ks4 => ?_
 have szw4 := ks4.size
 replace HK := HK.trans ks4 (by intro x hx hlt; simp at hx; subst hx; (exfalso; omega))
 replace Bg1 := Bg1.kept ks4 (by simp; omega)
 replace FC := FC.kept ks4 (fun b hb hx => by simp at hx; subst hx; have := FC.lo _ hb; omega)
 replace Bg0 := NB4
 simp only [Value.cells, List.setIfInBounds_toArray, List.set_cons_zero, List.set_cons_succ, Nat.reduceAdd, Nat.zero_add] at Bg0
 clear f7 a7 ks4 f8 a8
 have f10 := f9.pk [1, 2]
 refine wn hK1 (C.sk fun K2 hK2 => ?_)
 refine L.va f10 (E.loadB f10 U30 rfl wsz30_c rfl (Bg0) rfl) fun a11 f11 => ?_
 refine L.storeR f11 wantedN wsz30_c rfl rfl rfl Bg1 rfl rfl fun a12 w5 f12 NB5 ks5 => ?_
 have szw5 := ks5.size
 replace HK := HK.trans ks5 (by intro x hx hlt; simp at hx; subst hx; (exfalso; omega))
 replace FC := FC.kept ks5 (fun b hb hx => by simp at hx; subst hx; have := FC.lo _ hb; omega)
 replace Bg0 := Bg0.kept ks5 (by simp; omega)
 replace Bg1 := NB5
 clear f9 f10 a9 ks5 f11 a11
 have f13 := f12.pk [2]
 refine wn hK2 (wp_ret ?_); (try simp only [xt, xb]); refine C.retC f13 rfl rfl Bg1 U30 rfl wsz30_c ?_
 exact ⟨HK, Ac, cc, rfl, FC.lower (by omega)⟩
end Go.Proofs.YtdfllmiokgoekaaGreatDoor
namespace Go.Proofs.YtdfllmiokgoekaaGreatDoor
open Go.RowKit Go.Hub
theorem wzi35_d : (Tryz.prog.info? 35).map (fun i => (i.zero, i.size)) = some (some (.agg #[(.int .i64 0), (.bool false), (.bool false), (.int .i64 0), (.int .i64 0), (.string ⟨#[]⟩), (.slice none 0 0), (.int .i64 0), (.string ⟨#[]⟩), (.bool false), (.int .i64 0), (.bool false), (.string ⟨#[]⟩), (.slice none 0 0), (.int .i64 0), (.bool false), (.bool false), (.bool false), (.string ⟨#[]⟩), (.slice none 0 0), (.bool false), (.int .i64 0), (.slice none 0 0), (.slice none 0 0)]), 24) := by kernel_rfl
theorem wbs42_1_d (x0_0 x0_1 x0_2 x0_3 x0_4 x0_5 x0_6 x0_7 x0_8 x0_9 x0_10 x0_11 x0_12 x0_13 x0_14 x0_15 x0_16 x0_17 x0_18 x0_19 x0_20 x0_21 x0_22 x0_23 : Value) : Instr.fill (fun i => some (i * 24, 24)) ((Array.range (1 * 24)).map fun j => (Value.cells (.agg #[(.int .i64 0), (.bool false), (.bool false), (.int .i64 0), (.int .i64 0), (.string ⟨#[]⟩), (.slice none 0 0), (.int .i64 0), (.string ⟨#[]⟩), (.bool false), (.int .i64 0), (.bool false), (.string ⟨#[]⟩), (.slice none 0 0), (.int .i64 0), (.bool false), (.bool false), (.bool false), (.string ⟨#[]⟩), (.slice none 0 0), (.bool false), (.int .i64 0), (.slice none 0 0), (.slice none 0 0)]))[j % (Value.cells (.agg #[(.int .i64 0), (.bool false), (.bool false), (.int .i64 0), (.int .i64 0), (.string ⟨#[]⟩), (.slice none 0 0), (.int .i64 0), (.string ⟨#[]⟩), (.bool false), (.int .i64 0), (.bool false), (.string ⟨#[]⟩), (.slice none 0 0), (.int .i64 0), (.bool false), (.bool false), (.bool false), (.string ⟨#[]⟩), (.slice none 0 0), (.bool false), (.int .i64 0), (.slice none 0 0), (.slice none 0 0)])).size]!) [(0, .agg #[x0_0, x0_1, x0_2, x0_3, x0_4, x0_5, x0_6, x0_7, x0_8, x0_9, x0_10, x0_11, x0_12, x0_13, x0_14, x0_15, x0_16, x0_17, x0_18, x0_19, x0_20, x0_21, x0_22, x0_23])] = some #[x0_0, x0_1, x0_2, x0_3, x0_4, x0_5, x0_6, x0_7, x0_8, x0_9, x0_10, x0_11, x0_12, x0_13, x0_14, x0_15, x0_16, x0_17, x0_18, x0_19, x0_20, x0_21, x0_22, x0_23] := by kernel_rfl
theorem wbl35_0_4_d (x0 : Int) (x1 : Int) : Tryz.prog.built 35 [(0, .int .i64 x0), (4, .int .i64 x1)] = some #[.int .i64 x0, (.bool false), (.bool false), (.int .i64 0), .int .i64 x1, (.string ⟨#[]⟩), (.slice none 0 0), (.int .i64 0), (.string ⟨#[]⟩), (.bool false), (.int .i64 0), (.bool false), (.string ⟨#[]⟩), (.slice none 0 0), (.int .i64 0), (.bool false), (.bool false), (.bool false), (.string ⟨#[]⟩), (.slice none 0 0), (.bool false), (.int .i64 0), (.slice none 0 0), (.slice none 0 0)] := by kernel_rfl
theorem wsz9_d : (Tryz.prog.info? 9).map (·.size) = some 1 := by kernel_rfl
theorem wsz55_d : (Tryz.prog.info? 55).map (·.size) = some 1 := by kernel_rfl
theorem wsz52_d : (Tryz.prog.info? 52).map (·.size) = some 1 := by kernel_rfl
def ackCells (k id : Int) : Array Value := #[(.int .i64 k), (.bool false), (.bool false), (.int .i64 0), (.int .i64 id), (.string ⟨#[]⟩), (.slice none 0 0), (.int .i64 0), (.string ⟨#[]⟩), (.bool false), (.int .i64 0), (.bool false), (.string ⟨#[]⟩), (.slice none 0 0), (.int .i64 0), (.bool false), (.bool false), (.bool false), (.string ⟨#[]⟩), (.slice none 0 0), (.bool false), (.int .i64 0), (.slice none 0 0), (.slice none 0 0)]
def ReplyPost (k id : Int) (w : World) (e : Ending) (w' : World) : Prop := ∃ g, e = .returned (.slice (some ⟨g, 0, none⟩) 1 1) ∧ Kept [] w w' ∧ Blk w' g 35 (ackCells k id) ∧ w.heap.size ≤ g
theorem reply_any (k id : Int) (w : World) : Calls Tryz.prog 46 #[.int .i64 k, .int .i64 id] w (ReplyPost k id w) := by
 have HK : Kept [] w w := Kept.refl [] w
 refine C.enter Tryz.func46 rfl Tryz.ntmps46 rfl ?_
 intro a0 f0
 have f1 : Fr 9 a0 [(0, .int .i64 k), (1, .int .i64 id)] := f0
 refine C.sk fun K0 hK0 => ?_
 refine L.ag f1 fun a2 f2 => ?_
 have f3 := f2.pk [0, 1, 4]
 refine wn hK0 (C.sk fun K1 hK1 => ?_)
 refine L.mv f3 fun a4 f4 => ?_
 refine L.mv f4 fun a5 f5 => ?_
 refine L.va f5 (E.build f5 (parts2 f5 rfl rfl) (wbl35_0_4_d _ _)) fun a6 f6 => ?_
 refine L.buildSlice f6 wantedN (by decide) (parts1 f6 rfl) U42 wzi35_d rfl rfl (wbs42_1_d _ _ _ _ _ _ _ _ _ _ _ _ _ _ _ _ _ _ _ _ _ _ _ _) fun a7 w1 g0 N0 f7 => ?_
 have Bg0 := N0.blk
 have kg0 := N0.kept
 have log0 := N0.lo
 have ltg0 := Bg0.lt
 have szw1 := kg0.size
 have frg0 : w.heap.size ≤ g0 := Nat.le_trans HK.size log0
 replace HK := HK.z kg0
 clear f0 f1 a0 f2 f3 a2 f4 a4 f5 a5 N0 kg0
 refine L.ag f7 fun a8 f8 => ?_
 have f9 := f8.pk [4]
 refine wn hK1 (wp_ret ?_); (try simp only [xt, xb]); refine C.ret f9 rfl rfl ?_
 exact ⟨g0, rfl, HK, Bg0, frg0⟩
theorem client_any (p : Nat) (cl : ByteArray) (v1 v2 v3 v4 v5 : Value) (w : World) (BP : Blk w p 57 #[.string cl, v1, v2, v3, v4, v5]) : Calls Tryz.prog 14 #[.pointer (some ⟨p, 0, none⟩)] w (fun e w' => w = w' ∧ e = .returned (.string cl)) := by
 refine C.enter Tryz.func14 rfl Tryz.ntmps14 rfl ?_
 intro a0 f0
 have f1 : Fr 7 a0 [(0, .pointer (some ⟨p, 0, none⟩))] := f0
 refine C.sk fun K0 hK0 => ?_
 refine L.ag f1 fun a2 f2 => ?_
 have f3 := f2.pk [0, 2]
 refine wn hK0 (C.sk fun K1 hK1 => ?_)
 refine L.mv f3 fun a4 f4 => ?_
 refine L.va f4 (E.nilCheck f4 rfl) fun a5 f5 => ?_
 refine L.fa 0 f5 U57 rfl wsz9_d fun a6 f6 => ?_
 refine L.va f6 (E.load f6 U9 rfl rfl ((BP).cl rfl)) fun a7 f7 => ?_
 refine L.ag f7 fun a8 f8 => ?_
 clear f0 f1 a0 f2 f3 a2 f4 a4 f5 a5 f6 a6 f7 a7
 have f9 := f8.pk [2]
 refine wn hK1 (wp_ret ?_); (try simp only [xt, xb]); refine C.ret f9 rfl rfl ?_
 exact ⟨rfl, rfl⟩
theorem flying_any (p : Nat) (n c : Nat) (A : Option Addr) (v0 v1 v2 v4 v5 : Value) (w : World) (BP : Blk w p 57 #[v0, v1, v2, .slice A n c, v4, v5]) : Calls Tryz.prog 11 #[.pointer (some ⟨p, 0, none⟩)] w (fun e w' => w = w' ∧ e = .returned (.int .i64 n)) := by
 refine C.enter Tryz.func11 rfl Tryz.ntmps11 rfl ?_
 intro a0 f0
 have f1 : Fr 8 a0 [(0, .pointer (some ⟨p, 0, none⟩))] := f0
 refine C.sk fun K0 hK0 => ?_
 refine L.ag f1 fun a2 f2 => ?_
 have f3 := f2.pk [0, 2]
 refine wn hK0 (C.sk fun K1 hK1 => ?_)
 refine L.mv f3 fun a4 f4 => ?_
 refine L.va f4 (E.nilCheck f4 rfl) fun a5 f5 => ?_
 refine L.fa 3 f5 U57 rfl wsz55_d fun a6 f6 => ?_
 refine L.va f6 (E.load f6 Tryz.underlying55 rfl rfl ((BP).cl rfl)) fun a7 f7 => ?_
 refine L.va f7 (E.lenL f7 Tryz.underlying55 rfl) fun a8 f8 => ?_
 clear f0 f1 a0 f2 f3 a2 f4 a4 f5 a5 f6 a6 f7 a7
 refine L.ag f8 fun a9 f9 => ?_
 have f10 := f9.pk [2]
 refine wn hK1 (wp_ret ?_); (try simp only [xt, xb]); refine C.ret f10 rfl rfl ?_
 exact ⟨rfl, rfl⟩
theorem waiting_any (p q : Nat) (n c : Nat) (A : Option Addr) (most lost : Int) (v0 v1 v2 v3 v5 : Value) (w : World) (BP : Blk w p 57 #[v0, v1, v2, v3, .pointer (some ⟨q, 0, none⟩), v5]) (BQ : Blk w q 90 #[.slice A n c, .int .i64 most, .int .i64 lost]) : Calls Tryz.prog 36 #[.pointer (some ⟨p, 0, none⟩)] w (fun e w' => w = w' ∧ e = .returned (.int .i64 n)) := by
 refine C.enter Tryz.func36 rfl Tryz.ntmps36 rfl ?_
 intro a0 f0
 have f1 : Fr 8 a0 [(0, .pointer (some ⟨p, 0, none⟩))] := f0
 refine C.sk fun K0 hK0 => ?_
 refine L.ag f1 fun a2 f2 => ?_
 have f3 := f2.pk [0, 2]
 refine wn hK0 (C.sk fun K1 hK1 => ?_)
 refine L.mv f3 fun a4 f4 => ?_
 refine L.va f4 (E.nilCheck f4 rfl) fun a5 f5 => ?_
 refine L.fa 4 f5 U57 rfl wsz52_d fun a6 f6 => ?_
 refine L.va f6 (E.load f6 Tryz.underlying52 rfl rfl ((BP).cl rfl)) fun a7 f7 => ?_
 refine L.cl f7 (run_call Tryz.call39 (args1 f7 rfl)) (quLen_any _ _ _ _ _ _ _ BQ) ?_
 clear f0 f1 a0 f2 f3 a2 f4 a4 f5 a5 f6 a6
 rintro e wx ⟨rfl, rfl⟩
 refine ⟨_, rfl, fun a8 f8 => ?_⟩
 refine L.ag f8 fun a9 f9 => ?_
 have f10 := f9.pk [2]
 refine wn hK1 (wp_ret ?_); (try simp only [xt, xb]); refine C.ret f10 rfl rfl ?_
 exact ⟨rfl, rfl⟩
theorem lost_any (p q : Nat) (n c : Nat) (A : Option Addr) (most lost : Int) (v0 v1 v2 v3 v5 : Value) (w : World) (BP : Blk w p 57 #[v0, v1, v2, v3, .pointer (some ⟨q, 0, none⟩), v5]) (BQ : Blk w q 90 #[.slice A n c, .int .i64 most, .int .i64 lost]) : Calls Tryz.prog 37 #[.pointer (some ⟨p, 0, none⟩)] w (fun e w' => w = w' ∧ e = .returned (.int .i64 lost)) := by
 refine C.enter Tryz.func37 rfl Tryz.ntmps37 rfl ?_
 intro a0 f0
 have f1 : Fr 8 a0 [(0, .pointer (some ⟨p, 0, none⟩))] := f0
 refine C.sk fun K0 hK0 => ?_
 refine L.ag f1 fun a2 f2 => ?_
 have f3 := f2.pk [0, 2]
 refine wn hK0 (C.sk fun K1 hK1 => ?_)
 refine L.mv f3 fun a4 f4 => ?_
 refine L.va f4 (E.nilCheck f4 rfl) fun a5 f5 => ?_
 refine L.fa 4 f5 U57 rfl wsz52_d fun a6 f6 => ?_
 refine L.va f6 (E.load f6 Tryz.underlying52 rfl rfl ((BP).cl rfl)) fun a7 f7 => ?_
 refine L.cl f7 (run_call Tryz.call63 (args1 f7 rfl)) (quLost_any _ _ _ _ _ _ _ BQ) ?_
 clear f0 f1 a0 f2 f3 a2 f4 a4 f5 a5 f6 a6
 rintro e wx ⟨rfl, rfl⟩
 refine ⟨_, rfl, fun a8 f8 => ?_⟩
 refine L.ag f8 fun a9 f9 => ?_
 have f10 := f9.pk [2]
 refine wn hK1 (wp_ret ?_); (try simp only [xt, xb]); refine C.ret f10 rfl rfl ?_
 exact ⟨rfl, rfl⟩
end Go.Proofs.YtdfllmiokgoekaaGreatDoor
namespace Go.Proofs.YtdfllmiokgoekaaGreatDoor
open Go.RowKit Go.Hub
theorem wsz3_e : (Tryz.prog.info? 3).map (·.size) = some 1 := by kernel_rfl
theorem wsz4_e : (Tryz.prog.info? 4).map (·.size) = some 1 := by kernel_rfl
theorem wsz9_e : (Tryz.prog.info? 9).map (·.size) = some 1 := by kernel_rfl
theorem wsz28_e : (Tryz.prog.info? 28).map (·.size) = some 1 := by kernel_rfl
theorem wsz35_e : (Tryz.prog.info? 35).map (·.size) = some 24 := by kernel_rfl
theorem wbl35_0_5_6_3_2_4_1_e (x0 : Int) (x1 : ByteArray) (x2 : Option Addr) (y2 z2 : Nat) (x3 : Int) (x4 : Bool) (x5 : Int) (x6 : Bool) : Tryz.prog.built 35 [(0, .int .i64 x0), (5, .string x1), (6, .slice x2 y2 z2), (3, .int .i64 x3), (2, .bool x4), (4, .int .i64 x5), (1, .bool x6)] = some #[.int .i64 x0, .bool x6, .bool x4, .int .i64 x3, .int .i64 x5, .string x1, .slice x2 y2 z2, (.int .i64 0), (.string ⟨#[]⟩), (.bool false), (.int .i64 0), (.bool false), (.string ⟨#[]⟩), (.slice none 0 0), (.int .i64 0), (.bool false), (.bool false), (.bool false), (.string ⟨#[]⟩), (.slice none 0 0), (.bool false), (.int .i64 0), (.slice none 0 0), (.slice none 0 0)] := by kernel_rfl
def pubCells (tp : ByteArray) (A : Option Addr) (n c : Nat) (qos : Int) (ret : Bool) (id : Int) (dup : Bool) : Array Value := #[(.int .i64 3), (.bool dup), (.bool ret), (.int .i64 qos), (.int .i64 id), (.string tp), (.slice A n c), (.int .i64 0), (.string ⟨#[]⟩), (.bool false), (.int .i64 0), (.bool false), (.string ⟨#[]⟩), (.slice none 0 0), (.int .i64 0), (.bool false), (.bool false), (.bool false), (.string ⟨#[]⟩), (.slice none 0 0), (.bool false), (.int .i64 0), (.slice none 0 0), (.slice none 0 0)]
theorem seg_all : ∀ (xs cs : List Value), xs.length = cs.length → setSeg xs 0 cs = cs := fun xs cs h => by
  apply List.ext_getElem?
  intro i
  rw [setSeg_at cs xs 0 i (by omega)]
  split
  · simp
  rename_i hn
  rw [List.getElem?_eq_none (by omega), List.getElem?_eq_none (by omega)]
def PubPost (tp : ByteArray) (n : Nat) (xs : List Value) (qos : Int) (ret : Bool) (id : Int) (dup : Bool) (w : World) (e : Ending) (w' : World) : Prop := Kept [] w w' ∧ ∃ A c, e = .returned (.agg (pubCells tp A n c qos ret id dup)) ∧ Fresh w w' 5 1 A n c xs
theorem publish_any (tp : ByteArray) (A : Option Addr) (n c : Nat) (xs : List Value) (qos : Int) (ret : Bool) (id : Int) (dup : Bool) (w : World) (A1 : Sl w A n 1 xs) (h1 : ∀ u ∈ xs, u.oneCell' = true) (hm : n ≤ 1000000000) : Calls Tryz.prog 38 #[.agg #[.string tp, .slice A n c, .int .i64 qos, .bool ret], .int .i64 id, .bool dup] w (PubPost tp n xs qos ret id dup w) := by
 have HK : Kept [] w w := Kept.refl [] w
 refine C.enter Tryz.func38 rfl Tryz.ntmps38 rfl ?_
 intro a0 f0
 have f1 : Fr 19 a0 [(0, .agg #[.string tp, .slice A n c, .int .i64 qos, .bool ret]), (1, .int .i64 id), (2, .bool dup)] := f0
 refine C.sk fun K0 hK0 => ?_
 refine L.box f1 wantedN (by decide) rfl rfl fun a2 w1 g0 N0 f2 => ?_
 have Bg0 := N0.blk
 have kg0 := N0.kept
 have log0 := N0.lo
 have ltg0 := Bg0.lt
 have szw1 := kg0.size
 have frg0 : w.heap.size ≤ g0 := Nat.le_trans HK.size log0
 replace HK := HK.z kg0
 clear f0 N0 kg0
 refine L.alloc f2 wantedN (by decide) (z := (.agg #[(.int .i64 0), (.bool false), (.bool false), (.int .i64 0), (.int .i64 0), (.string ⟨#[]⟩), (.slice none 0 0), (.int .i64 0), (.string ⟨#[]⟩), (.bool false), (.int .i64 0), (.bool false), (.string ⟨#[]⟩), (.slice none 0 0), (.int .i64 0), (.bool false), (.bool false), (.bool false), (.string ⟨#[]⟩), (.slice none 0 0), (.bool false), (.int .i64 0), (.slice none 0 0), (.slice none 0 0)])) (fun _ => by kernel_rfl) rfl fun a3 w2 g1 N1 f3 => ?_
 have Bg1 := N1.blk
 have kg1 := N1.kept
 have log1 := N1.lo
 have ltg1 := Bg1.lt
 have szw2 := kg1.size
 have frg1 : w.heap.size ≤ g1 := Nat.le_trans HK.size log1
 have neg0_g1 : g0 ≠ g1 := by have := Bg0.lt; omega
 replace HK := HK.z kg1
 replace Bg0 := Bg0.z kg1
 clear f1 a0 N1 kg1
 refine wn hK0 ?_
 have f4 := f3.pk [1, 2, 3, 6]
 refine wp_seq_k fun K1 hK1 => ?_
 have KN := Kept.refl [] w2
 refine R.begin (S := fun W => Kept [g1] w2 W) (by kernel_rfl) (by exact (Kept.refl _ _).drewN 1) ?_
 have hS1 : Kept [g1] w2 (w2.drewN 1) := (Kept.refl _ _).drewN 1
 have hd1 : Kept [] w2 (w2.drewN 1) := (Kept.refl _ _).drewN 1
 obtain ⟨w3, hww3⟩ : ∃ W, W = w2.drewN 1 := ⟨_, rfl⟩
 rw [← hww3] at hS1 hd1 ⊢
 clear f2 a2 f3 hww3
 have szw3 := hS1.size
 replace KN := KN.trans hd1 (by simp)
 refine R.t 0 f4 rfl hS1 (fun W hW => (E.fa 0 f4 U30 rfl wsz9_e)) fun a5 f5 => ?_
 refine R.t 1 f5 rfl hS1 (fun W hW => (E.load f5 U9 rfl rfl ((Bg0.kept hW (by simp; omega)).cl rfl))) fun a6 f6 => ?_
 refine R.t 2 f6 rfl hS1 (fun W hW => (E.fa 1 f6 U30 rfl wsz28_e)) fun a7 f7 => ?_
 refine R.t 3 f7 rfl hS1 (fun W hW => (E.load f7 U28 rfl rfl ((Bg0.kept hW (by simp; omega)).cl rfl))) fun a8 f8 => ?_
 refine R.t 5 f8 rfl hS1 (fun W hW => (E.fa 2 f8 U30 rfl wsz3_e)) fun a9 f9 => ?_
 refine R.t 6 f9 rfl hS1 (fun W hW => (E.load f9 U3 rfl rfl ((Bg0.kept hW (by simp; omega)).cl rfl))) fun a10 f10 => ?_
 refine R.t 7 f10 rfl hS1 (fun W hW => (E.fa 3 f10 U30 rfl wsz4_e)) fun a11 f11 => ?_
 clear f4 a3 f5 a5 f6 a6 f7 a7 f8 a8 f9 a9 f10 a10
 refine R.t 8 f11 rfl hS1 (fun W hW => (E.load f11 U4 rfl rfl ((Bg0.kept hW (by simp; omega)).cl rfl))) fun a12 f12 => ?_
 refine R.mv 9 f12 rfl hS1 fun a13 f13 => ?_
 refine R.mv 10 f13 rfl hS1 fun a14 f14 => ?_
 refine R.call 4 f14 rfl rfl (by decide) (by kernel_rfl) wantedN (run_call Tryz.call64 (args1 f14 rfl)) (clone_any A n c xs _ (A1.kept (HK.z KN)) h1 hm) ?_
 clear f11 a11 f12 a12 f13 a13
 rintro e w4 ⟨kc4, Ac, cc, rfl, FC⟩
 replace hS1 := hS1.trans kc4 (by simp)
 refine ⟨_, rfl, hS1, fun a15 f15 => ?_⟩
 have szw4 := kc4.size
 replace KN := KN.trans kc4 (by simp)
 clear f14 a14 kc4
 refine R.t 11 f15 rfl hS1 (fun W hW => (E.build f15 (parts7 f15 rfl rfl rfl rfl rfl rfl rfl) (wbl35_0_5_6_3_2_4_1_e _ _ _ _ _ _ _ _ _))) fun a16 f16 => ?_
 refine R.one 12 (by kernel_rfl) ?_
 refine O.storeSeg f16 rfl wantedN wsz35_e rfl rfl rfl (xs := [(.int .i64 0), (.bool false), (.bool false), (.int .i64 0), (.int .i64 0), (.string ⟨#[]⟩), (.slice none 0 0), (.int .i64 0), (.string ⟨#[]⟩), (.bool false), (.int .i64 0), (.bool false), (.string ⟨#[]⟩), (.slice none 0 0), (.int .i64 0), (.bool false), (.bool false), (.bool false), (.string ⟨#[]⟩), (.slice none 0 0), (.bool false), (.int .i64 0), (.slice none 0 0), (.slice none 0 0)]) (Bg1.z KN) (by simp) rfl (fun _ hk => hS1.trans hk (by simp)) fun a17 w5 f17 NB ks => ?_
 clear f15 a15
 have BR : Blk w5 g1 35 (pubCells tp Ac n cc qos ret id dup) := by
   rw [seg_all _ _ (by simp)] at NB
   exact NB
 have FR := FC.kept ks (fun b hb hx => by simp at hx; subst hx; have := FC.lo _ hb; omega)
 replace hS1 := hS1.trans ks (by simp)
 have szw5 := ks.size
 clear f16 a16 ks NB
 have szw5r := hS1.size
 replace HK := HK.trans hS1 (by intro x hx hlt; simp at hx; subst hx; (exfalso; omega))
 clear hS1
 refine R.done (by kernel_rfl) (hK1 _ _ ?_)
 have f18 := f17.pk [6]
 refine wp_ret ?_; (try simp only [xt, xb]); refine C.retC f18 rfl rfl BR U35 rfl wsz35_e ?_
 exact ⟨HK, Ac, cc, rfl, FR.lower (by omega)⟩
end Go.Proofs.YtdfllmiokgoekaaGreatDoor
namespace Go.Proofs.YtdfllmiokgoekaaGreatDoor
open Go.RowKit Go.Hub
theorem info82 : (Tryz.prog.info? 82).map (fun i => (i.zero, i.size, i.bytes)) = some (some (.agg #[.string ByteArray.empty, .slice none 0 0, .int .i64 0, .bool false, .int .i64 0, .int .i64 0, .bool false]), 7, 80) := by kernel_rfl
theorem zero82 (w : World) : (zeroValue 82).run Tryz.prog w = .ok (.agg #[.string ByteArray.empty, .slice none 0 0, .int .i64 0, .bool false, .int .i64 0, .int .i64 0, .bool false]) w := by kernel_rfl
theorem del_any (g off n c i : Nat) (xs : List Value) (w : World) (ho : Own w 82 7 (.slice (some ⟨g, off, none⟩) n c) n xs) (h1 : ∀ u ∈ xs, u.oneCell' = true) (hi : i < n) :
    Calls Tryz.prog 68 #[.slice (some ⟨g, off, none⟩) n c, .int .i64 i, .int .i64 (i + 1)] w fun e w' => e = .returned (.slice (some ⟨g, off, none⟩) (n - 1) c) ∧ Own w' 82 7 (.slice (some ⟨g, off, none⟩) (n - 1) c) (n - 1) (xs.take (i * 7) ++ xs.drop ((i + 1) * 7)) ∧ Kept [g] w w' := by
  obtain ⟨A, c', e, hc1, hc2⟩ := ho.form
  injection e with e1 e2 e3
  subst e1 e3
  obtain ⟨m, rfl⟩ : ∃ m, n = i + 1 + m := ⟨n - (i + 1), by omega⟩
  obtain ⟨i0, hi0, hz0, hz1, hz2⟩ := info_parts info82
  unfold maxLen at hc2
  have hne : ((i : Int) == (i : Int) + 1) = false := by simp; omega
  rw [show i + 1 + m - 1 = i + m from by omega]
  go_enter Tryz.func68, Tryz.ntmps68
  by_cases hc : c = i + 1
  · obtain rfl : m = 0 := by omega
    subst hc
    have hhead := ho.head (k := i) (by omega)
    have htail : Rds w w.heap.size 7 (some ⟨g, off, none⟩) 0 (xs.drop ((i + 1) * 7)) := by
      have := ho.1
      rw [List.drop_eq_nil_of_le (by omega)]
      exact Rds.nil _ _ _ _
    have hu : ∀ u ∈ xs.drop ((i + 1) * 7), u.oneCell' = true := fun u hu => h1 u (List.mem_of_mem_drop hu)
    have q1 : ((i : Int) + 1).toNat = i + 1 := by omega
    have q2 : IntKind.i64.wrap ((i : Int) + 1) = (i : Int) + 1 := by rw [IntKind.wrap_i64]; omega
    have q5 : (0 : Int) ≤ (i : Int) := by omega
    have q6 : (i : Int) ≤ (i : Int) + 1 := by omega
    have q8 : (0 : Int) ≤ (i : Int) + 1 := by omega
    have HO := hid (And.intro ho h1)
    clear ho h1
    go_wp2_with fail
    go_region_held3 (fun w' => True) (trivial)
      (first | (refine step_append_fit _ rfl (.tmp 22) (.tmp 25) _ rfl 82 i0 7 Tryz.underlying55 hi0 hz1 g off i (i + 1) i _ rfl hhead.drew _ _ _ _ _ rfl htail.drew hu (by omega) (by omega) ?_; intro w1 ho1 hk1))
    have hcl : ∀ ty cc, (Builtin.clear_ #[55] ty #[.slice (some ⟨g, off + i * 7, none⟩) 1 cc]).run Tryz.prog w1 = .ok (.tuple #[]) (w1.setCells g (off + i * 7) [.string ByteArray.empty, .slice none 0 0, .int .i64 0, .bool false, .int .i64 0, .int .i64 0, .bool false]) := fun ty cc =>
      run_clear_one w1 55 82 ty (.agg #[.string ByteArray.empty, .slice none 0 0, .int .i64 0, .bool false, .int .i64 0, .int .i64 0, .bool false]) Tryz.underlying55 zero82 (by simp [Value.cells, Value.oneCell']) g (off + i * 7) cc
        (fun j hj => by simp [Value.cells] at hj; rw [Nat.add_assoc]; exact (ho1.room (by omega)).1) (fun j hj => by simp [Value.cells] at hj; rw [Nat.add_assoc]; exact (ho1.room (by omega)).2)
    have hp := ho1.past (o := off + i * 7) (by omega) [.string ByteArray.empty, .slice none 0 0, .int .i64 0, .bool false, .int .i64 0, .int .i64 0, .bool false]
    have HP := hid (And.intro hp hk1)
    clear hp hk1 ho1 hhead htail hu
    go_wp2_with (simp only [hcl])
    go_ret
    exact ⟨rfl, HP.out.1.1, HP.out.2.of_drew.trans HP.out.1.2 (by simp)⟩
  have hhead := ho.head (k := i) (by omega)
  have htail := ho.rds.cut (k := i + 1) (cap := c) (by omega) (by omega)
  rw [if_neg hc] at htail
  simp only [Option.map_some, add_none, Nat.add_sub_cancel_left] at htail
  have hu : ∀ u ∈ xs.drop ((i + 1) * 7), u.oneCell' = true := fun u hu => h1 u (List.mem_of_mem_drop hu)
  have q1 : ((i : Int) + 1).toNat = i + 1 := by omega
  have q2 : IntKind.i64.wrap ((i : Int) + 1) = (i : Int) + 1 := by rw [IntKind.wrap_i64]; omega
  have q3 : (i : Int) ≤ (i : Int) + 1 + (m : Int) := by omega
  have q5 : (0 : Int) ≤ (i : Int) := by omega
  have q6 : (i : Int) ≤ (c : Int) := by omega
  have q7 : (i : Int) + 1 + (m : Int) ≤ (c : Int) := by omega
  have q8 : (0 : Int) ≤ (i : Int) + 1 := by omega
  have q4 : (i : Int) + 1 ≤ (i : Int) + 1 + (m : Int) := by omega
  have HO := hid (And.intro ho h1)
  clear ho h1
  go_wp2_with fail
  go_region_held3 (fun w' => True) (trivial)
    (first | (refine step_append_fit _ rfl (.tmp 22) (.tmp 25) _ rfl 82 i0 7 Tryz.underlying55 hi0 hz1 g off i c (i + m) _ rfl hhead.drew _ _ _ _ _ rfl htail.drew hu (by omega) (by omega) ?_; intro w1 ho1 hk1))
  have hcl : ∀ ty cc, (Builtin.clear_ #[55] ty #[.slice (some ⟨g, off + (i + m) * 7, none⟩) 1 cc]).run Tryz.prog w1 = .ok (.tuple #[]) (w1.setCells g (off + (i + m) * 7) [.string ByteArray.empty, .slice none 0 0, .int .i64 0, .bool false, .int .i64 0, .int .i64 0, .bool false]) := fun ty cc =>
    run_clear_one w1 55 82 ty (.agg #[.string ByteArray.empty, .slice none 0 0, .int .i64 0, .bool false, .int .i64 0, .int .i64 0, .bool false]) Tryz.underlying55 zero82 (by simp [Value.cells, Value.oneCell']) g (off + (i + m) * 7) cc
      (fun j hj => by simp [Value.cells] at hj; rw [Nat.add_assoc]; exact (ho1.room (by omega)).1) (fun j hj => by simp [Value.cells] at hj; rw [Nat.add_assoc]; exact (ho1.room (by omega)).2)
  have hp := ho1.past (o := off + (i + m) * 7) (by omega) [.string ByteArray.empty, .slice none 0 0, .int .i64 0, .bool false, .int .i64 0, .int .i64 0, .bool false]
  have r0 : i + 1 + m - (i + m) = 1 := by omega
  have r1 : (0 : Int) ≤ (i : Int) + (m : Int) := by omega
  have r2 : (i : Int) + (m : Int) ≤ (i : Int) + 1 + (m : Int) := by omega
  have r3 : ((i : Int) + (m : Int)).toNat = i + m := by omega
  have r4 : ((i : Int) + 1 + (m : Int)).toNat = i + 1 + m := by omega
  have HP := hid (And.intro hp hk1)
  clear hp hk1 ho1 hhead htail hu
  go_wp2_with (simp only [hcl])
  go_ret
  exact ⟨rfl, HP.out.1.1, HP.out.2.of_drew.trans HP.out.1.2 (by simp)⟩
end Go.Proofs.YtdfllmiokgoekaaGreatDoor
namespace Go.Proofs.YtdfllmiokgoekaaGreatDoor
open Go.RowKit Go.Hub
structure Ms where
  tp : ByteArray
  pay : List UInt8
  qos : Int
  ret : Bool
structure Fa where
  m : Ms
  id : Int
  at_ : Int
  rc : Bool
structure SA where
  used : List Int
  taken : Int
  fly : List Fa
  wait : List Ms
  lost : Int
  got : List Int
structure Pa where
  kind : Int
  dup : Bool
  ret : Bool
  qos : Int
  id : Int
  tp : ByteArray
  pay : List UInt8
def newS : SA := ⟨[], 0, [], [], 0, []⟩
def pubP (m : Ms) (id : Int) (dup : Bool) : Pa := ⟨3, dup, m.ret, m.qos, id, m.tp, m.pay⟩
def ackP (k id : Int) : Pa := ⟨k, false, false, 0, id, ⟨#[]⟩, []⟩
def riseS (s : SA) (m : Ms) (now : Int) : SA := { s with used := insS (Go.Ids.nxt s.used s.taken) s.used, taken := Go.Ids.nxt s.used s.taken, fly := s.fly ++ [⟨m, Go.Ids.nxt s.used s.taken, nearI now, false⟩] }
def riseP (s : SA) (m : Ms) : Pa := pubP m (Go.Ids.nxt s.used s.taken) false
def drainN : Nat → SA → Int → SA × List Pa
  | 0, s, _ => (s, [])
  | k + 1, s, now => if s.fly.length < 4 then match s.wait with
      | [] => (s, [])
      | m :: r => let t := { s with wait := r }; let q := drainN k (riseS t m now) now; (q.1, riseP t m :: q.2)
    else (s, [])
def drainS (s : SA) (now : Int) : SA × List Pa := drainN 5 s now
def pushS (s : SA) (m : Ms) : SA := if s.wait.length < 8 then { s with wait := s.wait ++ [m] } else { s with lost := s.lost + 1 }
def sendS (s : SA) (m : Ms) (on : Bool) (now : Int) : SA × List Pa :=
  if m.qos = 0 ∧ on = true then (s, [pubP m 0 false])
  else if m.qos < 1 ∨ 2 < m.qos then (s, [])
  else if on = true ∧ s.fly.length < 4 ∧ s.wait.length = 0 then (riseS s m now, [riseP s m])
  else (pushS s m, [])
def idxI : List Int → Int → Int → Int
  | [], _, _ => -1
  | x :: r, id, k => if x = id then k else idxI r id (k + 1)
def doneS (s : SA) (i : Nat) (id now : Int) : SA × List Pa := drainS { s with used := s.used.erase id, fly := s.fly.eraseIdx i } now
def ackS (s : SA) (kind id now : Int) : SA × List Pa :=
  let i := idxI (s.fly.map (·.id)) id 0
  match s.fly[i.toNat]? with
  | none => (s, [])
  | some f =>
    if i < 0 then (s, [])
    else if (kind = 4 ∧ f.m.qos = 1) ∨ (kind = 7 ∧ f.rc = true) then doneS s i.toNat f.id now
    else if kind = 5 ∧ f.m.qos = 2 then ({ s with fly := s.fly.set i.toNat { f with rc := true, at_ := nearI now } }, [ackP 6 f.id])
    else (s, [])
def againF (now ago : Int) : List Fa → List Fa × List Pa
  | [] => ([], [])
  | f :: r => let q := againF now ago r
    if nearI now - f.at_ < ago then (f :: q.1, q.2) else ({ f with at_ := nearI now } :: q.1, (if f.rc = true then ackP 6 f.id else pubP f.m f.id true) :: q.2)
def againS (s : SA) (now ago : Int) : SA × List Pa := ({ s with fly := (againF now ago s.fly).1 }, (againF now ago s.fly).2)
def resumeS (s : SA) (now : Int) : SA × List Pa := let a := againS s now (-4398046511104); let d := drainS a.1 now; (d.1, a.2 ++ d.2)
def gotS (s : SA) (kind qos id : Int) : SA × Bool × List Pa :=
  if kind = 6 then ({ s with got := s.got.erase id }, false, [ackP 7 id])
  else if kind ≠ 3 ∨ qos < 0 ∨ 2 < qos then (s, false, [])
  else if qos = 0 then (s, true, [])
  else if qos = 1 then (s, true, [ackP 4 id])
  else ({ s with got := insS id s.got }, !decide (id ∈ s.got), [ackP 5 id])
structure Mc where
  m : Ms
  A : Option Addr
  c : Nat
abbrev mcell (x : Mc) : List Value := [.string x.m.tp, .slice x.A x.m.pay.length x.c, .int .i64 x.m.qos, .bool x.m.ret]
structure Fc where
  x : Mc
  id : Int
  at_ : Int
  rc : Bool
abbrev fcell (f : Fc) : List Value := [.string f.x.m.tp, .slice f.x.A f.x.m.pay.length f.x.c, .int .i64 f.x.m.qos, .bool f.x.m.ret, .int .i64 f.id, .int .i64 f.at_, .bool f.rc]
def Fc.abs (f : Fc) : Fa := ⟨f.x.m, f.id, f.at_, f.rc⟩
structure Pc where
  p : Pa
  A : Option Addr
  c : Nat
def pcell (x : Pc) : List Value := [.int .i64 x.p.kind, .bool x.p.dup, .bool x.p.ret, .int .i64 x.p.qos, .int .i64 x.p.id, .string x.p.tp, .slice x.A x.p.pay.length x.c, .int .i64 0, .string ⟨#[]⟩, .bool false, .int .i64 0, .bool false, .string ⟨#[]⟩, .slice none 0 0, .int .i64 0, .bool false, .bool false, .bool false, .string ⟨#[]⟩, .slice none 0 0, .bool false, .int .i64 0, .slice none 0 0, .slice none 0 0]
def Pay (B : Nat) (w : World) (A : Option Addr) (l : List UInt8) : Prop := Bs [5] B w A l.length l ∧ l.length ≤ 1000000000
structure QuAt (B : Nat) (w : World) (q : Nat) (A : Option Addr) (c : Nat) (l : List Mc) (lost : Int) : Prop where
  top : Blk w q 90 #[.slice A l.length c, .int .i64 8, .int .i64 lost]
  own : Own w 30 4 (.slice A l.length c) l.length (l.flatMap mcell)
  pay : ∀ m ∈ l, Pay B w m.A m.m.pay
  lo : B ≤ q
  loA : ∀ a, A = some a → B ≤ a.block
  len : l.length ≤ 8
structure FlyAt (B : Nat) (w : World) (A : Option Addr) (c : Nat) (l : List Fc) : Prop where
  own : Own w 82 7 (.slice A l.length c) l.length (l.flatMap fcell)
  pay : ∀ f ∈ l, Pay B w f.x.A f.x.m.pay
  loA : ∀ a, A = some a → B ≤ a.block
  len : l.length ≤ 4
structure PkAt (B : Nat) (w0 w : World) (A : Option Addr) (c : Nat) (l : List Pc) : Prop where
  fr : Fresh w0 w 35 24 A l.length c (l.flatMap pcell)
  pay : ∀ x ∈ l, Pay B w x.A x.p.pay
structure Ses where
  cl : ByteArray
  sv : Value
  ip : Nat
  im : Nat
  q : Nat
  gm : Nat
  used : List Int
  taken : Int
  fly : List Fc
  FA : Option Addr
  fc : Nat
  wait : List Mc
  QA : Option Addr
  qc : Nat
  lost : Int
  got : List Int
def Ses.abs (s : Ses) : SA := ⟨s.used, s.taken, s.fly.map Fc.abs, s.wait.map (·.m), s.lost, s.got⟩
def Row (w : World) (A A' : Option Addr) : Prop := ∀ b, A'.map (·.block) = some b → A.map (·.block) = some b ∨ w.heap.size ≤ b
structure Ses.Like (w : World) (s s' : Ses) : Prop where
  im : s'.im = s.im
  gm : s'.gm = s.gm
  cl : s'.cl = s.cl
  sv : s'.sv = s.sv
  qa : Row w s.QA s'.QA
theorem Ses.Like.refl (w : World) (s : Ses) : Ses.Like w s s := ⟨rfl, rfl, rfl, rfl, fun b hb => .inl hb⟩
abbrev Ses.cells (s : Ses) : Array Value := #[.string s.cl, s.sv, .pointer (some ⟨s.ip, 0, none⟩), .slice s.FA s.fly.length s.fc, .pointer (some ⟨s.q, 0, none⟩), .map (some s.gm)]
structure SesAt (B : Nat) (w : World) (p : Nat) (s : Ses) : Prop where
  top : Blk w p 57 s.cells
  one : s.sv.oneCell' = true
  ids : IdsAt w s.ip s.im s.used 65535 s.taken
  qu : QuAt B w s.q s.QA s.qc s.wait s.lost
  fly : FlyAt B w s.FA s.fc s.fly
  got : IsSet Tryz.prog 3 4 w s.gm s.got
  ne : s.im ≠ s.gm
  lop : B ≤ p
  loi : B ≤ s.ip
  lom : B ≤ s.im
  log : B ≤ s.gm
  tk : 0 ≤ s.taken ∧ s.taken ≤ 65535
  perm : s.used.Perm (s.fly.map (·.id))
  ats : ∀ f ∈ s.fly, -1099511627776 ≤ f.at_ ∧ f.at_ ≤ 1099511627776
  idb : ∀ f ∈ s.fly, 1 ≤ f.id ∧ f.id ≤ 65535
section
variable {T : List TypeId} {M : List Nat} {B : Nat} {w w' w0 : World} {A : Option Addr} {c p q : Nat}
theorem Pay.mod {l : List UInt8} (h : Pay B w A l) (hm : Mod T M B w w') (hT : (5 : TypeId) ∉ T) : Pay B w' A l := ⟨h.1.mod hm (by simpa using hT), h.2⟩
theorem Pay.nil (B : Nat) (w : World) (A : Option Addr) : Pay B w A [] := ⟨Bs.nil _ _ _ _, by simp⟩
theorem Pay.of_fresh {n : Nat} {l : List UInt8} (h : Fresh w0 w 5 1 A n c (l.map u8)) (hl : l.length ≤ 1000000000) : Pay B w A l := by
  have hn : n = l.length := by have := h.own.1; simpa using this.symm
  subst hn
  exact ⟨Bs.of_own h.own (by simp), hl⟩
theorem Pay.sl {l : List UInt8} (h : Pay B w A l) : Sl w A l.length 1 (l.map u8) := h.1.sl
theorem Pay.kept0 {l : List UInt8} (h : Pay B w A l) (hk : Kept [] w w') : Pay B w' A l := h.mod (T := []) (M := []) (.of_kept0 hk) (by simp)
theorem QuAt.mod {l : List Mc} {lost : Int} (h : QuAt B w q A c l lost) (hm : Mod T M B w w') (hT : (90 : TypeId) ∉ T ∧ (30 : TypeId) ∉ T ∧ (5 : TypeId) ∉ T) : QuAt B w' q A c l lost :=
  ⟨h.top.mod hm hT.1, h.own.mod hm hT.2.1, fun m hx => (h.pay m hx).mod hm hT.2.2, h.lo, h.loA, h.len⟩
theorem FlyAt.mod {l : List Fc} (h : FlyAt B w A c l) (hm : Mod T M B w w') (hT : (82 : TypeId) ∉ T ∧ (5 : TypeId) ∉ T) : FlyAt B w' A c l :=
  ⟨h.own.mod hm hT.1, fun m hx => (h.pay m hx).mod hm hT.2, h.loA, h.len⟩
theorem PkAt.mod {l : List Pc} (h : PkAt B w0 w A c l) (hm : Mod T M B w w') (hT : (35 : TypeId) ∉ T ∧ (5 : TypeId) ∉ T) : PkAt B w0 w' A c l := ⟨h.fr.mod hm hT.1, fun x hx => (h.pay x hx).mod hm hT.2⟩
theorem PkAt.nil (B : Nat) (w0 w : World) : PkAt B w0 w none 0 [] := ⟨Fresh.nil _ _ _ _, by simp⟩
theorem PkAt.lower {l : List Pc} {w1 : World} (h : PkAt B w0 w A c l) (hs : w1.heap.size ≤ w0.heap.size) : PkAt B w1 w A c l := ⟨h.fr.lower hs, h.pay⟩
theorem IdsAt.mod {ip im : Nat} {S : List Int} {most taken : Int} (h : IdsAt w ip im S most taken) (hm : Mod T M B w w') (hT : (88 : TypeId) ∉ T) (hM : im ∉ M) : IdsAt w' ip im S most taken := ⟨h.top.mod hm hT, h.set.mod hm hM, h.ne⟩
theorem SesAt.mod {s : Ses} (h : SesAt B w p s) (hm : Mod T [] B w w') (hT : ∀ t ∈ ([57, 88, 90, 30, 82, 5] : List TypeId), t ∉ T) : SesAt B w' p s :=
  ⟨h.top.mod hm (hT _ (by simp)), h.one, h.ids.mod hm (hT _ (by simp)) (by simp), h.qu.mod hm ⟨hT _ (by simp), hT _ (by simp), hT _ (by simp)⟩, h.fly.mod hm ⟨hT _ (by simp), hT _ (by simp)⟩, h.got.mod hm (by simp), h.ne, h.lop, h.loi, h.lom, h.log, h.tk, h.perm, h.ats, h.idb⟩
end
theorem fcell_len (l : List Fc) : (l.flatMap fcell).length = l.length * 7 := flat_len fcell 7 (fun _ => rfl) l
end Go.Proofs.YtdfllmiokgoekaaGreatDoor
namespace Go.Proofs.YtdfllmiokgoekaaGreatDoor
open Go.RowKit Go.Hub
theorem wzib30_g : (Tryz.prog.info? 30).map (fun i => (i.zero, i.size, i.bytes)) = some (some (.agg #[(.string ⟨#[]⟩), (.slice none 0 0), (.int .i64 0), (.bool false)]), 4, 56) := by kernel_rfl
theorem wzi30_g : (Tryz.prog.info? 30).map (fun i => (i.zero, i.size)) = some (some (.agg #[(.string ⟨#[]⟩), (.slice none 0 0), (.int .i64 0), (.bool false)]), 4) := by kernel_rfl
theorem wbs74_1_g (x0_0 x0_1 x0_2 x0_3 : Value) : Instr.fill (fun i => some (i * 4, 4)) ((Array.range (1 * 4)).map fun j => (Value.cells (.agg #[(.string ⟨#[]⟩), (.slice none 0 0), (.int .i64 0), (.bool false)]))[j % (Value.cells (.agg #[(.string ⟨#[]⟩), (.slice none 0 0), (.int .i64 0), (.bool false)])).size]!) [(0, .agg #[x0_0, x0_1, x0_2, x0_3])] = some #[x0_0, x0_1, x0_2, x0_3] := by kernel_rfl
theorem wsz3_g : (Tryz.prog.info? 3).map (·.size) = some 1 := by kernel_rfl
theorem wsz30_g : (Tryz.prog.info? 30).map (·.size) = some 4 := by kernel_rfl
theorem wsz74_g : (Tryz.prog.info? 74).map (·.size) = some 1 := by kernel_rfl
theorem wbl30__g  : Tryz.prog.built 30 [] = some #[(.string ⟨#[]⟩), (.slice none 0 0), (.int .i64 0), (.bool false)] := by kernel_rfl
theorem sl_blk {w : World} {g T size : Nat} {cs : Array Value} (B : Blk w g T cs) (h : cs.size = size) : Sl w (some ⟨g, 0, none⟩) 1 size cs.toList :=
  ⟨by simpa using h, fun _ => ⟨g, 0, rfl, B.lt, fun j u hu => by rw [Nat.zero_add]; exact B.cell_ (by simpa using hu)⟩⟩
def PushPost (B q : Nat) (A : Option Addr) (l : List Mc) (lost : Int) (m : Ms) (L : List Nat) (w : World) (e : Ending) (w' : World) : Prop :=
  Mod [90, 30] [] B w w' ∧ Kept L w w' ∧ e = .returned (.bool (decide (l.length < 8))) ∧ ∃ A' c' l', QuAt B w' q A' c' l' (if l.length < 8 then lost else lost + 1) ∧ (l'.map (·.m) = if l.length < 8 then l.map (·.m) ++ [m] else l.map (·.m)) ∧ Row w A A'
def PopPost (B q : Nat) (A : Option Addr) (l : List Mc) (lost : Int) (w : World) (e : Ending) (w' : World) : Prop :=
  Mod [90] [] B w w' ∧ ∃ (x : Mc) (A' : Option Addr) (c' : Nat) (r : List Mc), e = .returned (.tuple #[.agg (mcell x).toArray, .bool (!l.isEmpty)]) ∧ QuAt B w' q A' c' r lost ∧ Pay B w' x.A x.m.pay ∧ (l = x :: r ∨ l = [] ∧ r = []) ∧ Row w A A'
section
variable {B q : Nat} {A Ac A2 : Option Addr} {c cc c2 : Nat} {l : List Mc} {lost : Int} {m : Ms} {w W : World}
theorem push_full (h : (8 : Int) ≤ (l.length : Nat)) (hq : QuAt B w q A c l lost) (HK : Mod [90, 30] [] B w W) {L : List Nat} (KK : Kept L w W) (h' : QuAt B W q A c l (lost + 1)) : PushPost B q A l lost m L w (.returned (.bool false)) W := by
  have hn : ¬ l.length < 8 := by omega
  refine ⟨HK, KK, by rw [decide_eq_false hn], A, c, l, ?_, ?_, fun b hb => .inl hb⟩
  · rw [if_neg hn]; exact h'
  rw [if_neg hn]
theorem push_room {w1 : World} (h : ¬ (8 : Int) ≤ (l.length : Nat)) (hq : QuAt B w q A c l lost) (HK : Mod [90, 30] [] B w W) {L : List Nat} (KK : Kept L w W) (BP : Blk W q 90 #[.slice A2 (l.length + 1) c2, .int .i64 8, .int .i64 lost])
    (RX : Own W 30 4 (.slice A2 (l.length + 1) c2) (l.length + 1) (l.flatMap mcell ++ [.string m.tp, .slice Ac m.pay.length cc, .int .i64 m.qos, .bool m.ret])) (PY : ∀ m ∈ l, Pay B W m.A m.m.pay) (HC : Pay B W Ac m.pay) (LX : ∀ a, A2 = some a → B ≤ a.block) (WX : ∀ b, A2.map (·.block) = some b → A.map (·.block) = some b ∨ w1.heap.size ≤ b) (hs : w.heap.size ≤ w1.heap.size := by omega) : PushPost B q A l lost m L w (.returned (.bool true)) W := by
  have hn : l.length < 8 := by omega
  refine ⟨HK, KK, by rw [decide_eq_true hn], A2, c2, l ++ [⟨m, Ac, cc⟩], ?_, ?_, fun b hb => (WX b hb).imp id (Nat.le_trans hs)⟩
  · rw [if_pos hn]
    refine ⟨by simpa using BP, ?_, ?_, hq.lo, LX, by simp; omega⟩
    · rw [List.length_append, List.flatMap_append]
      exact RX
    intro x hx
    rcases List.mem_append.1 hx with hx | hx
    · exact PY x hx
    obtain rfl := List.mem_singleton.1 hx
    exact HC
  rw [if_pos hn, List.map_append]
  rfl
theorem pop_none (h : ((l.length : Nat) : Int) = 0) (hq : QuAt B w q A c l lost) (HK : Mod [90] [] B w W) (h' : QuAt B W q A c l lost) : PopPost B q A l lost w (.returned (.tuple #[.agg #[.string ⟨#[]⟩, .slice none 0 0, .int .i64 0, .bool false], .bool false])) W := by
  obtain rfl : l = [] := List.eq_nil_of_length_eq_zero (by omega)
  exact ⟨HK, ⟨⟨⟨#[]⟩, [], 0, false⟩, none, 0⟩, A, c, [], rfl, h', Pay.nil _ _ _, .inr ⟨rfl, rfl⟩, fun b hb => .inl hb⟩
theorem pop_one {x : Mc} {r : List Mc} (hq : QuAt B w q A c (x :: r) lost) (HK : Mod [90] [] B w W) (BP : Blk W q 90 #[.slice (if c = (1 : Int).toNat then A else A.map (·.add ((1 : Int).toNat * 4))) ((x :: r).length - (1 : Int).toNat) (c - (1 : Int).toNat), .int .i64 8, .int .i64 lost])
    (OWN : Own W 30 4 (.slice A (x :: r).length c) (x :: r).length ((x :: r).flatMap mcell)) (PY : ∀ m ∈ x :: r, Pay B W m.A m.m.pay) : PopPost B q A (x :: r) lost w (.returned (.tuple #[.agg (mcell x).toArray, .bool true])) W := by
  have hl := hq.len
  refine ⟨HK, x, _, _, r, rfl, ⟨BP, ?_, fun m hm => PY m (List.mem_cons_of_mem _ hm), hq.lo, ?_, by simp at hl; omega⟩, PY x (by simp), .inl rfl, ?_⟩
  · have := OWN.cut (k := 1) (by simp)
    simpa using this
  · intro a ha
    split at ha
    · exact hq.loA a ha
    cases A with
    | none => simp at ha
    | some a' => simp at ha; subst ha; exact hq.loA a' rfl
  intro b hb
  left
  split at hb
  · exact hb
  cases A with
  | none => simp at hb
  | some a' => simpa [Addr.add] using hb
end
theorem push_any (B q : Nat) (A : Option Addr) (c : Nat) (l : List Mc) (lost : Int) (m : Ms) (Am : Option Addr) (cm : Nat) (w : World) (hq : QuAt B w q A c l lost) (HP : Pay B w Am m.pay) (hB : B ≤ w.heap.size) (hl : 0 ≤ lost ∧ lost ≤ 1000000000) : Calls Tryz.prog 41 #[.pointer (some ⟨q, 0, none⟩), .agg #[.string m.tp, .slice Am m.pay.length cm, .int .i64 m.qos, .bool m.ret]] w (PushPost B q A l lost m (q :: (Value.slice A l.length c).ownBlock.toList) w) := by
 have HK : Mod [90, 30] [] B w w := .refl _ _ _ _
 have BP := hq.top
 have OWN := hq.own
 have PY := hq.pay
 have hloq := hq.lo
 have hlen := hq.len
 obtain ⟨MM, hMM⟩ : ∃ MM, MM = (Value.slice A l.length c).ownBlock.toList := ⟨_, rfl⟩
 have hqM : q ∉ MM := by rw [hMM]; exact own_ne hq.own hq.top (by decide)
 have KK : Kept (q :: MM) w w := Kept.refl _ _
 refine C.enter Tryz.func41 rfl Tryz.ntmps41 rfl ?_
 intro a0 f0
 have f1 : Fr 33 a0 [(0, .pointer (some ⟨q, 0, none⟩)), (1, .agg #[.string m.tp, .slice Am m.pay.length cm, .int .i64 m.qos, .bool m.ret])] := f0
 refine C.sk fun K0 hK0 => ?_
 refine L.box f1 wantedN (by decide) rfl rfl fun a2 w1 g0 N0 f2 => ?_
 have Bg0 := N0.blk
 have kg0 := N0.kept
 have log0 := N0.lo
 have ltg0 := Bg0.lt
 have szw1 := kg0.size
 have frg0 : w.heap.size ≤ g0 := Nat.le_trans HK.size log0
 have neq_g0 : q ≠ g0 := by have := BP.lt; omega
 replace HK := HK.trans (.of_kept0 kg0)
 replace KK := KK.trans kg0 (by simp)
 replace BP := BP.z kg0
 replace OWN := OWN.mod (Mod.of_kept0 (T := []) (M := []) (B := B) kg0) (by decide)
 replace PY := fun m hm => (PY m hm).mod (Mod.of_kept0 (T := []) (M := []) (B := B) kg0) (by decide)
 replace HP := HP.mod (Mod.of_kept0 (T := []) (M := []) (B := B) kg0) (by decide)
 clear f0 N0 kg0
 refine L.ag f2 fun a3 f3 => ?_
 refine wn hK0 ?_
 have f4 := f3.pk [0, 3, 4]
 refine wp_seq_k fun K1 hK1 => ?_
 refine wp_seq_k fun K2 hK2 => ?_
 refine R.begin (S := fun W => Kept [] w1 W) (by kernel_rfl) (by exact (Kept.refl _ _).drewN 1) ?_
 have hS1 : Kept [] w1 (w1.drewN 1) := (Kept.refl _ _).drewN 1
 have hd1 : Kept [] w1 (w1.drewN 1) := (Kept.refl _ _).drewN 1
 obtain ⟨w2, hww2⟩ : ∃ W, W = w1.drewN 1 := ⟨_, rfl⟩
 rw [← hww2] at hS1 hd1 ⊢
 clear f1 a0 f2 a2 f3 hww2
 have szw2 := hS1.size
 refine R.mv 0 f4 rfl hS1 fun a5 f5 => ?_
 refine R.t 1 f5 rfl hS1 (fun W hW => (E.nilCheck f5 rfl)) fun a6 f6 => ?_
 refine R.t 2 f6 rfl hS1 (fun W hW => (E.fa 0 f6 U90 rfl wsz74_g)) fun a7 f7 => ?_
 refine R.t 3 f7 rfl hS1 (fun W hW => (E.load f7 U74 rfl rfl ((BP.z hW).cl rfl))) fun a8 f8 => ?_
 refine R.t 4 f8 rfl hS1 (fun W hW => (E.lenL f8 U74 rfl)) fun a9 f9 => ?_
 refine R.mv 5 f9 rfl hS1 fun a10 f10 => ?_
 refine R.t 6 f10 rfl hS1 (fun W hW => (E.nilCheck f10 rfl)) fun a11 f11 => ?_
 clear f4 a3 f5 a5 f6 a6 f7 a7 f8 a8 f9 a9 f10 a10
 refine R.t 7 f11 rfl hS1 (fun W hW => (E.fa 1 f11 U90 rfl wsz3_g)) fun a12 f12 => ?_
 refine R.t 8 f12 rfl hS1 (fun W hW => (E.load f12 U3 rfl rfl ((BP.z hW).cl rfl))) fun a13 f13 => ?_
 refine R.t 9 f13 rfl hS1 (fun W hW => (E.geq f13 rfl rfl)) fun a14 f14 => ?_
 have szw2r := hS1.size
 replace HK := HK.trans (.of_kept0 hS1)
 replace KK := KK.trans hS1 (by simp)
 replace BP := BP.z hS1
 replace OWN := OWN.mod (Mod.of_kept0 (T := []) (M := []) (B := B) hS1) (by decide)
 replace PY := fun m hm => (PY m hm).mod (Mod.of_kept0 (T := []) (M := []) (B := B) hS1) (by decide)
 replace HP := HP.mod (Mod.of_kept0 (T := []) (M := []) (B := B) hS1) (by decide)
 replace Bg0 := Bg0.z hS1
 clear f11 a11 f12 a12 f13 a13 hS1
 refine R.done (by kernel_rfl) (hK2 _ _ ?_)
 have f15 := f14.pk [0, 3, 4, 14]
 clear f14
 refine f15.splitD 14 rfl (fun h0 f16 => ?_) (fun h0 f16 => ?_)
 ·have hfull := h0
  refine C.condT f16 rfl ?_
  refine C.sk fun K3 hK3 => ?_
  refine L.mv f16 fun a17 f17 => ?_
  refine L.va f17 (E.nilCheck f17 rfl) fun a18 f18 => ?_
  refine L.fa 2 f18 U90 rfl wsz3_g fun a19 f19 => ?_
  refine L.va f19 (E.load f19 U3 rfl rfl ((BP).cl rfl)) fun a20 f20 => ?_
  refine L.va f20 (E.add f20 rfl rfl (IntWalk.i64_in _ (by omega))) fun a21 f21 => ?_
  refine L.va f21 (E.nilCheck f21 rfl) fun a22 f22 => ?_
  refine L.fa 2 f22 U90 rfl wsz3_g fun a23 f23 => ?_
  clear f15 f16 a14 f17 a17 f18 a18 f19 a19 f20 a20 f21 a21 f22 a22
  refine L.store f23 wantedN wsz3_g rfl rfl rfl BP (by (simp [Value.cells]; done)) fun a24 w3 f24 NB3 ks3 => ?_
  have szw3 := ks3.size
  have KM := (Mod.of_blk (T := [90]) (M := []) (B := B) ks3 BP hq.lo (by simp))
  replace HK := HK.step KM (by decide) (by simp) (by omega)
  replace KK := KK.trans ks3 (by simp)
  replace OWN := OWN.mod KM (by decide)
  replace PY := fun m hm => (PY m hm).mod KM (by decide)
  replace HP := HP.mod KM (by decide)
  replace Bg0 := Bg0.kept ks3 (by simp; omega)
  replace BP := NB3
  simp only [Value.cells, List.setIfInBounds_toArray, List.set_cons_zero, List.set_cons_succ, Nat.reduceAdd, Nat.zero_add] at BP
  clear ks3 f23 a23
  have f25 := f24.pk [0, 3, 4]
  refine wn hK3 (C.sk fun K4 hK4 => ?_)
  refine L.ag f25 fun a26 f26 => ?_
  have f27 := f26.pk [0, 3, 4]
  refine wn hK4 (wp_ret ?_); (try simp only [xt, xb]); refine C.ret f27 rfl rfl ?_
  exact push_full hfull hq HK (hMM ▸ KK) ⟨BP, OWN, PY, hq.lo, hq.loA, hq.len⟩
 have hroom := h0
 refine C.condF f16 rfl ?_
 refine wp_skip (hK1 _ _ ?_)
 have f17 := f16.pk [0, 3, 4]
 refine wp_seq_k fun K5 hK5 => ?_
 have hg0M : g0 ∉ MM := by rw [hMM]; exact own_old hq.own frg0
 have OWN1 := OWN
 refine RB.begin (S := fun W => Kept MM w2 W) 9 (by kernel_rfl) (by exact (Kept.refl _ _).drewN 1) ?_
 have hS4 : Kept MM w2 (w2.drewN 1) := (Kept.refl _ _).drewN 1
 have hd4 : Kept [] w2 (w2.drewN 1) := (Kept.refl _ _).drewN 1
 obtain ⟨w3, hww3⟩ : ∃ W, W = w2.drewN 1 := ⟨_, rfl⟩
 rw [← hww3] at hS4 hd4 ⊢
 clear f15 f16 hww3
 have szw3 := hS4.size
 replace HP := HP.kept0 hd4
 replace OWN := OWN.mod (T := []) (M := []) (Mod.of_kept0 (B := B) hd4) (by simp)
 refine RB.tk 0 f17 rfl hS4 (fun W hW => (E.move f17 rfl)) fun a18 f18 => ?_
 refine RB.tk 1 f18 rfl hS4 (fun W hW => (E.move f18 rfl)) fun a19 f19 => ?_
 refine RB.tk 2 f19 rfl hS4 (fun W hW => (E.nilCheck f19 rfl)) fun a20 f20 => ?_
 refine RB.tk 3 f20 rfl hS4 (fun W hW => (E.fa 0 f20 U90 rfl wsz74_g)) fun a21 f21 => ?_
 refine RB.tk 4 f21 rfl hS4 (fun W hW => (E.load f21 U74 rfl rfl ((BP.kept hW (by assumption)).cl rfl))) fun a22 f22 => ?_
 refine RB.tk 5 f22 rfl hS4 (fun W hW => (E.loadB f22 U30 rfl wsz30_g rfl (Bg0.kept hW (by assumption)) rfl)) fun a23 f23 => ?_
 refine RB.call 6 f23 rfl rfl (by decide) (by kernel_rfl) (by kernel_rfl) wantedN (run_call Tryz.call66 (args1 f23 rfl)) (copied_any m.tp Am m.pay.length cm _ m.qos m.ret _ HP.sl u8_one HP.2) ?_
 clear f17 a14 f18 a18 f19 a19 f20 a20 f21 a21 f22 a22
 rintro e w4 ⟨kc4, Ac, cc, rfl, FC⟩
 have HC : Pay B w4 Ac m.pay := Pay.of_fresh FC HP.2
 replace hS4 := hS4.trans kc4 (by simp)
 refine ⟨_, rfl, hS4, fun a24 f24 => ?_⟩
 have szw4 := kc4.size
 replace HP := HP.kept0 kc4
 replace OWN := OWN.mod (T := []) (M := []) (Mod.of_kept0 (B := B) kc4) (by simp)
 clear f23 a23 kc4
 refine RB.one 7 (by kernel_rfl) (by kernel_rfl) ?_
 refine O.buildSlice f24 rfl wantedN (by decide) (parts1 f24 rfl) U74 wzi30_g rfl rfl (wbs74_1_g _ _ _ _) (fun _ hk => hS4.trans hk (by simp)) fun a25 w5 g4 N4 hSn f25 => ?_
 have Bg4 := N4.blk
 have kg4 := N4.kept
 have log4 := N4.lo
 have ltg4 := Bg4.lt
 have szw5 := kg4.size
 have szSw5 := hS4.size
 replace HP := HP.kept0 kg4
 replace OWN := OWN.mod (T := []) (M := []) (Mod.of_kept0 (B := B) kg4) (by simp)
 replace HC := HC.kept0 kg4
 clear f24 a24 N4 kg4
 replace hS4 := hSn
 clear hSn
 refine RB.one 8 (by kernel_rfl) (by kernel_rfl) ?_
 refine O.append f25 rfl wantedN (by decide) U74 wzib30_g rfl rfl rfl rfl (OWN) (sl_blk Bg4 rfl) (by simp [Value.oneCell']) (by unfold maxLen; omega) (by omega) fun a26 w6 A2 c2 AP6 => ?_
 have kap6 : Kept MM w5 w6 := by rw [hMM]; exact AP6.kept
 have KA : Mod [30] [] B w5 w6 := .of_app AP6 OWN hq.loA (by simp)
 have RX := AP6.own
 have WX := AP6.where_
 have LX := AP6.from hq.loA (B := B) (by omega)
 have hSn := hS4.trans kap6 (by exact fun x hx _ => hx)
 refine ⟨hSn, fun f26 => ?_⟩
 have szw6 := kap6.size
 replace HP := HP.mod KA (by decide)
 replace HC := HC.mod KA (by decide)
 clear f25 kap6
 replace hS4 := hSn
 clear hSn
 refine RB.stop (by kernel_rfl) ?_
 have szw6r := hS4.size
 have KM := Mod.of_own (T := [30]) (M := []) (B := B) (hMM ▸ hS4) OWN1 hq.loA (by simp)
 replace HK := HK.step KM (by decide) (by simp) (by omega)
 replace KK := KK.trans hS4 (fun x hx _ => List.mem_cons_of_mem _ hx)
 replace BP := BP.kept hS4 (by assumption)
 replace PY := fun m hm => (PY m hm).mod KM (by decide)
 replace Bg0 := Bg0.kept hS4 (by assumption)
 clear hS4
 refine R.t 9 f26 rfl trivial (fun W hW => (E.nilCheck f26 rfl)) fun a27 f27 => ?_
 refine R.t 10 f27 rfl trivial (fun W hW => (E.fa 0 f27 U90 rfl wsz74_g)) fun a28 f28 => ?_
 refine R.one 11 (by kernel_rfl) ?_
 refine OT.store f28 rfl wantedN wsz74_g rfl rfl rfl BP (by (simp [Value.cells]; done)) fun a29 w7 f29 NB7 ks7 => ?_
 have szw7 := ks7.size
 have KM := (Mod.of_blk (T := [90]) (M := []) (B := B) ks7 BP hq.lo (by simp))
 replace HK := HK.step KM (by decide) (by simp) (by omega)
 replace KK := KK.trans ks7 (by simp)
 replace PY := fun m hm => (PY m hm).mod KM (by decide)
 replace Bg0 := Bg0.kept ks7 (by simp; omega)
 replace HP := HP.mod KM (by decide)
 replace HC := HC.mod KM (by decide)
 replace RX := RX.mod KM (by decide)
 replace BP := NB7
 simp only [Value.cells, List.setIfInBounds_toArray, List.set_cons_zero, List.set_cons_succ, Nat.reduceAdd, Nat.zero_add] at BP
 clear f26 a26 f27 a27 ks7 f28 a28
 refine R.done (by kernel_rfl) (hK5 _ _ ?_)
 have f30 := f29.pk [4]
 refine C.sk fun K6 hK6 => ?_
 refine L.ag f30 fun a31 f31 => ?_
 have f32 := f31.pk [4]
 refine wn hK6 (wp_ret ?_); (try simp only [xt, xb]); refine C.ret f32 rfl rfl ?_
 exact push_room (Ac := Ac) (cc := cc) hroom hq HK (hMM ▸ KK) BP RX PY HC LX WX
theorem pop_any (B q : Nat) (A : Option Addr) (c : Nat) (l : List Mc) (lost : Int) (w : World) (hq : QuAt B w q A c l lost) (hB : B ≤ w.heap.size) : Calls Tryz.prog 79 #[.pointer (some ⟨q, 0, none⟩)] w (PopPost B q A l lost w) := by
 have HK : Mod [90] [] B w w := .refl _ _ _ _
 have BP := hq.top
 have OWN := hq.own
 have PY := hq.pay
 have hloq := hq.lo
 have hlen := hq.len
 refine C.enter Tryz.func79 rfl Tryz.ntmps79 rfl ?_
 intro a0 f0
 have f1 : Fr 27 a0 [(0, .pointer (some ⟨q, 0, none⟩))] := f0
 refine C.sk fun K0 hK0 => ?_
 refine L.alloc f1 wantedN (by decide) (z := (.agg #[(.string ⟨#[]⟩), (.slice none 0 0), (.int .i64 0), (.bool false)])) (fun _ => by kernel_rfl) rfl fun a2 w1 g0 N0 f2 => ?_
 have Bg0 := N0.blk
 have kg0 := N0.kept
 have log0 := N0.lo
 have ltg0 := Bg0.lt
 have szw1 := kg0.size
 have frg0 : w.heap.size ≤ g0 := Nat.le_trans HK.size log0
 have neq_g0 : q ≠ g0 := by have := BP.lt; omega
 replace HK := HK.trans (.of_kept0 kg0)
 replace BP := BP.z kg0
 replace OWN := OWN.mod (Mod.of_kept0 (T := []) (M := []) (B := B) kg0) (by decide)
 replace PY := fun m hm => (PY m hm).mod (Mod.of_kept0 (T := []) (M := []) (B := B) kg0) (by decide)
 clear f0 N0 kg0
 refine L.ag f2 fun a3 f3 => ?_
 refine wn hK0 ?_
 have f4 := f3.pk [0, 2, 3]
 refine wp_seq_k fun K1 hK1 => C.sk fun K2 hK2 => ?_
 refine L.mv f4 fun a5 f5 => ?_
 refine L.va f5 (E.nilCheck f5 rfl) fun a6 f6 => ?_
 refine L.fa 0 f6 U90 rfl wsz74_g fun a7 f7 => ?_
 refine L.va f7 (E.load f7 U74 rfl rfl ((BP).cl rfl)) fun a8 f8 => ?_
 refine L.va f8 (E.lenL f8 U74 rfl) fun a9 f9 => ?_
 clear f1 a0 f2 a2 f3 f4 a3 f5 a5 f6 a6 f7 a7 f8 a8
 refine L.va f9 (E.eql f9 rfl rfl) fun a10 f10 => ?_
 refine wn hK2 ?_
 have f11 := f10.pk [0, 2, 3, 10]
 clear f9 a9 f10
 refine f11.splitD 10 rfl (fun h0 f12 => ?_) (fun h0 f12 => ?_)
 ·have hn0 := h0
  refine C.condT f12 rfl ?_
  refine C.sk fun K3 hK3 => ?_
  refine L.va f12 (E.build f12 (parts0 f12) (wbl30__g)) fun a13 f13 => ?_
  refine L.storeR f13 wantedN wsz30_g rfl rfl rfl Bg0 rfl rfl fun a14 w2 f14 NB2 ks2 => ?_
  have szw2 := ks2.size
  replace HK := HK.kept_new ks2 (by simp; omega)
  replace BP := BP.kept ks2 (by simp; omega)
  replace OWN := OWN.kept ks2 (fun b hb hx => by have := (hq.own.blk b hb).1; simp at hx; omega)
  replace PY := fun m hm => (PY m hm).mod (Mod.of_blk (T := [30]) (M := []) (B := B) ks2 Bg0 (by omega) (by simp)) (by decide)
  replace Bg0 := NB2
  clear f11 f12 a10 ks2 f13 a13
  refine L.ag f14 fun a15 f15 => ?_
  have f16 := f15.pk [0, 2, 3]
  refine wn hK3 (wp_ret ?_); (try simp only [xt, xb]); refine C.retCT f16 rfl rfl rfl Bg0 U30 rfl wsz30_g ?_
  exact pop_none hn0 hq HK ⟨BP, OWN, PY, hq.lo, hq.loA, hq.len⟩
 clear f11
 obtain ⟨x, r, rfl⟩ : ∃ x r, l = x :: r := by
   cases l with
   | nil => simp at h0
   | cons x r => exact ⟨x, r, rfl⟩
 obtain ⟨b, off, hA⟩ := (Sl.of_own OWN).addr (by simp)
 have hpos : (0 : Int) < ((x :: r).length : Nat) := by simp
 refine C.condF f12 rfl ?_
 refine wp_skip (hK1 _ _ ?_)
 have f13 := f12.pk [0, 2, 3]
 refine C.sk fun K4 hK4 => ?_
 refine L.mv f13 fun a14 f14 => ?_
 refine L.va f14 (E.nilCheck f14 rfl) fun a15 f15 => ?_
 refine L.fa 0 f15 U90 rfl wsz74_g fun a16 f16 => ?_
 refine L.va f16 (E.load f16 U74 rfl rfl ((BP).cl rfl)) fun a17 f17 => ?_
 refine L.va f17 (E.indexA f17 (by assumption) U74 wsz30_g rfl rfl (by omega) (by omega)) fun a18 f18 => ?_
 clear f12 f13 a10 f14 a14 f15 a15 f16 a16 f17 a17
 refine L.va f18 (by (exact E.loadR f18 U30 rfl wsz30_g rfl ((Sl.row (i := 0) (cs := mcell x) (Sl.of_own OWN) (by simp) hA (by intro j u hu; rw [Nat.zero_mul, Nat.zero_add, List.flatMap_cons, List.getElem?_append_left (List.getElem?_eq_some_iff.1 hu).1]; exact hu))) rfl)) fun a19 f19 => ?_
 refine L.alloc f19 wantedN (by decide) (z := (.agg #[(.string ⟨#[]⟩), (.slice none 0 0), (.int .i64 0), (.bool false)])) (fun _ => by kernel_rfl) rfl fun a20 w2 g1 N1 f20 => ?_
 have Bg1 := N1.blk
 have kg1 := N1.kept
 have log1 := N1.lo
 have ltg1 := Bg1.lt
 have szw2 := kg1.size
 have frg1 : w.heap.size ≤ g1 := Nat.le_trans HK.size log1
 have neq_g1 : q ≠ g1 := by have := BP.lt; omega
 have neg0_g1 : g0 ≠ g1 := by have := Bg0.lt; omega
 replace HK := HK.trans (.of_kept0 kg1)
 replace BP := BP.z kg1
 replace OWN := OWN.mod (Mod.of_kept0 (T := []) (M := []) (B := B) kg1) (by decide)
 replace PY := fun m hm => (PY m hm).mod (Mod.of_kept0 (T := []) (M := []) (B := B) kg1) (by decide)
 replace Bg0 := Bg0.z kg1
 clear f18 a18 N1 kg1
 refine L.storeR f20 wantedN wsz30_g rfl rfl rfl Bg1 rfl rfl fun a21 w3 f21 NB3 ks3 => ?_
 have szw3 := ks3.size
 replace HK := HK.kept_new ks3 (by simp; omega)
 replace BP := BP.kept ks3 (by simp; omega)
 replace OWN := OWN.kept ks3 (fun b hb hx => by have := (hq.own.blk b hb).1; simp at hx; omega)
 replace PY := fun m hm => (PY m hm).mod (Mod.of_blk (T := [30]) (M := []) (B := B) ks3 Bg1 (by omega) (by simp)) (by decide)
 replace Bg0 := Bg0.kept ks3 (by simp; omega)
 replace Bg1 := NB3
 clear f19 a19 ks3 f20 a20
 have f22 := f21.pk [0, 2, 3, 4]
 refine wn hK4 (C.sk fun K5 hK5 => ?_)
 refine L.mv f22 fun a23 f23 => ?_
 refine L.mv f23 fun a24 f24 => ?_
 refine L.va f24 (E.nilCheck f24 rfl) fun a25 f25 => ?_
 refine L.fa 0 f25 U90 rfl wsz74_g fun a26 f26 => ?_
 refine L.va f26 (E.load f26 U74 rfl rfl ((BP).cl rfl)) fun a27 f27 => ?_
 refine L.va f27 (E.slLlo f27 U74 wsz30_g rfl rfl (by omega) (by omega) ) fun a28 f28 => ?_
 refine L.va f28 (E.nilCheck f28 rfl) fun a29 f29 => ?_
 clear f21 f22 a21 f23 a23 f24 a24 f25 a25 f26 a26 f27 a27 f28 a28
 refine L.fa 0 f29 U90 rfl wsz74_g fun a30 f30 => ?_
 refine L.store f30 wantedN wsz74_g rfl rfl rfl BP (by (simp [Value.cells]; done)) fun a31 w4 f31 NB4 ks4 => ?_
 have szw4 := ks4.size
 have KM := (Mod.of_blk (T := [90]) (M := []) (B := B) ks4 BP hq.lo (by simp))
 replace HK := HK.step KM (by decide) (by simp) (by omega)
 replace OWN := OWN.mod KM (by decide)
 replace PY := fun m hm => (PY m hm).mod KM (by decide)
 replace Bg0 := Bg0.kept ks4 (by simp; omega)
 replace Bg1 := Bg1.kept ks4 (by simp; omega)
 replace BP := NB4
 simp only [Value.cells, List.setIfInBounds_toArray, List.set_cons_zero, List.set_cons_succ, Nat.reduceAdd, Nat.zero_add] at BP
 clear f29 a29 ks4 f30 a30
 have f32 := f31.pk [2, 3, 4]
 refine wn hK5 (C.sk fun K6 hK6 => ?_)
 refine L.va f32 (E.loadB f32 U30 rfl wsz30_g rfl (Bg1) rfl) fun a33 f33 => ?_
 refine L.storeR f33 wantedN wsz30_g rfl rfl rfl Bg0 rfl rfl fun a34 w5 f34 NB5 ks5 => ?_
 have szw5 := ks5.size
 replace HK := HK.kept_new ks5 (by simp; omega)
 replace OWN := OWN.kept ks5 (fun b hb hx => by have := (hq.own.blk b hb).1; simp at hx; omega)
 replace PY := fun m hm => (PY m hm).mod (Mod.of_blk (T := [30]) (M := []) (B := B) ks5 Bg0 (by omega) (by simp)) (by decide)
 replace Bg1 := Bg1.kept ks5 (by simp; omega)
 replace BP := BP.kept ks5 (by simp; omega)
 replace Bg0 := NB5
 clear f31 f32 a31 ks5 f33 a33
 refine L.ag f34 fun a35 f35 => ?_
 have f36 := f35.pk [2, 3]
 refine wn hK6 (wp_ret ?_); (try simp only [xt, xb]); refine C.retCT f36 rfl rfl rfl Bg0 U30 rfl wsz30_g ?_
 exact pop_one hq HK BP OWN PY
end Go.Proofs.YtdfllmiokgoekaaGreatDoor
namespace Go.Proofs.YtdfllmiokgoekaaGreatDoor
open Go.RowKit Go.Hub
theorem wbl76_0_rb (x0 : Int) : Tryz.prog.built 76 [(0, .int .i64 x0)] = some #[.int .i64 x0, (.int .i64 0), (.slice none 0 0)] := by kernel_rfl
theorem wzib30_rb : (Tryz.prog.info? 30).map (fun i => (i.zero, i.size, i.bytes)) = some (some (.agg #[(.string ⟨#[]⟩), (.slice none 0 0), (.int .i64 0), (.bool false)]), 4, 56) := by kernel_rfl
theorem wzi30_rb : (Tryz.prog.info? 30).map (fun i => (i.zero, i.size)) = some (some (.agg #[(.string ⟨#[]⟩), (.slice none 0 0), (.int .i64 0), (.bool false)]), 4) := by kernel_rfl
theorem wbs74_1_rb (x0_0 x0_1 x0_2 x0_3 : Value) : Instr.fill (fun i => some (i * 4, 4)) ((Array.range (1 * 4)).map fun j => (Value.cells (.agg #[(.string ⟨#[]⟩), (.slice none 0 0), (.int .i64 0), (.bool false)]))[j % (Value.cells (.agg #[(.string ⟨#[]⟩), (.slice none 0 0), (.int .i64 0), (.bool false)])).size]!) [(0, .agg #[x0_0, x0_1, x0_2, x0_3])] = some #[x0_0, x0_1, x0_2, x0_3] := by kernel_rfl
theorem wsz3_rb : (Tryz.prog.info? 3).map (·.size) = some 1 := by kernel_rfl
theorem wsz30_rb : (Tryz.prog.info? 30).map (·.size) = some 4 := by kernel_rfl
theorem wsz74_rb : (Tryz.prog.info? 74).map (·.size) = some 1 := by kernel_rfl
theorem wbl30__rb  : Tryz.prog.built 30 [] = some #[(.string ⟨#[]⟩), (.slice none 0 0), (.int .i64 0), (.bool false)] := by kernel_rfl
structure QuR (B : Nat) (w : World) (q : Nat) (A : Option Addr) (c : Nat) (l : List Mc) (lost : Int) : Prop where
  top : Blk w q 76 #[.int .i64 8, .int .i64 lost, .slice A l.length c]
  own : Own w 30 4 (.slice A l.length c) l.length (l.flatMap mcell)
  pay : ∀ m ∈ l, Pay B w m.A m.m.pay
  lo : B ≤ q
  loA : ∀ a, A = some a → B ≤ a.block
  len : l.length ≤ 8
def QuNewPostR (most : Int) (w : World) (e : Ending) (w' : World) : Prop := ∃ q, e = .returned (.pointer (some ⟨q, 0, none⟩)) ∧ Kept [] w w' ∧ Blk w' q 76 #[.int .i64 (mostI most 65536), .int .i64 0, .slice none 0 0] ∧ w.heap.size ≤ q
def PopPostR (B q : Nat) (A : Option Addr) (l : List Mc) (lost : Int) (w : World) (e : Ending) (w' : World) : Prop :=
  Mod [76] [] B w w' ∧ ∃ (x : Mc) (A' : Option Addr) (c' : Nat) (r : List Mc), e = .returned (.tuple #[.agg (mcell x).toArray, .bool (!l.isEmpty)]) ∧ QuR B w' q A' c' r lost ∧ Pay B w' x.A x.m.pay ∧ (l = x :: r ∨ l = [] ∧ r = []) ∧ Row w A A'
def PushPostR (B q : Nat) (A : Option Addr) (l : List Mc) (lost : Int) (m : Ms) (L : List Nat) (w : World) (e : Ending) (w' : World) : Prop :=
  Mod [76, 30] [] B w w' ∧ Kept L w w' ∧ e = .returned (.bool (decide (l.length < 8))) ∧ ∃ A' c' l', QuR B w' q A' c' l' (if l.length < 8 then lost else lost + 1) ∧ (l'.map (·.m) = if l.length < 8 then l.map (·.m) ++ [m] else l.map (·.m)) ∧ Row w A A'
section
variable {B q : Nat} {A Am A2 : Option Addr} {c cm c2 : Nat} {l : List Mc} {lost : Int} {m : Ms} {w W : World}
theorem mcell_one (l : List Mc) : ∀ u ∈ l.flatMap mcell, u.oneCell' = true := fun u hu => by
  obtain ⟨x, _, hx⟩ := List.mem_flatMap.1 hu
  simp only [mcell, List.mem_cons, List.not_mem_nil, or_false] at hx
  rcases hx with rfl | rfl | rfl | rfl <;> rfl
theorem pop_noneR (h : ((l.length : Nat) : Int) = 0) (hq : QuR B w q A c l lost) (HK : Mod [76] [] B w W) (h' : QuR B W q A c l lost) : PopPostR B q A l lost w (.returned (.tuple #[.agg #[.string ⟨#[]⟩, .slice none 0 0, .int .i64 0, .bool false], .bool false])) W := by
  obtain rfl : l = [] := List.eq_nil_of_length_eq_zero (by omega)
  have hA : A = none ∨ True := .inr trivial
  exact ⟨HK, ⟨⟨⟨#[]⟩, [], 0, false⟩, none, 0⟩, A, c, [], rfl, h', Pay.nil _ _ _, .inr ⟨rfl, rfl⟩, fun b hb => .inl hb⟩
theorem pop_oneR {x : Mc} {r : List Mc} (hq : QuR B w q A c (x :: r) lost) (HK : Mod [76] [] B w W) (BP : Blk W q 76 #[.int .i64 8, .int .i64 lost, .slice A2 r.length c2])
    (RX : Own W 30 4 (.slice A2 r.length c2) r.length (r.flatMap mcell)) (PY : ∀ m ∈ x :: r, Pay B W m.A m.m.pay) (LX : ∀ b, A2.map (·.block) = some b → w.heap.size ≤ b) (hB : B ≤ w.heap.size := by omega) : PopPostR B q A (x :: r) lost w (.returned (.tuple #[.agg (mcell x).toArray, .bool true])) W := by
  have hl := hq.len
  exact ⟨HK, x, A2, c2, r, rfl, ⟨BP, RX, fun m hm => PY m (List.mem_cons_of_mem _ hm), hq.lo, fun a ha => Nat.le_trans hB (LX _ (by rw [ha]; rfl)), by simp at hl; omega⟩, PY x (by simp), .inl rfl, fun b hb => .inr (LX b hb)⟩
theorem _root_.Go.Hub.Sl.ct {w : World} {A : Option Addr} {n size c : Nat} {xs : List Value} (h : Sl w A n size xs) {k : Nat} (hk : k ≤ n) (hc : n ≤ c) : Sl w (if c = k then A else A.map (·.add (k * size))) (n - k) size (xs.drop (k * size)) := by
  refine ⟨by rw [List.length_drop, h.1, Nat.sub_mul], fun h0 => ?_⟩
  obtain ⟨b, off, e, hb, hl⟩ := h.2 (by omega)
  refine ⟨b, off + k * size, ?_, hb, fun j u hu => ?_⟩
  · rw [if_neg (by omega), e]
    simp [Addr.add]
  rw [List.getElem?_drop] at hu
  rw [Nat.add_assoc]
  exact hl _ u hu
theorem own_capR {e : TypeId} {size n c : Nat} {xs : List Value} (h : Own w e size (.slice A n c) n xs) : n ≤ c := by
  obtain ⟨A', c', e1, h1, _⟩ := h.form
  injection e1 with _ _ e3
  subst e3
  exact h1
theorem sl_tail {x : Mc} {r : List Mc} (O : Own w 30 4 (.slice A (x :: r).length c) (x :: r).length ((x :: r).flatMap mcell)) : Sl w (if c = (1 : Int).toNat then A else A.map (·.add ((1 : Int).toNat * 4))) ((x :: r).length - (1 : Int).toNat) 4 (r.flatMap mcell) := Sl.ct (Sl.of_own O) (k := 1) (by simp) (own_capR O)
theorem push_fullR (h : (8 : Int) ≤ (l.length : Nat)) (hq : QuR B w q A c l lost) (HK : Mod [76, 30] [] B w W) {L : List Nat} (KK : Kept L w W) (h' : QuR B W q A c l (lost + 1)) : PushPostR B q A l lost m L w (.returned (.bool false)) W := by
  have hn : ¬ l.length < 8 := by omega
  refine ⟨HK, KK, by rw [decide_eq_false hn], A, c, l, ?_, ?_, fun b hb => .inl hb⟩
  · rw [if_neg hn]; exact h'
  rw [if_neg hn]
theorem push_roomR {w1 : World} (h : ¬ (8 : Int) ≤ (l.length : Nat)) (hq : QuR B w q A c l lost) (HK : Mod [76, 30] [] B w W) {L : List Nat} (KK : Kept L w W) (BP : Blk W q 76 #[.int .i64 8, .int .i64 lost, .slice A2 (l.length + 1) c2])
    (RX : Own W 30 4 (.slice A2 (l.length + 1) c2) (l.length + 1) (l.flatMap mcell ++ [.string m.tp, .slice Am m.pay.length cm, .int .i64 m.qos, .bool m.ret])) (PY : ∀ m ∈ l, Pay B W m.A m.m.pay) (HC : Pay B W Am m.pay) (LX : ∀ a, A2 = some a → B ≤ a.block) (WX : ∀ b, A2.map (·.block) = some b → A.map (·.block) = some b ∨ w1.heap.size ≤ b) (hs : w.heap.size ≤ w1.heap.size := by omega) : PushPostR B q A l lost m L w (.returned (.bool true)) W := by
  have hn : l.length < 8 := by omega
  refine ⟨HK, KK, by rw [decide_eq_true hn], A2, c2, l ++ [⟨m, Am, cm⟩], ?_, ?_, fun b hb => (WX b hb).imp id (Nat.le_trans hs)⟩
  · rw [if_pos hn]
    refine ⟨by simpa using BP, ?_, ?_, hq.lo, LX, by simp; omega⟩
    · rw [List.length_append, List.flatMap_append]
      exact RX
    intro x hx
    rcases List.mem_append.1 hx with hx | hx
    · exact PY x hx
    obtain rfl := List.mem_singleton.1 hx
    exact HC
  rw [if_pos hn, List.map_append]
  rfl
end
theorem quNewR_any (most : Int) (w : World) : Calls Tryz.prog 18 #[.int .i64 most] w (QuNewPostR most w) := by
 have HK : Kept [] w w := Kept.refl [] w
 refine C.enter Tryz.func18 rfl Tryz.ntmps18 rfl ?_
 intro a0 f0
 have f1 : Fr 8 a0 [(0, .int .i64 most)] := f0
 refine C.sk fun K0 hK0 => ?_
 refine L.ag f1 fun a2 f2 => ?_
 have f3 := f2.pk [0, 2]
 refine wn hK0 (C.sk fun K1 hK1 => ?_)
 refine L.mv f3 fun a4 f4 => ?_
 refine L.va f4 (E.max f4 rfl rfl) fun a5 f5 => ?_
 refine L.va f5 (E.min f5 rfl rfl) fun a6 f6 => ?_
 refine L.va f6 (E.build f6 (parts1 f6 rfl) (wbl76_0_rb _)) fun a7 f7 => ?_
 refine L.box f7 wantedN (by decide) rfl rfl fun a8 w1 g0 N0 f8 => ?_
 have Bg0 := N0.blk
 have kg0 := N0.kept
 have log0 := N0.lo
 have ltg0 := Bg0.lt
 have szw1 := kg0.size
 have frg0 : w.heap.size ≤ g0 := Nat.le_trans HK.size log0
 replace HK := HK.z kg0
 clear f0 f1 a0 f2 f3 a2 f4 a4 f5 a5 f6 a6 N0 kg0
 refine L.ag f8 fun a9 f9 => ?_
 have f10 := f9.pk [2]
 refine wn hK1 (wp_ret ?_); (try simp only [xt, xb]); refine C.ret f10 rfl rfl ?_
 exact ⟨_, rfl, HK, Bg0, frg0⟩
theorem pushR_any (B q : Nat) (A : Option Addr) (c : Nat) (l : List Mc) (lost : Int) (m : Ms) (Am : Option Addr) (cm : Nat) (w : World) (hq : QuR B w q A c l lost) (HP : Pay B w Am m.pay) (hB : B ≤ w.heap.size) (hl : 0 ≤ lost ∧ lost ≤ 1000000000) : Calls Tryz.prog 52 #[.pointer (some ⟨q, 0, none⟩), .agg #[.string m.tp, .slice Am m.pay.length cm, .int .i64 m.qos, .bool m.ret]] w (PushPostR B q A l lost m (q :: (Value.slice A l.length c).ownBlock.toList) w) := by
 have HK : Mod [76, 30] [] B w w := .refl _ _ _ _
 have BP := hq.top
 have OWN := hq.own
 have PY := hq.pay
 have hloq := hq.lo
 have hlen := hq.len
 obtain ⟨MM, hMM⟩ : ∃ MM, MM = (Value.slice A l.length c).ownBlock.toList := ⟨_, rfl⟩
 have hqM : q ∉ MM := by rw [hMM]; exact own_ne hq.own hq.top (by decide)
 have KK : Kept (q :: MM) w w := Kept.refl _ _
 refine C.enter Tryz.func52 rfl Tryz.ntmps52 rfl ?_
 intro a0 f0
 have f1 : Fr 32 a0 [(0, .pointer (some ⟨q, 0, none⟩)), (1, .agg #[.string m.tp, .slice Am m.pay.length cm, .int .i64 m.qos, .bool m.ret])] := f0
 refine C.sk fun K0 hK0 => ?_
 refine L.box f1 wantedN (by decide) rfl rfl fun a2 w1 g0 N0 f2 => ?_
 have Bg0 := N0.blk
 have kg0 := N0.kept
 have log0 := N0.lo
 have ltg0 := Bg0.lt
 have szw1 := kg0.size
 have frg0 : w.heap.size ≤ g0 := Nat.le_trans HK.size log0
 have neq_g0 : q ≠ g0 := by have := BP.lt; omega
 replace HK := HK.trans (.of_kept0 kg0)
 replace KK := KK.trans kg0 (by simp)
 replace BP := BP.z kg0
 replace OWN := OWN.mod (Mod.of_kept0 (T := []) (M := []) (B := B) kg0) (by decide)
 replace PY := fun m hm => (PY m hm).mod (Mod.of_kept0 (T := []) (M := []) (B := B) kg0) (by decide)
 replace HP := HP.mod (Mod.of_kept0 (T := []) (M := []) (B := B) kg0) (by decide)
 clear f0 N0 kg0
 refine L.ag f2 fun a3 f3 => ?_
 refine wn hK0 ?_
 have f4 := f3.pk [0, 3, 4]
 refine wp_seq_k fun K1 hK1 => ?_
 refine wp_seq_k fun K2 hK2 => ?_
 refine R.begin (S := fun W => Kept [] w1 W) (by kernel_rfl) (by exact (Kept.refl _ _).drewN 1) ?_
 have hS1 : Kept [] w1 (w1.drewN 1) := (Kept.refl _ _).drewN 1
 have hd1 : Kept [] w1 (w1.drewN 1) := (Kept.refl _ _).drewN 1
 obtain ⟨w2, hww2⟩ : ∃ W, W = w1.drewN 1 := ⟨_, rfl⟩
 rw [← hww2] at hS1 hd1 ⊢
 clear f1 a0 f2 a2 f3 hww2
 have szw2 := hS1.size
 refine R.mv 0 f4 rfl hS1 fun a5 f5 => ?_
 refine R.t 1 f5 rfl hS1 (fun W hW => (E.nilCheck f5 rfl)) fun a6 f6 => ?_
 refine R.t 2 f6 rfl hS1 (fun W hW => (E.fa 2 f6 U76 rfl wsz74_rb)) fun a7 f7 => ?_
 refine R.t 3 f7 rfl hS1 (fun W hW => (E.load f7 U74 rfl rfl ((BP.z hW).cl rfl))) fun a8 f8 => ?_
 refine R.t 4 f8 rfl hS1 (fun W hW => (E.lenL f8 U74 rfl)) fun a9 f9 => ?_
 refine R.mv 5 f9 rfl hS1 fun a10 f10 => ?_
 refine R.t 6 f10 rfl hS1 (fun W hW => (E.nilCheck f10 rfl)) fun a11 f11 => ?_
 clear f4 a3 f5 a5 f6 a6 f7 a7 f8 a8 f9 a9 f10 a10
 refine R.t 7 f11 rfl hS1 (fun W hW => (E.fa 0 f11 U76 rfl wsz3_rb)) fun a12 f12 => ?_
 refine R.t 8 f12 rfl hS1 (fun W hW => (E.load f12 U3 rfl rfl ((BP.z hW).cl rfl))) fun a13 f13 => ?_
 refine R.t 9 f13 rfl hS1 (fun W hW => (E.geq f13 rfl rfl)) fun a14 f14 => ?_
 have szw2r := hS1.size
 replace HK := HK.trans (.of_kept0 hS1)
 replace KK := KK.trans hS1 (by simp)
 replace BP := BP.z hS1
 replace OWN := OWN.mod (Mod.of_kept0 (T := []) (M := []) (B := B) hS1) (by decide)
 replace PY := fun m hm => (PY m hm).mod (Mod.of_kept0 (T := []) (M := []) (B := B) hS1) (by decide)
 replace HP := HP.mod (Mod.of_kept0 (T := []) (M := []) (B := B) hS1) (by decide)
 replace Bg0 := Bg0.z hS1
 clear f11 a11 f12 a12 f13 a13 hS1
 refine R.done (by kernel_rfl) (hK2 _ _ ?_)
 have f15 := f14.pk [0, 3, 4, 14]
 clear f14
 refine f15.splitD 14 rfl (fun h0 f16 => ?_) (fun h0 f16 => ?_)
 ·have hfull := h0
  refine C.condT f16 rfl ?_
  refine C.sk fun K3 hK3 => ?_
  refine L.mv f16 fun a17 f17 => ?_
  refine L.va f17 (E.nilCheck f17 rfl) fun a18 f18 => ?_
  refine L.fa 1 f18 U76 rfl wsz3_rb fun a19 f19 => ?_
  refine L.va f19 (E.load f19 U3 rfl rfl ((BP).cl rfl)) fun a20 f20 => ?_
  refine L.va f20 (E.add f20 rfl rfl (IntWalk.i64_in _ (by omega))) fun a21 f21 => ?_
  refine L.va f21 (E.nilCheck f21 rfl) fun a22 f22 => ?_
  refine L.fa 1 f22 U76 rfl wsz3_rb fun a23 f23 => ?_
  clear f15 f16 a14 f17 a17 f18 a18 f19 a19 f20 a20 f21 a21 f22 a22
  refine L.store f23 wantedN wsz3_rb rfl rfl rfl BP (by (simp [Value.cells]; done)) fun a24 w3 f24 NB3 ks3 => ?_
  have szw3 := ks3.size
  have KM := (Mod.of_blk (T := [76]) (M := []) (B := B) ks3 BP hq.lo (by simp))
  replace HK := HK.step KM (by decide) (by simp) (by omega)
  replace KK := KK.trans ks3 (by simp)
  replace OWN := OWN.mod KM (by decide)
  replace PY := fun m hm => (PY m hm).mod KM (by decide)
  replace HP := HP.mod KM (by decide)
  replace Bg0 := Bg0.kept ks3 (by simp; omega)
  replace BP := NB3
  simp only [Value.cells, List.setIfInBounds_toArray, List.set_cons_zero, List.set_cons_succ, Nat.reduceAdd, Nat.zero_add] at BP
  clear ks3 f23 a23
  have f25 := f24.pk [0, 3, 4]
  refine wn hK3 (C.sk fun K4 hK4 => ?_)
  refine L.ag f25 fun a26 f26 => ?_
  have f27 := f26.pk [0, 3, 4]
  refine wn hK4 (wp_ret ?_); (try simp only [xt, xb]); refine C.ret f27 rfl rfl ?_
  exact push_fullR hfull hq HK (hMM ▸ KK) ⟨BP, OWN, PY, hq.lo, hq.loA, hq.len⟩
 have hroom := h0
 refine C.condF f16 rfl ?_
 refine wp_skip (hK1 _ _ ?_)
 have f17 := f16.pk [0, 3, 4]
 refine wp_seq_k fun K5 hK5 => ?_
 have hg0M : g0 ∉ MM := by rw [hMM]; exact own_old hq.own frg0
 have OWN1 := OWN
 refine RB.begin (S := fun W => Kept MM w2 W) 8 (by kernel_rfl) (by exact (Kept.refl _ _).drewN 1) ?_
 have hS4 : Kept MM w2 (w2.drewN 1) := (Kept.refl _ _).drewN 1
 have hd4 : Kept [] w2 (w2.drewN 1) := (Kept.refl _ _).drewN 1
 obtain ⟨w3, hww3⟩ : ∃ W, W = w2.drewN 1 := ⟨_, rfl⟩
 rw [← hww3] at hS4 hd4 ⊢
 clear f15 f16 hww3
 have szw3 := hS4.size
 replace HP := HP.kept0 hd4
 replace OWN := OWN.mod (T := []) (M := []) (Mod.of_kept0 (B := B) hd4) (by simp)
 refine RB.tk 0 f17 rfl hS4 (fun W hW => (E.move f17 rfl)) fun a18 f18 => ?_
 refine RB.tk 1 f18 rfl hS4 (fun W hW => (E.move f18 rfl)) fun a19 f19 => ?_
 refine RB.tk 2 f19 rfl hS4 (fun W hW => (E.nilCheck f19 rfl)) fun a20 f20 => ?_
 refine RB.tk 3 f20 rfl hS4 (fun W hW => (E.fa 2 f20 U76 rfl wsz74_rb)) fun a21 f21 => ?_
 refine RB.tk 4 f21 rfl hS4 (fun W hW => (E.load f21 U74 rfl rfl ((BP.kept hW (by assumption)).cl rfl))) fun a22 f22 => ?_
 refine RB.tk 5 f22 rfl hS4 (fun W hW => (E.loadB f22 U30 rfl wsz30_rb rfl (Bg0.kept hW (by assumption)) rfl)) fun a23 f23 => ?_
 refine RB.one 6 (by kernel_rfl) (by kernel_rfl) ?_
 refine O.buildSlice f23 rfl wantedN (by decide) (parts1 f23 rfl) U74 wzi30_rb rfl rfl (wbs74_1_rb _ _ _ _) (fun _ hk => hS4.trans hk (by simp)) fun a24 w4 g3 N3 hSn f24 => ?_
 clear f17 a14 f18 a18 f19 a19 f20 a20 f21 a21 f22 a22 f23 a23
 have Bg3 := N3.blk
 have kg3 := N3.kept
 have log3 := N3.lo
 have ltg3 := Bg3.lt
 have szw4 := kg3.size
 have szSw4 := hS4.size
 replace HP := HP.kept0 kg3
 replace OWN := OWN.mod (T := []) (M := []) (Mod.of_kept0 (B := B) kg3) (by simp)
 clear N3 kg3
 replace hS4 := hSn
 clear hSn
 refine RB.one 7 (by kernel_rfl) (by kernel_rfl) ?_
 refine O.append f24 rfl wantedN (by decide) U74 wzib30_rb rfl rfl rfl rfl (OWN) (sl_blk Bg3 rfl) (by simp [Value.oneCell']) (by unfold maxLen; omega) (by omega) fun a25 w5 A2 c2 AP5 => ?_
 have kap5 : Kept MM w4 w5 := by rw [hMM]; exact AP5.kept
 have KA : Mod [30] [] B w4 w5 := .of_app AP5 OWN hq.loA (by simp)
 have RX := AP5.own
 have WX := AP5.where_
 have LX := AP5.from hq.loA (B := B) (by omega)
 have hSn := hS4.trans kap5 (by exact fun x hx _ => hx)
 refine ⟨hSn, fun f25 => ?_⟩
 have szw5 := kap5.size
 replace HP := HP.mod KA (by decide)
 clear f24 kap5
 replace hS4 := hSn
 clear hSn
 refine RB.stop (by kernel_rfl) ?_
 have szw5r := hS4.size
 have KM := Mod.of_own (T := [30]) (M := []) (B := B) (hMM ▸ hS4) OWN1 hq.loA (by simp)
 replace HK := HK.step KM (by decide) (by simp) (by omega)
 replace KK := KK.trans hS4 (fun x hx _ => List.mem_cons_of_mem _ hx)
 replace BP := BP.kept hS4 (by assumption)
 replace PY := fun m hm => (PY m hm).mod KM (by decide)
 replace Bg0 := Bg0.kept hS4 (by assumption)
 clear hS4
 refine R.t 8 f25 rfl trivial (fun W hW => (E.nilCheck f25 rfl)) fun a26 f26 => ?_
 refine R.t 9 f26 rfl trivial (fun W hW => (E.fa 2 f26 U76 rfl wsz74_rb)) fun a27 f27 => ?_
 refine R.one 10 (by kernel_rfl) ?_
 refine OT.store f27 rfl wantedN wsz74_rb rfl rfl rfl BP (by (simp [Value.cells]; done)) fun a28 w6 f28 NB6 ks6 => ?_
 have szw6 := ks6.size
 have KM := (Mod.of_blk (T := [76]) (M := []) (B := B) ks6 BP hq.lo (by simp))
 replace HK := HK.step KM (by decide) (by simp) (by omega)
 replace KK := KK.trans ks6 (by simp)
 replace PY := fun m hm => (PY m hm).mod KM (by decide)
 replace Bg0 := Bg0.kept ks6 (by simp; omega)
 replace HP := HP.mod KM (by decide)
 replace RX := RX.mod KM (by decide)
 replace BP := NB6
 simp only [Value.cells, List.setIfInBounds_toArray, List.set_cons_zero, List.set_cons_succ, Nat.reduceAdd, Nat.zero_add] at BP
 clear f25 a25 f26 a26 ks6 f27 a27
 refine R.done (by kernel_rfl) (hK5 _ _ ?_)
 have f29 := f28.pk [4]
 refine C.sk fun K6 hK6 => ?_
 refine L.ag f29 fun a30 f30 => ?_
 have f31 := f30.pk [4]
 refine wn hK6 (wp_ret ?_); (try simp only [xt, xb]); refine C.ret f31 rfl rfl ?_
 exact push_roomR hroom hq HK (hMM ▸ KK) BP RX PY HP LX WX
theorem popR_any (B q : Nat) (A : Option Addr) (c : Nat) (l : List Mc) (lost : Int) (w : World) (hq : QuR B w q A c l lost) (hB : B ≤ w.heap.size) : Calls Tryz.prog 80 #[.pointer (some ⟨q, 0, none⟩)] w (PopPostR B q A l lost w) := by
 have HK : Mod [76] [] B w w := .refl _ _ _ _
 have BP := hq.top
 have OWN := hq.own
 have PY := hq.pay
 have hloq := hq.lo
 have hlen := hq.len
 refine C.enter Tryz.func80 rfl Tryz.ntmps80 rfl ?_
 intro a0 f0
 have f1 : Fr 28 a0 [(0, .pointer (some ⟨q, 0, none⟩))] := f0
 refine C.sk fun K0 hK0 => ?_
 refine L.alloc f1 wantedN (by decide) (z := (.agg #[(.string ⟨#[]⟩), (.slice none 0 0), (.int .i64 0), (.bool false)])) (fun _ => by kernel_rfl) rfl fun a2 w1 g0 N0 f2 => ?_
 have Bg0 := N0.blk
 have kg0 := N0.kept
 have log0 := N0.lo
 have ltg0 := Bg0.lt
 have szw1 := kg0.size
 have frg0 : w.heap.size ≤ g0 := Nat.le_trans HK.size log0
 have neq_g0 : q ≠ g0 := by have := BP.lt; omega
 replace HK := HK.trans (.of_kept0 kg0)
 replace BP := BP.z kg0
 replace OWN := OWN.mod (Mod.of_kept0 (T := []) (M := []) (B := B) kg0) (by decide)
 replace PY := fun m hm => (PY m hm).mod (Mod.of_kept0 (T := []) (M := []) (B := B) kg0) (by decide)
 clear f0 N0 kg0
 refine L.ag f2 fun a3 f3 => ?_
 refine wn hK0 ?_
 have f4 := f3.pk [0, 2, 3]
 refine wp_seq_k fun K1 hK1 => C.sk fun K2 hK2 => ?_
 refine L.mv f4 fun a5 f5 => ?_
 refine L.va f5 (E.nilCheck f5 rfl) fun a6 f6 => ?_
 refine L.fa 2 f6 U76 rfl wsz74_rb fun a7 f7 => ?_
 refine L.va f7 (E.load f7 U74 rfl rfl ((BP).cl rfl)) fun a8 f8 => ?_
 refine L.va f8 (E.lenL f8 U74 rfl) fun a9 f9 => ?_
 clear f1 a0 f2 a2 f3 f4 a3 f5 a5 f6 a6 f7 a7 f8 a8
 refine L.va f9 (E.eql f9 rfl rfl) fun a10 f10 => ?_
 refine wn hK2 ?_
 have f11 := f10.pk [0, 2, 3, 10]
 clear f9 a9 f10
 refine f11.splitD 10 rfl (fun h0 f12 => ?_) (fun h0 f12 => ?_)
 ·have hn0 := h0
  refine C.condT f12 rfl ?_
  refine C.sk fun K3 hK3 => ?_
  refine L.va f12 (E.build f12 (parts0 f12) (wbl30__rb)) fun a13 f13 => ?_
  refine L.storeR f13 wantedN wsz30_rb rfl rfl rfl Bg0 rfl rfl fun a14 w2 f14 NB2 ks2 => ?_
  have szw2 := ks2.size
  replace HK := HK.kept_new ks2 (by simp; omega)
  replace BP := BP.kept ks2 (by simp; omega)
  replace OWN := OWN.kept ks2 (fun b hb hx => by have := (hq.own.blk b hb).1; simp at hx; omega)
  replace PY := fun m hm => (PY m hm).mod (Mod.of_blk (T := [30]) (M := []) (B := B) ks2 Bg0 (by omega) (by simp)) (by decide)
  replace Bg0 := NB2
  clear f11 f12 a10 ks2 f13 a13
  refine L.ag f14 fun a15 f15 => ?_
  have f16 := f15.pk [0, 2, 3]
  refine wn hK3 (wp_ret ?_); (try simp only [xt, xb]); refine C.retCT f16 rfl rfl rfl Bg0 U30 rfl wsz30_rb ?_
  exact pop_noneR hn0 hq HK ⟨BP, OWN, PY, hq.lo, hq.loA, hq.len⟩
 clear f11
 obtain ⟨x, r, rfl⟩ : ∃ x r, l = x :: r := by
   cases l with
   | nil => simp at h0
   | cons x r => exact ⟨x, r, rfl⟩
 obtain ⟨b, off, hA⟩ := (Sl.of_own OWN).addr (by simp)
 refine C.condF f12 rfl ?_
 refine wp_skip (hK1 _ _ ?_)
 have f13 := f12.pk [0, 2, 3]
 refine C.sk fun K4 hK4 => ?_
 refine L.mv f13 fun a14 f14 => ?_
 refine L.va f14 (E.nilCheck f14 rfl) fun a15 f15 => ?_
 refine L.fa 2 f15 U76 rfl wsz74_rb fun a16 f16 => ?_
 refine L.va f16 (E.load f16 U74 rfl rfl ((BP).cl rfl)) fun a17 f17 => ?_
 refine L.va f17 (E.indexA f17 (by assumption) U74 wsz30_rb rfl rfl (by omega) (by omega)) fun a18 f18 => ?_
 clear f12 f13 a10 f14 a14 f15 a15 f16 a16 f17 a17
 refine L.va f18 (by (exact E.loadR f18 U30 rfl wsz30_rb rfl ((Sl.row (i := 0) (cs := mcell x) (Sl.of_own OWN) (by simp) hA (by intro j u hu; rw [Nat.zero_mul, Nat.zero_add, List.flatMap_cons, List.getElem?_append_left (List.getElem?_eq_some_iff.1 hu).1]; exact hu))) rfl)) fun a19 f19 => ?_
 refine L.alloc f19 wantedN (by decide) (z := (.agg #[(.string ⟨#[]⟩), (.slice none 0 0), (.int .i64 0), (.bool false)])) (fun _ => by kernel_rfl) rfl fun a20 w2 g1 N1 f20 => ?_
 have Bg1 := N1.blk
 have kg1 := N1.kept
 have log1 := N1.lo
 have ltg1 := Bg1.lt
 have szw2 := kg1.size
 have frg1 : w.heap.size ≤ g1 := Nat.le_trans HK.size log1
 have neq_g1 : q ≠ g1 := by have := BP.lt; omega
 have neg0_g1 : g0 ≠ g1 := by have := Bg0.lt; omega
 replace HK := HK.trans (.of_kept0 kg1)
 replace BP := BP.z kg1
 replace OWN := OWN.mod (Mod.of_kept0 (T := []) (M := []) (B := B) kg1) (by decide)
 replace PY := fun m hm => (PY m hm).mod (Mod.of_kept0 (T := []) (M := []) (B := B) kg1) (by decide)
 replace Bg0 := Bg0.z kg1
 clear f18 a18 N1 kg1
 refine L.storeR f20 wantedN wsz30_rb rfl rfl rfl Bg1 rfl rfl fun a21 w3 f21 NB3 ks3 => ?_
 have szw3 := ks3.size
 replace HK := HK.kept_new ks3 (by simp; omega)
 replace BP := BP.kept ks3 (by simp; omega)
 replace OWN := OWN.kept ks3 (fun b hb hx => by have := (hq.own.blk b hb).1; simp at hx; omega)
 replace PY := fun m hm => (PY m hm).mod (Mod.of_blk (T := [30]) (M := []) (B := B) ks3 Bg1 (by omega) (by simp)) (by decide)
 replace Bg0 := Bg0.kept ks3 (by simp; omega)
 replace Bg1 := NB3
 clear f19 a19 ks3 f20 a20
 have f22 := f21.pk [0, 2, 3, 4]
 refine wn hK4 (C.sk fun K5 hK5 => ?_)
 refine L.mv f22 fun a23 f23 => ?_
 refine L.mv f23 fun a24 f24 => ?_
 refine L.va f24 (E.nilCheck f24 rfl) fun a25 f25 => ?_
 refine L.fa 2 f25 U76 rfl wsz74_rb fun a26 f26 => ?_
 refine L.va f26 (E.load f26 U74 rfl rfl ((BP).cl rfl)) fun a27 f27 => ?_
 refine L.va f27 (E.slLlo f27 U74 wsz30_rb rfl rfl (by omega) (by omega) ) fun a28 f28 => ?_
 refine L.append f28 wantedN (by decide) U74 wzib30_rb rfl rfl rfl rfl ((Own.nil _ 30 4)) ((sl_tail OWN)) (mcell_one r) (by unfold maxLen; simp only [List.length_cons] at hlen ⊢; omega) (by simp only [List.length_cons] at hlen ⊢; omega) fun a29 w4 A2 c2 AP4 f29 => ?_
 clear f21 f22 a21 f23 a23 f24 a24 f25 a25 f26 a26 f27 a27 f28 a28
 have kap4 : Mod [] [] B w3 w4 := .of_kept0 (by simpa [Value.ownBlock] using AP4.kept)
 have RX := AP4.own
 rw [List.nil_append, Nat.zero_add] at RX
 have LX0 : ∀ b, A2.map (·.block) = some b → w3.heap.size ≤ b := fun b hb => (AP4.where_ b hb).elim (fun h => by cases h) id
 have LX : ∀ b, A2.map (·.block) = some b → w.heap.size ≤ b := fun b hb => by have := LX0 b hb; omega
 have szw4 := kap4.size
 replace HK := HK.step kap4 (by decide) (by simp) (by omega)
 replace BP := BP.mod kap4 (by decide)
 replace OWN := OWN.mod kap4 (by decide)
 replace PY := fun m hm => (PY m hm).mod kap4 (by decide)
 replace Bg0 := Bg0.mod kap4 (by decide)
 replace Bg1 := Bg1.mod kap4 (by decide)
 clear kap4
 refine L.va f29 (E.nilCheck f29 rfl) fun a30 f30 => ?_
 refine L.fa 2 f30 U76 rfl wsz74_rb fun a31 f31 => ?_
 refine L.store f31 wantedN wsz74_rb rfl rfl rfl BP (by (simp [Value.cells]; done)) fun a32 w5 f32 NB5 ks5 => ?_
 have szw5 := ks5.size
 have KM := (Mod.of_blk (T := [76]) (M := []) (B := B) ks5 BP hq.lo (by simp))
 replace HK := HK.step KM (by decide) (by simp) (by omega)
 replace OWN := OWN.mod KM (by decide)
 replace PY := fun m hm => (PY m hm).mod KM (by decide)
 replace Bg0 := Bg0.kept ks5 (by simp; omega)
 replace Bg1 := Bg1.kept ks5 (by simp; omega)
 replace RX := RX.mod KM (by decide)
 replace BP := NB5
 simp only [Value.cells, List.setIfInBounds_toArray, List.set_cons_zero, List.set_cons_succ, Nat.reduceAdd, Nat.zero_add] at BP
 clear f29 a29 f30 a30 ks5 f31 a31
 have f33 := f32.pk [2, 3, 4]
 refine wn hK5 (C.sk fun K6 hK6 => ?_)
 refine L.va f33 (E.loadB f33 U30 rfl wsz30_rb rfl (Bg1) rfl) fun a34 f34 => ?_
 refine L.storeR f34 wantedN wsz30_rb rfl rfl rfl Bg0 rfl rfl fun a35 w6 f35 NB6 ks6 => ?_
 have szw6 := ks6.size
 replace HK := HK.kept_new ks6 (by simp; omega)
 replace OWN := OWN.kept ks6 (fun b hb hx => by have := (hq.own.blk b hb).1; simp at hx; omega)
 replace PY := fun m hm => (PY m hm).mod (Mod.of_blk (T := [30]) (M := []) (B := B) ks6 Bg0 (by omega) (by simp)) (by decide)
 replace Bg1 := Bg1.kept ks6 (by simp; omega)
 replace RX := RX.kept ks6 (fun b hb hx => by have := LX0 b ((own_block _ _ _ _).1 hb); simp at hx; omega)
 replace BP := BP.kept ks6 (by simp; omega)
 replace Bg0 := NB6
 clear f32 f33 a32 ks6 f34 a34
 refine L.ag f35 fun a36 f36 => ?_
 have f37 := f36.pk [2, 3]
 refine wn hK6 (wp_ret ?_); (try simp only [xt, xb]); refine C.retCT f37 rfl rfl rfl Bg0 U30 rfl wsz30_rb ?_
 exact pop_oneR hq HK BP RX PY LX
end Go.Proofs.YtdfllmiokgoekaaGreatDoor
namespace Go.Proofs.YtdfllmiokgoekaaGreatDoor
open Go.RowKit Go.Hub
theorem wsz3_h : (Tryz.prog.info? 3).map (·.size) = some 1 := by kernel_rfl
theorem wsz82_h : (Tryz.prog.info? 82).map (·.size) = some 7 := by kernel_rfl
theorem wzib82_h : (Tryz.prog.info? 82).map (fun i => (i.zero, i.size, i.bytes)) = some (some (.agg #[(.string ⟨#[]⟩), (.slice none 0 0), (.int .i64 0), (.bool false), (.int .i64 0), (.int .i64 0), (.bool false)]), 7, 80) := by kernel_rfl
theorem wzi82_h : (Tryz.prog.info? 82).map (fun i => (i.zero, i.size)) = some (some (.agg #[(.string ⟨#[]⟩), (.slice none 0 0), (.int .i64 0), (.bool false), (.int .i64 0), (.int .i64 0), (.bool false)]), 7) := by kernel_rfl
theorem wbs55_1_h (x0_0 x0_1 x0_2 x0_3 x0_4 x0_5 x0_6 : Value) : Instr.fill (fun i => some (i * 7, 7)) ((Array.range (1 * 7)).map fun j => (Value.cells (.agg #[(.string ⟨#[]⟩), (.slice none 0 0), (.int .i64 0), (.bool false), (.int .i64 0), (.int .i64 0), (.bool false)]))[j % (Value.cells (.agg #[(.string ⟨#[]⟩), (.slice none 0 0), (.int .i64 0), (.bool false), (.int .i64 0), (.int .i64 0), (.bool false)])).size]!) [(0, .agg #[x0_0, x0_1, x0_2, x0_3, x0_4, x0_5, x0_6])] = some #[x0_0, x0_1, x0_2, x0_3, x0_4, x0_5, x0_6] := by kernel_rfl
theorem wsz28_h : (Tryz.prog.info? 28).map (·.size) = some 1 := by kernel_rfl
theorem wsz30_h : (Tryz.prog.info? 30).map (·.size) = some 4 := by kernel_rfl
theorem wsz35_h : (Tryz.prog.info? 35).map (·.size) = some 24 := by kernel_rfl
theorem wsz50_h : (Tryz.prog.info? 50).map (·.size) = some 1 := by kernel_rfl
theorem wsz55_h : (Tryz.prog.info? 55).map (·.size) = some 1 := by kernel_rfl
theorem wbl82_0_1_2_h (x0_0 x0_1 x0_2 x0_3 : Value) (x1 : Int) (x2 : Int) : Tryz.prog.built 82 [(0, .agg #[x0_0, x0_1, x0_2, x0_3]), (1, .int .i64 x1), (2, .int .i64 x2)] = some #[x0_0, x0_1, x0_2, x0_3, .int .i64 x1, .int .i64 x2, (.bool false)] := by kernel_rfl
theorem idx_next {l : List Fc} {id : Int} {k : Nat} {f : Fc} (hf : l[k]? = some f) (h : ¬ f.id = id) : idxI ((l.drop k).map (·.id)) id k = idxI ((l.drop (k + 1)).map (·.id)) id ((k + 1 : Nat) : Int) := by
  obtain ⟨h1, h2⟩ := List.getElem?_eq_some_iff.1 hf
  rw [List.drop_eq_getElem_cons h1, h2]
  simp [idxI, h]
theorem idx_hit {l : List Fc} {id : Int} {k : Nat} {f : Fc} (hf : l[k]? = some f) (h : f.id = id) : idxI ((l.drop k).map (·.id)) id k = k := by
  obtain ⟨h1, h2⟩ := List.getElem?_eq_some_iff.1 hf
  rw [List.drop_eq_getElem_cons h1, h2]
  simp [idxI, h]
theorem SesAt.used_lt {B p : Nat} {w : World} {s : Ses} (h : SesAt B w p s) : s.used.length < 65535 := by
  have h1 := h.perm.length_eq
  have h2 := h.fly.len
  rw [List.length_map] at h1
  omega
theorem take_ok (B ip im : Nat) (S : List Int) (taken : Int) (w : World) (A : IdsAt w ip im S 65535 taken) (hS : S.length < 65535) (ht : 0 ≤ taken) (h1 : B ≤ ip) (h2 : B ≤ im) :
    Calls Tryz.prog 65 #[.pointer (some ⟨ip, 0, none⟩)] w fun e w' => e = .returned (.tuple #[.int .i64 (Go.Ids.nxt S taken), .bool true]) ∧ Mod [88] [im] B w w' ∧ IdsAt w' ip im (insS (Go.Ids.nxt S taken) S) 65535 (Go.Ids.nxt S taken) ∧ Go.Ids.nxt S taken ∉ S ∧ 1 ≤ Go.Ids.nxt S taken ∧ Go.Ids.nxt S taken ≤ 65535 := by
  refine (take_any ip im S 65535 taken w A ht (by omega)).mono ?_
  rintro e w' ⟨hk, h⟩
  rw [if_neg (by omega)] at h
  refine ⟨h.1, .of_kept hk ?_, h.2, Go.Ids.nxt_spec S taken ht hS⟩
  intro x hx _
  simp only [List.mem_cons, List.not_mem_nil, or_false] at hx
  rcases hx with rfl | rfl
  · exact ⟨h1, .inl (A.top.typ (by simp))⟩
  exact ⟨h2, .inr ⟨A.set.map, by simp⟩⟩
def RisePost (B p : Nat) (s : Ses) (m : Ms) (now : Int) (w : World) (e : Ending) (w' : World) : Prop :=
  ∃ s' A c, e = .returned (.agg (pcell ⟨riseP s.abs m, A, c⟩).toArray) ∧ SesAt B w' p s' ∧ s'.abs = riseS s.abs m now ∧ Ses.Like w s s' ∧ Mod [57, 88, 82] [s.im] B w w' ∧ Pay B w' A m.pay
theorem near_bd (x : Int) : -1099511627776 ≤ nearI x ∧ nearI x ≤ 1099511627776 := by unfold nearI; omega
theorem rise_fin {B p : Nat} {s : Ses} {m : Ms} {now : Int} {w W : World} {A2 Ac Ap : Option Addr} {c2 cc cp : Nat} (hS : SesAt B w p s) (htn : 1 ≤ Go.Ids.nxt s.used s.taken ∧ Go.Ids.nxt s.used s.taken ≤ 65535) (hti : Go.Ids.nxt s.used s.taken ∉ s.used) (h4 : s.fly.length < 4) (HK : Mod [57, 88, 82] [s.im] B w W)
    (BP : Blk W p 57 #[.string s.cl, s.sv, .pointer (some ⟨s.ip, 0, none⟩), .slice A2 (s.fly.length + 1) c2, .pointer (some ⟨s.q, 0, none⟩), .map (some s.gm)]) (IDN : IdsAt W s.ip s.im (insS (Go.Ids.nxt s.used s.taken) s.used) 65535 (Go.Ids.nxt s.used s.taken))
    (RX : Own W 82 7 (.slice A2 (s.fly.length + 1) c2) (s.fly.length + 1) (s.fly.flatMap fcell ++ [.string m.tp, .slice Ac m.pay.length cc, .int .i64 m.qos, .bool m.ret, .int .i64 (Go.Ids.nxt s.used s.taken), .int .i64 (nearI now), .bool false])) (HC : Pay B W Ac m.pay) (LX : ∀ a, A2 = some a → B ≤ a.block) (HR : Pay B W Ap m.pay) :
    RisePost B p s m now w (.returned (.agg (pubCells m.tp Ap m.pay.length cp m.qos m.ret (Go.Ids.nxt s.used s.taken) false))) W := by
  have hlen : (s.fly ++ [(⟨⟨m, Ac, cc⟩, Go.Ids.nxt s.used s.taken, nearI now, false⟩ : Fc)]).length = s.fly.length + 1 := by simp
  refine ⟨{ s with used := insS (Go.Ids.nxt s.used s.taken) s.used, taken := Go.Ids.nxt s.used s.taken, fly := s.fly ++ [⟨⟨m, Ac, cc⟩, Go.Ids.nxt s.used s.taken, nearI now, false⟩], FA := A2, fc := c2 }, Ap, cp, rfl, ?_, ?_, ⟨rfl, rfl, rfl, rfl, fun b hb => .inl hb⟩, HK, HR⟩
  · refine ⟨by simpa [Ses.cells] using BP, hS.one, IDN, hS.qu.mod HK (by decide), ⟨?_, ?_, LX, by show (s.fly ++ [_]).length ≤ 4; rw [hlen]; omega⟩, hS.got.mod HK (by simpa using Ne.symm hS.ne), hS.ne, hS.lop, hS.loi, hS.lom, hS.log, ⟨by show 0 ≤ Go.Ids.nxt s.used s.taken; omega, htn.2⟩, ?_, ?_, ?_⟩
    · simp only [hlen, List.flatMap_append]
      exact RX
    · intro f hf
      rcases List.mem_append.1 hf with hf | hf
      · exact (hS.fly.pay f hf).mod HK (by decide)
      obtain rfl := List.mem_singleton.1 hf
      exact HC
    · show (insS (Go.Ids.nxt s.used s.taken) s.used).Perm _
      rw [insS, if_neg hti, List.map_append]
      exact (List.Perm.cons _ hS.perm).trans (List.perm_append_singleton _ _).symm
    · intro f hf
      rcases List.mem_append.1 hf with hf | hf
      · exact hS.ats f hf
      obtain rfl := List.mem_singleton.1 hf
      exact near_bd now
    intro f hf
    rcases List.mem_append.1 hf with hf | hf
    · exact hS.idb f hf
    obtain rfl := List.mem_singleton.1 hf
    exact htn
  simp [Ses.abs, riseS, Fc.abs]
theorem clos_any (f : Fc) (g : Nat) (pcs : Array Value) (id : Int) (w : World) (BQ : Blk w g 35 pcs) (h4 : pcs.toList[4]? = some (.int .i64 id)) : Calls Tryz.prog 43 #[.agg (fcell f).toArray, .pointer (some ⟨g, 0, none⟩)] w (fun e w' => e = .returned (.bool (decide (f.id = id))) ∧ Kept [] w w') := by
 have HK : Kept [] w w := Kept.refl [] w
 refine C.enter Tryz.func43 rfl Tryz.ntmps43 rfl ?_
 intro a0 f0
 have f1 : Fr 9 a0 [(0, .agg (fcell f).toArray), (1, .pointer (some ⟨g, 0, none⟩))] := f0
 refine C.sk fun K0 hK0 => ?_
 refine L.box f1 wantedN (by decide) rfl rfl fun a2 w1 g0 N0 f2 => ?_
 have Bg0 := N0.blk
 have kg0 := N0.kept
 have log0 := N0.lo
 have ltg0 := Bg0.lt
 have szw1 := kg0.size
 have frg0 : w.heap.size ≤ g0 := Nat.le_trans HK.size log0
 have neg_g0 : g ≠ g0 := by have := BQ.lt; omega
 replace HK := HK.z kg0
 replace BQ := BQ.z kg0
 clear f0 N0 kg0
 refine L.ag f2 fun a3 f3 => ?_
 have f4 := f3.pk [1, 2, 3]
 refine wn hK0 (C.sk fun K1 hK1 => ?_)
 refine L.fa 4 f4 U82 rfl wsz3_h fun a5 f5 => ?_
 refine L.va f5 (E.load f5 U3 rfl rfl ((Bg0).cl rfl)) fun a6 f6 => ?_
 refine L.fa 4 f6 U35 rfl wsz3_h fun a7 f7 => ?_
 refine L.va f7 (E.load f7 U3 rfl rfl (BQ.cl h4)) fun a8 f8 => ?_
 refine L.va f8 (E.eql f8 rfl rfl) fun a9 f9 => ?_
 clear f1 a0 f2 a2 f3 f4 a3 f5 a5 f6 a6 f7 a7 f8 a8
 refine L.ag f9 fun a10 f10 => ?_
 have f11 := f10.pk [3]
 refine wn hK1 (wp_ret ?_); (try simp only [xt, xb]); refine C.ret f11 rfl rfl ?_
 exact ⟨rfl, HK⟩
theorem idxS_any (A : Option Addr) (c : Nat) (l : List Fc) (g : Nat) (pcs : Array Value) (id : Int) (w : World) (OWN : Own w 82 7 (.slice A l.length c) l.length (l.flatMap fcell)) (BQ : Blk w g 35 pcs) (h4 : pcs.toList[4]? = some (.int .i64 id)) (hlen : l.length ≤ 4) : Calls Tryz.prog 42 #[.slice A l.length c, .func (.func 43) #[] #[.pointer (some ⟨g, 0, none⟩)]] w (fun e w' => e = .returned (.int .i64 (idxI (l.map (·.id)) id 0)) ∧ Kept [] w w') := by
 have HK : Kept [] w w := Kept.refl [] w
 have SLF := Sl.of_own OWN
 refine C.enter Tryz.func42 rfl Tryz.ntmps42 rfl ?_
 intro a0 f0
 have f1 : Fr 19 a0 [(0, .slice A l.length c), (1, .func (.func 43) #[] #[.pointer (some ⟨g, 0, none⟩)])] := f0
 refine C.sk fun K0 hK0 => ?_
 refine L.ag f1 fun a2 f2 => ?_
 refine wn hK0 ?_
 have f3 := f2.pk [0, 1, 4]
 refine wp_seq_k fun K1 hK1 => C.sk fun K2 hK2 => ?_
 refine L.mv f3 fun a4 f4 => ?_
 refine L.va f4 (E.lenL f4 Tryz.underlying55 rfl) fun a5 f5 => ?_
 refine L.mv f5 fun a6 f6 => ?_
 refine wn hK2 ?_
 have f7 := f6.pk [0, 1, 4, 7, 8]
 refine wp_block ?_
 clear f0 f1 a0 f2 f3 a2 f4 a4 f5 a5 f6
 refine C.loop (fun gk a W => ∃ k : Nat, k + gk = l.length ∧ idxI (l.map (·.id)) id 0 = idxI ((l.drop k).map (·.id)) id k ∧ Kept [] w W ∧ Fr 19 a [(0, .slice A l.length c), (1, .func (.func 43) #[] #[.pointer (some ⟨g, 0, none⟩)]), (7, .int .i64 l.length), (8, .int .i64 k)]) (l.length) ?_ ?_
 ·exact ⟨0, by omega, rfl, HK, f7.sub (sx (sx (sx (sx sn))))⟩
 intro gk4 a8 w1 hI KL3 hKL3
 obtain ⟨k, hk, hq, HK, f8⟩ := hI
 try clear f7
 refine C.sk fun K4 hK4 => ?_
 refine L.va f8 (E.lss f8 rfl rfl) fun a9 f9 => ?_
 refine wn hK4 ?_
 have f10 := f9.pk [0, 1, 7, 8, 9]
 refine wp_seq_k fun K5 hK5 => ?_
 clear f8 a8 f9
 refine f10.splitD 9 rfl (fun h0 f11 => ?_) (fun h0 f11 => ?_)
 ·obtain ⟨b, off, hA⟩ := SLF.addr (by omega)
  obtain ⟨f, hf⟩ : ∃ f, l[k]? = some f := ⟨l[k]'(by omega), List.getElem?_eq_getElem _⟩
  refine C.condT f11 rfl ?_
  refine wp_skip (hK5 _ _ ?_)
  have f12 := f11.pk [0, 1, 7, 8, 9]
  refine wp_seq_k fun K6 hK6 => ?_
  refine wp_block ?_
  refine C.sk fun K7 hK7 => ?_
  refine L.mv f12 fun a13 f13 => ?_
  refine L.ag f13 fun a14 f14 => ?_
  have f15 := f14.pk [0, 1, 5, 7, 8, 9, 10]
  refine wn hK7 (C.sk fun K8 hK8 => ?_)
  refine L.mv f15 fun a16 f16 => ?_
  refine L.mv f16 fun a17 f17 => ?_
  refine L.mv f17 fun a18 f18 => ?_
  refine L.va f18 (E.indexA f18 (by assumption) Tryz.underlying55 wsz82_h rfl rfl (by omega) (by omega)) fun a19 f19 => ?_
  clear f10 f11 f12 a9 f13 a13 f14 f15 a14 f16 a16 f17 a17 f18 a18
  refine L.va f19 (E.loadR f19 U82 rfl wsz82_h rfl (Sl.row (i := k) (cs := fcell f) (SLF.kept HK) (by omega) hA (flat_at fcell 7 (fun _ => rfl) l k f hf)) rfl) fun a20 f20 => ?_
  refine L.cl f20 (cv1_1 f20 rfl Tryz.call43 rfl) (clos_any f g pcs id _ (BQ.z HK) h4) ?_
  clear f19 a19
  rintro e w2 ⟨rfl, kc2⟩
  refine ⟨_, rfl, fun a21 f21 => ?_⟩
  have szw2 := kc2.size
  replace HK := HK.z kc2
  clear f20 a20 kc2
  refine wn hK8 ?_
  have f22 := f21.pk [0, 1, 5, 7, 8, 9, 10, 11, 12, 13, 14, 15, 16]
  clear f21
  refine f22.splitD 16 rfl (fun h1 f23 => ?_) (fun h1 f23 => ?_)
  ·have hyes := h1
   refine C.condT f23 rfl ?_
   refine C.sk fun K9 hK9 => ?_
   refine L.mv f23 fun a24 f24 => ?_
   refine L.ag f24 fun a25 f25 => ?_
   have f26 := f25.pk [0, 1, 4, 5, 7, 8, 9, 10, 11, 12, 13, 14, 15, 16, 17]
   refine wn hK9 (wp_ret ?_); (try simp only [xt, xb]); refine C.ret f26 rfl rfl ?_
   exact ⟨by rw [hq, idx_hit hf hyes], HK⟩
  have hno := h1
  refine C.condF f23 rfl ?_
  refine wp_skip (hK6 _ _ ?_)
  have f24 := f23.pk [0, 1, 5, 7, 8, 9, 10, 11, 12, 13, 14, 15, 16]
  refine C.region ?_
  refine L.va f24 (E.add f24 rfl rfl (IntWalk.i64_in _ (by omega))) fun a25 f25 => ?_
  refine L.mv f25 fun a26 f26 => ?_
  clear f22 f23 f24 a21 f25 a25
  refine wpList_nil (hKL3 _ _ (gk4 - 1) ?_ ?_)
  ·omega
  exact ⟨k + 1, by omega, by rw [hq]; exact idx_next hf hno, HK, f26.sub (sx (sx (sx (sx sn))))⟩
 have hend := h0
 refine C.condF f11 rfl ?_
 refine wp_exit (hK1 _ _ ?_)
 have f12 := f11.sub sn
 refine C.sk fun K10 hK10 => ?_
 refine L.ag f12 fun a13 f13 => ?_
 have f14 := f13.pk [4]
 refine wn hK10 (wp_ret ?_); (try simp only [xt, xb]); refine C.ret f14 rfl rfl ?_
 exact ⟨by rw [hq, List.drop_eq_nil_of_le (by omega)]; rfl, HK⟩
theorem rise_any (B p : Nat) (s : Ses) (m : Ms) (Am : Option Addr) (cm : Nat) (now : Int) (w : World) (hS : SesAt B w p s) (HP : Pay B w Am m.pay) (hB : B ≤ w.heap.size) (h4 : s.fly.length < 4) : Calls Tryz.prog 40 #[.pointer (some ⟨p, 0, none⟩), .agg #[.string m.tp, .slice Am m.pay.length cm, .int .i64 m.qos, .bool m.ret], .int .i64 now] w (RisePost B p s m now w) := by
 have HK : Mod [57, 88, 82] [s.im] B w w := .refl _ _ _ _
 have BP := hS.top
 have OWN := hS.fly.own
 have hlop := hS.lop
 have hul := hS.used_lt
 obtain ⟨MM, hMM⟩ : ∃ MM, MM = (Value.slice s.FA s.fly.length s.fc).ownBlock.toList := ⟨_, rfl⟩
 have hpM : p ∉ MM := by rw [hMM]; exact own_ne hS.fly.own hS.top (by decide)
 have htk := hS.tk
 have ID := hS.ids
 refine C.enter Tryz.func40 rfl Tryz.ntmps40 rfl ?_
 intro a0 f0
 have f1 : Fr 38 a0 [(0, .pointer (some ⟨p, 0, none⟩)), (1, .agg #[.string m.tp, .slice Am m.pay.length cm, .int .i64 m.qos, .bool m.ret]), (2, .int .i64 now)] := f0
 refine C.sk fun K0 hK0 => ?_
 refine L.box f1 wantedN (by decide) rfl rfl fun a2 w1 g0 N0 f2 => ?_
 have Bg0 := N0.blk
 have kg0 := N0.kept
 have log0 := N0.lo
 have ltg0 := Bg0.lt
 have szw1 := kg0.size
 have frg0 : w.heap.size ≤ g0 := Nat.le_trans HK.size log0
 have nep_g0 : p ≠ g0 := by have := BP.lt; omega
 replace HK := HK.trans (.of_kept0 kg0)
 replace BP := BP.z kg0
 replace OWN := OWN.mod (Mod.of_kept0 (T := []) (M := []) (B := B) kg0) (by decide)
 replace HP := HP.mod (Mod.of_kept0 (T := []) (M := []) (B := B) kg0) (by decide)
 replace ID := ID.mod (Mod.of_kept0 (T := []) (M := []) (B := B) kg0) (by decide) (by simp)
 clear f0 N0 kg0
 refine L.alloc f2 wantedN (by decide) (z := (.agg #[(.int .i64 0), (.bool false), (.bool false), (.int .i64 0), (.int .i64 0), (.string ⟨#[]⟩), (.slice none 0 0), (.int .i64 0), (.string ⟨#[]⟩), (.bool false), (.int .i64 0), (.bool false), (.string ⟨#[]⟩), (.slice none 0 0), (.int .i64 0), (.bool false), (.bool false), (.bool false), (.string ⟨#[]⟩), (.slice none 0 0), (.bool false), (.int .i64 0), (.slice none 0 0), (.slice none 0 0)])) (fun _ => by kernel_rfl) rfl fun a3 w2 g1 N1 f3 => ?_
 have Bg1 := N1.blk
 have kg1 := N1.kept
 have log1 := N1.lo
 have ltg1 := Bg1.lt
 have szw2 := kg1.size
 have frg1 : w.heap.size ≤ g1 := Nat.le_trans HK.size log1
 have nep_g1 : p ≠ g1 := by have := BP.lt; omega
 have neg0_g1 : g0 ≠ g1 := by have := Bg0.lt; omega
 replace HK := HK.trans (.of_kept0 kg1)
 replace BP := BP.z kg1
 replace OWN := OWN.mod (Mod.of_kept0 (T := []) (M := []) (B := B) kg1) (by decide)
 replace HP := HP.mod (Mod.of_kept0 (T := []) (M := []) (B := B) kg1) (by decide)
 replace ID := ID.mod (Mod.of_kept0 (T := []) (M := []) (B := B) kg1) (by decide) (by simp)
 replace Bg0 := Bg0.z kg1
 clear f1 a0 N1 kg1
 have f4 := f3.pk [0, 2, 4, 6]
 refine wn hK0 (C.sk fun K1 hK1 => ?_)
 refine L.mv f4 fun a5 f5 => ?_
 refine L.va f5 (E.nilCheck f5 rfl) fun a6 f6 => ?_
 refine L.fa 2 f6 U57 rfl wsz50_h fun a7 f7 => ?_
 refine L.va f7 (E.load f7 Tryz.underlying50 rfl rfl ((BP).cl rfl)) fun a8 f8 => ?_
 refine L.cl f8 (run_call Tryz.call65 (args1 f8 rfl)) (take_ok B s.ip s.im s.used s.taken _ ID hul htk.1 hS.loi hS.lom) ?_
 clear f2 a2 f3 f4 a3 f5 a5 f6 a6 f7 a7
 rintro e w3 ⟨rfl, kc3, IDN, hti, htn⟩
 refine ⟨_, rfl, fun a9 f9 => ?_⟩
 have szw3 := kc3.size
 replace HK := HK.step kc3 (by decide) (by simp) (by omega)
 replace BP := BP.mod kc3 (by decide)
 replace OWN := OWN.mod kc3 (by decide)
 replace HP := HP.mod kc3 (by decide)
 replace Bg0 := Bg0.mod kc3 (by decide)
 replace Bg1 := Bg1.mod kc3 (by decide)
 clear f8 a8 kc3
 refine L.mv f9 fun a10 f10 => ?_
 refine L.va f10 (E.extract f10 rfl rfl) fun a11 f11 => ?_
 refine L.va f11 (E.extract f11 rfl rfl) fun a12 f12 => ?_
 refine L.ag f12 fun a13 f13 => ?_
 refine L.ag f13 fun a14 f14 => ?_
 have f15 := f14.pk [0, 2, 4, 6, 7]
 refine wn hK1 (C.sk fun K2 hK2 => ?_)
 refine L.fa 1 f15 U30 rfl wsz28_h fun a16 f16 => ?_
 refine L.va f16 (E.load f16 U28 rfl rfl ((Bg0).cl rfl)) fun a17 f17 => ?_
 clear f9 a9 f10 a10 f11 a11 f12 a12 f13 a13 f14 f15 a14 f16 a16
 refine L.cl f17 (run_call Tryz.call64 (args1 f17 rfl)) (clone_any _ _ _ _ _ HP.sl u8_one HP.2) ?_
 rintro e w4 ⟨kc4, Ac, cc, rfl, FC⟩
 have HC : Pay B w4 Ac m.pay := Pay.of_fresh FC HP.2
 refine ⟨_, rfl, fun a18 f18 => ?_⟩
 have szw4 := kc4.size
 replace HK := HK.trans (.of_kept0 kc4)
 replace BP := BP.z kc4
 replace OWN := OWN.mod (Mod.of_kept0 (T := []) (M := []) (B := B) kc4) (by decide)
 replace HP := HP.mod (Mod.of_kept0 (T := []) (M := []) (B := B) kc4) (by decide)
 replace Bg0 := Bg0.z kc4
 replace Bg1 := Bg1.z kc4
 replace IDN := IDN.mod (Mod.of_kept0 (T := []) (M := []) (B := B) kc4) (by decide) (by simp)
 clear f17 a17 kc4
 refine L.fa 1 f18 U30 rfl wsz28_h fun a19 f19 => ?_
 refine L.store f19 wantedN wsz28_h rfl rfl rfl Bg0 (by (simp [Value.cells]; done)) fun a20 w5 f20 NB5 ks5 => ?_
 have szw5 := ks5.size
 replace HK := HK.kept_new ks5 (by simp; omega)
 replace BP := BP.kept ks5 (by simp; omega)
 replace OWN := OWN.kept ks5 (fun b hb hx => by have := (hS.fly.own.blk b hb).1; simp at hx; omega)
 replace HP := HP.mod (Mod.of_blk1 (M := []) (B := B) ks5 Bg0 (by omega)) (by decide)
 replace Bg1 := Bg1.kept ks5 (by simp; omega)
 replace IDN := IDN.mod (Mod.of_blk1 (M := []) (B := B) ks5 Bg0 (by omega)) (by decide) (by simp)
 replace HC := HC.mod (Mod.of_blk1 (M := []) (B := B) ks5 Bg0 (by omega)) (by decide)
 replace Bg0 := NB5
 simp only [Value.cells, List.setIfInBounds_toArray, List.set_cons_zero, List.set_cons_succ, Nat.reduceAdd, Nat.zero_add] at Bg0
 clear f18 a18 ks5 f19 a19
 refine wn hK2 ?_
 have f21 := f20.pk [0, 2, 4, 6, 7]
 refine wp_seq_k fun K3 hK3 => ?_
 have hg0M : g0 ∉ MM := by rw [hMM]; exact own_old hS.fly.own frg0
 have hg1M : g1 ∉ MM := by rw [hMM]; exact own_old hS.fly.own frg1
 have OWN1 := OWN
 have HP0 := HP.2
 refine RB.begin (S := fun W => Kept MM w5 W) 12 (by kernel_rfl) (by exact (Kept.refl _ _).drewN 1) ?_
 have hS3 : Kept MM w5 (w5.drewN 1) := (Kept.refl _ _).drewN 1
 have hd3 : Kept [] w5 (w5.drewN 1) := (Kept.refl _ _).drewN 1
 obtain ⟨w6, hww6⟩ : ∃ W, W = w5.drewN 1 := ⟨_, rfl⟩
 rw [← hww6] at hS3 hd3 ⊢
 clear f20 hww6
 have szw6 := hS3.size
 replace HC := HC.kept0 hd3
 replace OWN := OWN.mod (T := []) (M := []) (Mod.of_kept0 (B := B) hd3) (by simp)
 refine RB.tk 0 f21 rfl hS3 (fun W hW => (E.move f21 rfl)) fun a22 f22 => ?_
 refine RB.tk 1 f22 rfl hS3 (fun W hW => (E.move f22 rfl)) fun a23 f23 => ?_
 refine RB.tk 2 f23 rfl hS3 (fun W hW => (E.nilCheck f23 rfl)) fun a24 f24 => ?_
 refine RB.tk 3 f24 rfl hS3 (fun W hW => (E.fa 3 f24 U57 rfl wsz55_h)) fun a25 f25 => ?_
 refine RB.tk 4 f25 rfl hS3 (fun W hW => (E.load f25 Tryz.underlying55 rfl rfl ((BP.kept hW (by assumption)).cl rfl))) fun a26 f26 => ?_
 refine RB.tk 5 f26 rfl hS3 (fun W hW => (E.loadB f26 U30 rfl wsz30_h rfl (Bg0.kept hW (by assumption)) rfl)) fun a27 f27 => ?_
 refine RB.tk 6 f27 rfl hS3 (fun W hW => (E.move f27 rfl)) fun a28 f28 => ?_
 clear f21 a20 f22 a22 f23 a23 f24 a24 f25 a25 f26 a26 f27 a27
 refine RB.tk 7 f28 rfl hS3 (fun W hW => (E.move f28 rfl)) fun a29 f29 => ?_
 refine RB.call 8 f29 rfl rfl (by decide) (by kernel_rfl) (by kernel_rfl) wantedN (run_call Tryz.call45 (args1 f29 rfl)) (near_any now _) ?_
 clear f28 a28
 rintro e w6x ⟨rfl, rfl⟩
 refine ⟨_, rfl, hS3, fun a30 f30 => ?_⟩
 refine RB.tk 9 f30 rfl hS3 (fun W hW => (E.build f30 (parts3 f30 rfl rfl rfl) (wbl82_0_1_2_h _ _ _ _ _ _))) fun a31 f31 => ?_
 refine RB.one 10 (by kernel_rfl) (by kernel_rfl) ?_
 refine O.buildSlice f31 rfl wantedN (by decide) (parts1 f31 rfl) Tryz.underlying55 wzi82_h rfl rfl (wbs55_1_h _ _ _ _ _ _ _) (fun _ hk => hS3.trans hk (by simp)) fun a32 w7 g6 N6 hSn f32 => ?_
 have Bg6 := N6.blk
 have kg6 := N6.kept
 have log6 := N6.lo
 have ltg6 := Bg6.lt
 have szw7 := kg6.size
 have szSw7 := hS3.size
 replace HC := HC.kept0 kg6
 replace OWN := OWN.mod (T := []) (M := []) (Mod.of_kept0 (B := B) kg6) (by simp)
 clear f29 a29 f30 a30 f31 a31 N6 kg6
 replace hS3 := hSn
 clear hSn
 refine RB.one 11 (by kernel_rfl) (by kernel_rfl) ?_
 refine O.append f32 rfl wantedN (by decide) Tryz.underlying55 wzib82_h rfl rfl rfl rfl (OWN) (sl_blk Bg6 rfl) (by simp [Value.oneCell']) (by unfold maxLen; omega) (by omega) fun a33 w8 A2 c2 AP8 => ?_
 have kap8 : Kept MM w7 w8 := by rw [hMM]; exact AP8.kept
 have KA : Mod [82] [] B w7 w8 := .of_app AP8 OWN hS.fly.loA (by simp)
 have RX := AP8.own
 have LX := AP8.from hS.fly.loA (B := B) (by omega)
 have hSn := hS3.trans kap8 (by exact fun x hx _ => hx)
 refine ⟨hSn, fun f33 => ?_⟩
 have szw8 := kap8.size
 replace HC := HC.mod KA (by decide)
 clear f32 kap8
 replace hS3 := hSn
 clear hSn
 refine RB.stop (by kernel_rfl) ?_
 have szw8r := hS3.size
 have KM := Mod.of_own (T := [82]) (M := []) (B := B) (hMM ▸ hS3) OWN1 hS.fly.loA (by simp)
 replace HK := HK.step KM (by decide) (by simp) (by omega)
 replace BP := BP.kept hS3 (by assumption)
 replace HP := HP.mod KM (by decide)
 replace Bg1 := Bg1.kept hS3 (by assumption)
 replace IDN := IDN.mod KM (by decide) (by simp)
 replace Bg0 := Bg0.kept hS3 (by assumption)
 clear hS3
 refine R.t 12 f33 rfl trivial (fun W hW => (E.nilCheck f33 rfl)) fun a34 f34 => ?_
 refine R.t 13 f34 rfl trivial (fun W hW => (E.fa 3 f34 U57 rfl wsz55_h)) fun a35 f35 => ?_
 refine R.one 14 (by kernel_rfl) ?_
 refine OT.store f35 rfl wantedN wsz55_h rfl rfl rfl BP (by (simp [Value.cells]; done)) fun a36 w9 f36 NB9 ks9 => ?_
 have szw9 := ks9.size
 have KM := (Mod.of_blk (T := [57]) (M := []) (B := B) ks9 BP hS.lop (by simp))
 replace HK := HK.step KM (by decide) (by simp) (by omega)
 replace HP := HP.mod KM (by decide)
 replace Bg1 := Bg1.kept ks9 (by simp; omega)
 replace IDN := IDN.mod KM (by decide) (by simp)
 replace Bg0 := Bg0.kept ks9 (by simp; omega)
 replace HC := HC.mod KM (by decide)
 replace RX := RX.mod KM (by decide)
 replace BP := NB9
 simp only [Value.cells, List.setIfInBounds_toArray, List.set_cons_zero, List.set_cons_succ, Nat.reduceAdd, Nat.zero_add] at BP
 clear f33 a33 f34 a34 ks9 f35 a35
 refine R.done (by kernel_rfl) (hK3 _ _ ?_)
 have f37 := f36.pk [4, 6, 7]
 refine C.sk fun K4 hK4 => ?_
 refine L.va f37 (E.loadB f37 U30 rfl wsz30_h rfl (Bg0) rfl) fun a38 f38 => ?_
 refine L.mv f38 fun a39 f39 => ?_
 refine L.cl f39 (run_call Tryz.call38 (args3 f39 rfl rfl rfl)) (publish_any m.tp Ac m.pay.length cc _ m.qos m.ret _ false _ HC.sl u8_one HP0) ?_
 clear f36 f37 a36 f38 a38
 rintro e w10 ⟨kc10, Ap, cp, rfl, FP⟩
 have HR : Pay B w10 Ap m.pay := Pay.of_fresh FP HP0
 refine ⟨_, rfl, fun a40 f40 => ?_⟩
 have szw10 := kc10.size
 replace HK := HK.trans (.of_kept0 kc10)
 replace HP := HP.mod (Mod.of_kept0 (T := []) (M := []) (B := B) kc10) (by decide)
 replace Bg1 := Bg1.z kc10
 replace IDN := IDN.mod (Mod.of_kept0 (T := []) (M := []) (B := B) kc10) (by decide) (by simp)
 replace Bg0 := Bg0.z kc10
 replace HC := HC.mod (Mod.of_kept0 (T := []) (M := []) (B := B) kc10) (by decide)
 replace RX := RX.mod (Mod.of_kept0 (T := []) (M := []) (B := B) kc10) (by decide)
 replace BP := BP.z kc10
 clear f39 a39 kc10
 refine L.storeR f40 wantedN wsz35_h rfl rfl rfl Bg1 rfl rfl fun a41 w11 f41 NB11 ks11 => ?_
 have szw11 := ks11.size
 replace HK := HK.kept_new ks11 (by simp; omega)
 replace HP := HP.mod (Mod.of_blk1 (M := []) (B := B) ks11 Bg1 (by omega)) (by decide)
 replace IDN := IDN.mod (Mod.of_blk1 (M := []) (B := B) ks11 Bg1 (by omega)) (by decide) (by simp)
 replace Bg0 := Bg0.kept ks11 (by simp; omega)
 replace HC := HC.mod (Mod.of_blk1 (M := []) (B := B) ks11 Bg1 (by omega)) (by decide)
 replace RX := RX.mod (Mod.of_blk1 (M := []) (B := B) ks11 Bg1 (by omega)) (by decide)
 replace BP := BP.kept ks11 (by simp; omega)
 replace HR := HR.mod (Mod.of_blk1 (M := []) (B := B) ks11 Bg1 (by omega)) (by decide)
 replace Bg1 := NB11
 clear ks11 f40 a40
 have f42 := f41.pk [6]
 refine wn hK4 (wp_ret ?_); (try simp only [xt, xb]); refine C.retC f42 rfl rfl Bg1 U35 rfl wsz35_h ?_
 exact rise_fin hS htn hti h4 HK BP IDN RX HC LX HR
end Go.Proofs.YtdfllmiokgoekaaGreatDoor
namespace Go.Hub
open Go.RowKit Go.WideShapes Go.ChangeMaps
open Go.Maps (Keyed)
structure MT where
  k : TypeId
  e : TypeId
  K : Type
  V : Type
  dom : K → Prop
  kv : K → Value
  kl : K → Lit
  ev : V → Value
structure MT.Ok (M : MT) (P : Program) : Prop where
  keyed : Keyed P M.k
  of : ∀ x, M.dom x → keyOf P M.k (M.kv x) = some (M.kl x)
  inj : ∀ x y, M.dom x → M.dom y → M.kl x = M.kl y → x = y
def RV (v : Value) : Option (DataW Value × List MemPlace) := some (.held v, [])
section
variable {K V : Type} [DecidableEq K]
def lk (E : List (K × V)) (x : K) : Option V := (E.find? fun p => decide (p.1 = x)).map (·.2)
def strike (E : List (K × V)) (x : K) : List (K × V) := E.filter fun p => !decide (p.1 = x)
theorem lk_cons (y : K) (v : V) (E : List (K × V)) (x : K) : lk ((y, v) :: E) x = if y = x then some v else lk E x := by
  unfold lk
  rw [List.find?_cons]
  by_cases h : y = x <;> simp [h]
theorem lk_strike_same (E : List (K × V)) (x : K) : lk (strike E x) x = none := by
  induction E with
  | nil => rfl
  | cons p r ih =>
    obtain ⟨y, v⟩ := p
    unfold strike
    rw [List.filter_cons]
    by_cases h : y = x
    · simpa [h, strike] using ih
    simp only [h, decide_false, Bool.not_false, if_true]
    rw [lk_cons, if_neg h]
    exact ih
theorem lk_strike_other (E : List (K × V)) {x y : K} (hne : y ≠ x) : lk (strike E x) y = lk E y := by
  induction E with
  | nil => rfl
  | cons p r ih =>
    obtain ⟨z, v⟩ := p
    unfold strike
    rw [List.filter_cons]
    by_cases h : z = x
    · subst h
      rw [if_neg (by simp), lk_cons, if_neg (fun e => hne e.symm)]
      exact ih
    simp only [h, decide_false, Bool.not_false, if_true]
    rw [lk_cons, lk_cons]
    by_cases h2 : z = y
    · simp [h2]
    rw [if_neg h2, if_neg h2]
    exact ih
theorem lk_some {E : List (K × V)} {x : K} {v : V} (h : lk E x = some v) : (x, v) ∈ E := by
  unfold lk at h
  cases hf : E.find? (fun p => decide (p.1 = x)) with
  | none => rw [hf] at h; simp at h
  | some p =>
    rw [hf] at h
    simp at h
    have h1 := List.find?_some hf
    have h2 := List.mem_of_find?_eq_some hf
    simp at h1
    obtain ⟨a, b⟩ := p
    simp at h1 h
    rw [← h1, ← h]
    exact h2
theorem lk_none {E : List (K × V)} {x : K} (h : lk E x = none) : ∀ p ∈ E, p.1 ≠ x := fun p hp e => by
  unfold lk at h
  simp at h
  exact h p.1 p.2 hp e
theorem lk_mem {E : List (K × V)} (hd : (E.map (·.1)).Nodup) {x : K} {v : V} (h : (x, v) ∈ E) : lk E x = some v := by
  induction E with
  | nil => simp at h
  | cons p r ih =>
    obtain ⟨y, u⟩ := p
    rw [lk_cons]
    simp only [List.map_cons, List.nodup_cons] at hd
    rcases List.mem_cons.1 h with e | h
    · injection e with e1 e2
      rw [if_pos e1.symm, e2]
    rw [if_neg (fun e : y = x => hd.1 (by rw [e]; exact List.mem_map.2 ⟨_, h, rfl⟩))]
    exact ih hd.2 h
theorem strike_none {E : List (K × V)} {x : K} (h : lk E x = none) : strike E x = E := by
  unfold strike
  rw [List.filter_eq_self]
  intro p hp
  simpa using lk_none h p hp
theorem strike_len {E : List (K × V)} (hd : (E.map (·.1)).Nodup) (x : K) : (strike E x).length + (if (lk E x).isSome then 1 else 0) = E.length := by
  induction E with
  | nil => rfl
  | cons p r ih =>
    obtain ⟨y, u⟩ := p
    simp only [List.map_cons, List.nodup_cons] at hd
    rw [lk_cons]
    unfold strike
    rw [List.filter_cons]
    by_cases h : y = x
    · subst h
      have hn : lk r y = none := by
        cases hl : lk r y with
        | none => rfl
        | some v => exact absurd (List.mem_map.2 ⟨_, lk_some hl, rfl⟩) hd.1
      have e := strike_none hn
      unfold strike at e
      simp [e]
    have := ih hd.2
    unfold strike at this
    simp only [h, decide_false, Bool.not_false, if_true, if_false, List.length_cons]
    omega
theorem strike_nodup {E : List (K × V)} (hd : (E.map (·.1)).Nodup) (x : K) : ((strike E x).map (·.1)).Nodup := hd.sublist (List.Sublist.map _ List.filter_sublist)
theorem put_nodup {E : List (K × V)} (hd : (E.map (·.1)).Nodup) (x : K) (v : V) : (((x, v) :: strike E x).map (·.1)).Nodup := by
  rw [List.map_cons, List.nodup_cons]
  refine ⟨fun h => ?_, strike_nodup hd x⟩
  obtain ⟨p, hp, e⟩ := List.mem_map.1 h
  exact lk_none (lk_strike_same E x) p hp e
end
variable {M : MT} [DecidableEq M.K] {P : Program} {w w' : World} {m : Nat} {E : List (M.K × M.V)} {t : TypeId}
def IsAss (M : MT) [DecidableEq M.K] (P : Program) (w : World) (m : Nat) (E : List (M.K × M.V)) : Prop :=
  (E.map (·.1)).Nodup ∧ (∀ p ∈ E, M.dom p.1) ∧ ∃ D : DataW Value, w.ownsMap P M.k RV m E.length D ∧ Maps.size D = E.length ∧ (∀ x, M.dom x → Maps.has D (M.kl x) = (lk E x).isSome) ∧
    (∀ x zd, M.dom x → D.atKey (M.kl x) zd = match lk E x with | some v => .held (M.ev v) | none => zd) ∧ ∀ l, Maps.has D l = true → ∃ x, M.dom x ∧ l = M.kl x
theorem IsAss.lt (h : IsAss M P w m E) : m < w.heap.size := by obtain ⟨_, _, D, ho, _⟩ := h; exact ho.lt
theorem IsAss.nodup (h : IsAss M P w m E) : (E.map (·.1)).Nodup := h.1
theorem IsAss.made (M : MT) [DecidableEq M.K] (w : World) (P : Program) : IsAss M P (w.alloc (.map #[] 0)) w.heap.size [] :=
  ⟨by simp, by simp, .map [], World.ownsMap_made w P M.k RV, rfl, fun _ _ => rfl, fun _ _ _ => rfl, fun l h => by cases h⟩
theorem IsAss.of_block (h : IsAss M P w m E) (hb : w'.heap[m]? = w.heap[m]?) : IsAss M P w' m E := by
  obtain ⟨h1, h2, D, ho, h3⟩ := h
  obtain ⟨es, clock, hb0, F, hs, hD⟩ := ho
  exact ⟨h1, h2, D, ⟨es, clock, hb.trans hb0, F, hs, hD⟩, h3⟩
theorem IsAss.kept {L : List Nat} (h : IsAss M P w m E) (hk : Kept L w w') (hm : m ∉ L) : IsAss M P w' m E := h.of_block (hk.block m h.lt hm)
theorem IsAss.z (h : IsAss M P w m E) (hk : Kept [] w w') : IsAss M P w' m E := h.kept hk (by simp)
theorem rv_inj {v : Value} {d : DataW Value} {ps : List MemPlace} (h : RV v = some (d, ps)) {u : Value} (e : d = .held u) : v = u := by
  unfold RV at h
  subst e
  injection h with h
  injection h with h1 h2
  injection h1
theorem IsAss.look_ok (h : IsAss M P w m E) (ok : M.Ok P) (ht : P.underlying t = some (.map M.k M.e)) {z : Value} (hz : (zeroValue M.e).run P w = .ok z w) {x : M.K} (hx : M.dom x) :
    (Instr.lookup t (.map (some m)) (M.kv x) true).run P w = .ok (.tuple #[match lk E x with | some v => M.ev v | none => z, .bool (lk E x).isSome]) w := by
  obtain ⟨_, _, D, ho, _, hhas, hat, _⟩ := h
  obtain ⟨v, ps, hrun, hv⟩ := ho.look_ok ok.keyed ht hz (zd := .held z) (zp := []) rfl (ok.of x hx)
  rw [hat x _ hx] at hv
  rw [hrun, hhas x hx]
  congr 1
  congr 1
  cases hl : lk E x with
  | none => rw [hl] at hv; rw [rv_inj hv rfl]
  | some u => rw [hl] at hv; rw [rv_inj hv rfl]
theorem IsAss.put (h : IsAss M P w m E) (ok : M.Ok P) (ht : P.underlying t = some (.map M.k M.e)) {x : M.K} (hx : M.dom x) (v : M.V) (hE : E.length < maxLen) :
    ∃ w', (Instr.mapUpdate t (.map (some m)) (M.kv x) (M.ev v)).run P w = .ok () w' ∧ IsAss M P w' m ((x, v) :: strike E x) ∧ Kept [m] w w' := by
  obtain ⟨hnd, hdm, D, ho, hs, hhas, hat, hall⟩ := h
  have hkey := ok.of x hx
  obtain ⟨w', hrun, ho', ht'⟩ := ho.store ok.keyed ht hE hkey (val := M.ev v) (d := .held (M.ev v)) (ps := []) rfl
  have tidy := ho.tidy ok.keyed
  have hlen := strike_len hnd x
  have hsz : Maps.size (D.put (M.kl x) (.held (M.ev v))) = ((x, v) :: strike E x).length := by
    rw [Maps.size_put tidy, hhas x hx, hs, List.length_cons]
    cases h1 : (lk E x).isSome <;> rw [h1] at hlen <;> simp at hlen ⊢ <;> omega
  have hne : ∀ y, M.dom y → y ≠ x → M.kl y ≠ M.kl x := fun y hy h e => h (ok.inj y x hy hx e)
  refine ⟨w', hrun, ⟨put_nodup hnd x v, ?_, _, ownsMap_exact ho' (by rw [hsz]; exact Nat.le_refl _), hsz, ?_, ?_, ?_⟩, turned_kept ht'⟩
  · intro p hp
    rcases List.mem_cons.1 hp with rfl | hp
    · exact hx
    exact hdm p (List.mem_filter.1 hp).1
  · intro y hy
    rw [lk_cons]
    by_cases e : x = y
    · subst e
      rw [if_pos rfl, Maps.has_put_same ho.isMap (ok.keyed.key hkey)]
      rfl
    rw [if_neg e, Maps.has_put_other (hne y hy (fun h => e h.symm)), hhas y hy, lk_strike_other E (fun h => e h.symm)]
  · intro y zd hy
    rw [lk_cons]
    by_cases e : x = y
    · subst e
      rw [if_pos rfl, Maps.atKey_put_same ho.isMap (ok.keyed.key hkey)]
    rw [if_neg e, Maps.atKey_put_other (hne y hy (fun h => e h.symm)), hat y zd hy, lk_strike_other E (fun h => e h.symm)]
  intro l hl
  by_cases e : l = M.kl x
  · exact ⟨x, hx, e⟩
  rw [Maps.has_put_other e] at hl
  exact hall l hl
theorem IsAss.drop (h : IsAss M P w m E) (ok : M.Ok P) (ht : P.underlying t = some (.map M.k M.e)) {x : M.K} (hx : M.dom x) (ty : TypeId) :
    ∃ w', (Builtin.delete_ #[t, M.k] ty #[.map (some m), M.kv x]).run P w = .ok (.tuple #[]) w' ∧ IsAss M P w' m (strike E x) ∧ Kept [m] w w' := by
  obtain ⟨hnd, hdm, D, ho, hs, hhas, hat, hall⟩ := h
  have hkey := ok.of x hx
  obtain ⟨w', hrun, ho', ht'⟩ := ho.drop ok.keyed ht hkey ty
  have tidy := ho.tidy ok.keyed
  have hlen := strike_len hnd x
  have hsz : Maps.size (D.del (M.kl x)) = (strike E x).length := by
    have := Maps.size_del (k := M.kl x) tidy
    rw [hhas x hx, hs] at this
    omega
  have hne : ∀ y, M.dom y → y ≠ x → M.kl y ≠ M.kl x := fun y hy h e => h (ok.inj y x hy hx e)
  refine ⟨w', hrun, ⟨strike_nodup hnd x, fun p hp => hdm p (List.mem_filter.1 hp).1, _, ownsMap_exact ho' (by rw [hsz]; exact Nat.le_refl _), hsz, ?_, ?_, ?_⟩, turned_kept ht'⟩
  · intro y hy
    by_cases e : y = x
    · subst e
      rw [Maps.has_del_same, lk_strike_same]
      rfl
    rw [Maps.has_del_other (hne y hy e), hhas y hy, lk_strike_other E e]
  · intro y zd hy
    by_cases e : y = x
    · subst e
      rw [Maps.atKey_del_same, lk_strike_same]
    rw [Maps.atKey_del_other (hne y hy e), hat y zd hy, lk_strike_other E e]
  intro l hl
  by_cases e : l = M.kl x
  · exact ⟨x, hx, e⟩
  rw [Maps.has_del_other e] at hl
  exact hall l hl
def InRange (M : MT) [DecidableEq M.K] (P : Program) (w : World) (m r : Nat) (E Rm : List (M.K × M.V)) (c : Nat) : Prop :=
  IsAss M P w m E ∧ (Rm.map (·.1)).Nodup ∧ (∀ p ∈ Rm, p ∈ E) ∧ ∃ (D : DataW Value) (left : Lit → Bool), w.ranges P M.k RV m r E.length D left c ∧
    (∀ x zd, M.dom x → D.atKey (M.kl x) zd = match lk E x with | some v => .held (M.ev v) | none => zd) ∧ (∀ x, M.dom x → left (M.kl x) = (lk Rm x).isSome) ∧ ∀ l, left l = true → ∃ x, M.dom x ∧ l = M.kl x
theorem IsAss.range (h : IsAss M P w m E) (ok : M.Ok P) (ht : P.underlying t = some (.map M.k M.e)) :
    ∃ w', (Instr.range t (.map (some m))).run P w = .ok (.pointer (some ⟨w.heap.size, 0, none⟩)) w' ∧ InRange M P w' m w.heap.size E E E.length ∧ Kept [] w w' ∧ w'.heap.size = w.heap.size + 1 := by
  have h0 := h
  obtain ⟨hnd, hdm, D, ho, hs, hhas, hat, hall⟩ := h
  obtain ⟨w', hrun, hr, hg, hz⟩ := ho.range ok.keyed ht
  have hk : Kept [] w w' := ⟨hg.os, hg.tape, hg.output, hg.size, fun i hi _ => hg.block i hi (by simp)⟩
  rw [hs] at hr
  exact ⟨w', hrun, ⟨h0.kept hk (by simp), hnd, fun p hp => hp, D, _, hr, hat, hhas, hall⟩, hk, hz⟩
theorem InRange.ass {r c : Nat} {Rm : List (M.K × M.V)} (h : InRange M P w m r E Rm c) : IsAss M P w m E := h.1
theorem InRange.next {r c : Nat} {Rm : List (M.K × M.V)} (h : InRange M P w m r E Rm c) (ok : M.Ok P) (ty : TypeId) (hkv : ∀ (v : Value) (l : Lit), keyOf P M.k v = some l → ∀ x, M.dom x → l = M.kl x → v = M.kv x) :
    (Rm = [] ∧ (Instr.next (.pointer (some ⟨r, 0, none⟩)) false ty).run P w = .ok (.tuple #[.bool false]) w) ∨
    ∃ x v w' c', (x, v) ∈ Rm ∧ (Instr.next (.pointer (some ⟨r, 0, none⟩)) false ty).run P w = .ok (.tuple #[.bool true, M.kv x, M.ev v]) w' ∧ InRange M P w' m r E (strike Rm x) c' ∧ c' < c ∧ Kept [r] w w' ∧ (Instr.entry (.pointer (some ⟨r, 0, none⟩))).run P w' = .ok (.tuple #[M.kv x, M.ev v]) w' := by
  obtain ⟨ha, hnd, hin, D, left, hr, hat, hl, hall⟩ := h
  rcases hr.next ok.keyed ty with ⟨_, h0, hrun⟩ | ⟨key, v, l, y, w', c', hkey, hlk, hv, hD, hrun, hr', hc, hg, hz, hent⟩
  · refine .inl ⟨?_, hrun⟩
    cases Rm with
    | nil => rfl
    | cons p q =>
      have hd := ha.2.1 p (hin p (by simp))
      have := hl p.1 hd
      rw [h0, lk_cons, if_pos rfl] at this
      cases this
  obtain ⟨x, hx, rfl⟩ := hall l hlk
  have hs := hl x hx
  rw [hlk] at hs
  cases hu : lk Rm x with
  | none => rw [hu] at hs; cases hs
  | some u =>
    have hmem := lk_some hu
    have hE : lk E x = some u := lk_mem ha.1 (hin _ hmem)
    have h1 := hD .nil
    rw [hat x _ hx, hE] at h1
    have hv2 : v = M.ev u := by
      obtain ⟨d, ps⟩ := y
      exact rv_inj hv h1.symm
    have hk : Kept [r] w w' := ⟨hg.os, hg.tape, hg.output, hg.size, fun i hi hn => hg.block i hi (by simpa using hn)⟩
    have hrm : m ∉ [r] := by have := hr.ne; simpa using fun e => this e.symm
    refine .inr ⟨x, u, w', c', hmem, by rw [hrun, hv2, hkv key _ hkey x hx rfl], ⟨ha.kept hk hrm, strike_nodup hnd x, fun p hp => hin p (List.mem_filter.1 hp).1, D, _, hr', hat, ?_, fun l hl => hall l (by simp at hl; exact hl.1)⟩, hc, hk, by rw [hent, hv2, hkv key _ hkey x hx rfl]⟩
    intro z hz2
    rw [hl z hz2]
    by_cases e : z = x
    · subst e
      rw [lk_strike_same, WideAt.sameKey_self (ok.keyed.key (ok.of z hz2))]
      simp
    rw [lk_strike_other Rm e, Maps.sameKey_ne (fun h => e (ok.inj z x hz2 hx h))]
    simp
theorem InRange.kept {L : List Nat} {r c : Nat} {Rm : List (M.K × M.V)} (h : InRange M P w m r E Rm c) (hk : Kept L w w') (hm : m ∉ L) (hr : r ∉ L) : InRange M P w' m r E Rm c := by
  obtain ⟨ha, hnd, hin, D, left, h0, h1⟩ := h
  have hlt := h0.lt
  have hlm := ha.lt
  refine ⟨ha.kept hk hm, hnd, hin, D, left, ?_, h1⟩
  obtain ⟨es, clock, since, seen, c0, hb, F, hs, hD, hr0, rest⟩ := h0
  exact ⟨es, clock, since, seen, c0, (hk.block m hlm hm).trans hb, F, hs, hD, (hk.block r hlt hr).trans hr0, rest⟩
theorem InRange.lt {r c : Nat} {Rm : List (M.K × M.V)} (h : InRange M P w m r E Rm c) : r < w.heap.size := by
  obtain ⟨_, _, _, _, _, h0, _⟩ := h
  exact h0.lt
end Go.Hub
namespace Go.Hub
open Go.RowKit Go.WideShapes Go.ChangeMaps Go.WideElems
open Go.Maps (Keyed)
open Go.WideMaps (KeyLaw)
section
variable {M : MT} [DecidableEq M.K] {P : Program} {ops : Array Oper} {rest : List Oper} {a : Act} {w : World} {Q : Exit → Act → World → Prop} {n d m : Nat} {l : FL} {dst : Option Nat} {ty : TypeId} {ps : String} {af : Array Edge} {gd : Option (Nat × Bool)} {x y z : Operand} {t : TypeId} {Sw : World → Prop} {K : Act → World → Prop} {E : List (M.K × M.V)}
theorem E.lookOkA (f : Fr n a l) (h : IsAss M P w m E) (ok : M.Ok P) (ht : P.underlying t = some (.map M.k M.e)) {zv : Value} (hz : ∀ w, (zeroValue M.e).run P w = .ok zv w) (key : M.K) (hd : M.dom key) (hx : evl l x = some (.map (some m))) (hy : evl l y = some (M.kv key)) :
    (execOp a.eval ⟨dst, .lookup t x y true, ty, ps, af, gd⟩).run P w = .ok (.value (.tuple #[match lk E key with | some v => M.ev v | none => zv, .bool (lk E key).isSome])) w := by
  simp only [execOp, f.ev hx, f.ev hy, Sem.run_bind, h.look_ok ok ht (hz w) hd, Result.andThen, Sem.run_pure]
  try rfl
theorem mapPutA_run (f : Fr n a l) {w' : World} {key u : Value} (hx : evl l x = some (.map (some m))) (hy : evl l y = some key) (hz : evl l z = some u) (h : (Instr.mapUpdate t (.map (some m)) key u).run P w = .ok () w') :
    (execOp a.eval ⟨dst, .mapUpdate t x y z, ty, ps, af, gd⟩).run P w = .ok .skip w' := by
  simp [execOp, f.ev hx, f.ev hy, f.ev hz, h]
theorem L.mapPutA (f : Fr n a l) (hw : Region.wanted ⟨none, .mapUpdate t x y z, ty, ps, af, gd⟩ (yielded ops a.tmps) = true) (h : IsAss M P w m E) (ok : M.Ok P) (ht : P.underlying t = some (.map M.k M.e)) (key : M.K) (hd : M.dom key) (u : M.V)
    (hx : evl l x = some (.map (some m))) (hy : evl l y = some (M.kv key)) (hz : evl l z = some (M.ev u)) (hE : E.length < maxLen)
    (hK : ∀ a' w', IsAss M P w' m ((key, u) :: strike E key) → Kept [m] w w' → Fr n a' l → wpList P ops Q rest a' w') : wpList P ops Q (⟨none, .mapUpdate t x y z, ty, ps, af, gd⟩ :: rest) a w := by
  obtain ⟨w', hrun, r1, r2⟩ := h.put ok ht hd u hE
  exact L.act f hw rfl (mapPutA_run f hx hy hz hrun) fun a' f' => hK a' w' r1 r2 f'
theorem L.rangeA (f : Fr n a l) (hw : Region.wanted ⟨some d, .range t x, ty, ps, af, gd⟩ (yielded ops a.tmps) = true) (hn : d < n) (h : IsAss M P w m E) (ok : M.Ok P) (ht : P.underlying t = some (.map M.k M.e)) (hx : evl l x = some (.map (some m)))
    (hK : ∀ a' w' g, InRange M P w' m g E E E.length → Kept [] w w' → w.heap.size ≤ g → Fr n a' ((d, .pointer (some ⟨g, 0, none⟩)) :: l) → wpList P ops Q rest a' w') : wpList P ops Q (⟨some d, .range t x, ty, ps, af, gd⟩ :: rest) a w := by
  obtain ⟨w', hrun, r1, r2, _⟩ := h.range ok ht
  exact L.val f hw rfl hn (by simp [execOp, f.ev hx, hrun]) fun a' f' => hK a' w' _ r1 r2 (Nat.le_refl _) f'
theorem L.nextA (f : Fr n a l) (hw : Region.wanted ⟨some d, .next x false, ty, ps, af, gd⟩ (yielded ops a.tmps) = true) (hn : d < n) {r c : Nat} {Rm : List (M.K × M.V)} (h : InRange M P w m r E Rm c) (ok : M.Ok P) (hkv : ∀ (v : Value) (l : Lit), keyOf P M.k v = some l → ∀ x, M.dom x → l = M.kl x → v = M.kv x) (hx : evl l x = some (.pointer (some ⟨r, 0, none⟩)))
    (hK0 : Rm = [] → ∀ a', Fr n a' ((d, .tuple #[.bool false]) :: l) → wpList P ops Q rest a' w)
    (hK1 : ∀ key u a' w' c', (key, u) ∈ Rm → InRange M P w' m r E (strike Rm key) c' → c' < c → Kept [r] w w' → (Instr.entry (.pointer (some ⟨r, 0, none⟩))).run P w' = .ok (.tuple #[M.kv key, M.ev u]) w' → Fr n a' ((d, .tuple #[.bool true, M.kv key, M.ev u]) :: l) → wpList P ops Q rest a' w') : wpList P ops Q (⟨some d, .next x false, ty, ps, af, gd⟩ :: rest) a w := by
  rcases h.next ok ty hkv with ⟨h0, hrun⟩ | ⟨key, u, w', c', hm, hrun, h1, hc, hk, hent⟩
  · exact L.val f hw rfl hn (by simp [execOp, f.ev hx, hrun]) fun a' f' => hK0 h0 a' f'
  exact L.val f hw rfl hn (by simp [execOp, f.ev hx, hrun]) fun a' f' => hK1 key u a' w' c' hm h1 hc hk hent f'
theorem E.entryA (f : Fr n a l) {r : Nat} {k v : Value} (h : (Instr.entry (.pointer (some ⟨r, 0, none⟩))).run P w = .ok (.tuple #[k, v]) w) (hx : evl l x = some (.pointer (some ⟨r, 0, none⟩))) : (execOp a.eval ⟨dst, .entry x, ty, ps, af, gd⟩).run P w = .ok (.value (.tuple #[k, v])) w := by
  simp [execOp, f.ev hx, h]
end
end Go.Hub
namespace Go.Hub
open Go.RowKit Go.Lib
def Iter (w : World) (g : Nat) (s : ByteArray) (pos : Nat) : Prop := w.heap[g]? = some (.stringIter s pos)
def nextV (s : ByteArray) (pos : Nat) : Array Value := if pos < s.size then #[.bool true, .int .i64 pos, .int .i32 (Utf8.decode s pos).1] else #[.bool false]
def nextP (s : ByteArray) (pos : Nat) : Nat := if pos < s.size then pos + (Utf8.decode s pos).2 else pos
section
variable {w w' : World} {g : Nat} {s : ByteArray} {pos : Nat} {L : List Nat}
theorem Iter.lt (h : Iter w g s pos) : g < w.heap.size := (Array.getElem?_eq_some_iff.1 h).1
theorem nextV_ok : (nextV s pos)[0]? = some (.bool (decide (pos < s.size))) := by
  unfold nextV
  split
  · rename_i h; simp [h]
  rename_i h; simp [h]
theorem nextV_pos (h : pos < s.size) : (nextV s pos)[1]? = some (.int .i64 pos) := by unfold nextV; rw [if_pos h]; rfl
theorem nextV_rune (h : pos < s.size) : (nextV s pos)[2]? = some (.int .i32 (Utf8.decode s pos).1) := by unfold nextV; rw [if_pos h]; rfl
theorem nextP_at (h : pos < s.size) : nextP s pos = pos + (Utf8.decode s pos).2 := by unfold nextP; rw [if_pos h]
end
section
variable {P : Program} {ops : Array Oper} {rest : List Oper} {a : Act} {w : World} {Q : Exit → Act → World → Prop} {n d : Nat} {l : FL} {ty : TypeId} {ps : String} {af : Array Edge} {gd : Option (Nat × Bool)} {x : Operand} {t : TypeId}
theorem L.range (f : Fr n a l) (hw : Region.wanted ⟨some d, .range t x, ty, ps, af, gd⟩ (yielded ops a.tmps) = true) (hn : d < n) {s : ByteArray} (ht : P.underlying t = some .string) (hx : evl l x = some (.string s))
    (hK : ∀ a' w' g, Iter w' g s 0 → Kept [] w w' → w.heap.size ≤ g → Fr n a' ((d, .pointer (some ⟨g, 0, none⟩)) :: l) → wpList P ops Q rest a' w') : wpList P ops Q (⟨some d, .range t x, ty, ps, af, gd⟩ :: rest) a w :=
  L.val (v := .pointer (some ⟨w.heap.size, 0, none⟩)) (w' := w.iter s 0) f hw rfl hn (by simp [execOp, f.ev hx, run_range_string w t s ht]) fun a' f' => hK a' _ _ (World.iter_heap w s 0) ((Kept.refl [] w).alloc _) (Nat.le_refl _) f'
theorem L.next (f : Fr n a l) (hw : Region.wanted ⟨some d, .next x true, ty, ps, af, gd⟩ (yielded ops a.tmps) = true) (hn : d < n) {g : Nat} {s : ByteArray} {pos : Nat} (hx : evl l x = some (.pointer (some ⟨g, 0, none⟩))) (h : Iter w g s pos)
    (hK : ∀ a' w', Iter w' g s (nextP s pos) → Kept [g] w w' → Fr n a' ((d, .tuple (nextV s pos)) :: l) → wpList P ops Q rest a' w') : wpList P ops Q (⟨some d, .next x true, ty, ps, af, gd⟩ :: rest) a w := by
  by_cases hp : pos < s.size
  · have hr := run_next_any_at (P := P) w g s pos ty h hp
    refine L.val (v := .tuple (nextV s pos)) (w' := w.iterAt g s (pos + (Utf8.decode s pos).2)) f hw rfl hn (by simp [execOp, f.ev hx, hr, nextV, hp]) fun a' f' => hK a' _ (by rw [nextP_at hp]; exact iterAt_heap w g s pos _ h) ⟨rfl, rfl, rfl, by rw [iterAt_size]; exact Nat.le_refl _, fun j _ hj => iterAt_other w g j s _ (by simpa using hj)⟩ f'
  have hr := run_next_end_at (P := P) w g s pos ty h hp
  refine L.val (v := .tuple (nextV s pos)) (w' := w) f hw rfl hn (by simp [execOp, f.ev hx, hr, nextV, hp]) fun a' f' => hK a' _ (by unfold nextP; rw [if_neg hp]; exact h) (Kept.refl _ _) f'
end
end Go.Hub
namespace Go.Proofs.YtdfllmiokgoekaaGreatDoor
open Go.RowKit Go.Hub
def wildI (r : Int) : Bool := decide (r = 43) || decide (r = 35)
def hasB (s : ByteArray) (c : UInt8) : Bool := s.toList.contains c
theorem byte_at (s : ByteArray) (j : Nat) : s[j]? = s.data[j]? := by
  by_cases h : j < s.size
  · rw [getElem?_pos s j h, Array.getElem?_eq_getElem (xs := s.data) h]; rfl
  rw [getElem?_neg s j h, Array.getElem?_eq_none (xs := s.data) (by simpa using h)]
theorem has_no {s : ByteArray} {c : UInt8} {k : Nat} (hq : ∀ j b, j < k → s[j]? = some b → b ≠ c) (h : s.size ≤ k) : hasB s c = false := by
  unfold hasB
  rw [List.contains_eq_mem]
  simp only [decide_eq_false_iff_not]
  intro hm
  rw [ByteArray.toList_eq] at hm
  obtain ⟨j, hj, he⟩ := List.getElem_of_mem hm
  have hj' : j < s.size := by simpa using hj
  refine hq j c (by omega) ?_ rfl
  rw [byte_at, ← Array.getElem?_toList, List.getElem?_eq_getElem hj, he]
theorem has_yes {s : ByteArray} {c : UInt8} {k : Nat} {b : UInt8} (hb : s[(k : Int).toNat]? = some b) (h : ((b.toNat : Nat) : Int) = ((c.toNat : Nat) : Int)) : hasB s c = true := by
  have e : b = c := UInt8.toNat_inj.1 (by omega)
  subst e
  unfold hasB
  rw [List.contains_eq_mem, ByteArray.toList_eq]
  rw [Int.toNat_natCast, byte_at, ← Array.getElem?_toList] at hb
  simpa using List.mem_of_getElem? hb
theorem has_next {s : ByteArray} {c : UInt8} {k : Nat} {b : UInt8} (hq : ∀ j b, j < k → s[j]? = some b → b ≠ c) (hb : s[k]? = some b) (h : ¬ ((b.toNat : Nat) : Int) = ((c.toNat : Nat) : Int)) : ∀ j b, j < k + 1 → s[j]? = some b → b ≠ c := by
  intro j b' hj hb'
  by_cases e : j = k
  · subst e
    rw [hb] at hb'
    cases hb'
    exact fun e => h (by rw [e])
  exact hq j b' (by omega) hb'
theorem wild_any (r : Int) (w : World) : Calls Tryz.prog 72 #[.int .i32 r] w (fun e w' => w = w' ∧ e = .returned (.bool (wildI r))) := by
 refine C.enter Tryz.func72 rfl Tryz.ntmps72 rfl ?_
 intro a0 f0
 have f1 : Fr 9 a0 [(0, .int .i32 r)] := f0
 refine C.sk fun K0 hK0 => ?_
 refine L.ag f1 fun a2 f2 => ?_
 have f3 := f2.pk [0, 2]
 refine wn hK0 (C.sk fun K1 hK1 => ?_)
 refine L.mv f3 fun a4 f4 => ?_
 refine L.va f4 (E.eql f4 rfl rfl) fun a5 f5 => ?_
 refine L.mv f5 fun a6 f6 => ?_
 clear f0 f1 a0 f2 f3 a2 f4 a4 f5 a5
 refine f6.splitD 5 rfl (fun h0 f7 => ?_) (fun h0 f7 => ?_)
 ·refine L.run f7 (rest' := []) (by kernel_rfl) fun a8 f8 => ?_
  clear f6
  have f9 := f8.sub (sv 2 (.bool true) sn)
  refine wn hK1 (wp_ret ?_); (try simp only [xt, xb]); refine C.ret f9 rfl rfl ?_
  exact ⟨rfl, by simp [wildI, *]⟩
 refine L.mv f7 (hw := (f7.yes rfl rfl)) fun a8 f8 => ?_
 refine L.va f8 (E.eql f8 rfl rfl) (hw := (f8.yes rfl rfl)) fun a9 f9 => ?_
 refine L.va f9 (E.pickF f9 rfl rfl) fun a10 f10 => ?_
 refine L.ag f10 fun a11 f11 => ?_
 have f12 := f11.pk [2]
 refine wn hK1 (wp_ret ?_); (try simp only [xt, xb]); refine C.ret f12 rfl rfl ?_
 exact ⟨rfl, by simp [wildI, *]⟩
theorem has_any (s : ByteArray) (c : UInt8) (w : World) (hs : s.size ≤ 1000000) : Calls Tryz.prog 75 #[.string s, .int .u8 c.toNat] w (fun e w' => w = w' ∧ e = .returned (.bool (hasB s c))) := by
 refine C.enter Tryz.func75 rfl Tryz.ntmps75 rfl ?_
 intro a0 f0
 have f1 : Fr 17 a0 [(0, .string s), (1, .int .u8 c.toNat)] := f0
 refine C.sk fun K0 hK0 => ?_
 refine L.ag f1 fun a2 f2 => ?_
 refine wn hK0 ?_
 have f3 := f2.pk [0, 1, 4]
 refine wp_seq_k fun K1 hK1 => C.sk fun K2 hK2 => ?_
 refine L.ag f3 fun a4 f4 => ?_
 refine wn hK2 ?_
 have f5 := f4.pk [0, 1, 4, 5]
 refine wp_block ?_
 clear f0 f1 a0 f2 f3 a2 f4
 refine C.loop (fun gk a W => w = W ∧ ∃ k : Nat, k + gk = s.size ∧ (∀ j b, j < k → s[j]? = some b → b ≠ c) ∧ Fr 17 a [(0, .string s), (1, .int .u8 c.toNat), (5, .int .i64 k)]) (s.size) ?_ ?_
 ·exact ⟨rfl, 0, by omega, by omega, f5.sub (sx (sx (sx sn)))⟩
 intro gk4 a6 w1 hI KL3 hKL3
 obtain ⟨hW, k, hk, hq, f6⟩ := hI
 subst hW
 try clear f5
 refine wp_seq_k fun K4 hK4 => C.sk fun K5 hK5 => ?_
 refine L.mv f6 fun a7 f7 => ?_
 refine L.mv f7 fun a8 f8 => ?_
 refine L.va f8 (E.lenS f8 U9 rfl) fun a9 f9 => ?_
 refine L.va f9 (E.lss f9 rfl rfl) fun a10 f10 => ?_
 refine wn hK5 ?_
 have f11 := f10.pk [0, 1, 5, 6, 7, 8, 9]
 clear f6 a6 f7 a7 f8 a8 f9 a9 f10
 refine f11.splitD 9 rfl (fun h0 f12 => ?_) (fun h0 f12 => ?_)
 ·obtain ⟨b, hb⟩ : ∃ b, s[k]? = some b := ⟨s[k]'(by omega), getElem?_pos s k (by omega)⟩
  refine C.condT f12 rfl ?_
  refine wp_skip (hK4 _ _ ?_)
  have f13 := f12.pk [0, 1, 5, 6, 7, 8, 9]
  refine wp_seq_k fun K6 hK6 => ?_
  refine wp_block ?_
  refine C.sk fun K7 hK7 => ?_
  refine L.mv f13 fun a14 f14 => ?_
  refine L.mv f14 fun a15 f15 => ?_
  refine L.va f15 (E.indexS f15 U9 rfl rfl (by omega) (by assumption)) fun a16 f16 => ?_
  refine L.mv f16 fun a17 f17 => ?_
  refine L.va f17 (E.eql f17 rfl rfl) fun a18 f18 => ?_
  refine wn hK7 ?_
  have f19 := f18.pk [0, 1, 5, 6, 7, 8, 9, 12, 13, 14, 15, 16]
  clear f11 f12 f13 a10 f14 a14 f15 a15 f16 a16 f17 a17 f18
  refine f19.splitD 16 rfl (fun h1 f20 => ?_) (fun h1 f20 => ?_)
  ·have hbc := h1
   refine C.condT f20 rfl ?_
   refine C.sk fun K8 hK8 => ?_
   refine L.ag f20 fun a21 f21 => ?_
   have f22 := f21.pk [0, 1, 4, 5, 6, 7, 8, 9, 12, 13, 14, 15, 16]
   refine wn hK8 (wp_ret ?_); (try simp only [xt, xb]); refine C.ret f22 rfl rfl ?_
   exact ⟨rfl, by rw [has_yes hb hbc]⟩
  have hbc := h1
  refine C.condF f20 rfl ?_
  refine wp_skip (hK6 _ _ ?_)
  have f21 := f20.pk [0, 1, 5, 6, 7, 8, 9, 12, 13, 14, 15, 16]
  refine C.region ?_
  refine L.mv f21 fun a22 f22 => ?_
  refine L.va f22 (E.add f22 rfl rfl (IntWalk.i64_in _ (by omega))) fun a23 f23 => ?_
  refine L.ag f23 fun a24 f24 => ?_
  clear f19 f20 f21 a18 f22 a22 f23 a23
  refine wpList_nil (hKL3 _ _ (gk4 - 1) ?_ ?_)
  ·omega
  exact ⟨rfl, k + 1, by omega, has_next hq hb hbc, f24.sub (sx (sx (sx sn)))⟩
 refine C.condF f12 rfl ?_
 refine wp_exit (hK1 _ _ ?_)
 have f13 := f12.sub sn
 refine C.sk fun K9 hK9 => ?_
 refine L.ag f13 fun a14 f14 => ?_
 have f15 := f14.pk [4]
 refine wn hK9 (wp_ret ?_); (try simp only [xt, xb]); refine C.ret f15 rfl rfl ?_
 exact ⟨rfl, by rw [has_no hq (by omega)]⟩
end Go.Proofs.YtdfllmiokgoekaaGreatDoor
namespace Go.Proofs.YtdfllmiokgoekaaGreatDoor
open Go.RowKit Go.Hub
def Ss (w : World) (A : Option Addr) (l : List ByteArray) : Prop := Sl w A l.length 1 (l.map .string)
section
variable {w w' : World} {A : Option Addr} {l : List ByteArray} {x : ByteArray} {b off k c : Nat}
theorem Ss.kept (h : Ss w A l) (hk : Kept [] w w') : Ss w' A l := Sl.kept h hk
theorem Ss.addr (h : Ss w A l) (hk : k < l.length) : ∃ b off, A = some ⟨b, off, none⟩ := Sl.addr h (by omega)
theorem ss_cell (h : Ss w A l) (hA : A = some ⟨b, off, none⟩) (hx : l[k]? = some x) : w.cell? ⟨b, off + Int.toNat (k : Int) * 1, none⟩ = some (.string x) := by
  have hk := (List.getElem?_eq_some_iff.1 hx).1
  rw [Int.toNat_natCast, Nat.mul_one]
  exact Sl.cell h (by omega) hA (by simp [hx])
end
end Go.Proofs.YtdfllmiokgoekaaGreatDoor
namespace Go.Proofs.YtdfllmiokgoekaaGreatDoor
open Go.RowKit Go.Hub
def wildU (b : UInt8) : Bool := wildI b.toNat
def anyW (s : ByteArray) : Bool := s.toList.any wildU
theorem get_some {s : ByteArray} {j : Nat} {b : UInt8} (h : s[j]? = some b) : s.get! j = b := by
  by_cases hj : j < s.size
  · rw [getElem?_pos s j hj] at h
    injection h with h
    rw [← h]
    exact get_at s j hj
  rw [getElem?_neg s j hj] at h
  cases h
theorem dec_span {s : ByteArray} {pos : Nat} (hp : pos < s.size) : (∃ b, s[pos]? = some b ∧ b.toNat < 128 ∧ (Utf8.decode s pos).1 = b.toNat ∧ (Utf8.decode s pos).2 = 1) ∨
    (128 ≤ (Utf8.decode s pos).1 ∧ 1 ≤ (Utf8.decode s pos).2 ∧ pos + (Utf8.decode s pos).2 ≤ s.size ∧ ∀ j b, pos ≤ j → j < pos + (Utf8.decode s pos).2 → s[j]? = some b → 128 ≤ b.toNat) := by
  by_cases ha : (s[pos]'hp).toNat < 128
  · exact .inl ⟨_, getElem?_pos s pos hp, ha, by rw [decode_ascii s pos hp ha], by rw [decode_ascii s pos hp ha]⟩
  have hh := decode_high s pos hp (by omega)
  refine .inr ⟨hh.1, hh.2, ?_⟩
  have h0 : ∀ b, s[pos]? = some b → 128 ≤ b.toNat := fun b hb => by
    rw [getElem?_pos s pos hp] at hb
    injection hb with hb
    rw [← hb]; omega
  have key : ∀ k, (∀ i, 1 ≤ i → i < k → pos + i < s.size ∧ (s.get! (pos + i)).toNat / 64 = 2) → pos + k ≤ s.size ∨ k = 0 ∨ k = 1 → ∀ j b, pos ≤ j → j < pos + k → s[j]? = some b → 128 ≤ b.toNat := by
    intro k hk _ j b h1 h2 hb
    by_cases e : j = pos
    · subst e
      exact h0 b hb
    have := (hk (j - pos) (by omega) (by omega)).2
    rw [show pos + (j - pos) = j by omega, get_some hb] at this
    omega
  have sz : ∀ k, 1 ≤ k → (∀ i, 1 ≤ i → i < k → pos + i < s.size ∧ (s.get! (pos + i)).toNat / 64 = 2) → pos + k ≤ s.size := by
    intro k h1 hk
    by_cases e : k = 1
    · omega
    have := (hk (k - 1) (by omega) (by omega)).1
    omega
  suffices hs : ∀ i, 1 ≤ i → i < (Utf8.decode s pos).2 → pos + i < s.size ∧ (s.get! (pos + i)).toNat / 64 = 2 from ⟨sz _ hh.2 hs, key _ hs (.inl (sz _ hh.2 hs))⟩
  have hn : ¬ (s[pos]'hp).toNat < 128 := ha
  simp only [Utf8.decode, get_at s pos hp, hn, if_false]
  intro i h1
  repeat' split
  all_goals intro h2
  all_goals simp only [Bool.and_eq_true, decide_eq_true_eq, beq_iff_eq] at *
  all_goals have hi : i = 1 ∨ i = 2 ∨ i = 3 := by omega
  all_goals rcases hi with rfl | rfl | rfl
  all_goals first
    | (exfalso; omega)
    | exact ⟨by omega, by omega⟩
theorem wild_hi {b : UInt8} (h : 128 ≤ b.toNat) : wildU b = false := by unfold wildU wildI; simp; omega
theorem skip_to {s : ByteArray} {pos : Nat} (hp : pos < s.size) : pos + (Utf8.decode s pos).2 ≤ s.size ∧ 1 ≤ (Utf8.decode s pos).2 := by
  rcases dec_span hp with ⟨b, _, _, _, h⟩ | ⟨_, h1, h2, _⟩ <;> omega
theorem skip_next {s : ByteArray} {pos : Nat} (hp : pos < s.size) (hq : ∀ j b, j < pos → s[j]? = some b → wildU b = false) (h : wildI (((Utf8.decode s pos).1 : Nat) : Int) = false) : ∀ j b, j < pos + (Utf8.decode s pos).2 → s[j]? = some b → wildU b = false := by
  intro j b hj hb
  by_cases e : j < pos
  · exact hq j b e hb
  rcases dec_span hp with ⟨b', hb', _, h1, h2⟩ | ⟨_, _, _, h3⟩
  · obtain rfl : j = pos := by omega
    rw [hb] at hb'
    cases hb'
    rw [h1] at h
    exact h
  exact wild_hi (h3 j b (by omega) hj hb)
theorem skip_yes {s : ByteArray} {pos : Nat} (hp : pos < s.size) (h : wildI (((Utf8.decode s pos).1 : Nat) : Int) = true) : anyW s = true := by
  rcases dec_span hp with ⟨b, hb, _, h1, h2⟩ | ⟨h1, _⟩
  · rw [h1] at h
    unfold anyW
    rw [ByteArray.toList_eq]
    rw [byte_at, ← Array.getElem?_toList] at hb
    exact List.any_eq_true.2 ⟨b, List.mem_of_getElem? hb, h⟩
  unfold wildI at h
  simp at h
  omega
theorem skip_no {s : ByteArray} {pos : Nat} (hp : ¬ pos < s.size) (hq : ∀ j b, j < pos → s[j]? = some b → wildU b = false) : anyW s = false := by
  unfold anyW
  rw [ByteArray.toList_eq]
  rw [List.any_eq_false]
  intro b hb
  obtain ⟨j, hj, he⟩ := List.getElem_of_mem hb
  have := hq j b (by simp at hj; have : s.data.size = s.size := rfl; omega) (by rw [byte_at, ← Array.getElem?_toList, List.getElem?_eq_getElem hj, he])
  simp [this]
def IdxPost (s : ByteArray) (w : World) (e : Ending) (w' : World) : Prop := Kept [] w w' ∧ ∃ i, e = .returned (.int .i64 i) ∧ decide (0 ≤ i) = anyW s
theorem idxF_any (s : ByteArray) (w : World) : Calls Tryz.prog 100 #[.string s, .func (.func 72) #[] #[], .bool true] w (IdxPost s w) := by
 have HK : Kept [] w w := Kept.refl [] w
 refine C.enter Tryz.func100 rfl Tryz.ntmps100 rfl ?_
 intro a0 f0
 have f1 : Fr 21 a0 [(0, .string s), (1, .func (.func 72) #[] #[]), (2, .bool true)] := f0
 refine C.sk fun K0 hK0 => ?_
 refine L.ag f1 fun a2 f2 => ?_
 refine wn hK0 ?_
 have f3 := f2.pk [0, 1, 2, 6]
 refine wp_seq_k fun K1 hK1 => C.sk fun K2 hK2 => ?_
 refine L.mv f3 fun a4 f4 => ?_
 refine L.range f4 wantedN (by decide) U9 rfl fun a5 w1 g0 Ig0 kg0 log0 f5 => ?_
 have szw1 := kg0.size
 have ltg0 := Ig0.lt
 replace HK := HK.z kg0
 clear f0 f1 a0 f2 f3 a2 f4 a4 kg0
 refine wn hK2 ?_
 have f6 := f5.pk [1, 2, 6, 10]
 refine wp_block ?_
 clear f5
 refine C.loop (fun gk a W => ∃ pos : Nat, pos ≤ s.size ∧ s.size ≤ pos + gk ∧ (∀ j b, j < pos → s[j]? = some b → wildU b = false) ∧ Kept [] w W ∧ Iter W g0 s pos ∧ Fr 21 a [(1, .func (.func 72) #[] #[]), (2, .bool true), (10, .pointer (some ⟨g0, 0, none⟩))]) (s.size) ?_ ?_
 ·exact ⟨0, by omega, by omega, fun j b h => by omega, HK, Ig0, f6.sub (sx (sx (sx sn)))⟩
 intro gk4 a7 w2 hI KL3 hKL3
 obtain ⟨pos, hpl, hk, hq, HK, Ig0, f7⟩ := hI
 try clear f6
 refine C.sk fun K4 hK4 => ?_
 refine L.next f7 wantedN (by decide) rfl Ig0 fun a8 w3 IN3 ki3 f8 => ?_
 have szw3 := ki3.size
 replace HK := HK.trans ki3 (by intro x hx hlt; simp at hx; subst hx; (exfalso; omega))
 replace Ig0 := IN3
 clear f7 a7 ki3
 refine L.va f8 (E.extract f8 rfl nextV_ok) fun a9 f9 => ?_
 refine wn hK4 ?_
 have f10 := f9.pk [1, 2, 10, 11, 12]
 refine wp_seq_k fun K5 hK5 => ?_
 clear f8 a8 f9
 refine f10.splitD 12 rfl (fun h0 f11 => ?_) (fun h0 f11 => ?_)
 ·have hp : pos < s.size := by simpa using h0
  refine C.condT f11 rfl ?_
  refine wp_skip (hK5 _ _ ?_)
  have f12 := f11.pk [1, 2, 10, 11, 12]
  refine wp_block ?_
  refine C.sk fun K6 hK6 => ?_
  refine L.va f12 (E.extract f12 rfl (nextV_pos hp)) fun a13 f13 => ?_
  refine L.va f13 (E.extract f13 rfl (nextV_rune hp)) fun a14 f14 => ?_
  refine L.ag f14 fun a15 f15 => ?_
  refine L.ag f15 fun a16 f16 => ?_
  have f17 := f16.pk [1, 2, 7, 8, 10, 11, 12, 13, 14]
  refine wn hK6 (C.sk fun K7 hK7 => ?_)
  refine L.mv f17 fun a18 f18 => ?_
  refine L.mv f18 fun a19 f19 => ?_
  clear f10 f11 f12 a9 f13 a13 f14 a14 f15 a15 f16 f17 a16 f18 a18
  refine L.cl f19 (cv1_0 f19 rfl Tryz.call72 rfl) (wild_any _ _) ?_
  rintro e w3x ⟨rfl, rfl⟩
  refine ⟨_, rfl, fun a20 f20 => ?_⟩
  refine L.mv f20 fun a21 f21 => ?_
  refine L.va f21 (E.eqlB f21 U4 rfl rfl) fun a22 f22 => ?_
  refine wn hK7 ?_
  have f23 := f22.pk [1, 2, 7, 8, 10, 11, 12, 13, 14, 15, 16, 17, 18, 19]
  clear f19 a19 f20 a20 f21 a21 f22
  refine f23.splitD 19 rfl (fun h1 f24 => ?_) (fun h1 f24 => ?_)
  ·have h19 := h1
   refine C.condT f24 rfl ?_
   refine C.sk fun K8 hK8 => ?_
   refine L.mv f24 fun a25 f25 => ?_
   refine L.ag f25 fun a26 f26 => ?_
   have f27 := f26.pk [1, 2, 6, 7, 8, 10, 11, 12, 13, 14, 15, 16, 17, 18, 19, 20]
   refine wn hK8 (wp_ret ?_); (try simp only [xt, xb]); refine C.ret f27 rfl rfl ?_
   exact ⟨HK, _, rfl, by rw [skip_yes hp h19]; simp⟩
  have h19 := h1
  refine C.condF f24 rfl ?_
  clear f23
  refine wp_skip (hKL3 _ _ (gk4 - 1) ?_ ?_)
  ·omega
  exact ⟨pos + (Utf8.decode s pos).2, (skip_to hp).1, by have := (skip_to hp).2; omega, skip_next hp hq (by simpa using h19), HK, by rw [nextP_at hp] at Ig0; exact Ig0, f24.sub (sx (sx (sx sn)))⟩
 have hp : ¬ pos < s.size := by simpa using h0
 refine C.condF f11 rfl ?_
 refine wp_exit (hK1 _ _ ?_)
 have f12 := f11.sub sn
 refine C.sk fun K9 hK9 => ?_
 refine L.ag f12 fun a13 f13 => ?_
 have f14 := f13.pk [6]
 refine wn hK9 (wp_ret ?_); (try simp only [xt, xb]); refine C.ret f14 rfl rfl ?_
 exact ⟨HK, _, rfl, by rw [skip_no hp hq]; rfl⟩
theorem idx_any (s : ByteArray) (w : World) : Calls Tryz.prog 86 #[.string s, .func (.func 72) #[] #[]] w (IdxPost s w) := by
 have HK : Kept [] w w := Kept.refl [] w
 refine C.enter Tryz.func86 rfl Tryz.ntmps86 rfl ?_
 intro a0 f0
 have f1 : Fr 8 a0 [(0, .string s), (1, .func (.func 72) #[] #[])] := f0
 refine C.sk fun K0 hK0 => ?_
 refine L.ag f1 fun a2 f2 => ?_
 have f3 := f2.pk [0, 1, 4]
 refine wn hK0 (C.sk fun K1 hK1 => ?_)
 refine L.mv f3 fun a4 f4 => ?_
 refine L.mv f4 fun a5 f5 => ?_
 refine L.cl f5 (run_call Tryz.call100 (args3 f5 rfl rfl rfl)) (idxF_any s _) ?_
 clear f0 f1 a0 f2 f3 a2 f4 a4
 rintro e w1 ⟨kc1, i, rfl, hi⟩
 refine ⟨_, rfl, fun a6 f6 => ?_⟩
 have szw1 := kc1.size
 replace HK := HK.z kc1
 clear f5 a5 kc1
 refine L.ag f6 fun a7 f7 => ?_
 have f8 := f7.pk [4]
 refine wn hK1 (wp_ret ?_); (try simp only [xt, xb]); refine C.ret f8 rfl rfl ?_
 exact ⟨HK, i, rfl, hi⟩
theorem cont_any (s : ByteArray) (w : World) : Calls Tryz.prog 71 #[.string s, .func (.func 72) #[] #[]] w (fun e w' => Kept [] w w' ∧ e = .returned (.bool (anyW s))) := by
 have HK : Kept [] w w := Kept.refl [] w
 refine C.enter Tryz.func71 rfl Tryz.ntmps71 rfl ?_
 intro a0 f0
 have f1 : Fr 9 a0 [(0, .string s), (1, .func (.func 72) #[] #[])] := f0
 refine C.sk fun K0 hK0 => ?_
 refine L.ag f1 fun a2 f2 => ?_
 have f3 := f2.pk [0, 1, 4]
 refine wn hK0 (C.sk fun K1 hK1 => ?_)
 refine L.mv f3 fun a4 f4 => ?_
 refine L.mv f4 fun a5 f5 => ?_
 refine L.cl f5 (run_call Tryz.call86 (args2 f5 rfl rfl)) (idx_any s _) ?_
 clear f0 f1 a0 f2 f3 a2 f4 a4
 rintro e w1 ⟨kc1, i, rfl, hi⟩
 refine ⟨_, rfl, fun a6 f6 => ?_⟩
 have szw1 := kc1.size
 replace HK := HK.z kc1
 clear f5 a5 kc1
 refine L.va f6 (E.geq f6 rfl rfl) fun a7 f7 => ?_
 refine L.ag f7 fun a8 f8 => ?_
 have f9 := f8.pk [4]
 refine wn hK1 (wp_ret ?_); (try simp only [xt, xb]); refine C.ret f9 rfl rfl ?_
 exact ⟨HK, by rw [← hi]⟩
end Go.Proofs.YtdfllmiokgoekaaGreatDoor
namespace Go.Hub
open Go.Lib
def badL (l : List UInt8) : Bool := (decodeL l).1 == 65533 && (decodeL l).2 == 1
def chkf : Nat → Nat → List UInt8 → Int
  | 0, _, _ => -1
  | f + 1, i, l => if l = [] then -1 else if badL l || (decodeL l).1 == 0 then (i : Int) else chkf f (i + (decodeL l).2) (l.drop (decodeL l).2)
def chk (l : List UInt8) : Int := chkf l.length 0 l
theorem chkf_nil (f i : Nat) : chkf f i [] = -1 := by cases f <;> simp [chkf]
end Go.Hub
namespace Go.Hub
open Go.Lib Go.RowKit
def ac (l : List UInt8) (m : Nat) : Nat → Nat
  | 0 => 0
  | 1 => (l.getD 0 0).toNat % m
  | k + 2 => ac l m (k + 1) * 64 + (l.getD (k + 1) 0).toNat % 64
theorem ac_one (l : List UInt8) (m : Nat) : ac l m 1 = (l.getD 0 0).toNat % m := rfl
theorem ac_succ (l : List UInt8) (m k : Nat) (h : 1 ≤ k) : ac l m (k + 1) = ac l m k * 64 + (l.getD k 0).toNat % 64 := by
  obtain ⟨j, rfl⟩ : ∃ j, k = j + 1 := ⟨k - 1, by omega⟩
  rfl
def Cls (b0 n m least : Nat) : Prop := (192 ≤ b0 ∧ b0 < 224 ∧ n = 2 ∧ m = 32 ∧ least = 128) ∨ (224 ≤ b0 ∧ b0 < 240 ∧ n = 3 ∧ m = 16 ∧ least = 2048) ∨ (240 ≤ b0 ∧ b0 < 248 ∧ n = 4 ∧ m = 8 ∧ least = 65536)
theorem ac_bd {l : List UInt8} {n m least : Nat} (h : Cls (l.getD 0 0).toNat n m least) (k : Nat) (h1 : 1 ≤ k) (h2 : k ≤ n) : ac l m k ≤ 2097151 ∧ (k < n → ac l m k ≤ 32767) := by
  have e1 : ac l m 1 = (l.getD 0 0).toNat % m := rfl
  have e2 : ac l m 2 = ac l m 1 * 64 + (l.getD 1 0).toNat % 64 := rfl
  have e3 : ac l m 3 = ac l m 2 * 64 + (l.getD 2 0).toNat % 64 := rfl
  have e4 : ac l m 4 = ac l m 3 * 64 + (l.getD 3 0).toNat % 64 := rfl
  rcases h with ⟨_, _, rfl, rfl, _⟩ | ⟨_, _, rfl, rfl, _⟩ | ⟨_, _, rfl, rfl, _⟩
  · rcases (show k = 1 ∨ k = 2 by omega) with rfl | rfl <;> omega
  · rcases (show k = 1 ∨ k = 2 ∨ k = 3 by omega) with rfl | rfl | rfl <;> omega
  rcases (show k = 1 ∨ k = 2 ∨ k = 3 ∨ k = 4 by omega) with rfl | rfl | rfl | rfl <;> omega
def stepV (l : List UInt8) : Value := .tuple #[.int .i32 ((if badL l then 0 else (decodeL l).1 : Nat) : Int), .int .i64 ((decodeL l).2 : Int), .bool (!badL l)]
theorem stepV_bad {l : List UInt8} (h : decodeL l = (65533, 1)) : stepV l = .tuple #[.int .i32 0, .int .i64 1, .bool false] := by
  unfold stepV badL; rw [h]; rfl
theorem stepV_ok {l : List UInt8} {r n : Nat} (h : decodeL l = (r, n)) (hn : ¬ (r = 65533 ∧ n = 1)) : stepV l = .tuple #[.int .i32 r, .int .i64 n, .bool true] := by
  have hb : badL l = false := by
    unfold badL
    rw [h]
    simp
    intro h1 h2
    exact hn ⟨h1, h2⟩
  unfold stepV
  rw [hb, h]
  rfl
theorem dec_ascii {l : List UInt8} (h : (l.getD 0 0).toNat < 128) : decodeL l = ((l.getD 0 0).toNat, 1) := by
  rw [decodeL_N]; unfold decodeN; rw [if_pos h]
theorem dec_none {l : List UInt8} (h1 : 128 ≤ (l.getD 0 0).toNat) (h2 : (l.getD 0 0).toNat < 192 ∨ 248 ≤ (l.getD 0 0).toNat) : decodeL l = (65533, 1) := by
  have := (l.getD 0 0).toNat_lt
  rw [decodeL_N]; unfold decodeN
  rw [if_neg (by omega), if_neg (by omega), if_neg (by omega), if_neg (by omega)]
theorem dec_short {l : List UInt8} {n m least : Nat} (h : Cls (l.getD 0 0).toNat n m least) (hl : l.length < n) : decodeL l = (65533, 1) := by
  rw [decodeL_N]; unfold decodeN
  rcases h with ⟨_, _, rfl, rfl, _⟩ | ⟨_, _, rfl, rfl, _⟩ | ⟨_, _, rfl, rfl, _⟩
  · rw [if_neg (by omega), if_neg (by omega), if_neg (by omega), if_neg (by omega)]
  · rw [if_neg (by omega), if_neg (by omega), if_neg (by omega), if_neg (by omega)]
  rw [if_neg (by omega), if_neg (by omega), if_neg (by omega), if_neg (by omega)]
theorem dec_broken {l : List UInt8} {n m least k : Nat} (h : Cls (l.getD 0 0).toNat n m least) (h1 : 1 ≤ k) (h2 : k < n) (hb : (l.getD k 0).toNat / 64 ≠ 2) : decodeL l = (65533, 1) := by
  rw [decodeL_N]; unfold decodeN
  rcases h with ⟨_, _, rfl, rfl, _⟩ | ⟨_, _, rfl, rfl, _⟩ | ⟨_, _, rfl, rfl, _⟩
  · rcases (show k = 1 by omega) with rfl
    rw [if_neg (by omega), if_neg (by omega), if_neg (by omega), if_neg (by omega)]
  · rcases (show k = 1 ∨ k = 2 by omega) with rfl | rfl <;> rw [if_neg (by omega), if_neg (by omega), if_neg (by omega), if_neg (by omega)]
  rcases (show k = 1 ∨ k = 2 ∨ k = 3 by omega) with rfl | rfl | rfl <;> rw [if_neg (by omega), if_neg (by omega), if_neg (by omega), if_neg (by omega)]
theorem dec_whole {l : List UInt8} {n m least : Nat} (h : Cls (l.getD 0 0).toNat n m least) (hl : n ≤ l.length) (hc : ∀ k, 1 ≤ k → k < n → (l.getD k 0).toNat / 64 = 2) :
    decodeL l = if least ≤ ac l m n ∧ ac l m n ≤ 1114111 ∧ ¬ (55296 ≤ ac l m n ∧ ac l m n < 57344) then (ac l m n, n) else (65533, 1) := by
  have e1 : ac l m 1 = (l.getD 0 0).toNat % m := rfl
  have e2 : ac l m 2 = ac l m 1 * 64 + (l.getD 1 0).toNat % 64 := rfl
  have e3 : ac l m 3 = ac l m 2 * 64 + (l.getD 2 0).toNat % 64 := rfl
  have e4 : ac l m 4 = ac l m 3 * 64 + (l.getD 3 0).toNat % 64 := rfl
  have c1 := hc 1 (by omega)
  have c2 := hc 2 (by omega)
  have c3 := hc 3 (by omega)
  rw [decodeL_N]; unfold decodeN
  rcases h with ⟨_, _, rfl, rfl, rfl⟩ | ⟨_, _, rfl, rfl, rfl⟩ | ⟨_, _, rfl, rfl, rfl⟩
  · have c1 := c1 (by omega)
    rw [if_neg (by omega), if_pos (by omega)]
    split
    · rw [if_pos (by omega)]; exact Prod.ext (by dsimp only; omega) rfl
    rw [if_neg (by omega)]
  · have c1 := c1 (by omega)
    have c2 := c2 (by omega)
    rw [if_neg (by omega), if_neg (by omega), if_pos (by omega)]
    split
    · rw [if_pos (by omega)]; exact Prod.ext (by dsimp only; omega) rfl
    rw [if_neg (by omega)]
  have c1 := c1 (by omega)
  have c2 := c2 (by omega)
  have c3 := c3 (by omega)
  rw [if_neg (by omega), if_neg (by omega), if_neg (by omega), if_pos (by omega)]
  split
  · rw [if_pos (by omega)]; exact Prod.ext (by dsimp only; omega) rfl
  rw [if_neg (by omega)]
theorem u8_m5 : ∀ x : Fin 256, bits .and .u8 (x.val : Int) 31 = ((x.val % 32 : Nat) : Int) := by decide +kernel
theorem u8_m4 : ∀ x : Fin 256, bits .and .u8 (x.val : Int) 15 = ((x.val % 16 : Nat) : Int) := by decide +kernel
theorem u8_m3 : ∀ x : Fin 256, bits .and .u8 (x.val : Int) 7 = ((x.val % 8 : Nat) : Int) := by decide +kernel
theorem u8_m6 : ∀ x : Fin 256, bits .and .u8 (x.val : Int) 63 = ((x.val % 64 : Nat) : Int) := by decide +kernel
theorem u8_hi : ∀ x : Fin 256, bits .and .u8 (x.val : Int) 192 = ((x.val / 64 * 64 : Nat) : Int) := by decide +kernel
theorem wraps_i32 (n : Int) (h0 : 0 ≤ n) (h1 : n < 2 ^ 31) : IntKind.i32.wrap n = n := by rw [IntKind.wrap_i32]; omega
theorem i32_or (i : Nat) (a b : Int) (ha : 0 ≤ a) (ha1 : a < 2 ^ i) (hb : 0 ≤ b) (hb1 : b % 2 ^ i = 0) (hb2 : b < 2 ^ 30) (hi : a < 2 ^ 30) : bits .or .i32 b a = b + a :=
  bits_join .i32 31 (by decide) wraps_i32 i b a hb hb1 (by omega) ha ha1 (by omega)
end Go.Hub
namespace Go.Proofs.YtdfllmiokgoekaaGreatDoor
open Go.RowKit Go.Hub Go.Lib
theorem getD_some {l : List UInt8} {k : Nat} (h : k < l.length) : l[k]? = some (l.getD k 0) := by simp [List.getD, h]
section
variable (b off cap : Nat) (l : List UInt8) (w : World) (hne : 0 < l.length) (hbig : l.length ≤ maxLen)
  (hc : ∀ j, j < l.length → w.cell? ⟨b, off + j, none⟩ = some (.int .u8 ((l.getD j 0).toNat : Int)))
include hne hc hbig in
theorem step_ascii (h : (l.getD 0 0).toNat < 128) : Calls Tryz.prog 101 #[.slice (some ⟨b, off, none⟩) l.length cap] w fun e w' => e = .returned (stepV l) ∧ w' = w := by
  have h0 := hc 0 hne
  rw [Nat.add_zero] at h0
  have hlt := (l.getD 0 0).toNat_lt
  have hl2 : (0 : Int) < (l.length : Int) := by omega
  have HS := hid (stepV_ok (dec_ascii h) (by omega))
  obtain ⟨x, hx⟩ : ∃ x, x = (l.getD 0 0).toNat := ⟨_, rfl⟩
  rw [← hx] at h0 h hlt HS
  have hi : (x : Int) < 128 := by omega
  clear hc hx
  go_enter Tryz.func101, Tryz.ntmps101
  go_wp2
  go_ret3
  exact ⟨by rw [HS.out]; rfl, rfl⟩
include hne hc hbig in
theorem step_none (h1 : 128 ≤ (l.getD 0 0).toNat) (h2 : (l.getD 0 0).toNat < 192 ∨ 248 ≤ (l.getD 0 0).toNat) : Calls Tryz.prog 101 #[.slice (some ⟨b, off, none⟩) l.length cap] w fun e w' => e = .returned (stepV l) ∧ w' = w := by
  have h0 := hc 0 hne
  rw [Nat.add_zero] at h0
  have hlt := (l.getD 0 0).toNat_lt
  have hl2 : (0 : Int) < (l.length : Int) := by omega
  have HS := hid (stepV_bad (dec_none h1 h2))
  obtain ⟨x, hx⟩ : ∃ x, x = (l.getD 0 0).toNat := ⟨_, rfl⟩
  rw [← hx] at h0 h1 h2 hlt
  clear hc hx
  rcases h2 with h2 | h2
  · have hi : ¬ (x : Int) < 128 := by omega
    have hi2 : (x : Int) < 192 := by omega
    go_enter Tryz.func101, Tryz.ntmps101
    go_wp2
    go_ret3
    exact ⟨by rw [HS.out]; rfl, rfl⟩
  have hi : ¬ (x : Int) < 128 := by omega
  have hi2 : (248 : Int) ≤ x := by omega
  go_enter Tryz.func101, Tryz.ntmps101
  go_wp2
  go_ret3
  exact ⟨by rw [HS.out]; rfl, rfl⟩
include hne hc hbig in
theorem step_short (n m least : Nat) (h : Cls (l.getD 0 0).toNat n m least) (hl : l.length < n) : Calls Tryz.prog 101 #[.slice (some ⟨b, off, none⟩) l.length cap] w fun e w' => e = .returned (stepV l) ∧ w' = w := by
  have h0 := hc 0 hne
  rw [Nat.add_zero] at h0
  have hlt := (l.getD 0 0).toNat_lt
  have hl2 : (0 : Int) < (l.length : Int) := by omega
  have HS := hid (stepV_bad (dec_short h hl))
  obtain ⟨x, hx⟩ : ∃ x, x = (l.getD 0 0).toNat := ⟨_, rfl⟩
  rw [← hx] at h0 h hlt
  have hm5 := u8_m5 ⟨x, hlt⟩
  have hm4 := u8_m4 ⟨x, hlt⟩
  have hm3 := u8_m3 ⟨x, hlt⟩
  clear hc hx
  rcases h with ⟨a1, a2, rfl, rfl, rfl⟩ | ⟨a1, a2, rfl, rfl, rfl⟩ | ⟨a1, a2, rfl, rfl, rfl⟩
  all_goals
    have hi : ¬ (x : Int) < 128 := by omega
    have hi2 : (192 : Int) ≤ x := by omega
    have hi3 : (l.length : Int) < 4 := by omega
  · have hi4 : (x : Int) < 224 := by omega
    have hi5 : (l.length : Int) < 2 := by omega
    go_enter Tryz.func101, Tryz.ntmps101
    go_wp2
    go_ret3
    exact ⟨by rw [HS.out]; rfl, rfl⟩
  · have hi4 : (224 : Int) ≤ x := by omega
    have hi6 : (x : Int) < 240 := by omega
    have hi5 : (l.length : Int) < 3 := by omega
    go_enter Tryz.func101, Tryz.ntmps101
    go_wp2
    go_ret3
    exact ⟨by rw [HS.out]; rfl, rfl⟩
  have hi4 : (240 : Int) ≤ x := by omega
  have hi6 : (x : Int) < 248 := by omega
  go_enter Tryz.func101, Tryz.ntmps101
  go_wp2
  go_ret3
  exact ⟨by rw [HS.out]; rfl, rfl⟩
end
end Go.Proofs.YtdfllmiokgoekaaGreatDoor
namespace Go.Proofs.YtdfllmiokgoekaaGreatDoor
open Go.RowKit Go.Hub Go.Lib
section
variable (b off cap : Nat) (l : List UInt8) (w : World) (hne : 0 < l.length) (hbig : l.length ≤ maxLen)
  (hc : ∀ j, j < l.length → w.cell? ⟨b, off + j, none⟩ = some (.int .u8 ((l.getD j 0).toNat : Int)))
include hne hc hbig in
theorem step_2 (ha : 192 ≤ (l.getD 0 0).toNat) (hb : (l.getD 0 0).toNat < 224) (hl : 2 ≤ l.length) : Calls Tryz.prog 101 #[.slice (some ⟨b, off, none⟩) l.length cap] w fun e w' => e = .returned (stepV l) ∧ w' = w := by
  have hcl : Cls (l.getD 0 0).toNat 2 32 128 := by unfold Cls; omega
  have h0 := hc 0 hne
  rw [Nat.add_zero] at h0
  have HC := hid hc
  have HB := hid (fun k (h1 : 1 ≤ k) (h2 : k ≤ 2) => ac_bd hcl k h1 h2)
  have HK := hid hcl
  have hlt := (l.getD 0 0).toNat_lt
  have hl2 : (0 : Int) < (l.length : Int) := by omega
  have H1 := hid (ac_one l 32)
  obtain ⟨x, hx⟩ : ∃ x, x = (l.getD 0 0).toNat := ⟨_, rfl⟩
  rw [← hx] at h0 hlt H1 ha hb
  have hm := u8_m5 ⟨x, hlt⟩
  unfold maxLen at hbig
  clear hc hx hcl
  have hi : ¬ (x : Int) < 128 := by omega
  have hi2 : (192 : Int) ≤ x := by omega
  have hi4 : (x : Int) < 224 := by omega
  have hi5 : ¬ (l.length : Int) < 2 := by omega
  go_enter Tryz.func101, Tryz.ntmps101
  go_wp2
  clear hm
  go_loopg [8, 9] 1 (fun g r i wr => ∃ k : Nat, 1 ≤ k ∧ k + g = 2 ∧ i = .int .i64 k ∧ r = .int .i32 (ac l 32 k) ∧ (∀ j, 1 ≤ j → j < k → (l.getD j 0).toNat / 64 = 2) ∧ w = wr)
  case atStart => exact ⟨1, by omega, rfl, rfl, by rw [H1.out]; rfl, fun j h1 h2 => by omega, rfl⟩
  case round =>
    obtain ⟨k, hk1, hk2, rfl, rfl, hcont, rfl⟩ := hrel
    have HCT := hid hcont
    have hbd := HB.out k hk1 (by omega)
    obtain ⟨r, hr⟩ : ∃ r, r = ac l 32 k := ⟨_, rfl⟩
    rw [← hr] at hbd ⊢
    have HR := hid hr
    clear hcont hr
    by_cases hlt2 : k < 2
    · have hcell := HC.out k (by omega)
      have hk3 : (k : Int) < 2 := by omega
      have hk4 : (k : Int) < (l.length : Int) := by omega
      have hzl := (l.getD k 0).toNat_lt
      have hr3 := hbd.2 hlt2
      obtain ⟨z, hz⟩ : ∃ z, z = (l.getD k 0).toNat := ⟨_, rfl⟩
      rw [← hz] at hcell hzl
      have HZ := hid hz
      have hmh := u8_hi ⟨z, hzl⟩
      have hml := u8_m6 ⟨z, hzl⟩
      simp only [] at hmh hml
      have hor : bits .or .i32 ((r : Int) * 64) ((z % 64 : Nat) : Int) = (r : Int) * 64 + ((z % 64 : Nat) : Int) := i32_or 6 _ _ (by omega) (by omega) (by omega) (by omega) (by omega) (by omega)
      have HI := hid hk2
      clear hz hk2 hbd
      by_cases hz2 : z / 64 = 2
      · have hq : ((z / 64 * 64 : Nat) : Int) = 128 := by omega
        rw [hq] at hmh
        have HQ := hid hz2
        clear hz2 hq
        go_wp2
        go_roundg (gk - 1)
        case measure => have := HI.out; omega
        case rel =>
          refine ⟨k + 1, by omega, by have := HI.out; omega, by go_num, ?_, fun j h1 h2 => ?_, rfl⟩
          · rw [ac_succ l 32 k hk1, ← HR.out, ← HZ.out]
            congr 1
          rcases Nat.lt_or_ge j k with h | h
          · exact HCT.out j h1 h
          obtain rfl : j = k := by omega
          rw [← HZ.out]; exact HQ.out
      have hq : (((z / 64 * 64 : Nat) : Int) != 128) = true := by simp; omega
      have HS := hid (stepV_bad (dec_broken HK.out hk1 hlt2 (by rw [← HZ.out]; exact hz2)))
      clear hz2
      go_wp2
      go_ret3
      exact ⟨by rw [HS.out]; rfl, rfl⟩
    obtain rfl : k = 2 := by omega
    have HD := hid (dec_whole HK.out hl HCT.out)
    rw [← HR.out] at HD
    clear hlt2 hk2
    have hr9 := hbd.1
    clear hbd
    by_cases hg : 128 ≤ r ∧ r ≤ 1114111 ∧ ¬ (55296 ≤ r ∧ r < 57344)
    · have HS := hid (stepV_ok (HD.out.trans (if_pos hg)) (by omega))
      obtain ⟨g1, g2, g3⟩ := hg
      have i1 : ¬ (r : Int) < 128 := by omega
      have i2 : ¬ (1114111 : Int) < r := by omega
      by_cases g4 : r < 55296
      · have i3 : ¬ (55296 : Int) ≤ r := by omega
        clear g1 g2 g3 g4
        go_wp2
        go_ret3
        exact ⟨by rw [HS.out]; rfl, rfl⟩
      have i3 : (55296 : Int) ≤ r := by omega
      have i4 : ¬ (r : Int) < 57344 := by omega
      clear g1 g2 g3 g4
      go_wp2
      go_ret3
      exact ⟨by rw [HS.out]; rfl, rfl⟩
    have HS := hid (stepV_bad (HD.out.trans (if_neg hg)))
    by_cases g1 : r < 128
    · have i1 : (r : Int) < 128 := by omega
      clear g1 hg
      go_wp2
      all_goals (go_ret3; exact ⟨by rw [HS.out]; rfl, rfl⟩)
    have i1 : ¬ (r : Int) < 128 := by omega
    by_cases g2 : r ≤ 1114111
    · have i2 : ¬ (1114111 : Int) < r := by omega
      have i3 : (55296 : Int) ≤ r := by omega
      have i4 : (r : Int) < 57344 := by omega
      clear g1 hg g2
      go_wp2
      go_ret3
      exact ⟨by rw [HS.out]; rfl, rfl⟩
    have i2 : (1114111 : Int) < r := by omega
    clear g1 hg g2
    go_wp2
    all_goals (go_ret3; exact ⟨by rw [HS.out]; rfl, rfl⟩)
include hne hc hbig in
theorem step_3 (ha : 224 ≤ (l.getD 0 0).toNat) (hb : (l.getD 0 0).toNat < 240) (hl : 3 ≤ l.length) : Calls Tryz.prog 101 #[.slice (some ⟨b, off, none⟩) l.length cap] w fun e w' => e = .returned (stepV l) ∧ w' = w := by
  have hcl : Cls (l.getD 0 0).toNat 3 16 2048 := by unfold Cls; omega
  have h0 := hc 0 hne
  rw [Nat.add_zero] at h0
  have HC := hid hc
  have HB := hid (fun k (h1 : 1 ≤ k) (h2 : k ≤ 3) => ac_bd hcl k h1 h2)
  have HK := hid hcl
  have hlt := (l.getD 0 0).toNat_lt
  have hl2 : (0 : Int) < (l.length : Int) := by omega
  have H1 := hid (ac_one l 16)
  obtain ⟨x, hx⟩ : ∃ x, x = (l.getD 0 0).toNat := ⟨_, rfl⟩
  rw [← hx] at h0 hlt H1 ha hb
  have hm := u8_m4 ⟨x, hlt⟩
  unfold maxLen at hbig
  clear hc hx hcl
  have hi : ¬ (x : Int) < 128 := by omega
  have hi2 : (224 : Int) ≤ x := by omega
  have hi4 : (x : Int) < 240 := by omega
  have hi5 : ¬ (l.length : Int) < 3 := by omega
  go_enter Tryz.func101, Tryz.ntmps101
  go_wp2
  clear hm
  go_loopg [8, 9] 2 (fun g r i wr => ∃ k : Nat, 1 ≤ k ∧ k + g = 3 ∧ i = .int .i64 k ∧ r = .int .i32 (ac l 16 k) ∧ (∀ j, 1 ≤ j → j < k → (l.getD j 0).toNat / 64 = 2) ∧ w = wr)
  case atStart => exact ⟨1, by omega, rfl, rfl, by rw [H1.out]; rfl, fun j h1 h2 => by omega, rfl⟩
  case round =>
    obtain ⟨k, hk1, hk2, rfl, rfl, hcont, rfl⟩ := hrel
    have HCT := hid hcont
    have hbd := HB.out k hk1 (by omega)
    obtain ⟨r, hr⟩ : ∃ r, r = ac l 16 k := ⟨_, rfl⟩
    rw [← hr] at hbd ⊢
    have HR := hid hr
    clear hcont hr
    by_cases hlt2 : k < 3
    · have hcell := HC.out k (by omega)
      have hk3 : (k : Int) < 3 := by omega
      have hk4 : (k : Int) < (l.length : Int) := by omega
      have hzl := (l.getD k 0).toNat_lt
      have hr3 := hbd.2 hlt2
      obtain ⟨z, hz⟩ : ∃ z, z = (l.getD k 0).toNat := ⟨_, rfl⟩
      rw [← hz] at hcell hzl
      have HZ := hid hz
      have hmh := u8_hi ⟨z, hzl⟩
      have hml := u8_m6 ⟨z, hzl⟩
      simp only [] at hmh hml
      have hor : bits .or .i32 ((r : Int) * 64) ((z % 64 : Nat) : Int) = (r : Int) * 64 + ((z % 64 : Nat) : Int) := i32_or 6 _ _ (by omega) (by omega) (by omega) (by omega) (by omega) (by omega)
      have HI := hid hk2
      clear hz hk2 hbd
      by_cases hz2 : z / 64 = 2
      · have hq : ((z / 64 * 64 : Nat) : Int) = 128 := by omega
        rw [hq] at hmh
        have HQ := hid hz2
        clear hz2 hq
        go_wp2
        go_roundg (gk - 1)
        case measure => have := HI.out; omega
        case rel =>
          refine ⟨k + 1, by omega, by have := HI.out; omega, by go_num, ?_, fun j h1 h2 => ?_, rfl⟩
          · rw [ac_succ l 16 k hk1, ← HR.out, ← HZ.out]
            congr 1
          rcases Nat.lt_or_ge j k with h | h
          · exact HCT.out j h1 h
          obtain rfl : j = k := by omega
          rw [← HZ.out]; exact HQ.out
      have hq : (((z / 64 * 64 : Nat) : Int) != 128) = true := by simp; omega
      have HS := hid (stepV_bad (dec_broken HK.out hk1 hlt2 (by rw [← HZ.out]; exact hz2)))
      clear hz2
      go_wp2
      go_ret3
      exact ⟨by rw [HS.out]; rfl, rfl⟩
    obtain rfl : k = 3 := by omega
    have HD := hid (dec_whole HK.out hl HCT.out)
    rw [← HR.out] at HD
    clear hlt2 hk2
    have hr9 := hbd.1
    clear hbd
    by_cases hg : 2048 ≤ r ∧ r ≤ 1114111 ∧ ¬ (55296 ≤ r ∧ r < 57344)
    · have HS := hid (stepV_ok (HD.out.trans (if_pos hg)) (by omega))
      obtain ⟨g1, g2, g3⟩ := hg
      have i1 : ¬ (r : Int) < 2048 := by omega
      have i2 : ¬ (1114111 : Int) < r := by omega
      by_cases g4 : r < 55296
      · have i3 : ¬ (55296 : Int) ≤ r := by omega
        clear g1 g2 g3 g4
        go_wp2
        go_ret3
        exact ⟨by rw [HS.out]; rfl, rfl⟩
      have i3 : (55296 : Int) ≤ r := by omega
      have i4 : ¬ (r : Int) < 57344 := by omega
      clear g1 g2 g3 g4
      go_wp2
      go_ret3
      exact ⟨by rw [HS.out]; rfl, rfl⟩
    have HS := hid (stepV_bad (HD.out.trans (if_neg hg)))
    by_cases g1 : r < 2048
    · have i1 : (r : Int) < 2048 := by omega
      clear g1 hg
      go_wp2
      all_goals (go_ret3; exact ⟨by rw [HS.out]; rfl, rfl⟩)
    have i1 : ¬ (r : Int) < 2048 := by omega
    by_cases g2 : r ≤ 1114111
    · have i2 : ¬ (1114111 : Int) < r := by omega
      have i3 : (55296 : Int) ≤ r := by omega
      have i4 : (r : Int) < 57344 := by omega
      clear g1 hg g2
      go_wp2
      go_ret3
      exact ⟨by rw [HS.out]; rfl, rfl⟩
    have i2 : (1114111 : Int) < r := by omega
    clear g1 hg g2
    go_wp2
    all_goals (go_ret3; exact ⟨by rw [HS.out]; rfl, rfl⟩)
include hne hc hbig in
theorem step_4 (ha : 240 ≤ (l.getD 0 0).toNat) (hb : (l.getD 0 0).toNat < 248) (hl : 4 ≤ l.length) : Calls Tryz.prog 101 #[.slice (some ⟨b, off, none⟩) l.length cap] w fun e w' => e = .returned (stepV l) ∧ w' = w := by
  have hcl : Cls (l.getD 0 0).toNat 4 8 65536 := by unfold Cls; omega
  have h0 := hc 0 hne
  rw [Nat.add_zero] at h0
  have HC := hid hc
  have HB := hid (fun k (h1 : 1 ≤ k) (h2 : k ≤ 4) => ac_bd hcl k h1 h2)
  have HK := hid hcl
  have hlt := (l.getD 0 0).toNat_lt
  have hl2 : (0 : Int) < (l.length : Int) := by omega
  have H1 := hid (ac_one l 8)
  obtain ⟨x, hx⟩ : ∃ x, x = (l.getD 0 0).toNat := ⟨_, rfl⟩
  rw [← hx] at h0 hlt H1 ha hb
  have hm := u8_m3 ⟨x, hlt⟩
  unfold maxLen at hbig
  clear hc hx hcl
  have hi : ¬ (x : Int) < 128 := by omega
  have hi2 : (240 : Int) ≤ x := by omega
  have hi4 : (x : Int) < 248 := by omega
  have hi5 : ¬ (l.length : Int) < 4 := by omega
  go_enter Tryz.func101, Tryz.ntmps101
  go_wp2
  clear hm
  go_loopg [8, 9] 3 (fun g r i wr => ∃ k : Nat, 1 ≤ k ∧ k + g = 4 ∧ i = .int .i64 k ∧ r = .int .i32 (ac l 8 k) ∧ (∀ j, 1 ≤ j → j < k → (l.getD j 0).toNat / 64 = 2) ∧ w = wr)
  case atStart => exact ⟨1, by omega, rfl, rfl, by rw [H1.out]; rfl, fun j h1 h2 => by omega, rfl⟩
  case round =>
    obtain ⟨k, hk1, hk2, rfl, rfl, hcont, rfl⟩ := hrel
    have HCT := hid hcont
    have hbd := HB.out k hk1 (by omega)
    obtain ⟨r, hr⟩ : ∃ r, r = ac l 8 k := ⟨_, rfl⟩
    rw [← hr] at hbd ⊢
    have HR := hid hr
    clear hcont hr
    by_cases hlt2 : k < 4
    · have hcell := HC.out k (by omega)
      have hk3 : (k : Int) < 4 := by omega
      have hk4 : (k : Int) < (l.length : Int) := by omega
      have hzl := (l.getD k 0).toNat_lt
      have hr3 := hbd.2 hlt2
      obtain ⟨z, hz⟩ : ∃ z, z = (l.getD k 0).toNat := ⟨_, rfl⟩
      rw [← hz] at hcell hzl
      have HZ := hid hz
      have hmh := u8_hi ⟨z, hzl⟩
      have hml := u8_m6 ⟨z, hzl⟩
      simp only [] at hmh hml
      have hor : bits .or .i32 ((r : Int) * 64) ((z % 64 : Nat) : Int) = (r : Int) * 64 + ((z % 64 : Nat) : Int) := i32_or 6 _ _ (by omega) (by omega) (by omega) (by omega) (by omega) (by omega)
      have HI := hid hk2
      clear hz hk2 hbd
      by_cases hz2 : z / 64 = 2
      · have hq : ((z / 64 * 64 : Nat) : Int) = 128 := by omega
        rw [hq] at hmh
        have HQ := hid hz2
        clear hz2 hq
        go_wp2
        go_roundg (gk - 1)
        case measure => have := HI.out; omega
        case rel =>
          refine ⟨k + 1, by omega, by have := HI.out; omega, by go_num, ?_, fun j h1 h2 => ?_, rfl⟩
          · rw [ac_succ l 8 k hk1, ← HR.out, ← HZ.out]
            congr 1
          rcases Nat.lt_or_ge j k with h | h
          · exact HCT.out j h1 h
          obtain rfl : j = k := by omega
          rw [← HZ.out]; exact HQ.out
      have hq : (((z / 64 * 64 : Nat) : Int) != 128) = true := by simp; omega
      have HS := hid (stepV_bad (dec_broken HK.out hk1 hlt2 (by rw [← HZ.out]; exact hz2)))
      clear hz2
      go_wp2
      go_ret3
      exact ⟨by rw [HS.out]; rfl, rfl⟩
    obtain rfl : k = 4 := by omega
    have HD := hid (dec_whole HK.out hl HCT.out)
    rw [← HR.out] at HD
    clear hlt2 hk2
    have hr9 := hbd.1
    clear hbd
    by_cases hg : 65536 ≤ r ∧ r ≤ 1114111 ∧ ¬ (55296 ≤ r ∧ r < 57344)
    · have HS := hid (stepV_ok (HD.out.trans (if_pos hg)) (by omega))
      obtain ⟨g1, g2, g3⟩ := hg
      have i1 : ¬ (r : Int) < 65536 := by omega
      have i2 : ¬ (1114111 : Int) < r := by omega
      by_cases g4 : r < 55296
      · have i3 : ¬ (55296 : Int) ≤ r := by omega
        clear g1 g2 g3 g4
        go_wp2
        go_ret3
        exact ⟨by rw [HS.out]; rfl, rfl⟩
      have i3 : (55296 : Int) ≤ r := by omega
      have i4 : ¬ (r : Int) < 57344 := by omega
      clear g1 g2 g3 g4
      go_wp2
      go_ret3
      exact ⟨by rw [HS.out]; rfl, rfl⟩
    have HS := hid (stepV_bad (HD.out.trans (if_neg hg)))
    by_cases g1 : r < 65536
    · have i1 : (r : Int) < 65536 := by omega
      clear g1 hg
      go_wp2
      all_goals (go_ret3; exact ⟨by rw [HS.out]; rfl, rfl⟩)
    have i1 : ¬ (r : Int) < 65536 := by omega
    by_cases g2 : r ≤ 1114111
    · have i2 : ¬ (1114111 : Int) < r := by omega
      have i3 : (55296 : Int) ≤ r := by omega
      have i4 : (r : Int) < 57344 := by omega
      clear g1 hg g2
      go_wp2
      go_ret3
      exact ⟨by rw [HS.out]; rfl, rfl⟩
    have i2 : (1114111 : Int) < r := by omega
    clear g1 hg g2
    go_wp2
    all_goals (go_ret3; exact ⟨by rw [HS.out]; rfl, rfl⟩)
include hne hc hbig in
theorem step_any : Calls Tryz.prog 101 #[.slice (some ⟨b, off, none⟩) l.length cap] w fun e w' => e = .returned (stepV l) ∧ w' = w := by
  by_cases h1 : (l.getD 0 0).toNat < 128
  · exact step_ascii b off cap l w hne hbig hc h1
  by_cases h2 : (l.getD 0 0).toNat < 192
  · exact step_none b off cap l w hne hbig hc (by omega) (.inl h2)
  by_cases h3 : 248 ≤ (l.getD 0 0).toNat
  · exact step_none b off cap l w hne hbig hc (by omega) (.inr h3)
  by_cases h4 : (l.getD 0 0).toNat < 224
  · by_cases hl : l.length < 2
    · exact step_short b off cap l w hne hbig hc 2 32 128 (by unfold Cls; omega) hl
    exact step_2 b off cap l w hne hbig hc (by omega) h4 (by omega)
  by_cases h5 : (l.getD 0 0).toNat < 240
  · by_cases hl : l.length < 3
    · exact step_short b off cap l w hne hbig hc 3 16 2048 (by unfold Cls; omega) hl
    exact step_3 b off cap l w hne hbig hc (by omega) h5 (by omega)
  by_cases hl : l.length < 4
  · exact step_short b off cap l w hne hbig hc 4 8 65536 (by unfold Cls; omega) hl
  exact step_4 b off cap l w hne hbig hc (by omega) (by omega) (by omega)
end
end Go.Proofs.YtdfllmiokgoekaaGreatDoor
namespace Go.Proofs.YtdfllmiokgoekaaGreatDoor
open Go.Shelf
def u8ren : Ren := ⟨fun | 32 => 98 | 49 => 107 | n => n, fun | 25 => 115 | 30 => 28 | 33 => 130 | 66 => 146 | 68 => 148 | 69 => 149 | n => n, fun | 2 => 0 | 3 => 1 | n => n⟩
theorem u8lays : Lays7.n32 Tryz.prog u8ren := {
  mixed := by kernel_rfl
  f32 := by kernel_rfl
  f49 := by kernel_rfl
  t0 := by kernel_rfl
  a0 := fun _ => by kernel_rfl
  z0 := fun _ => by kernel_rfl
  v0 := fun _ => by kernel_rfl
  i0 := by kernel_rfl
  t3 := by kernel_rfl
  a3 := fun _ => by kernel_rfl
  z3 := fun _ => by kernel_rfl
  v3 := fun _ => by kernel_rfl
  i3 := by kernel_rfl
  t4 := by kernel_rfl
  a4 := fun _ => by kernel_rfl
  z4 := fun _ => by kernel_rfl
  v4 := fun _ => by kernel_rfl
  i4 := by kernel_rfl
  t5 := by kernel_rfl
  a5 := fun _ => by kernel_rfl
  z5 := fun _ => by kernel_rfl
  v5 := fun _ => by kernel_rfl
  i5 := by kernel_rfl
  t21 := by kernel_rfl
  a21 := fun _ => by kernel_rfl
  z21 := fun _ => by kernel_rfl
  v21 := fun _ => by kernel_rfl
  i21 := by kernel_rfl
  t25 := by kernel_rfl
  a25 := fun _ => by kernel_rfl
  z25 := fun _ => by kernel_rfl
  v25 := fun _ => by kernel_rfl
  i25 := by kernel_rfl
  t30 := by kernel_rfl
  a30 := fun _ => by kernel_rfl
  z30 := fun _ => by kernel_rfl
  v30 := fun _ => by kernel_rfl
  i30 := by kernel_rfl
  t33 := by kernel_rfl
  a33 := fun _ => by kernel_rfl
  z33 := fun _ => by kernel_rfl
  v33 := fun _ => by kernel_rfl
  i33 := by kernel_rfl
  t66 := by kernel_rfl
  a66 := fun _ => by kernel_rfl
  z66 := fun _ => by kernel_rfl
  t68 := by kernel_rfl
  a68 := fun _ => by kernel_rfl
  z68 := fun _ => by kernel_rfl
  v68 := fun _ => by kernel_rfl
  i68 := by kernel_rfl
  t69 := by kernel_rfl
  a69 := fun _ => by kernel_rfl
  z69 := fun _ => by kernel_rfl
  v69 := fun _ => by kernel_rfl
  i69 := by kernel_rfl
  g2 := by kernel_rfl
  g3 := by kernel_rfl
}
end Go.Proofs.YtdfllmiokgoekaaGreatDoor
namespace Go.Proofs.YtdfllmiokgoekaaGreatDoor
open Go.RowKit Go.Hub Go.Lib
def Tabs (w : World) : Prop := Lib.Utf8Tabs 0 1 w
theorem Tabs.size {w : World} (h : Tabs w) : 2 ≤ w.heap.size := by
  have : 1 < w.heap.size := World.block_lt_of_cell? w _ (h.2 0 (by omega)).1
  omega
theorem Tabs.below {w w' : World} {B : Nat} (h : Tabs w) (hb : Below B w w') (hB : 2 ≤ B) : Tabs w' :=
  ⟨fun c hc => (hb.cell (p := ⟨0, c, none⟩) (by show 0 < B; omega)).trans (h.1 c hc), fun i hi => ⟨(hb.cell (p := ⟨1, 2 * i, none⟩) (by show 1 < B; omega)).trans (h.2 i hi).1, (hb.cell (p := ⟨1, 2 * i + 1, none⟩) (by show 1 < B; omega)).trans (h.2 i hi).2⟩⟩
theorem Tabs.old {w w' : World} (h : Tabs w) (hb : Below w.heap.size w w') : Tabs w' := h.below hb h.size
theorem get_getD (l : List UInt8) (j : Nat) : (⟨l.toArray⟩ : ByteArray).get! j = l.getD j 0 := by
  rw [← getD_get!']
theorem dec_any (b off cap : Nat) (l : List UInt8) (w : World) (hne : 0 < l.length) (hT : Tabs w) (hc : ∀ j, j < l.length → w.cell? ⟨b, off + j, none⟩ = some (.int .u8 ((l.getD j 0).toNat : Int))) :
    Calls Tryz.prog 98 #[.slice (some ⟨b, off, none⟩) l.length cap] w fun e w' => e = .returned (.tuple #[.int .i32 (decodeL l).1, .int .i64 (decodeL l).2]) ∧ Below w.heap.size w w' := by
  have hs : (⟨l.toArray⟩ : ByteArray).size = l.length := by show l.toArray.size = l.length; simp
  have h := Any7.utf8_DecodeRune u8lays ⟨l.toArray⟩ b off cap w hT (fun j hj => by rw [hs] at hj; rw [get_getD]; exact hc j hj)
  have e : Lib.decodeGo (⟨l.toArray⟩ : ByteArray) = decodeL l := by
    unfold Lib.decodeGo
    rw [if_neg (by rw [hs]; omega)]
    rfl
  rw [hs, e] at h
  exact h
theorem Bs_cells {E : List TypeId} {B : Nat} {w : World} {A : Option Addr} {n : Nat} {l : List UInt8} (h : Bs E B w A n l) (hn : 0 < n) : ∃ b off, A = some ⟨b, off, none⟩ ∧ ∀ j, j < n → w.cell? ⟨b, off + j, none⟩ = some (.int .u8 ((l.getD j 0).toNat : Int)) := by
  obtain ⟨b, off, e, _, _, hc⟩ := h.2 hn
  exact ⟨b, off, e, fun j hj => hc j _ (getD_some (by rw [h.1]; exact hj))⟩
theorem drop_cells {b off : Nat} {w : World} {l : List UInt8} (hc : ∀ j, j < l.length → w.cell? ⟨b, off + j, none⟩ = some (.int .u8 ((l.getD j 0).toNat : Int))) (i : Nat) :
    ∀ j, j < (l.drop i).length → w.cell? ⟨b, off + i + j, none⟩ = some (.int .u8 (((l.drop i).getD j 0).toNat : Int)) := fun j hj => by
  rw [getD_dropU, Nat.add_assoc]
  exact hc _ (by rw [List.length_drop] at hj; omega)
theorem chkf_at (l : List UInt8) (f i : Nat) (hi : i < l.length) (hf : l.length - i ≤ f) :
    ∃ f', f = f' + 1 ∧ chkf f i (l.drop i) = if badL (l.drop i) || (decodeL (l.drop i)).1 == 0 then (i : Int) else chkf f' (i + (decodeL (l.drop i)).2) (l.drop (i + (decodeL (l.drop i)).2)) := by
  obtain ⟨f', rfl⟩ : ∃ f', f = f' + 1 := ⟨f - 1, by omega⟩
  refine ⟨f', rfl, ?_⟩
  have hne : l.drop i ≠ [] := by
    intro h
    have := congrArg List.length h
    simp at this
    omega
  simp only [chkf]
  rw [if_neg hne, List.drop_drop]
theorem chkR_any (E : List TypeId) (B : Nat) (A : Option Addr) (cap : Nat) (l : List UInt8) (w : World) (h : Bs E B w A l.length l) (hl : l.length ≤ cap) (hcap : cap ≤ maxLen) :
    Calls Tryz.prog 87 #[.slice A l.length cap] w fun e w' => e = .returned (.int .i64 (chk l)) ∧ w' = w := by
  unfold maxLen at hcap
  go_enter Tryz.func87, Tryz.ntmps87
  go_wp2
  go_loopg [3] l.length (fun g v wr => ∃ i f : Nat, i + g = l.length ∧ v = .int .i64 i ∧ l.length - i ≤ f ∧ chkf f i (l.drop i) = chk l ∧ w = wr)
  case atStart => exact ⟨0, l.length, by omega, rfl, by omega, by simp [chk], rfl⟩
  case round =>
    obtain ⟨i, f, hi, rfl, hf, hk, rfl⟩ := hrel
    have HK := hid hk
    clear hk
    by_cases hlt : i < l.length
    · obtain ⟨b, off, rfl, hcell⟩ := Bs_cells h (by omega)
      have HC := hid hcell
      obtain ⟨f', rfl, hstep⟩ := chkf_at l f i hlt hf
      have HS := hid hstep
      have HI := hid hi
      have HF := hid hf
      have hdl : (l.drop i).length = l.length - i := List.length_drop
      have hw := decodeL_width (l.drop i)
      have hle := decodeL_le (l.drop i) (by intro h; have := congrArg List.length h; simp at this; omega)
      have hi2 : (i : Int) < (l.length : Int) := by omega
      have hi3 : (i : Int) ≤ (cap : Int) := by omega
      have hstp := step_any b (off + i) (cap - i) (l.drop i) w (by omega) (by unfold maxLen; omega) (drop_cells hcell i)
      rw [hdl] at hstp hle
      clear hcell hstep hi hf hdl h
      have hci : ¬ cap = i := by omega
      go_wp2_with fail
      refine hstp.mono ?_
      rintro e w1 ⟨rfl, rfl⟩
      obtain ⟨r, hr⟩ : ∃ r, r = decodeL (l.drop i) := ⟨_, rfl⟩
      unfold stepV
      rw [← hr] at hw hle ⊢
      have HR := hid hr
      clear hr hstp hlt
      cases hb : badL (l.drop i)
      · by_cases hz : r.1 = 0
        · have hz1 : ((r.1 : Int) == 0) = true := by simp; omega
          have HE := hid (show chk l = (i : Int) by rw [← HK.out, HS.out, ← HR.out, hz]; simp)
          clear hz hb
          go_wp2
          go_ret
          exact ⟨by rw [HE.out]; rfl, rfl⟩
        have hz1 : ((r.1 : Int) == 0) = false := by simp; omega
        have HE := hid (show chkf f' (i + r.2) (l.drop (i + r.2)) = chk l by
          rw [← HK.out, HS.out, ← HR.out, hb]
          simp [hz])
        clear hz hb
        go_wp2
        go_roundg (gk - r.2)
        case measure => have := HI.out; omega
        case rel => exact ⟨i + r.2, f', by have := HI.out; omega, by go_num, by have := HF.out; omega, HE.out, rfl⟩
      have HE := hid (show chk l = (i : Int) by rw [← HK.out, HS.out, hb]; simp)
      clear hb
      go_wp2
      go_ret
      exact ⟨by rw [HE.out]; rfl, rfl⟩
    have hi2 : ¬ (i : Int) < (l.length : Int) := by omega
    have HE := hid (show chk l = -1 by
      rw [← HK.out, List.drop_eq_nil_of_le (by omega), chkf_nil])
    clear hf hlt hi
    go_wp2
    go_ret
    exact ⟨by rw [HE.out]; rfl, rfl⟩
theorem dec_zero (l : List UInt8) (hl : 0 < l.length) : (decodeL l).1 = 0 ↔ (l.getD 0 0).toNat = 0 := by
  rw [decodeL_N]
  rcases decodeN_shape l.length (l.getD 0 0).toNat (l.getD 1 0).toNat (l.getD 2 0).toNat (l.getD 3 0).toNat with ⟨c, e⟩ | ⟨c1, c2, c3, cv, e⟩ | ⟨c1, c2, c3, c4, cv, cs, e⟩ | ⟨c1, c2, c3, c4, c5, cv, cw, e⟩ | e
  · rw [e]
  · rw [e]; dsimp only; omega
  · rw [e]; dsimp only; omega
  · rw [e]; dsimp only; omega
  have hb := (l.getD 0 0).toNat_lt
  by_cases h : (l.getD 0 0).toNat < 128
  · unfold decodeN at e
    rw [if_pos h] at e
    have := congrArg Prod.fst e
    dsimp only at this
    omega
  rw [e]; dsimp only; omega
theorem chk_any (E : List TypeId) (B : Nat) (A : Option Addr) (cap : Nat) (l : List UInt8) (w : World) (hT : Tabs w) (h : Bs E B w A l.length l) (hl : l.length ≤ cap) (hcap : cap ≤ maxLen) :
    Calls Tryz.prog 84 #[.slice A l.length cap] w fun e w' => e = .returned (.int .i64 (chk l)) ∧ Below w.heap.size w w' := by
  unfold maxLen at hcap
  go_enter Tryz.func84, Tryz.ntmps84
  go_wp2
  go_loopg [3] l.length (fun g v wr => ∃ i f : Nat, i + g = l.length ∧ v = .int .i64 i ∧ l.length - i ≤ f ∧ chkf f i (l.drop i) = chk l ∧ Below w.heap.size w wr)
  case atStart => exact ⟨0, l.length, by omega, rfl, by omega, by simp [chk], Below.refl _ _⟩
  case round =>
    obtain ⟨i, f, hi, rfl, hf, hk, hB⟩ := hrel
    have HK := hid hk
    clear hk
    by_cases hlt : i < l.length
    · have hT2 := hT.old hB
      obtain ⟨b, off, rfl, hcell⟩ := Bs_cells (h.same (.of_below hB)) (by omega)
      have HB := hid hB
      have HC := hid hcell
      obtain ⟨f', rfl, hstep⟩ := chkf_at l f i hlt hf
      have HS := hid hstep
      have HI := hid hi
      have HF := hid hf
      have hdl : (l.drop i).length = l.length - i := List.length_drop
      have hw := decodeL_width (l.drop i)
      have hne : l.drop i ≠ [] := by intro h; have := congrArg List.length h; simp at this; omega
      have hle := decodeL_le (l.drop i) hne
      have hi2 : (i : Int) < (l.length : Int) := by omega
      have hi3 : (i : Int) ≤ (cap : Int) := by omega
      have hstp := dec_any b (off + i) (cap - i) (l.drop i) wr (by omega) hT2 (drop_cells hcell i)
      rw [hdl] at hstp hle
      have hzz := dec_zero (l.drop i) (by omega)
      rw [getD_dropU, Nat.add_zero] at hzz
      have hci : ¬ cap = i := by omega
      have hcl := hcell i hlt
      have HH := hid h
      clear hcell hstep hi hf hdl h hT2 hB hne
      go_wp2_with fail
      refine hstp.mono ?_
      rintro e w1 ⟨rfl, hb1⟩
      have hcl := (hb1.cell (p := ⟨b, off + i, none⟩) (World.block_lt_of_cell? _ _ hcl)).trans hcl
      have HB := hid (HB.out.trans (hb1.mono HB.out.size))
      obtain ⟨z, hz⟩ : ∃ z, z = (l.getD i 0).toNat := ⟨_, rfl⟩
      obtain ⟨r, hr⟩ : ∃ r, r = decodeL (l.drop i) := ⟨_, rfl⟩
      rw [← hr] at hw hle hzz ⊢
      rw [← hz] at hcl hzz
      have HR := hid hr
      clear hr hstp hlt hz hb1
      by_cases h1 : r.1 = 0
      · have hz1 : ((z : Int) == 0) = true := by simp; omega
        have HE := hid (show chk l = (i : Int) by rw [← HK.out, HS.out, ← HR.out, h1]; simp)
        clear h1 hzz
        go_wp2
        go_ret
        exact ⟨by rw [HE.out]; rfl, HB.out⟩
      have hz1 : ((z : Int) == 0) = false := by simp; omega
      by_cases h2 : r.1 = 65533
      · have hz2 : ((r.1 : Int) == 65533) = true := by simp; omega
        by_cases h3 : r.2 = 1
        · have hz3 : (r.2 : Int) < 2 := by omega
          have HE := hid (show chk l = (i : Int) by rw [← HK.out, HS.out]; unfold badL; rw [← HR.out, h2, h3]; simp)
          clear h1 hzz h2 h3
          go_wp2
          go_ret
          exact ⟨by rw [HE.out]; rfl, HB.out⟩
        have hz3 : ¬ (r.2 : Int) < 2 := by omega
        have HE := hid (show chkf f' (i + r.2) (l.drop (i + r.2)) = chk l by
          rw [← HK.out, HS.out]; unfold badL; rw [← HR.out]
          simp [h1, h3])
        clear h1 hzz h2 h3
        go_wp2
        go_roundg (gk - r.2)
        case measure => have := HI.out; omega
        case rel => exact ⟨i + r.2, f', by have := HI.out; omega, by go_num, by have := HF.out; omega, HE.out, HB.out⟩
      have hz2 : ((r.1 : Int) == 65533) = false := by simp; omega
      have HE := hid (show chkf f' (i + r.2) (l.drop (i + r.2)) = chk l by
        rw [← HK.out, HS.out]; unfold badL; rw [← HR.out]
        simp [h1, h2])
      clear h1 hzz h2
      go_wp2
      go_roundg (gk - r.2)
      case measure => have := HI.out; omega
      case rel => exact ⟨i + r.2, f', by have := HI.out; omega, by go_num, by have := HF.out; omega, HE.out, HB.out⟩
    have hi2 : ¬ (i : Int) < (l.length : Int) := by omega
    have HE := hid (show chk l = -1 by
      rw [← HK.out, List.drop_eq_nil_of_le (by omega), chkf_nil])
    clear hf hlt hi
    go_wp2
    go_ret
    exact ⟨by rw [HE.out]; rfl, hB⟩
end Go.Proofs.YtdfllmiokgoekaaGreatDoor
namespace Go.Hub
open Go.RowKit Go.Lib
theorem bs_conv (E : List TypeId) (B : Nat) (w : World) (s : ByteArray) (e : TypeId) (he : e ∈ E) (cap : Nat) (fr : Nat × Nat) :
    Bs E B (w.drew.alloc (.cells (bytesRow s cap) e fr)) (some ⟨w.heap.size, 0, none⟩) s.data.toList.length s.data.toList := by
  refine ⟨rfl, fun _ => ⟨w.heap.size, 0, rfl, by simp, .inr ⟨_, e, fr, heap_alloc_new w.drew _, he⟩, fun j x hx => ?_⟩⟩
  rw [Nat.zero_add]
  have hj : j < s.data.size := by
    have := (List.getElem?_eq_some_iff.1 hx).1
    simpa using this
  refine (World.cell?_alloc_mark w.drew _ _ _ _).trans ?_
  rw [bytesRow_at s cap j hj]
  have : x = s.data[j] := by
    have := (List.getElem?_eq_some_iff.1 hx).2
    simp at this
    exact this.symm
  rw [this]
  rfl
end Go.Hub
namespace Go.Proofs.YtdfllmiokgoekaaGreatDoor
open Go.RowKit Go.Hub Go.Lib
theorem toList_len (s : ByteArray) : s.toList.length = s.size := by rw [ByteArray.toList_eq]; rfl
theorem pos_of {s : ByteArray} (h : ¬ s = ⟨#[]⟩) : 0 < s.size := by
  have : s.size ≠ 0 := fun e => h (ByteArray.ext (Array.eq_empty_of_size_eq_zero e))
  omega
theorem pos_not {s : ByteArray} (h : s = ⟨#[]⟩) : s.size = 0 := by subst h; rfl
def textB (s : ByteArray) : Bool := decide (0 < s.size) && (decide (s.size ≤ 65535) && decide (chk s.toList < 0))
theorem text_t {s : ByteArray} (h1 : 0 < s.size) (h2 : s.size ≤ 65535) : textB s = decide (chk s.toList < 0) := by simp [textB, h1, h2]
theorem text_f {s : ByteArray} (h : ¬ (0 < s.size ∧ s.size ≤ 65535)) : textB s = false := by
  unfold textB
  by_cases h1 : 0 < s.size
  · rw [decide_eq_false (p := s.size ≤ 65535) (by omega)]; simp
  rw [decide_eq_false h1]; rfl
section
variable {P : Program} {ops : Array Oper} {rest : List Oper} {a : Act} {w : World} {Q : Exit → Act → World → Prop} {n d : Nat} {l : FL} {ty : TypeId} {ps : String} {af : Array Edge} {gd : Option (Nat × Bool)} {x : Operand} {src dst u8t : TypeId}
theorem L.convSB (f : Fr n a l) (hw : Region.wanted ⟨some d, .convert src dst x, ty, ps, af, gd⟩ (yielded ops a.tmps) = true) (hn : d < n) (hs : P.underlying src = some .string) (hd : P.underlying dst = some (.slice 5)) (he : P.underlying 5 = some (.int .u8)) {s : ByteArray} (hx : evl l x = some (.string s))
    (hm : s.size ≤ 1000000) (hK : ∀ a' w' c, Fr n a' ((d, .slice (some ⟨w.heap.size, 0, none⟩) s.toList.length c) :: l) → (s.toList.length ≤ c ∧ c ≤ maxLen) → Bs [5] w'.heap.size w' (some ⟨w.heap.size, 0, none⟩) s.toList.length s.toList → Kept [] w w' → wpList P ops Q rest a' w') : wpList P ops Q (⟨some d, .convert src dst x, ty, ps, af, gd⟩ :: rest) a w := by
  have h := run_bytes_of_string (P := P) w src dst 5 s hs hd he
  refine L.val (v := .slice (some ⟨w.heap.size, 0, none⟩) s.size (grownCap w s.size 0 5)) (w' := w.drew.alloc (.cells (bytesRow s (grownCap w s.size 0 5)) 5 ((bytesRow s (grownCap w s.size 0 5)).size, (bytesRow s (grownCap w s.size 0 5)).size + 1))) f hw rfl hn (by simp only [execOp, f.ev hx, Sem.run_bind, h, Result.andThen, Sem.run_pure]) fun a' f' => hK a' _ (grownCap w s.size 0 5) (by rw [toList_len]; exact f') ?_ ?_ ?_
  · rw [toList_len]
    exact ⟨grownCap_ge _ _ _ _, grownCap_le_maxLen _ _ _ _ (by unfold maxLen; omega)⟩
  · rw [ByteArray.toList_eq]
    exact bs_conv [5] _ w s 5 (by simp) _ _
  exact ((Kept.refl [] w).drewN 1).alloc _
end
theorem text_any (s : ByteArray) (w : World) (hT : Tabs w) (hs : s.size ≤ 1000000) : Calls Tryz.prog 69 #[.string s] w (fun e w' => Kept [] w w' ∧ e = .returned (.bool (textB s))) := by
 have HK : Kept [] w w := Kept.refl [] w
 refine C.enter Tryz.func69 rfl Tryz.ntmps69 rfl ?_
 intro a0 f0
 have f1 : Fr 16 a0 [(0, .string s)] := f0
 refine C.sk fun K0 hK0 => ?_
 refine L.ag f1 fun a2 f2 => ?_
 have f3 := f2.pk [0, 2]
 refine wn hK0 (C.sk fun K1 hK1 => ?_)
 refine L.mv f3 fun a4 f4 => ?_
 refine L.va f4 (E.neqS f4 rfl rfl) fun a5 f5 => ?_
 refine L.mv f5 fun a6 f6 => ?_
 clear f0 f1 a0 f2 f3 a2 f4 a4 f5 a5
 refine f6.splitN 5 rfl (fun h0 f7 => ?_) (fun h0 f7 => ?_)
 ·have h5 := h0
  refine L.mv f7 (hw := (f7.yes rfl rfl)) fun a8 f8 => ?_
  refine L.va f8 (E.lenS f8 U9 rfl) (hw := (f8.yes rfl rfl)) fun a9 f9 => ?_
  refine L.va f9 (E.leq f9 rfl rfl) (hw := (f9.yes rfl rfl)) fun a10 f10 => ?_
  refine L.va f10 (E.pickT f10 rfl rfl) fun a11 f11 => ?_
  refine L.mv f11 fun a12 f12 => ?_
  clear f6 f7 a6 f8 a8 f9 a9 f10 a10 f11 a11
  refine f12.splitD 10 rfl (fun h1 f13 => ?_) (fun h1 f13 => ?_)
  ·have h10 := h1
   refine L.mv f13 (hw := (f13.yes rfl rfl)) fun a14 f14 => ?_
   refine L.convSB f14 (f14.yes rfl rfl) (by decide) U9 U28 U5 rfl (by omega) fun a15 w1 cb f15 hcb BS kcv => ?_
   have szw1 := kcv.size
   replace HK := HK.z kcv
   clear f12 f13 a12 f14 a14 kcv
   refine L.cl f15 (run_call Tryz.call84 (args1 f15 rfl)) (chk_any [5] w1.heap.size _ cb s.toList w1 (hT.old (HK.below (by simp) (Nat.le_refl _))) BS hcb.1 hcb.2) ?_ (hw := (f15.yes rfl rfl))
   rintro e w2 ⟨rfl, kb⟩
   have kc2 := Kept.of_below kb []
   refine ⟨_, rfl, fun a16 f16 => ?_⟩
   have szw2 := kc2.size
   replace HK := HK.z kc2
   clear f15 a15 kc2
   refine L.va f16 (E.lss f16 rfl rfl) (hw := (f16.yes rfl rfl)) fun a17 f17 => ?_
   refine L.va f17 (E.pickT f17 rfl rfl) fun a18 f18 => ?_
   refine L.ag f18 fun a19 f19 => ?_
   have f20 := f19.pk [2]
   refine wn hK1 (wp_ret ?_); (try simp only [xt, xb]); refine C.ret f20 rfl rfl ?_
   exact ⟨HK, by rw [text_t (pos_of h5) (by omega)]⟩
  have h10 := h1
  refine L.skip f13 (f13.noT rfl rfl) rfl (by decide) fun a14 f14 => ?_
  refine L.skip f14 (f14.noT rfl rfl) rfl (by decide) fun a15 f15 => ?_
  refine L.run f15 (rest' := []) (by kernel_rfl) fun a16 f16 => ?_
  clear f12 f13 a12 f14 a14
  have f17 := f16.sub (sv 2 (.bool false) sn)
  refine wn hK1 (wp_ret ?_); (try simp only [xt, xb]); refine C.ret f17 rfl rfl ?_
  exact ⟨HK, by rw [text_f (by omega)]⟩
 have h5 := h0
 refine L.skip f7 (f7.noT rfl rfl) rfl (by decide) fun a8 f8 => ?_
 refine L.skip f8 (f8.noT rfl rfl) rfl (by decide) fun a9 f9 => ?_
 refine L.skip f9 (f9.noT rfl rfl) rfl (by decide) fun a10 f10 => ?_
 refine L.va f10 (E.pickF f10 rfl rfl) fun a11 f11 => ?_
 refine L.mv f11 fun a12 f12 => ?_
 refine L.skip f12 (f12.noT rfl rfl) rfl (by decide) fun a13 f13 => ?_
 refine L.skip f13 (f13.noT rfl rfl) rfl (by decide) fun a14 f14 => ?_
 clear f6 f7 a6 f8 a8 f9 a9 f10 a10 f11 a11 f12 a12 f13 a13
 refine L.run f14 (rest' := []) (by kernel_rfl) fun a15 f15 => ?_
 have f16 := f15.sub (sv 2 (.bool false) sn)
 refine wn hK1 (wp_ret ?_); (try simp only [xt, xb]); refine C.ret f16 rfl rfl ?_
 exact ⟨HK, by rw [text_f (by rw [pos_not h5]; omega)]⟩
theorem textR_any (s : ByteArray) (w : World) (hT : Tabs w) (hs : s.size ≤ 1000000) : Calls Tryz.prog 73 #[.string s] w (fun e w' => Kept [] w w' ∧ e = .returned (.bool (textB s))) := by
 have HK : Kept [] w w := Kept.refl [] w
 refine C.enter Tryz.func73 rfl Tryz.ntmps73 rfl ?_
 intro a0 f0
 have f1 : Fr 17 a0 [(0, .string s)] := f0
 refine C.sk fun K0 hK0 => ?_
 refine L.ag f1 fun a2 f2 => ?_
 have f3 := f2.pk [0, 2]
 refine wn hK0 (C.sk fun K1 hK1 => ?_)
 refine L.mv f3 fun a4 f4 => ?_
 refine L.va f4 (E.lenS f4 U9 rfl) fun a5 f5 => ?_
 refine L.va f5 (E.geq f5 rfl rfl) fun a6 f6 => ?_
 refine L.mv f6 fun a7 f7 => ?_
 clear f0 f1 a0 f2 f3 a2 f4 a4 f5 a5 f6 a6
 refine f7.splitD 6 rfl (fun h0 f8 => ?_) (fun h0 f8 => ?_)
 ·have h6 := h0
  refine L.mv f8 (hw := (f8.yes rfl rfl)) fun a9 f9 => ?_
  refine L.va f9 (E.lenS f9 U9 rfl) (hw := (f9.yes rfl rfl)) fun a10 f10 => ?_
  refine L.va f10 (E.leq f10 rfl rfl) (hw := (f10.yes rfl rfl)) fun a11 f11 => ?_
  refine L.va f11 (E.pickT f11 rfl rfl) fun a12 f12 => ?_
  refine L.mv f12 fun a13 f13 => ?_
  clear f7 f8 a7 f9 a9 f10 a10 f11 a11 f12 a12
  refine f13.splitD 11 rfl (fun h1 f14 => ?_) (fun h1 f14 => ?_)
  ·have h11 := h1
   refine L.mv f14 (hw := (f14.yes rfl rfl)) fun a15 f15 => ?_
   refine L.convSB f15 (f15.yes rfl rfl) (by decide) U9 U28 U5 rfl (by omega) fun a16 w1 cb f16 hcb BS kcv => ?_
   have szw1 := kcv.size
   replace HK := HK.z kcv
   clear f13 f14 a13 f15 a15 kcv
   refine L.cl f16 (run_call Tryz.call87 (args1 f16 rfl)) (chkR_any [5] w1.heap.size _ cb s.toList w1 BS hcb.1 hcb.2) ?_ (hw := (f16.yes rfl rfl))
   rintro e w1x ⟨rfl, rfl⟩
   refine ⟨_, rfl, fun a17 f17 => ?_⟩
   refine L.va f17 (E.lss f17 rfl rfl) (hw := (f17.yes rfl rfl)) fun a18 f18 => ?_
   refine L.va f18 (E.pickT f18 rfl rfl) fun a19 f19 => ?_
   refine L.ag f19 fun a20 f20 => ?_
   have f21 := f20.pk [2]
   refine wn hK1 (wp_ret ?_); (try simp only [xt, xb]); refine C.ret f21 rfl rfl ?_
   exact ⟨HK, by rw [text_t (by omega) (by omega)]⟩
  have h11 := h1
  refine L.skip f14 (f14.noT rfl rfl) rfl (by decide) fun a15 f15 => ?_
  refine L.skip f15 (f15.noT rfl rfl) rfl (by decide) fun a16 f16 => ?_
  refine L.run f16 (rest' := []) (by kernel_rfl) fun a17 f17 => ?_
  clear f13 f14 a13 f15 a15
  have f18 := f17.sub (sv 2 (.bool false) sn)
  refine wn hK1 (wp_ret ?_); (try simp only [xt, xb]); refine C.ret f18 rfl rfl ?_
  exact ⟨HK, by rw [text_f (by omega)]⟩
 have h6 := h0
 refine L.skip f8 (f8.noT rfl rfl) rfl (by decide) fun a9 f9 => ?_
 refine L.skip f9 (f9.noT rfl rfl) rfl (by decide) fun a10 f10 => ?_
 refine L.skip f10 (f10.noT rfl rfl) rfl (by decide) fun a11 f11 => ?_
 refine L.va f11 (E.pickF f11 rfl rfl) fun a12 f12 => ?_
 refine L.mv f12 fun a13 f13 => ?_
 refine L.skip f13 (f13.noT rfl rfl) rfl (by decide) fun a14 f14 => ?_
 refine L.skip f14 (f14.noT rfl rfl) rfl (by decide) fun a15 f15 => ?_
 clear f7 f8 a7 f9 a9 f10 a10 f11 a11 f12 a12 f13 a13 f14 a14
 refine L.run f15 (rest' := []) (by kernel_rfl) fun a16 f16 => ?_
 have f17 := f16.sub (sv 2 (.bool false) sn)
 refine wn hK1 (wp_ret ?_); (try simp only [xt, xb]); refine C.ret f17 rfl rfl ?_
 exact ⟨HK, by rw [text_f (by omega)]⟩
end Go.Proofs.YtdfllmiokgoekaaGreatDoor
