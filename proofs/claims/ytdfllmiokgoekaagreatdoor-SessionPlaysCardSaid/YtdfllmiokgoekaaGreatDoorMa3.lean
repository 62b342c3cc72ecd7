/- Merged by program (shrink.py): contracts and plain laws that the claim's statement uses, part 3. -/
import Derived.Test.YtdfllmiokgoekaaGreatDoorMa2
set_option linter.all false
set_option maxRecDepth 100000
set_option maxHeartbeats 8000000

namespace Go.Proofs.YtdfllmiokgoekaaGreatDoor
open Go.Shelf
def spren : Ren := ⟨fun | 138 => 109 | 143 => 110 | 146 => 85 | 195 => 112 | 197 => 113 | 217 => 117 | 218 => 114 | 219 => 115 | 221 => 99 | 224 => 119 | 225 => 118 | 260 => 116 | 266 => 121 | 267 => 120 | 268 => 108 | 314 => 122 | n => n, fun | 31 => 94 | 46 => 115 | 51 => 127 | 105 => 130 | 119 => 146 | 138 => 148 | 139 => 149 | 146 => 153 | n => n, fun | 1 => 2 | 3 => 0 | 4 => 1 | n => n⟩
theorem splitL : Lays.n146 Tryz.prog spren := {
  mixed := by kernel_rfl
  f138 := by kernel_rfl
  f143 := by kernel_rfl
  f146 := by kernel_rfl
  f195 := by kernel_rfl
  f197 := by kernel_rfl
  f217 := by kernel_rfl
  f218 := by kernel_rfl
  f219 := by kernel_rfl
  f221 := by kernel_rfl
  f224 := by kernel_rfl
  f225 := by kernel_rfl
  f260 := by kernel_rfl
  f266 := by kernel_rfl
  f267 := by kernel_rfl
  f268 := by kernel_rfl
  f314 := by kernel_rfl
  t0 := by kernel_rfl
  a0 := fun _ => by kernel_rfl
  z0 := fun _ => by kernel_rfl
  v0 := fun _ => by kernel_rfl
  t3 := by kernel_rfl
  a3 := fun _ => by kernel_rfl
  z3 := fun _ => by kernel_rfl
  v3 := fun _ => by kernel_rfl
  t4 := by kernel_rfl
  a4 := fun _ => by kernel_rfl
  z4 := fun _ => by kernel_rfl
  v4 := fun _ => by kernel_rfl
  t5 := by kernel_rfl
  a5 := fun _ => by kernel_rfl
  z5 := fun _ => by kernel_rfl
  v5 := fun _ => by kernel_rfl
  t9 := by kernel_rfl
  a9 := fun _ => by kernel_rfl
  z9 := fun _ => by kernel_rfl
  v9 := fun _ => by kernel_rfl
  t21 := by kernel_rfl
  a21 := fun _ => by kernel_rfl
  z21 := fun _ => by kernel_rfl
  v21 := fun _ => by kernel_rfl
  t31 := by kernel_rfl
  a31 := fun _ => by kernel_rfl
  z31 := fun _ => by kernel_rfl
  v31 := fun _ => by kernel_rfl
  t46 := by kernel_rfl
  a46 := fun _ => by kernel_rfl
  z46 := fun _ => by kernel_rfl
  v46 := fun _ => by kernel_rfl
  t51 := by kernel_rfl
  a51 := fun _ => by kernel_rfl
  z51 := fun _ => by kernel_rfl
  v51 := fun _ => by kernel_rfl
  t105 := by kernel_rfl
  a105 := fun _ => by kernel_rfl
  z105 := fun _ => by kernel_rfl
  v105 := fun _ => by kernel_rfl
  t119 := by kernel_rfl
  a119 := fun _ => by kernel_rfl
  z119 := fun _ => by kernel_rfl
  t138 := by kernel_rfl
  a138 := fun _ => by kernel_rfl
  z138 := fun _ => by kernel_rfl
  v138 := fun _ => by kernel_rfl
  t139 := by kernel_rfl
  a139 := fun _ => by kernel_rfl
  z139 := fun _ => by kernel_rfl
  v139 := fun _ => by kernel_rfl
  t146 := by kernel_rfl
  a146 := fun _ => by kernel_rfl
  z146 := fun _ => by kernel_rfl
  v146 := fun _ => by kernel_rfl
  g1 := by kernel_rfl
  g3 := by kernel_rfl
  g4 := by kernel_rfl
}
end Go.Proofs.YtdfllmiokgoekaaGreatDoor
namespace Go.Proofs.YtdfllmiokgoekaaGreatDoor
open Go.RowKit Go.Hub Go.Lib Go.Shelf
def Glob (w : World) : Prop := Tabs w ∧ ∃ m, w.cell? ⟨2, 0, none⟩ = some (.int .i64 m)
theorem Glob.kept {w w' : World} (h : Glob w) (hk : Kept [] w w') : Glob w' := ⟨h.1.old (hk.below (by simp) (Nat.le_refl _)), by
  obtain ⟨m, hm⟩ := h.2
  exact ⟨m, (hk.cell (p := ⟨2, 0, none⟩) (World.block_lt_of_cell? w _ hm) (by simp)).trans hm⟩⟩
def slash : ByteArray := ⟨#[47]⟩
def levelsL (s : ByteArray) : List ByteArray := Lib.splitB slash 0 (Lib.countB s slash) s
def LevPost (s : ByteArray) (w : World) (e : Ending) (w' : World) : Prop := Kept [] w w' ∧ ∃ A c, e = .returned (.slice A (levelsL s).length c) ∧ Ss w' A (levelsL s) ∧ (levelsL s).length ≤ c ∧ 1 ≤ (levelsL s).length ∧ (levelsL s).length ≤ s.size + 1
theorem lev_len (s : ByteArray) : (levelsL s).length = Lib.countB s slash + 1 := Lib.splitB_all slash (by decide) 0 _ s rfl
theorem cnt_le (s : ByteArray) : Lib.countB s slash ≤ s.size := Lib.countB_le slash (by decide) s.size s (Nat.le_refl _)
theorem split_any (s : ByteArray) (w : World) (G : Glob w) (hs : s.size ≤ 1000000) : Calls Tryz.prog 85 #[.string s, .string ⟨#[47]⟩] w (LevPost s w) := by
  obtain ⟨m, hm⟩ := G.2
  have h := Any.strings_Split splitL (by kernel_rfl) s slash m w (by omega) hm (by decide)
  refine Calls.mono h ?_
  rintro e w' ⟨rfl, rfl⟩
  refine ⟨(Kept.refl [] w).alloc _, some ⟨w.heap.size, 0, none⟩, Lib.countB s slash + 1, by rw [lev_len], ?_, by rw [lev_len]; exact Nat.le_refl _, by rw [lev_len]; omega, by rw [lev_len]; have := cnt_le s; omega⟩
  refine ⟨by simp, fun _ => ⟨w.heap.size, 0, rfl, by simp, fun j u hu => ?_⟩⟩
  rw [Nat.zero_add]
  refine (World.cell?_alloc_mark w _ _ _ _).trans ?_
  rw [← Array.getElem?_toList]
  exact hu
theorem levels_any (s : ByteArray) (w : World) (G : Glob w) (hs : s.size ≤ 1000000) : Calls Tryz.prog 70 #[.string s] w (LevPost s w) := by
 have HK : Kept [] w w := Kept.refl [] w
 refine C.enter Tryz.func70 rfl Tryz.ntmps70 rfl ?_
 intro a0 f0
 have f1 : Fr 5 a0 [(0, .string s)] := f0
 refine C.sk fun K0 hK0 => ?_
 refine L.ag f1 fun a2 f2 => ?_
 have f3 := f2.pk [0, 2]
 refine wn hK0 (C.sk fun K1 hK1 => ?_)
 refine L.mv f3 fun a4 f4 => ?_
 refine L.cl f4 (run_call Tryz.call85 (args2 f4 rfl rfl)) (split_any s _ G hs) ?_
 clear f0 f1 a0 f2 f3 a2
 rintro e w1 ⟨kc1, A, c, rfl, h1, h2, h3, h4⟩
 refine ⟨_, rfl, fun a5 f5 => ?_⟩
 have szw1 := kc1.size
 replace HK := HK.z kc1
 clear f4 a4 kc1
 refine L.ag f5 fun a6 f6 => ?_
 have f7 := f6.pk [2]
 refine wn hK1 (wp_ret ?_); (try simp only [xt, xb]); refine C.ret f7 rfl rfl ?_
 exact ⟨HK, A, c, rfl, h1, h2, h3, h4⟩
end Go.Proofs.YtdfllmiokgoekaaGreatDoor
namespace Go.Proofs.YtdfllmiokgoekaaGreatDoor
open Go.RowKit Go.Hub Go.Lib
theorem any_has (s : ByteArray) : anyW s = (hasB s 43 || hasB s 35) := by
  unfold anyW hasB
  induction s.toList with
  | nil => rfl
  | cons b l ih =>
    rw [List.any_cons, ih, List.contains_cons, List.contains_cons]
    have h1 : wildU b = (43 == b || 35 == b) := by
      unfold wildU wildI
      have e : ∀ c : UInt8, (c == b) = decide (((b.toNat : Nat) : Int) = c.toNat) := fun c => by
        by_cases h : c = b
        · subst h; simp
        have : ¬ ((b.toNat : Nat) : Int) = c.toNat := fun hh => h (UInt8.toNat_inj.1 (by omega)).symm
        simp [h, this]
      rw [e 43, e 35]
      rfl
    rw [h1]
    cases (43 == b) <;> cases (35 == b) <;> cases (List.contains l 43) <;> cases (List.contains l 35) <;> rfl
end Go.Proofs.YtdfllmiokgoekaaGreatDoor
namespace Go.Proofs.YtdfllmiokgoekaaGreatDoor
open Go.RowKit Go.Hub Go.Lib
theorem wsz9_tg : (Tryz.prog.info? 9).map (·.size) = some 1 := by kernel_rfl
def okL (p : ByteArray) (last : Bool) : Bool := decide (p = ⟨#[43]⟩) || (decide (p = ⟨#[35]⟩) && last) || !anyW p
theorem any35 : anyW ⟨#[35]⟩ = true := by kernel_rfl
def okAll : List ByteArray → Bool
  | [] => true
  | p :: r => okL p r.isEmpty && okAll r
theorem ok_at {l : List ByteArray} {k : Nat} {p : ByteArray} (h : l[k]? = some p) : okAll (l.drop k) = (okL p (decide (((k : Nat) : Int) = (l.length : Int) - 1)) && okAll (l.drop (k + 1))) := by
  obtain ⟨hk, rfl⟩ := List.getElem?_eq_some_iff.1 h
  rw [List.drop_eq_getElem_cons hk, okAll]
  have e : (l.drop (k + 1)).isEmpty = decide (((k : Nat) : Int) = (l.length : Int) - 1) := by
    rw [Bool.eq_iff_iff]
    simp [List.isEmpty_iff, List.drop_eq_nil_iff]
    omega
  rw [e]
def filterB (s : ByteArray) : Bool := textB s && okAll (levelsL s)
theorem ok_next {l : List ByteArray} {k : Nat} {p : ByteArray} (h : l[k]? = some p) (ho : okL p (decide (((k : Nat) : Int) = (l.length : Int) - 1)) = true) : okAll (l.drop (k + 1)) = okAll (l.drop k) := by
  rw [ok_at h, ho, Bool.true_and]
theorem filter_any (s : ByteArray) (w : World) (G : Glob w) (hs : s.size ≤ 1000000) : Calls Tryz.prog 47 #[.string s] w (fun e w' => Kept [] w w' ∧ e = .returned (.bool (filterB s))) := by
 have HK : Kept [] w w := Kept.refl [] w
 refine C.enter Tryz.func47 rfl Tryz.ntmps47 rfl ?_
 intro a0 f0
 have f1 : Fr 37 a0 [(0, .string s)] := f0
 refine C.sk fun K0 hK0 => ?_
 refine L.ag f1 fun a2 f2 => ?_
 refine wn hK0 ?_
 have f3 := f2.pk [0, 2]
 refine wp_seq_k fun K1 hK1 => C.sk fun K2 hK2 => ?_
 refine L.mv f3 fun a4 f4 => ?_
 refine L.cl f4 (run_call Tryz.call69 (args1 f4 rfl)) (text_any s w (G.kept HK).1 hs) ?_
 clear f0 f1 a0 f2 f3 a2
 rintro e w1 ⟨kc1, rfl⟩
 refine ⟨_, rfl, fun a5 f5 => ?_⟩
 have szw1 := kc1.size
 replace HK := HK.z kc1
 clear f4 a4 kc1
 refine L.va f5 (E.not f5 rfl) fun a6 f6 => ?_
 refine wn hK2 ?_
 have f7 := f6.pk [0, 2, 8]
 clear f5 a5 f6
 refine f7.splitNB 8 rfl (fun h0 f8 => ?_) (fun h0 f8 => ?_)
 ·have h8 := h0
  refine C.condT f8 rfl ?_
  refine C.sk fun K3 hK3 => ?_
  refine L.ag f8 fun a9 f9 => ?_
  have f10 := f9.pk [0, 2]
  refine wn hK3 (wp_ret ?_); (try simp only [xt, xb]); refine C.ret f10 rfl rfl ?_
  exact ⟨HK, by unfold filterB; simp [*]⟩
 have h8 := h0
 refine C.condF f8 rfl ?_
 refine wp_skip (hK1 _ _ ?_)
 have f9 := f8.pk [0, 2]
 refine C.sk fun K4 hK4 => ?_
 refine L.mv f9 fun a10 f10 => ?_
 refine L.cl f10 (run_call Tryz.call70 (args1 f10 rfl)) (levels_any s w1 (G.kept HK) hs) ?_
 clear f7 f8 f9 a6
 rintro e w2 ⟨kc2, A, c, rfl, LS, l2, l3, l4⟩
 refine ⟨_, rfl, fun a11 f11 => ?_⟩
 have szw2 := kc2.size
 replace HK := HK.z kc2
 clear f10 a10 kc2
 refine L.ag f11 fun a12 f12 => ?_
 refine wn hK4 ?_
 have f13 := f12.pk [2, 3]
 refine wp_seq_k fun K5 hK5 => C.sk fun K6 hK6 => ?_
 refine L.mv f13 fun a14 f14 => ?_
 refine L.va f14 (E.lenL f14 Tryz.underlying94 rfl) fun a15 f15 => ?_
 refine L.mv f15 fun a16 f16 => ?_
 refine wn hK6 ?_
 have f17 := f16.pk [2, 3, 11, 12, 13]
 refine wp_block ?_
 clear f11 a11 f12 f13 a12 f14 a14 f15 a15 f16
 refine C.loop (fun gk a W => ∃ k : Nat, k + gk = (levelsL s).length ∧ okAll ((levelsL s).drop k) = okAll (levelsL s) ∧ Kept [] w W ∧ Ss W A (levelsL s) ∧ Fr 37 a [(3, .slice A (levelsL s).length c), (11, .slice A (levelsL s).length c), (12, .int .i64 (levelsL s).length), (13, .int .i64 k)]) ((levelsL s).length) ?_ ?_
 ·exact ⟨0, by omega, rfl, HK, LS, f17.sub (sx (sx (sx (sx sn))))⟩
 intro gk8 a18 w3 hI KL7 hKL7
 obtain ⟨k, hk, hq, HK, LS, f18⟩ := hI
 try clear f17
 refine C.sk fun K8 hK8 => ?_
 refine L.va f18 (E.lss f18 rfl rfl) fun a19 f19 => ?_
 refine wn hK8 ?_
 have f20 := f19.pk [3, 11, 12, 13, 14]
 refine wp_seq_k fun K9 hK9 => ?_
 clear f18 a18 f19
 refine f20.splitD 14 rfl (fun h1 f21 => ?_) (fun h1 f21 => ?_)
 ·obtain ⟨p, hx⟩ : ∃ p, (levelsL s)[k]? = some p := ⟨(levelsL s)[k]'(by omega), List.getElem?_eq_getElem _⟩
  obtain ⟨b1, o1, hA⟩ := LS.addr (k := k) (by omega)
  refine C.condT f21 rfl ?_
  refine wp_skip (hK9 _ _ ?_)
  have f22 := f21.pk [3, 11, 12, 13, 14]
  refine wp_seq_k fun K10 hK10 => ?_
  refine wp_block ?_
  refine C.sk fun K11 hK11 => ?_
  refine L.mv f22 fun a23 f23 => ?_
  refine L.va f23 (E.indexA f23 (by assumption) Tryz.underlying94 wsz9_tg rfl rfl (by omega) (by omega)) fun a24 f24 => ?_
  refine L.va f24 (E.load f24 U9 rfl rfl (ss_cell LS hA hx)) fun a25 f25 => ?_
  refine L.ag f25 fun a26 f26 => ?_
  refine L.ag f26 fun a27 f27 => ?_
  have f28 := f27.pk [3, 4, 5, 11, 12, 13, 14, 15, 16, 17]
  refine wn hK11 (C.sk fun K12 hK12 => ?_)
  refine L.mv f28 fun a29 f29 => ?_
  clear f20 f21 f22 a19 f23 a23 f24 a24 f25 a25 f26 a26 f27 f28 a27
  refine L.va f29 (E.neqS f29 rfl rfl) fun a30 f30 => ?_
  refine L.mv f30 fun a31 f31 => ?_
  clear f29 a29 f30 a30
  refine f31.splitN 20 rfl (fun h2 f32 => ?_) (fun h2 f32 => ?_)
  ·have h20 := h2
   refine L.mv f32 (hw := (f32.yes rfl rfl)) fun a33 f33 => ?_
   refine L.va f33 (E.eqlS f33 rfl rfl) (hw := (f33.yes rfl rfl)) fun a34 f34 => ?_
   refine L.mv f34 (hw := (f34.yes rfl rfl)) fun a35 f35 => ?_
   clear f31 f32 a31 f33 a33 f34 a34
   refine f35.splitD 23 rfl (fun h3 f36 => ?_) (fun h3 f36 => ?_)
   ·have h23 := h3
    refine L.mv f36 (hw := (f36.yes rfl rfl)) fun a37 f37 => ?_
    refine L.mv f37 (hw := (f37.yes rfl rfl)) fun a38 f38 => ?_
    refine L.va f38 (E.lenL f38 Tryz.underlying94 rfl) (hw := (f38.yes rfl rfl)) fun a39 f39 => ?_
    refine L.va f39 (E.sub f39 rfl rfl (IntWalk.i64_in _ (by omega))) (hw := (f39.yes rfl rfl)) fun a40 f40 => ?_
    refine L.va f40 (E.eql f40 rfl rfl) (hw := (f40.yes rfl rfl)) fun a41 f41 => ?_
    refine L.va f41 (E.pickT f41 rfl rfl) (hw := (f41.yes rfl rfl)) fun a42 f42 => ?_
    refine L.va f42 (E.not f42 rfl) (hw := (f42.yes rfl rfl)) fun a43 f43 => ?_
    clear f35 f36 a35 f37 a37 f38 a38 f39 a39 f40 a40 f41 a41 f42 a42
    refine L.va f43 (E.pickT f43 rfl rfl) fun a44 f44 => ?_
    refine L.mv f44 fun a45 f45 => ?_
    clear f43 a43 f44 a44
    refine f45.splitN 32 rfl (fun h4 f46 => ?_) (fun h4 f46 => ?_)
    ·have h32 := h4
     refine L.mv f46 (hw := (f46.yes rfl rfl)) fun a47 f47 => ?_
     refine L.cl f47 (run_call Tryz.call71 (args2 f47 rfl rfl)) (cont_any p w3) ?_ (hw := (f47.yes rfl rfl))
     clear f45 f46 a45
     rintro e w4 ⟨kc4, rfl⟩
     refine ⟨_, rfl, fun a48 f48 => ?_⟩
     have szw4 := kc4.size
     replace HK := HK.z kc4
     replace LS := LS.kept kc4
     clear f47 a47 kc4
     refine L.va f48 (E.pickT f48 rfl rfl) fun a49 f49 => ?_
     refine wn hK12 ?_
     have f50 := f49.pk [3, 4, 5, 11, 12, 13, 14, 15, 16, 17, 18, 19, 20, 21, 22, 23, 24, 25, 26, 27, 28, 29, 30, 31, 32, 33, 34, 35]
     clear f48 a48 f49
     refine f50.split 35 rfl (fun h5 f51 => ?_) (fun h5 f51 => ?_)
     ·have h35 := h5
      refine C.condT f51 rfl ?_
      refine C.sk fun K13 hK13 => ?_
      refine L.ag f51 fun a52 f52 => ?_
      have f53 := f52.pk [2, 3, 4, 5, 11, 12, 13, 14, 15, 16, 17, 18, 19, 20, 21, 22, 23, 24, 25, 26, 27, 28, 29, 30, 31, 32, 33, 34, 35]
      refine wn hK13 (wp_ret ?_); (try simp only [xt, xb]); refine C.ret f53 rfl rfl ?_
      exact ⟨HK, by unfold filterB; rw [← hq, ok_at hx]; simp [okL, any35, h20, h23, h32, h35]⟩
     have h35 := h5
     refine C.condF f51 rfl ?_
     refine wp_skip (hK10 _ _ ?_)
     have f52 := f51.pk [3, 4, 5, 11, 12, 13, 14, 15, 16, 17, 18, 19, 20, 21, 22, 23, 24, 25, 26, 27, 28, 29, 30, 31, 32, 33, 34, 35]
     refine C.region ?_
     refine L.va f52 (E.add f52 rfl rfl (IntWalk.i64_in _ (by omega))) fun a53 f53 => ?_
     refine L.mv f53 fun a54 f54 => ?_
     clear f50 f51 f52 a49 f53 a53
     refine wpList_nil (hKL7 _ _ (gk8 - 1) ?_ ?_)
     ·omega
     exact ⟨k + 1, by omega, (ok_next hx (by rw [h23, any35] at h35; cases h35)).trans hq, HK, LS, f54.sub (sx (sx (sx (sx sn))))⟩
    have h32 := h4
    refine L.run f46 (rest' := []) (by kernel_rfl) fun a47 f47 => ?_
    clear f45
    refine wn hK12 ?_
    have f48 := f47.sub (sv 35 (.bool false) (pkR f47 [3, 4, 5, 11, 12, 13, 14, 15, 16, 17, 18, 19, 20, 21, 22, 23, 24, 25, 26, 27, 28, 29, 30, 31, 32]))
    refine C.condF f48 rfl ?_
    refine wp_skip (hK10 _ _ ?_)
    have f49 := f48.pk [3, 4, 5, 11, 12, 13, 14, 15, 16, 17, 18, 19, 20, 21, 22, 23, 24, 25, 26, 27, 28, 29, 30, 31, 32, 35]
    refine C.region ?_
    refine L.va f49 (E.add f49 rfl rfl (IntWalk.i64_in _ (by omega))) fun a50 f50 => ?_
    refine L.mv f50 fun a51 f51 => ?_
    clear f47 f46 f48 f49 a47 f50 a50
    refine wpList_nil (hKL7 _ _ (gk8 - 1) ?_ ?_)
    ·omega
    exact ⟨k + 1, by omega, (ok_next hx (by simp [okL, h20, h23, h32])).trans hq, HK, LS, f51.sub (sx (sx (sx (sx sn))))⟩
   have h23 := h3
   refine L.skip f36 (f36.noT rfl rfl) rfl (by decide) fun a37 f37 => ?_
   refine L.skip f37 (f37.noT rfl rfl) rfl (by decide) fun a38 f38 => ?_
   refine L.skip f38 (f38.noT rfl rfl) rfl (by decide) fun a39 f39 => ?_
   refine L.skip f39 (f39.noT rfl rfl) rfl (by decide) fun a40 f40 => ?_
   refine L.skip f40 (f40.noT rfl rfl) rfl (by decide) fun a41 f41 => ?_
   refine L.va f41 (E.pickF f41 rfl rfl) (hw := (f41.yes rfl rfl)) fun a42 f42 => ?_
   refine L.va f42 (E.not f42 rfl) (hw := (f42.yes rfl rfl)) fun a43 f43 => ?_
   clear f35 f36 a35 f37 a37 f38 a38 f39 a39 f40 a40 f41 a41 f42 a42
   refine L.va f43 (E.pickT f43 rfl rfl) fun a44 f44 => ?_
   refine L.mv f44 fun a45 f45 => ?_
   refine L.mv f45 (hw := (f45.yes rfl rfl)) fun a46 f46 => ?_
   refine L.cl f46 (run_call Tryz.call71 (args2 f46 rfl rfl)) (cont_any p w3) ?_ (hw := (f46.yes rfl rfl))
   clear f43 a43 f44 a44 f45 a45
   rintro e w4 ⟨kc4, rfl⟩
   refine ⟨_, rfl, fun a47 f47 => ?_⟩
   have szw4 := kc4.size
   replace HK := HK.z kc4
   replace LS := LS.kept kc4
   clear f46 a46 kc4
   refine L.va f47 (E.pickT f47 rfl rfl) fun a48 f48 => ?_
   refine wn hK12 ?_
   have f49 := f48.pk [3, 4, 5, 11, 12, 13, 14, 15, 16, 17, 18, 19, 20, 21, 22, 23, 24, 25, 26, 27, 28, 29, 30, 31, 32, 33, 34, 35]
   clear f47 a47 f48
   refine f49.split 35 rfl (fun h6 f50 => ?_) (fun h6 f50 => ?_)
   ·have h35 := h6
    refine C.condT f50 rfl ?_
    refine C.sk fun K14 hK14 => ?_
    refine L.ag f50 fun a51 f51 => ?_
    have f52 := f51.pk [2, 3, 4, 5, 11, 12, 13, 14, 15, 16, 17, 18, 19, 20, 21, 22, 23, 24, 25, 26, 27, 28, 29, 30, 31, 32, 33, 34, 35]
    refine wn hK14 (wp_ret ?_); (try simp only [xt, xb]); refine C.ret f52 rfl rfl ?_
    exact ⟨HK, by unfold filterB; rw [← hq, ok_at hx]; simp [okL, any35, h20, h23, h35]⟩
   have h35 := h6
   refine C.condF f50 rfl ?_
   refine wp_skip (hK10 _ _ ?_)
   have f51 := f50.pk [3, 4, 5, 11, 12, 13, 14, 15, 16, 17, 18, 19, 20, 21, 22, 23, 24, 25, 26, 27, 28, 29, 30, 31, 32, 33, 34, 35]
   refine C.region ?_
   refine L.va f51 (E.add f51 rfl rfl (IntWalk.i64_in _ (by omega))) fun a52 f52 => ?_
   refine L.mv f52 fun a53 f53 => ?_
   clear f49 f50 f51 a48 f52 a52
   refine wpList_nil (hKL7 _ _ (gk8 - 1) ?_ ?_)
   ·omega
   exact ⟨k + 1, by omega, (ok_next hx (by simp [okL, h20, h23, h35])).trans hq, HK, LS, f53.sub (sx (sx (sx (sx sn))))⟩
  have h20 := h2
  refine L.run f32 (rest' := []) (by kernel_rfl) fun a33 f33 => ?_
  clear f31
  refine wn hK12 ?_
  have f34 := f33.sub (sv 31 (.bool false) (sv 32 (.bool false) (sv 35 (.bool false) (pkR f33 [3, 4, 5, 11, 12, 13, 14, 15, 16, 17, 18, 19, 20]))))
  refine C.condF f34 rfl ?_
  refine wp_skip (hK10 _ _ ?_)
  have f35 := f34.pk [3, 4, 5, 11, 12, 13, 14, 15, 16, 17, 18, 19, 20, 31, 32, 35]
  refine C.region ?_
  refine L.va f35 (E.add f35 rfl rfl (IntWalk.i64_in _ (by omega))) fun a36 f36 => ?_
  refine L.mv f36 fun a37 f37 => ?_
  clear f33 f32 f34 f35 a33 f36 a36
  refine wpList_nil (hKL7 _ _ (gk8 - 1) ?_ ?_)
  ·omega
  exact ⟨k + 1, by omega, (ok_next hx (by simp [okL, h20])).trans hq, HK, LS, f37.sub (sx (sx (sx (sx sn))))⟩
 have hend := h1
 refine C.condF f21 rfl ?_
 refine wp_exit (hK5 _ _ ?_)
 have f22 := f21.sub sn
 refine C.sk fun K15 hK15 => ?_
 refine L.ag f22 fun a23 f23 => ?_
 have f24 := f23.pk [2]
 refine wn hK15 (wp_ret ?_); (try simp only [xt, xb]); refine C.ret f24 rfl rfl ?_
 exact ⟨HK, by unfold filterB; rw [← hq, List.drop_eq_nil_of_le (by omega)]; simp [okAll, h8]⟩
end Go.Proofs.YtdfllmiokgoekaaGreatDoor
namespace Go.Proofs.YtdfllmiokgoekaaGreatDoor
open Go.RowKit Go.Hub Go.Lib Go.MapKept
theorem wzi9_sx : (Tryz.prog.info? 9).map (fun i => (i.zero, i.size)) = some (some (.string ⟨#[]⟩), 1) := by kernel_rfl
theorem wbs94_10_sx (x0 : ByteArray) (x1 : ByteArray) (x2 : ByteArray) (x3 : ByteArray) (x4 : ByteArray) (x5 : ByteArray) (x6 : ByteArray) (x7 : ByteArray) (x8 : ByteArray) (x9 : ByteArray) : Instr.fill (fun i => some (i * 1, 1)) ((Array.range (10 * 1)).map fun j => (Value.cells (.string ⟨#[]⟩))[j % (Value.cells (.string ⟨#[]⟩)).size]!) [(0, .string x0), (1, .string x1), (2, .string x2), (3, .string x3), (4, .string x4), (5, .string x5), (6, .string x6), (7, .string x7), (8, .string x8), (9, .string x9)] = some #[.string x0, .string x1, .string x2, .string x3, .string x4, .string x5, .string x6, .string x7, .string x8, .string x9] := by kernel_rfl
theorem wsz9_sx : (Tryz.prog.info? 9).map (·.size) = some 1 := by kernel_rfl
def p10 : List ByteArray := [⟨#[97]⟩, ⟨#[35]⟩, ⟨#[97, 47, 43]⟩, ⟨#[43, 47, 98]⟩, ⟨#[97, 47, 35]⟩, ⟨#[98, 47, 99]⟩, ⟨#[36, 115, 47, 35]⟩, ⟨#[43]⟩, ⟨#[43, 47, 43]⟩, ⟨#[195, 169, 47, 35]⟩]
abbrev FE := List (ByteArray × Int)
theorem list_at (l : List ByteArray) (i : Int) (hi : i.toNat < l.length) : ∃ x, l[i.toNat]? = some x := ⟨l[i.toNat], List.getElem?_eq_getElem hi⟩
theorem p10_at (k : Int) (h : 0 ≤ k) : ∃ x, p10[Int.toNat (k % 10)]? = some x := list_at p10 _ (by show _ < 10; omega)
theorem ss_blk {w : World} {g t : Nat} {l : List ByteArray} (B : Blk w g t (l.map Value.string).toArray) : Ss w (some ⟨g, 0, none⟩) l :=
  ⟨by simp, fun _ => ⟨g, 0, rfl, B.lt, fun j u hu => by
    rw [Nat.zero_add]
    exact B.cell_ (by rw [← Array.getElem?_toList]; exact hu)⟩⟩
theorem ss_cellI {w : World} {A : Option Addr} {b off : Nat} {l : List ByteArray} {x : ByteArray} {i : Int} (h : Ss w A l) (hA : A = some ⟨b, off, none⟩) (hx : l[i.toNat]? = some x) : w.cell? ⟨b, off + i.toNat * 1, none⟩ = some (.string x) := by
  have := ss_cell h hA hx
  rwa [Int.toNat_natCast] at this
def ltF (a b : ByteArray) : Prop := Op.bytesLess a.toList b.toList = true
instance (a b : ByteArray) : Decidable (ltF a b) := by unfold ltF; exact inferInstance
theorem bytesLess_is : ∀ (x y : List UInt8), Op.bytesLess x y = decide (x < y)
  | [], [] => by simp [Op.bytesLess]
  | _ :: _, [] => by simp [Op.bytesLess]
  | [], _ :: _ => by simp [Op.bytesLess]
  | a :: x, b :: y => by
    rw [Op.bytesLess, bytesLess_is x y]
    simp only [List.cons_lt_cons_iff]
    by_cases h1 : a < b <;> by_cases h2 : a = b <;> by_cases h3 : x < y <;> simp [h1, h2, h3]
theorem ltF_iff (a b : ByteArray) : ltF a b ↔ a.toList < b.toList := by unfold ltF; rw [bytesLess_is]; simp
theorem ltF_trans {a b c : ByteArray} (h : ltF a b) (k : ltF b c) : ltF a c := by rw [ltF_iff] at *; exact List.lt_trans h k
theorem ltF_irrefl (a : ByteArray) : ¬ ltF a a := by rw [ltF_iff]; exact List.lt_irrefl _
theorem ltF_total {a b : ByteArray} (h : ¬ ltF a b) (k : ¬ ltF b a) : a = b := by
  rw [ltF_iff] at *
  have e := List.le_antisymm (show a.toList ≤ b.toList from k) (show b.toList ≤ a.toList from h)
  rw [ByteArray.toList_eq, ByteArray.toList_eq] at e
  exact ByteArray.ext (Array.ext' e)
theorem ltF_tri (a b : ByteArray) : ltF a b ∨ a = b ∨ ltF b a := by
  by_cases h : ltF a b
  · exact .inl h
  by_cases k : ltF b a
  · exact .inr (.inr k)
  exact .inr (.inl (ltF_total h k))
theorem _root_.Go.Hub.E.gtrS {P : Program} {a : Act} {w : World} {n : Nat} {l : FL} {x y : Operand} {dst : Option Nat} {t u ty : TypeId} {ps : String} {af : Array Edge} {g : Option (Nat × Bool)} (f : Fr n a l) {s r : ByteArray} (hx : evl l x = some (.string s)) (hy : evl l y = some (.string r)) : (execOp a.eval ⟨dst, .binOp .gtr t x y u, ty, ps, af, g⟩).run P w = .ok (.value (.bool (decide (ltF r s)))) w := by
  have e : (!(Op.bytesLess s.toList r.toList || s.toList == r.toList)) = decide (ltF r s) := by
    rw [Bool.eq_iff_iff, decide_eq_true_iff, ltF_iff, bytesLess_is]
    simp only [Bool.not_eq_true', Bool.or_eq_false_iff, decide_eq_false_iff_not, beq_eq_false_iff_ne]
    constructor
    · rintro ⟨h1, h2⟩
      exact Decidable.byContradiction fun h3 => h2 (List.le_antisymm (show s.toList ≤ r.toList from h3) (show r.toList ≤ s.toList from h1))
    intro h
    exact ⟨List.lt_asymm h, fun e => List.lt_irrefl _ (e ▸ h)⟩
  rw [← e]
  simp [execOp, f.ev hx, f.ev hy, eqGuard, binOp, Op.stringOp]
def cmpF (a b : ByteArray) : Int := if ltF a b then -1 else if ltF b a then 1 else 0
def subM : MT := { k := 9, e := 3, K := ByteArray, V := Int, dom := fun x => x.size ≤ maxLen, kv := fun x => .string x, kl := fun x => .string x.data.toList, ev := fun v => .int .i64 v }
instance : DecidableEq subM.K := inferInstanceAs (DecidableEq ByteArray)
theorem subOk : subM.Ok Tryz.prog := ⟨Go.Maps.string_keyed U9, fun x hx => Go.WideMaps.keyOf_string_mk U9 hx, fun x y _ _ h => by
  injection h with h
  exact ByteArray.ext (Array.ext' h)⟩
theorem subKv : ∀ (v : Value) (l : Lit), keyOf Tryz.prog subM.k v = some l → ∀ x, subM.dom x → l = subM.kl x → v = subM.kv x := fun v l h x hx e => by
  subst e
  exact (Go.WideMaps.string_law U9).inj h (Go.WideMaps.keyOf_string_mk U9 hx)
theorem zero3 : ∀ w, (zeroValue 3).run Tryz.prog w = .ok (.int .i64 0) w := fun w => by kernel_rfl
section
variable {M : MT} [DecidableEq M.K] {P : Program} {ops : Array Oper} {rest : List Oper} {a : Act} {w : World} {Q : Exit → Act → World → Prop} {n d m : Nat} {l : FL} {ty k : TypeId} {ps : String} {af : Array Edge} {gd : Option (Nat × Bool)} {x y : Operand} {t : TypeId} {Es : List (M.K × M.V)}
theorem _root_.Go.Hub.L.mapDropA (f : Fr n a l) (hw : Region.wanted ⟨none, .call { callee := .builtin .delete, args := #[x, y], argTypes := #[t, k] }, ty, ps, af, gd⟩ (yielded ops a.tmps) = true) (h : IsAss M P w m Es) (ok : M.Ok P) (ht : P.underlying t = some (.map M.k M.e)) (hk : M.k = k) (key : M.K) (hd : M.dom key)
    (hx : evl l x = some (.map (some m))) (hy : evl l y = some (M.kv key)) (hK : ∀ a' w', IsAss M P w' m (strike Es key) → Kept [m] w w' → Fr n a' l → wpList P ops Q rest a' w') : wpList P ops Q (⟨none, .call { callee := .builtin .delete, args := #[x, y], argTypes := #[t, k] }, ty, ps, af, gd⟩ :: rest) a w := by
  subst hk
  obtain ⟨w', hrun, r1, r2⟩ := h.drop ok ht hd ty
  exact L.drop f hw rfl (v := .tuple #[]) (by simp [execOp, resolve, invoke, builtin, f.ev hx, f.ev hy, hrun]) fun a' f' => hK a' w' r1 r2 f'
theorem _root_.Go.Hub.L.makeMapA (f : Fr n a l) (hw : Region.wanted ⟨some d, .makeMap t none, ty, ps, af, gd⟩ (yielded ops a.tmps) = true) (hn : d < n) (M : MT) [DecidableEq M.K] (P : Program)
    (hK : ∀ a' w' g, IsAss M P w' g [] → Kept [] w w' → w.heap.size ≤ g → Fr n a' ((d, .map (some g)) :: l) → wpList P ops Q rest a' w') : wpList P ops Q (⟨some d, .makeMap t none, ty, ps, af, gd⟩ :: rest) a w :=
  L.val f hw rfl hn (E.makeMap f) fun a' f' => hK a' _ _ (IsAss.made M w P) ⟨rfl, rfl, rfl, by simp, fun i hi _ => (Go.MapKept.heap_alloc w _).2 i hi⟩ (Nat.le_refl _) f'
end
theorem nanS_any (x : ByteArray) (w : World) : Calls Tryz.prog 83 #[.string x] w (fun e w' => w = w' ∧ e = .returned (.bool false)) := by
 refine C.enter Tryz.func83 rfl Tryz.ntmps83 rfl ?_
 intro a0 f0
 have f1 : Fr 6 a0 [(0, .string x)] := f0
 refine C.sk fun K0 hK0 => ?_
 refine L.ag f1 fun a2 f2 => ?_
 have f3 := f2.pk [0, 2]
 refine wn hK0 (C.sk fun K1 hK1 => ?_)
 refine L.mv f3 fun a4 f4 => ?_
 refine L.mv f4 fun a5 f5 => ?_
 refine L.va f5 (E.neqS f5 rfl rfl) fun a6 f6 => ?_
 refine L.ag f6 fun a7 f7 => ?_
 have f8 := f7.pk [2]
 refine wn hK1 (wp_ret ?_); (try simp only [xt, xb]); refine C.ret f8 rfl rfl ?_
 exact ⟨rfl, by simp⟩
theorem cmpS_any (x y : ByteArray) (w : World) : Calls Tryz.prog 62 #[.string x, .string y] w (fun e w' => w = w' ∧ e = .returned (.int .i64 (cmpF x y))) := by
 refine C.enter Tryz.func62 rfl Tryz.ntmps62 rfl ?_
 intro a0 f0
 have f1 : Fr 20 a0 [(0, .string x), (1, .string y)] := f0
 refine C.sk fun K0 hK0 => ?_
 refine L.ag f1 fun a2 f2 => ?_
 have f3 := f2.pk [0, 1, 4]
 refine wn hK0 (C.sk fun K1 hK1 => ?_)
 refine L.mv f3 fun a4 f4 => ?_
 refine L.cl f4 (run_call Tryz.call83 (args1 f4 rfl)) (nanS_any _ _) ?_
 clear f0 f1 a0 f2 f3 a2
 rintro e wx ⟨rfl, rfl⟩
 refine ⟨_, rfl, fun a5 f5 => ?_⟩
 refine L.ag f5 fun a6 f6 => ?_
 have f7 := f6.pk [0, 1, 4, 5]
 refine wn hK1 (C.sk fun K2 hK2 => ?_)
 refine L.mv f7 fun a8 f8 => ?_
 refine L.cl f8 (run_call Tryz.call83 (args1 f8 rfl)) (nanS_any _ _) ?_
 clear f4 a4 f5 a5 f6 f7 a6
 rintro e wx ⟨rfl, rfl⟩
 refine ⟨_, rfl, fun a9 f9 => ?_⟩
 refine L.ag f9 fun a10 f10 => ?_
 refine wn hK2 ?_
 have f11 := f10.pk [0, 1, 4, 5, 6]
 refine wp_seq_k fun K3 hK3 => C.sk fun K4 hK4 => ?_
 refine L.mv f11 fun a12 f12 => ?_
 refine wn hK4 ?_
 have f13 := f12.pk [0, 1, 4, 6, 11]
 refine C.condF f13 rfl ?_
 refine wp_skip (hK3 _ _ ?_)
 have f14 := f13.pk [0, 1, 4, 6]
 refine wp_seq_k fun K5 hK5 => C.sk fun K6 hK6 => ?_
 refine L.mv f14 fun a15 f15 => ?_
 refine wn hK6 ?_
 have f16 := f15.pk [0, 1, 4, 13]
 refine C.condF f16 rfl ?_
 refine wp_skip (hK5 _ _ ?_)
 have f17 := f16.pk [0, 1, 4]
 refine wp_seq_k fun K7 hK7 => C.sk fun K8 hK8 => ?_
 refine L.mv f17 fun a18 f18 => ?_
 clear f8 a8 f9 a9 f10 f11 a10 f12 f13 f14 a12 f15 f16 f17 a15
 refine L.mv f18 fun a19 f19 => ?_
 refine L.va f19 (E.lssS f19 rfl rfl) fun a20 f20 => ?_
 refine wn hK8 ?_
 have f21 := f20.pk [0, 1, 4, 16]
 clear f18 a18 f19 a19 f20
 refine f21.split 16 rfl (fun h0 f22 => ?_) (fun h0 f22 => ?_)
 ·refine C.condT f22 rfl ?_
  refine C.sk fun K9 hK9 => ?_
  refine L.ag f22 fun a23 f23 => ?_
  have f24 := f23.pk [0, 1, 4]
  refine wn hK9 (wp_ret ?_); (try simp only [xt, xb]); refine C.ret f24 rfl rfl ?_
  exact ⟨rfl, by (try simp only [ltF] at h1); simp [cmpF, ltF, *]⟩
 refine C.condF f22 rfl ?_
 refine wp_skip (hK7 _ _ ?_)
 have f23 := f22.pk [0, 1, 4]
 refine wp_seq_k fun K10 hK10 => C.sk fun K11 hK11 => ?_
 refine L.mv f23 fun a24 f24 => ?_
 refine L.mv f24 fun a25 f25 => ?_
 refine L.va f25 (E.gtrS f25 rfl rfl) fun a26 f26 => ?_
 refine wn hK11 ?_
 have f27 := f26.pk [4, 19]
 clear f21 f22 f23 a20 f24 a24 f25 a25 f26
 refine f27.splitD 19 rfl (fun h1 f28 => ?_) (fun h1 f28 => ?_)
 ·refine C.condT f28 rfl ?_
  refine C.sk fun K12 hK12 => ?_
  refine L.ag f28 fun a29 f29 => ?_
  have f30 := f29.pk [4]
  refine wn hK12 (wp_ret ?_); (try simp only [xt, xb]); refine C.ret f30 rfl rfl ?_
  exact ⟨rfl, by (try simp only [ltF] at h1); simp [cmpF, ltF, *]⟩
 refine C.condF f28 rfl ?_
 refine wp_skip (hK10 _ _ ?_)
 have f29 := f28.pk [4]
 refine C.sk fun K13 hK13 => ?_
 refine L.ag f29 fun a30 f30 => ?_
 have f31 := f30.pk [4]
 refine wn hK13 (wp_ret ?_); (try simp only [xt, xb]); refine C.ret f31 rfl rfl ?_
 exact ⟨rfl, by (try simp only [ltF] at h1); simp [cmpF, ltF, *]⟩
theorem sfilter_any (k : Int) (w : World) (h0 : 0 ≤ k) (h1 : k < 256) : Calls Tryz.prog 20 #[.int .u8 k] w (fun e w' => Kept [] w w' ∧ e = .returned (.string (p10.getD (k % 10).toNat ⟨#[]⟩))) := by
 have HK : Kept [] w w := Kept.refl [] w
 refine C.enter Tryz.func20 rfl Tryz.ntmps20 rfl ?_
 intro a0 f0
 have f1 : Fr 8 a0 [(0, .int .u8 k)] := f0
 refine C.sk fun K0 hK0 => ?_
 refine L.ag f1 fun a2 f2 => ?_
 refine wn hK0 ?_
 have f3 := f2.pk [0, 2]
 refine wp_seq_k fun K1 hK1 => ?_
 obtain ⟨x, hx⟩ := p10_at k h0
 refine C.region ?_
 refine L.buildSlice f3 wantedN (by decide) (parts10 f3 rfl rfl rfl rfl rfl rfl rfl rfl rfl rfl) Tryz.underlying94 wzi9_sx rfl rfl (wbs94_10_sx _ _ _ _ _ _ _ _ _ _) fun a4 w1 g0 N0 f4 => ?_
 have SL := ss_blk (l := p10) N0.blk
 have Bg0 := N0.blk
 have kg0 := N0.kept
 have log0 := N0.lo
 have ltg0 := Bg0.lt
 have szw1 := kg0.size
 have frg0 : w.heap.size ≤ g0 := Nat.le_trans HK.size log0
 replace HK := HK.z kg0
 clear f0 f1 a0 f2 N0 kg0
 refine L.mv f4 fun a5 f5 => ?_
 refine L.va f5 (E.rem f5 rfl rfl (by omega) (Int.tmod_eq_emod_of_nonneg (by omega))) fun a6 f6 => ?_
 refine L.va f6 (E.indexA f6 (by rfl) Tryz.underlying94 wsz9_sx rfl rfl (by omega) (by omega)) fun a7 f7 => ?_
 refine L.va f7 (E.load f7 U9 rfl rfl (ss_cellI SL rfl hx)) fun a8 f8 => ?_
 refine L.ag f8 fun a9 f9 => ?_
 have f10 := f9.pk [2]
 refine wn hK1 (wp_ret ?_); (try simp only [xt, xb]); refine C.ret f10 rfl rfl ?_
 exact ⟨HK, by rw [List.getD_eq_getElem?_getD, hx]; rfl⟩
end Go.Proofs.YtdfllmiokgoekaaGreatDoor
namespace Go.Proofs.YtdfllmiokgoekaaGreatDoor
open Go.RowKit Go.Hub Go.Lib
theorem wsz49_sw : (Tryz.prog.info? 49).map (·.size) = some 1 := by kernel_rfl
def SubPost (p gs : Nat) (cs : Array Value) (Em : FE) (fb : ByteArray) (q : Int) (w : World) (e : Ending) (w' : World) : Prop :=
  (filterB fb = true ∧ 0 ≤ q ∧ q ≤ 2 ∧ Kept [gs] w w' ∧ Blk w' p 57 cs ∧ e = .returned (.bool (!(lk Em fb).isSome)) ∧ IsAss subM Tryz.prog w' gs ((fb, q) :: Go.Hub.strike Em fb : FE)) ∨
  (¬ (filterB fb = true ∧ 0 ≤ q ∧ q ≤ 2) ∧ Kept [gs] w w' ∧ Blk w' p 57 cs ∧ e = .returned (.bool false) ∧ IsAss subM Tryz.prog w' gs Em)
theorem subscribe_any (p gs : Nat) (v0 v2 v3 v4 v5 : Value) (Em : FE) (w : World) (BP : Blk w p 57 #[v0, .map (some gs), v2, v3, v4, v5]) (IA : IsAss subM Tryz.prog w gs Em) (hne : p ≠ gs) (G : Glob w) (fb : ByteArray) (q : Int) (hf : fb.size ≤ 100000) (hE : Em.length ≤ 1000000) : Calls Tryz.prog 19 #[.pointer (some ⟨p, 0, none⟩), .string fb, .int .i64 q] w (SubPost p gs #[v0, .map (some gs), v2, v3, v4, v5] Em fb q w) := by
 have HK : Kept [gs] w w := Kept.refl _ w
 have hfm : fb.size ≤ maxLen := by unfold maxLen; omega
 refine C.enter Tryz.func19 rfl Tryz.ntmps19 rfl ?_
 intro a0 f0
 have f1 : Fr 37 a0 [(0, .pointer (some ⟨p, 0, none⟩)), (1, .string fb), (2, .int .i64 q)] := f0
 refine C.sk fun K0 hK0 => ?_
 refine L.ag f1 fun a2 f2 => ?_
 refine wn hK0 ?_
 have f3 := f2.pk [0, 1, 2, 6]
 refine wp_seq_k fun K1 hK1 => C.sk fun K2 hK2 => ?_
 refine L.mv f3 fun a4 f4 => ?_
 refine L.cl f4 (run_call Tryz.call47 (args1 f4 rfl)) (filter_any fb _ G (by omega)) ?_
 clear f0 f1 a0 f2 f3 a2
 rintro e w1 ⟨kc1, rfl⟩
 refine ⟨_, rfl, fun a5 f5 => ?_⟩
 have szw1 := kc1.size
 replace HK := HK.z kc1
 replace BP := BP.z kc1
 replace IA := IsAss.z IA kc1
 clear f4 a4 kc1
 refine L.va f5 (E.not f5 rfl) fun a6 f6 => ?_
 refine L.mv f6 fun a7 f7 => ?_
 clear f5 a5 f6 a6
 refine f7.splitNB 12 rfl (fun h0 f8 => ?_) (fun h0 f8 => ?_)
 ·have h12 := h0
  refine L.run f8 (rest' := []) (by kernel_rfl) fun a9 f9 => ?_
  clear f7
  refine wn hK2 ?_
  have f10 := f9.sub (sv 19 (.bool true) (pkR f9 [0, 1, 2, 6]))
  refine C.condT f10 rfl ?_
  refine C.sk fun K3 hK3 => ?_
  refine L.ag f10 fun a11 f11 => ?_
  have f12 := f11.pk [0, 1, 2, 6]
  refine wn hK3 (wp_ret ?_); (try simp only [xt, xb]); refine C.ret f12 rfl rfl ?_
  exact .inr ⟨by simp_all <;> omega, HK, BP, rfl, IA⟩
 have h12 := h0
 refine L.mv f8 (hw := (f8.yes rfl rfl)) fun a9 f9 => ?_
 refine L.va f9 (E.lss f9 rfl rfl) (hw := (f9.yes rfl rfl)) fun a10 f10 => ?_
 refine L.va f10 (E.pickF f10 rfl rfl) fun a11 f11 => ?_
 refine L.mv f11 fun a12 f12 => ?_
 clear f7 f8 a7 f9 a9 f10 a10 f11 a11
 refine f12.splitD 16 rfl (fun h1 f13 => ?_) (fun h1 f13 => ?_)
 ·refine L.run f13 (rest' := []) (by kernel_rfl) fun a14 f14 => ?_
  clear f12
  refine wn hK2 ?_
  have f15 := f14.sub (sv 19 (.bool true) (pkR f14 [0, 1, 2, 6]))
  refine C.condT f15 rfl ?_
  refine C.sk fun K4 hK4 => ?_
  refine L.ag f15 fun a16 f16 => ?_
  have f17 := f16.pk [0, 1, 2, 6]
  refine wn hK4 (wp_ret ?_); (try simp only [xt, xb]); refine C.ret f17 rfl rfl ?_
  exact .inr ⟨by simp_all <;> omega, HK, BP, rfl, IA⟩
 refine L.mv f13 (hw := (f13.yes rfl rfl)) fun a14 f14 => ?_
 refine L.va f14 (E.gtr f14 rfl rfl) (hw := (f14.yes rfl rfl)) fun a15 f15 => ?_
 refine L.va f15 (E.pickF f15 rfl rfl) fun a16 f16 => ?_
 refine wn hK2 ?_
 have f17 := f16.pk [0, 1, 2, 6, 19]
 clear f12 f13 a12 f14 a14 f15 a15 f16
 refine f17.splitD 19 rfl (fun h2 f18 => ?_) (fun h2 f18 => ?_)
 ·refine C.condT f18 rfl ?_
  refine C.sk fun K5 hK5 => ?_
  refine L.ag f18 fun a19 f19 => ?_
  have f20 := f19.pk [0, 1, 2, 6]
  refine wn hK5 (wp_ret ?_); (try simp only [xt, xb]); refine C.ret f20 rfl rfl ?_
  exact .inr ⟨by simp_all <;> omega, HK, BP, rfl, IA⟩
 refine C.condF f18 rfl ?_
 refine wp_skip (hK1 _ _ ?_)
 have f19 := f18.pk [0, 1, 2, 6]
 refine C.sk fun K6 hK6 => ?_
 refine L.mv f19 fun a20 f20 => ?_
 refine L.va f20 (E.nilCheck f20 rfl) fun a21 f21 => ?_
 refine L.fa 1 f21 U57 rfl wsz49_sw fun a22 f22 => ?_
 refine L.va f22 (E.load f22 Tryz.underlying49 rfl rfl ((BP).cl rfl)) fun a23 f23 => ?_
 refine L.mv f23 fun a24 f24 => ?_
 refine L.va f24 (E.lookOkA f24 IA subOk Tryz.underlying49 zero3 fb hfm rfl rfl) fun a25 f25 => ?_
 clear f17 f18 f19 a16 f20 a20 f21 a21 f22 a22 f23 a23 f24 a24
 refine L.mv f25 fun a26 f26 => ?_
 refine L.va f26 (E.extract f26 rfl rfl) fun a27 f27 => ?_
 refine L.va f27 (E.extract f27 rfl rfl) fun a28 f28 => ?_
 refine L.ag f28 fun a29 f29 => ?_
 refine L.ag f29 fun a30 f30 => ?_
 have f31 := f30.pk [0, 1, 2, 6, 8]
 refine wn hK6 (C.sk fun K7 hK7 => ?_)
 refine L.mv f31 fun a32 f32 => ?_
 refine L.va f32 (E.nilCheck f32 rfl) fun a33 f33 => ?_
 clear f25 a25 f26 a26 f27 a27 f28 a28 f29 a29 f30 f31 a30 f32 a32
 refine L.fa 1 f33 U57 rfl wsz49_sw fun a34 f34 => ?_
 refine L.va f34 (E.load f34 Tryz.underlying49 rfl rfl ((BP).cl rfl)) fun a35 f35 => ?_
 refine L.mv f35 fun a36 f36 => ?_
 refine L.mv f36 fun a37 f37 => ?_
 refine L.mapPutA f37 wantedN IA subOk Tryz.underlying49 fb hfm q rfl rfl rfl (Nat.lt_of_le_of_lt hE (by decide)) fun a38 w2 IA2 ks f38 => ?_
 have szw2 := ks.size
 replace BP := BP.kept ks (by simpa using hne)
 replace HK := HK.trans ks (by simp)
 clear f33 a33 f34 a34 f35 a35 f36 a36 ks f37 a37
 have f39 := f38.pk [6, 8]
 refine wn hK7 (C.sk fun K8 hK8 => ?_)
 refine L.mv f39 fun a40 f40 => ?_
 refine L.va f40 (E.not f40 rfl) fun a41 f41 => ?_
 refine L.ag f41 fun a42 f42 => ?_
 have f43 := f42.pk [6]
 refine wn hK8 (wp_ret ?_); (try simp only [xt, xb]); refine C.ret f43 rfl rfl ?_
 exact .inl ⟨by assumption, by omega, by omega, HK, BP, rfl, IA2⟩
theorem unsubscribe_any (p gs : Nat) (v0 v2 v3 v4 v5 : Value) (Em : FE) (w : World) (BP : Blk w p 57 #[v0, .map (some gs), v2, v3, v4, v5]) (IA : IsAss subM Tryz.prog w gs Em) (hne : p ≠ gs) (fb : ByteArray) (hf : fb.size ≤ 100000) : Calls Tryz.prog 22 #[.pointer (some ⟨p, 0, none⟩), .string fb] w (fun e w' => Kept [gs] w w' ∧ Blk w' p 57 #[v0, .map (some gs), v2, v3, v4, v5] ∧ e = .returned (.bool (lk Em fb).isSome) ∧ IsAss subM Tryz.prog w' gs (Go.Hub.strike Em fb : FE)) := by
 have HK : Kept [gs] w w := Kept.refl _ w
 have hfm : fb.size ≤ maxLen := by unfold maxLen; omega
 refine C.enter Tryz.func22 rfl Tryz.ntmps22 rfl ?_
 intro a0 f0
 have f1 : Fr 22 a0 [(0, .pointer (some ⟨p, 0, none⟩)), (1, .string fb)] := f0
 refine C.sk fun K0 hK0 => ?_
 refine L.ag f1 fun a2 f2 => ?_
 have f3 := f2.pk [0, 1, 4]
 refine wn hK0 (C.sk fun K1 hK1 => ?_)
 refine L.mv f3 fun a4 f4 => ?_
 refine L.va f4 (E.nilCheck f4 rfl) fun a5 f5 => ?_
 refine L.fa 1 f5 U57 rfl wsz49_sw fun a6 f6 => ?_
 refine L.va f6 (E.load f6 Tryz.underlying49 rfl rfl ((BP).cl rfl)) fun a7 f7 => ?_
 refine L.mv f7 fun a8 f8 => ?_
 clear f0 f1 a0 f2 f3 a2 f4 a4 f5 a5 f6 a6 f7 a7
 refine L.va f8 (E.lookOkA f8 IA subOk Tryz.underlying49 zero3 fb hfm rfl rfl) fun a9 f9 => ?_
 refine L.mv f9 fun a10 f10 => ?_
 refine L.va f10 (E.extract f10 rfl rfl) fun a11 f11 => ?_
 refine L.va f11 (E.extract f11 rfl rfl) fun a12 f12 => ?_
 refine L.ag f12 fun a13 f13 => ?_
 refine L.ag f13 fun a14 f14 => ?_
 have f15 := f14.pk [0, 1, 4, 6]
 refine wn hK1 (C.sk fun K2 hK2 => ?_)
 refine L.mv f15 fun a16 f16 => ?_
 clear f8 a8 f9 a9 f10 a10 f11 a11 f12 a12 f13 a13 f14 f15 a14
 refine L.va f16 (E.nilCheck f16 rfl) fun a17 f17 => ?_
 refine L.fa 1 f17 U57 rfl wsz49_sw fun a18 f18 => ?_
 refine L.va f18 (E.load f18 Tryz.underlying49 rfl rfl ((BP).cl rfl)) fun a19 f19 => ?_
 refine L.mv f19 fun a20 f20 => ?_
 refine L.mapDropA f20 wantedN IA subOk Tryz.underlying49 rfl fb hfm rfl rfl fun a21 w1 IA2 ks f21 => ?_
 have szw1 := ks.size
 replace BP := BP.kept ks (by simpa using hne)
 replace HK := HK.trans ks (by simp)
 clear f16 a16 f17 a17 f18 a18 f19 a19 ks f20 a20
 have f22 := f21.pk [4, 6]
 refine wn hK2 (C.sk fun K3 hK3 => ?_)
 refine L.mv f22 fun a23 f23 => ?_
 refine L.ag f23 fun a24 f24 => ?_
 have f25 := f24.pk [4]
 refine wn hK3 (wp_ret ?_); (try simp only [xt, xb]); refine C.ret f25 rfl rfl ?_
 exact ⟨HK, BP, rfl, IA2⟩
end Go.Proofs.YtdfllmiokgoekaaGreatDoor
set_option maxRecDepth 100000
namespace Go.Proofs.YtdfllmiokgoekaaGreatDoor
open Go.Shelf Go.RowKit Go.Hub Go.Lib Go.Sort
def sortren : Ren := ⟨fun | 6 => 60 | 14 => 81 | 15 => 82 | 20 => 88 | 21 => 89 | 22 => 90 | 23 => 91 | 24 => 92 | 25 => 93 | 26 => 94 | 27 => 95 | 28 => 96 | 29 => 97 | 46 => 102 | 47 => 103 | 48 => 104 | 49 => 105 | 50 => 106 | 57 => 111 | n => n, fun | 0 => 0 | 3 => 3 | 4 => 4 | 5 => 5 | 9 => 9 | 22 => 32 | 24 => 66 | 25 => 100 | 39 => 115 | 45 => 120 | 46 => 121 | 50 => 93 | 53 => 127 | 55 => 129 | 66 => 136 | 70 => 140 | 76 => 143 | 77 => 144 | n => n, fun n => n⟩
theorem sortL : SlLaysF0.n6 Tryz.prog sortren := {
  mixed := by kernel_rfl
  f6 := ⟨ "slices.SortFunc[[]hubbub/api.Sub,hubbub/api.Sub]", by decide, Tryz.func60.trans (congrArg some (by kernel_rfl))⟩
  f14 := ⟨ "slices.pdqsortCmpFunc[hubbub/api.Sub]", by decide, Tryz.func81.trans (congrArg some (by kernel_rfl))⟩
  f15 := Tryz.func82.trans (congrArg some (by kernel_rfl))
  f20 := ⟨ "slices.insertionSortCmpFunc[hubbub/api.Sub]", by decide, Tryz.func88.trans (congrArg some (by kernel_rfl))⟩
  f21 := ⟨ "slices.heapSortCmpFunc[hubbub/api.Sub]", by decide, Tryz.func89.trans (congrArg some (by kernel_rfl))⟩
  f22 := ⟨ "slices.breakPatternsCmpFunc[hubbub/api.Sub]", by decide, Tryz.func90.trans (congrArg some (by kernel_rfl))⟩
  f23 := ⟨ "slices.choosePivotCmpFunc[hubbub/api.Sub]", by decide, Tryz.func91.trans (congrArg some (by kernel_rfl))⟩
  f24 := ⟨ "slices.reverseRangeCmpFunc[hubbub/api.Sub]", by decide, Tryz.func92.trans (congrArg some (by kernel_rfl))⟩
  f25 := ⟨ "slices.partialInsertionSortCmpFunc[hubbub/api.Sub]", by decide, Tryz.func93.trans (congrArg some (by kernel_rfl))⟩
  f26 := ⟨ "slices.partitionEqualCmpFunc[hubbub/api.Sub]", by decide, Tryz.func94.trans (congrArg some (by kernel_rfl))⟩
  f27 := ⟨ "slices.partitionCmpFunc[hubbub/api.Sub]", by decide, Tryz.func95.trans (congrArg some (by kernel_rfl))⟩
  f28 := Tryz.func96.trans (congrArg some (by kernel_rfl))
  f29 := Tryz.func97.trans (congrArg some (by kernel_rfl))
  f46 := ⟨ "slices.siftDownCmpFunc[hubbub/api.Sub]", by decide, Tryz.func102.trans (congrArg some (by kernel_rfl))⟩
  f47 := Tryz.func103.trans (congrArg some (by kernel_rfl))
  f48 := Tryz.func104.trans (congrArg some (by kernel_rfl))
  f49 := ⟨ "slices.medianAdjacentCmpFunc[hubbub/api.Sub]", by decide, Tryz.func105.trans (congrArg some (by kernel_rfl))⟩
  f50 := ⟨ "slices.medianCmpFunc[hubbub/api.Sub]", by decide, Tryz.func106.trans (congrArg some (by kernel_rfl))⟩
  f57 := ⟨ "slices.order2CmpFunc[hubbub/api.Sub]", by decide, Tryz.func111.trans (congrArg some (by kernel_rfl))⟩
  t0 := by kernel_rfl
  a0 := fun _ => by kernel_rfl
  z0 := fun _ => by kernel_rfl
  v0 := fun _ => by kernel_rfl
  t3 := by kernel_rfl
  a3 := fun _ => by kernel_rfl
  z3 := fun _ => by kernel_rfl
  v3 := fun _ => by kernel_rfl
  t4 := by kernel_rfl
  a4 := fun _ => by kernel_rfl
  z4 := fun _ => by kernel_rfl
  v4 := fun _ => by kernel_rfl
  t5 := by kernel_rfl
  a5 := fun _ => by kernel_rfl
  z5 := fun _ => by kernel_rfl
  v5 := fun _ => by kernel_rfl
  t9 := by kernel_rfl
  a9 := fun _ => by kernel_rfl
  z9 := fun _ => by kernel_rfl
  v9 := fun _ => by kernel_rfl
  t22 := by kernel_rfl
  a22 := fun _ => by kernel_rfl
  z22 := fun _ => by kernel_rfl
  v22 := fun _ => by kernel_rfl
  t25 := by kernel_rfl
  a25 := fun _ => by kernel_rfl
  z25 := fun _ => by kernel_rfl
  v25 := fun _ => by kernel_rfl
  t39 := by kernel_rfl
  a39 := fun _ => by kernel_rfl
  z39 := fun _ => by kernel_rfl
  v39 := fun _ => by kernel_rfl
  t45 := by kernel_rfl
  a45 := fun _ => by kernel_rfl
  z45 := fun _ => by kernel_rfl
  v45 := fun _ => by kernel_rfl
  t46 := by kernel_rfl
  a46 := fun _ => by kernel_rfl
  z46 := fun _ => by kernel_rfl
  v46 := fun _ => by kernel_rfl
  t50 := by kernel_rfl
  a50 := fun _ => by kernel_rfl
  z50 := fun _ => by kernel_rfl
  v50 := fun _ => by kernel_rfl
  t53 := by kernel_rfl
  a53 := fun _ => by kernel_rfl
  z53 := fun _ => by kernel_rfl
  v53 := fun _ => by kernel_rfl
  t55 := by kernel_rfl
  a55 := fun _ => by kernel_rfl
  z55 := fun _ => by kernel_rfl
  v55 := fun _ => by kernel_rfl
  t66 := by kernel_rfl
  a66 := fun _ => by kernel_rfl
  z66 := fun _ => by kernel_rfl
  v66 := fun _ => by kernel_rfl
  t70 := by kernel_rfl
  a70 := fun _ => by kernel_rfl
  z70 := fun _ => by kernel_rfl
  v70 := fun _ => by kernel_rfl
  t76 := by kernel_rfl
  a76 := fun _ => by kernel_rfl
  z76 := fun _ => by kernel_rfl
  v76 := fun _ => by kernel_rfl
  t77 := by kernel_rfl
  a77 := fun _ => by kernel_rfl
  z77 := fun _ => by kernel_rfl
  v77 := fun _ => by kernel_rfl
}
abbrev scp (p : ByteArray × Int) : List Value := [.string p.1, .int .i64 p.2]
def cfF (x y : ByteArray × Int) : Int := cmpF x.1 y.1
theorem lt_cf (x y : ByteArray × Int) : ltOf cfF x y = decide (ltF x.1 y.1) := by
  unfold ltOf cfF cmpF
  by_cases h1 : ltF x.1 y.1
  · simp [h1]
  by_cases h2 : ltF y.1 x.1 <;> simp [h1, h2]
theorem swoF : SWO (ltOf cfF) where
  irrefl x := by rw [lt_cf]; simp [ltF_irrefl]
  trans x y z h1 h2 := by
    rw [lt_cf] at *
    simp only [decide_eq_true_eq] at *
    exact ltF_trans h1 h2
  ntrans x y z h1 h2 := by
    rw [lt_cf] at *
    simp only [decide_eq_false_iff_not] at *
    intro h
    rcases ltF_tri x.1 y.1 with a | a | a
    · exact h1 a
    · rw [a] at h; exact h2 h
    exact h2 (ltF_trans a h)
theorem closureF (x y : ByteArray × Int) (W : World) : Calls Tryz.prog 61 #[.agg #[.string x.1, .int .i64 x.2], .agg #[.string y.1, .int .i64 y.2]] W fun e w' => e = .returned (.int .i64 (cfF x y)) ∧ ∃ q os', w' = grow (W.drewN q) os' := by
  have hcon := fun W' => cmpS_any x.1 y.1 W'
  unfold cfF
  generalize cmpF x.1 y.1 = r at hcon ⊢
  go_enter Tryz.func61, Tryz.ntmps61
  go_wp2_with (go_at_call 62; refine (hcon _).mono ?_; rintro e w' ⟨rfl, rfl⟩)
  go_ret
  exact ⟨rfl, 0, _, by rw [alloc_eq_grow, alloc_eq_grow, grow_grow]; rfl⟩
theorem cmpLaysF (blk off size : Nat) (w : World) : CmpLays Tryz.prog 61 #[] scp 2 cfF blk off size w := fun _ _ _ _ x y => closureF x y _
theorem sort_kept (w : World) (blk off n : Nat) (d : Array (ByteArray × Int)) (os : Array Obj) : Kept [blk] w (sortWorldK scp 2 w blk off n d os) := by
  unfold sortWorldK grow putRowK putRow mapBlock Go.Sort.ahead
  refine ⟨rfl, rfl, rfl, by simp, fun i hi hn => ?_⟩
  have hne : blk ≠ i := fun e => hn (by simp [e])
  rw [Array.getElem?_append_left (by simpa using hi), Array.getElem?_modify]
  simp [hne]
theorem fm_get {α : Type} (enc : α → List Value) (hk : ∀ x, (enc x).length = 2) : ∀ (l : List α) (j : Nat), (l.flatMap enc)[j]? = (l[j / 2]?).bind fun x => (enc x)[j % 2]?
  | [], j => by simp
  | a :: r, j => by
    rw [List.flatMap_cons, List.getElem?_append, hk]
    by_cases h : j < 2
    · rw [if_pos h, show j / 2 = 0 by omega, show j % 2 = j by omega]; rfl
    rw [if_neg h, fm_get enc hk r, show j / 2 = (j - 2) / 2 + 1 by omega, show j % 2 = (j - 2) % 2 by omega]; rfl
theorem fm_len {α : Type} (enc : α → List Value) (hk : ∀ x, (enc x).length = 2) (l : List α) : (l.flatMap enc).length = l.length * 2 := by
  induction l with
  | nil => rfl
  | cons a r ih => rw [List.flatMap_cons, List.length_append, ih, hk, List.length_cons]; omega
theorem scp_len (x : ByteArray × Int) : (scp x).length = 2 := rfl
theorem holds_of {w : World} {blk off : Nat} {l : FE} (hc : ∀ j u, (l.flatMap scp)[j]? = some u → w.cell? ⟨blk, off + j, none⟩ = some u ∧ w.frozen? ⟨blk, off + j, none⟩ = false) : HoldsK scp 2 w blk off l.toArray := by
  intro j hj
  rw [size_flatK] at hj
  have hj2 : j / 2 < l.length := by have : l.toArray.size = l.length := by simp
                                    omega
  have h := hc j ((scp l[j / 2])[j % 2]'(by show _ < 2; omega)) (by rw [fm_get scp scp_len, List.getElem?_eq_getElem hj2]; exact List.getElem?_eq_getElem _)
  refine ⟨h.1.trans ?_, h.2⟩
  rw [get_flatK _ _ _ _ hj]
  congr 1
  have e : l.toArray[j / 2]! = l[j / 2] := by simp [hj2]
  rw [e]
  simp only [id]
  rw [getElem!_pos (scp l[j / 2]) (j % 2) (by show _ < 2; omega)]
theorem sl_of_holds {w : World} {blk off : Nat} {d : Array (ByteArray × Int)} (hb : blk < w.heap.size) (h : HoldsK scp 2 w blk off d) : Sl w (some ⟨blk, off, none⟩) d.size 2 (d.toList.flatMap scp) := by
  refine ⟨by rw [fm_len scp scp_len]; simp, fun _ => ⟨blk, off, rfl, hb, fun j u hu => ?_⟩⟩
  rw [fm_get scp scp_len] at hu
  cases hx : d.toList[j / 2]? with
  | none => rw [hx] at hu; cases hu
  | some x =>
    rw [hx] at hu
    obtain ⟨hlt, hx2⟩ := List.getElem?_eq_some_iff.1 hx
    have hlt2 : j / 2 < d.size := by simpa using hlt
    have h2 := h.cell (c := j % 2) hlt2 (Nat.mod_lt _ (by decide))
    have e : off + j / 2 * 2 + j % 2 = off + j := by omega
    rw [e] at h2
    rw [h2.1]
    have e3 : d[j / 2]! = x := by rw [getElem!_pos d _ hlt2]; simpa using hx2
    rw [e3]
    have hu' : (scp x)[j % 2]? = some u := hu
    obtain ⟨h5, h6⟩ := List.getElem?_eq_some_iff.1 hu'
    rw [getElem!_pos (scp x) _ h5, h6]
def SortedF (l : FE) : Prop := ∀ (i j : Nat) (p q : ByteArray × Int), i < j → l[i]? = some p → l[j]? = some q → ¬ ltF q.1 p.1
theorem sortF_any (blk off cap : Nat) (l : FE) (w : World) (hc : ∀ j u, (l.flatMap scp)[j]? = some u → w.cell? ⟨blk, off + j, none⟩ = some u ∧ w.frozen? ⟨blk, off + j, none⟩ = false) (hblk : blk < w.heap.size) (hl : l.length ≤ 1000000) :
    Calls Tryz.prog 60 #[.slice (some ⟨blk, off, none⟩) l.length cap, .func (.func 61) #[] #[]] w fun e w' => Kept [blk] w w' ∧ e = .returned (.tuple #[]) ∧ ∃ out : FE, out.length = l.length ∧ out.Perm l ∧ SortedF out ∧ Sl w' (some ⟨blk, off, none⟩) out.length 2 (out.flatMap scp) := by
  have eg : ∀ args w, (callFunc 61 args).run Tryz.prog w = .ok (.enter 61 args) w := enters_of Tryz.func61 (by kernel_rfl) rfl
  have hH := holds_of hc
  have hcon := AnyQ.slices_SortFunc sortL 2 (fun _ => by kernel_rfl) (fun _ => by kernel_rfl) scp scp_len (fun x v hv => by simp [scp] at hv; rcases hv with rfl | rfl <;> rfl) cfF swoF 61 #[] blk off cap l.toArray w eg (cmpLaysF blk off _ w) hH hblk (by simp; omega)
  have el : l.length = l.toArray.size := by simp
  rw [el]
  refine hcon.mono ?_
  rintro e w' ⟨rfl, d', n, os, hp, hs, rfl⟩
  have hsz : d'.size = l.toArray.size := hp.1
  have hsl : d'.toList.length = l.toArray.size := by simpa using hsz
  refine ⟨sort_kept w blk off n d' os, rfl, d'.toList, hsl, ?_, ?_, ?_⟩
  · have := hp.2.2
    have e1 : d'.extract 0 l.toArray.size = d' := by rw [← hsz]; simp
    have e2 : l.toArray.extract 0 l.toArray.size = l.toArray := by simp
    rw [e1, e2] at this
    exact this
  · intro i j p q hij hi hj hlt
    obtain ⟨h1, h2⟩ := List.getElem?_eq_some_iff.1 hi
    obtain ⟨h3, h4⟩ := List.getElem?_eq_some_iff.1 hj
    have h5 : j < d'.size := by simpa using h3
    have := hs i j (Nat.zero_le _) hij (by rw [← hsz]; exact h5)
    rw [lt_cf, getElem!_pos d' j h5, getElem!_pos d' i (by omega)] at this
    simp only [decide_eq_false_iff_not] at this
    refine this ?_
    have e4 : d'[j] = q := by simpa using h4
    have e2 : d'[i] = p := by simpa using h2
    rw [e4, e2]
    exact hlt
  have h6 := holdsK_sortWorldK scp 2 w blk off n l.toArray d' os hblk hH hsz
  have hb : blk < (sortWorldK scp 2 w blk off n d' os).heap.size := Nat.lt_of_lt_of_le hblk (sort_kept w blk off n d' os).size
  have := sl_of_holds hb h6
  rw [show d'.size = d'.toList.length by simp] at this
  exact this
theorem sortR_any (w0 : World) (A : Option Addr) (c : Nat) (l : FE) (w : World) (F : Fresh w0 w 66 2 A l.length c (l.flatMap scp)) (hl : l.length ≤ 1000000) :
    Calls Tryz.prog 60 #[.slice A l.length c, .func (.func 61) #[] #[]] w fun e w' => (e = .returned (.tuple #[]) ∧ Kept ((Value.slice A l.length c).ownBlock.toList) w w') ∧ ∃ out : FE, out.length = l.length ∧ out.Perm l ∧ SortedF out ∧ Sl w' A out.length 2 (out.flatMap scp) := by
  by_cases h0 : l.length = 0
  · have e : l = [] := List.eq_nil_of_length_eq_zero h0
    subst e
    refine (AnyF.slices_SortFunc_none sortL A c (.func (.func 61) #[] #[]) w).mono ?_
    rintro e w' ⟨rfl, rfl⟩
    exact ⟨⟨rfl, Kept.refl _ _⟩, [], rfl, List.Perm.refl _, fun i j p q _ hi => by simp at hi, Sl.nil _ _ _⟩
  have hO := F.own
  rcases hO.2 with ⟨e, hz⟩ | ⟨g, off, cap, cur, e, hg, hn, hc, hs, hcell⟩
  · exact absurd hz h0
  injection e with e1 e2 e3
  subst e1 e3
  have hb : g < w.heap.size := (Array.getElem?_eq_some_iff.1 hg).1
  refine (sortF_any g off c l w (fun j u hu => ⟨?_, ?_⟩) hb hl).mono ?_
  · simp only [World.cell?, hg]
    exact hcell j u hu
  · simp [World.frozen?, hg]
  rintro e w' ⟨hk, rfl, out, h1, h2, h3, h4⟩
  exact ⟨⟨rfl, by simpa [Value.ownBlock] using hk⟩, out, h1, h2, h3, by rw [h1]; rw [h1] at h4; exact h4⟩
end Go.Proofs.YtdfllmiokgoekaaGreatDoor
namespace Go.Proofs.YtdfllmiokgoekaaGreatDoor
open Go.RowKit Go.Hub
abbrev rcell (f : Fc) : List Value := [.int .i64 f.id, .int .i64 f.at_, .string f.x.m.tp, .slice f.x.A f.x.m.pay.length f.x.c, .int .i64 f.x.m.qos, .bool f.x.m.ret, .bool f.rc]
structure FlyR (B : Nat) (w : World) (A : Option Addr) (c : Nat) (l : List Fc) : Prop where
  own : Own w 97 7 (.slice A l.length c) l.length (l.flatMap rcell)
  pay : ∀ f ∈ l, Pay B w f.x.A f.x.m.pay
  loA : ∀ a, A = some a → B ≤ a.block
  len : l.length ≤ 4
structure LsR (B : Nat) (w : World) (A : Option Addr) (c : Nat) (l : FE) : Prop where
  own : Own w 66 2 (.slice A l.length c) l.length (l.flatMap scp)
  loA : ∀ a, A = some a → B ≤ a.block
structure Rs where
  cl : ByteArray
  ls : FE
  LA : Option Addr
  lc : Nat
  ip : Nat
  im : Nat
  q : Nat
  gm : Nat
  used : List Int
  taken : Int
  fly : List Fc
  FA : Option Addr
  fc : Nat
  wait : List Mc
  QA : Option Addr
  qc : Nat
  lost : Int
  got : List Int
def Rs.abs (s : Rs) : SA := ⟨s.used, s.taken, s.fly.map Fc.abs, s.wait.map (·.m), s.lost, s.got⟩
structure Rs.Like (w : World) (s s' : Rs) : Prop where
  im : s'.im = s.im
  gm : s'.gm = s.gm
  cl : s'.cl = s.cl
  ls : s'.ls = s.ls
  qa : Row w s.QA s'.QA
abbrev Rs.cells (s : Rs) : Array Value := #[.string s.cl, .slice s.LA s.ls.length s.lc, .pointer (some ⟨s.ip, 0, none⟩), .pointer (some ⟨s.q, 0, none⟩), .slice s.FA s.fly.length s.fc, .map (some s.gm)]
structure RefAt (B : Nat) (w : World) (p : Nat) (s : Rs) : Prop where
  top : Blk w p 64 s.cells
  ids : IdsR w s.ip s.im s.used 65535 s.taken
  qu : QuR B w s.q s.QA s.qc s.wait s.lost
  fly : FlyR B w s.FA s.fc s.fly
  ls : LsR B w s.LA s.lc s.ls
  got : IsSet Tryz.prog 3 4 w s.gm s.got
  ne : s.im ≠ s.gm
  lop : B ≤ p
  loi : B ≤ s.ip
  lom : B ≤ s.im
  log : B ≤ s.gm
  tk : 0 ≤ s.taken ∧ s.taken ≤ 65535
  perm : s.used.Perm (s.fly.map (·.id))
  ats : ∀ f ∈ s.fly, -1099511627776 ≤ f.at_ ∧ f.at_ ≤ 1099511627776
  idb : ∀ f ∈ s.fly, 1 ≤ f.id ∧ f.id ≤ 65535
section
variable {T : List TypeId} {M : List Nat} {B : Nat} {w w' w0 : World} {A : Option Addr} {c p q : Nat}
theorem QuR.mod {l : List Mc} {lost : Int} (h : QuR B w q A c l lost) (hm : Mod T M B w w') (hT : (76 : TypeId) ∉ T ∧ (30 : TypeId) ∉ T ∧ (5 : TypeId) ∉ T) : QuR B w' q A c l lost :=
  ⟨h.top.mod hm hT.1, h.own.mod hm hT.2.1, fun m hx => (h.pay m hx).mod hm hT.2.2, h.lo, h.loA, h.len⟩
theorem FlyR.mod {l : List Fc} (h : FlyR B w A c l) (hm : Mod T M B w w') (hT : (97 : TypeId) ∉ T ∧ (5 : TypeId) ∉ T) : FlyR B w' A c l :=
  ⟨h.own.mod hm hT.1, fun m hx => (h.pay m hx).mod hm hT.2, h.loA, h.len⟩
theorem LsR.mod {l : FE} (h : LsR B w A c l) (hm : Mod T M B w w') (hT : (66 : TypeId) ∉ T) : LsR B w' A c l := ⟨h.own.mod hm hT, h.loA⟩
theorem IdsR.mod {ip im : Nat} {S : List Int} {most taken : Int} (h : IdsR w ip im S most taken) (hm : Mod T M B w w') (hT : (92 : TypeId) ∉ T) (hM : im ∉ M) : IdsR w' ip im S most taken := ⟨h.top.mod hm hT, h.set.mod hm hM, h.ne⟩
theorem RefAt.mod {s : Rs} (h : RefAt B w p s) (hm : Mod T [] B w w') (hT : ∀ t ∈ ([64, 92, 76, 30, 97, 66, 5] : List TypeId), t ∉ T) : RefAt B w' p s :=
  ⟨h.top.mod hm (hT _ (by simp)), h.ids.mod hm (hT _ (by simp)) (by simp), h.qu.mod hm ⟨hT _ (by simp), hT _ (by simp), hT _ (by simp)⟩, h.fly.mod hm ⟨hT _ (by simp), hT _ (by simp)⟩, h.ls.mod hm (hT _ (by simp)), h.got.mod hm (by simp), h.ne, h.lop, h.loi, h.lom, h.log, h.tk, h.perm, h.ats, h.idb⟩
theorem RefAt.used_lt {s : Rs} (h : RefAt B w p s) : s.used.length < 65535 := by
  have h1 := h.perm.length_eq
  have h2 := h.fly.len
  rw [List.length_map] at h1
  omega
end
theorem rcell_len (l : List Fc) : (l.flatMap rcell).length = l.length * 7 := flat_len rcell 7 (fun _ => rfl) l
theorem takeR_ok (B ip im : Nat) (S : List Int) (taken : Int) (w : World) (A : IdsR w ip im S 65535 taken) (hS : S.length < 65535) (ht : 0 ≤ taken) (ht2 : taken ≤ 65535) (h1 : B ≤ ip) (h2 : B ≤ im) :
    Calls Tryz.prog 77 #[.pointer (some ⟨ip, 0, none⟩)] w fun e w' => e = .returned (.tuple #[.int .i64 (Go.Ids.nxt S taken), .bool true]) ∧ Mod [92] [im] B w w' ∧ IdsR w' ip im (insS (Go.Ids.nxt S taken) S) 65535 (Go.Ids.nxt S taken) ∧ Go.Ids.nxt S taken ∉ S ∧ 1 ≤ Go.Ids.nxt S taken ∧ Go.Ids.nxt S taken ≤ 65535 := by
  refine (takeR_any ip im S 65535 taken w A ht (by omega) (by omega)).mono ?_
  rintro e w' ⟨hk, h⟩
  rw [if_neg (by omega)] at h
  refine ⟨h.1, .of_kept hk ?_, h.2, Go.Ids.nxt_spec S taken ht hS⟩
  intro x hx _
  simp only [List.mem_cons, List.not_mem_nil, or_false] at hx
  rcases hx with rfl | rfl
  · exact ⟨h1, .inl (A.top.typ (by simp))⟩
  exact ⟨h2, .inr ⟨A.set.map, by simp⟩⟩
end Go.Proofs.YtdfllmiokgoekaaGreatDoor
namespace Go.Proofs.YtdfllmiokgoekaaGreatDoor
open Go.RowKit Go.Hub
theorem wsz3_rc1 : (Tryz.prog.info? 3).map (·.size) = some 1 := by kernel_rfl
theorem wsz4_rc1 : (Tryz.prog.info? 4).map (·.size) = some 1 := by kernel_rfl
theorem wsz9_rc1 : (Tryz.prog.info? 9).map (·.size) = some 1 := by kernel_rfl
theorem wsz28_rc1 : (Tryz.prog.info? 28).map (·.size) = some 1 := by kernel_rfl
theorem wsz35_rc1 : (Tryz.prog.info? 35).map (·.size) = some 24 := by kernel_rfl
theorem wbl35_0_5_6_3_2_4_1_rc1 (x0 : Int) (x1 : ByteArray) (x2 : Option Addr) (y2 z2 : Nat) (x3 : Int) (x4 : Bool) (x5 : Int) (x6 : Bool) : Tryz.prog.built 35 [(0, .int .i64 x0), (5, .string x1), (6, .slice x2 y2 z2), (3, .int .i64 x3), (2, .bool x4), (4, .int .i64 x5), (1, .bool x6)] = some #[.int .i64 x0, .bool x6, .bool x4, .int .i64 x3, .int .i64 x5, .string x1, .slice x2 y2 z2, (.int .i64 0), (.string ⟨#[]⟩), (.bool false), (.int .i64 0), (.bool false), (.string ⟨#[]⟩), (.slice none 0 0), (.int .i64 0), (.bool false), (.bool false), (.bool false), (.string ⟨#[]⟩), (.slice none 0 0), (.bool false), (.int .i64 0), (.slice none 0 0), (.slice none 0 0)] := by kernel_rfl
theorem wsz62_rc1 : (Tryz.prog.info? 62).map (·.size) = some 1 := by kernel_rfl
theorem wzib97_rc1 : (Tryz.prog.info? 97).map (fun i => (i.zero, i.size, i.bytes)) = some (some (.agg #[(.int .i64 0), (.int .i64 0), (.string ⟨#[]⟩), (.slice none 0 0), (.int .i64 0), (.bool false), (.bool false)]), 7, 80) := by kernel_rfl
theorem wzi97_rc1 : (Tryz.prog.info? 97).map (fun i => (i.zero, i.size)) = some (some (.agg #[(.int .i64 0), (.int .i64 0), (.string ⟨#[]⟩), (.slice none 0 0), (.int .i64 0), (.bool false), (.bool false)]), 7) := by kernel_rfl
theorem wbs62_1_rc1 (x0_0 x0_1 x0_2 x0_3 x0_4 x0_5 x0_6 : Value) : Instr.fill (fun i => some (i * 7, 7)) ((Array.range (1 * 7)).map fun j => (Value.cells (.agg #[(.int .i64 0), (.int .i64 0), (.string ⟨#[]⟩), (.slice none 0 0), (.int .i64 0), (.bool false), (.bool false)]))[j % (Value.cells (.agg #[(.int .i64 0), (.int .i64 0), (.string ⟨#[]⟩), (.slice none 0 0), (.int .i64 0), (.bool false), (.bool false)])).size]!) [(0, .agg #[x0_0, x0_1, x0_2, x0_3, x0_4, x0_5, x0_6])] = some #[x0_0, x0_1, x0_2, x0_3, x0_4, x0_5, x0_6] := by kernel_rfl
theorem wsz30_rc1 : (Tryz.prog.info? 30).map (·.size) = some 4 := by kernel_rfl
theorem wsz58_rc1 : (Tryz.prog.info? 58).map (·.size) = some 1 := by kernel_rfl
theorem wbl97_0_1_2_rc1 (x0 : Int) (x1 : Int) (x2_0 x2_1 x2_2 x2_3 : Value) : Tryz.prog.built 97 [(0, .int .i64 x0), (1, .int .i64 x1), (2, .agg #[x2_0, x2_1, x2_2, x2_3])] = some #[.int .i64 x0, .int .i64 x1, x2_0, x2_1, x2_2, x2_3, (.bool false)] := by kernel_rfl
def StartPost (B p : Nat) (s : Rs) (m : Ms) (now : Int) (w : World) (e : Ending) (w' : World) : Prop :=
  ∃ s' A c, e = .returned (.agg (pcell ⟨riseP s.abs m, A, c⟩).toArray) ∧ RefAt B w' p s' ∧ s'.abs = riseS s.abs m now ∧ Rs.Like w s s' ∧ Mod [64, 92, 97] [s.im] B w w' ∧ Pay B w' A m.pay
theorem start_fin {B p : Nat} {s : Rs} {m : Ms} {now : Int} {w W : World} {A2 Am : Option Addr} {c2 cm : Nat} (hS : RefAt B w p s) (htn : 1 ≤ Go.Ids.nxt s.used s.taken ∧ Go.Ids.nxt s.used s.taken ≤ 65535) (hti : Go.Ids.nxt s.used s.taken ∉ s.used) (h4 : s.fly.length < 4) (HK : Mod [64, 92, 97] [s.im] B w W)
    (BP : Blk W p 64 #[.string s.cl, .slice s.LA s.ls.length s.lc, .pointer (some ⟨s.ip, 0, none⟩), .pointer (some ⟨s.q, 0, none⟩), .slice A2 (s.fly.length + 1) c2, .map (some s.gm)]) (IDN : IdsR W s.ip s.im (insS (Go.Ids.nxt s.used s.taken) s.used) 65535 (Go.Ids.nxt s.used s.taken))
    (RX : Own W 97 7 (.slice A2 (s.fly.length + 1) c2) (s.fly.length + 1) (s.fly.flatMap rcell ++ [.int .i64 (Go.Ids.nxt s.used s.taken), .int .i64 (nearI now), .string m.tp, .slice Am m.pay.length cm, .int .i64 m.qos, .bool m.ret, .bool false])) (HC : Pay B W Am m.pay) (LX : ∀ a, A2 = some a → B ≤ a.block) :
    StartPost B p s m now w (.returned (.agg (pubCells m.tp Am m.pay.length cm m.qos m.ret (Go.Ids.nxt s.used s.taken) false))) W := by
  have hlen : (s.fly ++ [(⟨⟨m, Am, cm⟩, Go.Ids.nxt s.used s.taken, nearI now, false⟩ : Fc)]).length = s.fly.length + 1 := by simp
  refine ⟨{ s with used := insS (Go.Ids.nxt s.used s.taken) s.used, taken := Go.Ids.nxt s.used s.taken, fly := s.fly ++ [⟨⟨m, Am, cm⟩, Go.Ids.nxt s.used s.taken, nearI now, false⟩], FA := A2, fc := c2 }, Am, cm, rfl, ?_, ?_, ⟨rfl, rfl, rfl, rfl, fun b hb => .inl hb⟩, HK, HC⟩
  · refine ⟨by simpa [Rs.cells] using BP, IDN, hS.qu.mod HK (by decide), ⟨?_, ?_, LX, by show (s.fly ++ [_]).length ≤ 4; rw [hlen]; omega⟩, hS.ls.mod HK (by decide), hS.got.mod HK (by simpa using Ne.symm hS.ne), hS.ne, hS.lop, hS.loi, hS.lom, hS.log, ⟨by show 0 ≤ Go.Ids.nxt s.used s.taken; omega, htn.2⟩, ?_, ?_, ?_⟩
    · simp only [hlen, List.flatMap_append]
      exact RX
    · intro f hf
      rcases List.mem_append.1 hf with hf | hf
      · exact (hS.fly.pay f hf).mod HK (by decide)
      obtain rfl := List.mem_singleton.1 hf
      exact HC
    · show (insS (Go.Ids.nxt s.used s.taken) s.used).Perm _
      rw [insS, if_neg hti, List.map_append]
      exact (List.Perm.cons _ hS.perm).trans (List.perm_append_singleton _ _).symm
    · intro f hf
      rcases List.mem_append.1 hf with hf | hf
      · exact hS.ats f hf
      obtain rfl := List.mem_singleton.1 hf
      exact near_bd now
    intro f hf
    rcases List.mem_append.1 hf with hf | hf
    · exact hS.idb f hf
    obtain rfl := List.mem_singleton.1 hf
    exact htn
  simp [Rs.abs, riseS, Fc.abs]
theorem publishR_any (m : Ms) (Am : Option Addr) (cm : Nat) (id : Int) (dup : Bool) (w : World) : Calls Tryz.prog 50 #[.agg #[.string m.tp, .slice Am m.pay.length cm, .int .i64 m.qos, .bool m.ret], .int .i64 id, .bool dup] w (fun e w' => Kept [] w w' ∧ e = .returned (.agg (pubCells m.tp Am m.pay.length cm m.qos m.ret id dup))) := by
 have HK : Kept [] w w := Kept.refl [] w
 refine C.enter Tryz.func50 rfl Tryz.ntmps50 rfl ?_
 intro a0 f0
 have f1 : Fr 18 a0 [(0, .agg #[.string m.tp, .slice Am m.pay.length cm, .int .i64 m.qos, .bool m.ret]), (1, .int .i64 id), (2, .bool dup)] := f0
 refine C.sk fun K0 hK0 => ?_
 refine L.box f1 wantedN (by decide) rfl rfl fun a2 w1 g0 N0 f2 => ?_
 have Bg0 := N0.blk
 have kg0 := N0.kept
 have log0 := N0.lo
 have ltg0 := Bg0.lt
 have szw1 := kg0.size
 have frg0 : w.heap.size ≤ g0 := Nat.le_trans HK.size log0
 replace HK := HK.z kg0
 clear f0 N0 kg0
 refine L.alloc f2 wantedN (by decide) (z := (.agg #[(.int .i64 0), (.bool false), (.bool false), (.int .i64 0), (.int .i64 0), (.string ⟨#[]⟩), (.slice none 0 0), (.int .i64 0), (.string ⟨#[]⟩), (.bool false), (.int .i64 0), (.bool false), (.string ⟨#[]⟩), (.slice none 0 0), (.int .i64 0), (.bool false), (.bool false), (.bool false), (.string ⟨#[]⟩), (.slice none 0 0), (.bool false), (.int .i64 0), (.slice none 0 0), (.slice none 0 0)])) (fun _ => by kernel_rfl) rfl fun a3 w2 g1 N1 f3 => ?_
 have Bg1 := N1.blk
 have kg1 := N1.kept
 have log1 := N1.lo
 have ltg1 := Bg1.lt
 have szw2 := kg1.size
 have frg1 : w.heap.size ≤ g1 := Nat.le_trans HK.size log1
 have neg0_g1 : g0 ≠ g1 := by have := Bg0.lt; omega
 replace HK := HK.z kg1
 replace Bg0 := Bg0.z kg1
 clear f1 a0 N1 kg1
 have f4 := f3.pk [1, 2, 3, 6]
 refine wn hK0 (C.sk fun K1 hK1 => ?_)
 refine L.fa 0 f4 U30 rfl wsz9_rc1 fun a5 f5 => ?_
 refine L.va f5 (E.load f5 U9 rfl rfl ((Bg0).cl rfl)) fun a6 f6 => ?_
 refine L.fa 1 f6 U30 rfl wsz28_rc1 fun a7 f7 => ?_
 refine L.va f7 (E.load f7 U28 rfl rfl ((Bg0).cl rfl)) fun a8 f8 => ?_
 refine L.fa 2 f8 U30 rfl wsz3_rc1 fun a9 f9 => ?_
 refine L.va f9 (E.load f9 U3 rfl rfl ((Bg0).cl rfl)) fun a10 f10 => ?_
 clear f2 a2 f3 f4 a3 f5 a5 f6 a6 f7 a7 f8 a8 f9 a9
 refine L.fa 3 f10 U30 rfl wsz4_rc1 fun a11 f11 => ?_
 refine L.va f11 (E.load f11 U4 rfl rfl ((Bg0).cl rfl)) fun a12 f12 => ?_
 refine L.mv f12 fun a13 f13 => ?_
 refine L.mv f13 fun a14 f14 => ?_
 refine L.va f14 (E.build f14 (parts7 f14 rfl rfl rfl rfl rfl rfl rfl) (wbl35_0_5_6_3_2_4_1_rc1 _ _ _ _ _ _ _ _ _)) fun a15 f15 => ?_
 refine L.storeR f15 wantedN wsz35_rc1 rfl rfl rfl Bg1 rfl rfl fun a16 w3 f16 NB3 ks3 => ?_
 have szw3 := ks3.size
 replace HK := HK.trans ks3 (by intro x hx hlt; simp at hx; subst hx; (exfalso; omega))
 replace Bg0 := Bg0.kept ks3 (by simp; omega)
 replace Bg1 := NB3
 clear f10 a10 f11 a11 f12 a12 f13 a13 f14 a14 ks3 f15 a15
 have f17 := f16.pk [6]
 refine wn hK1 (wp_ret ?_); (try simp only [xt, xb]); refine C.retC f17 rfl rfl Bg1 U35 rfl wsz35_rc1 ?_
 exact ⟨HK, rfl⟩
theorem flyingR_any (B p : Nat) (s : Rs) (w : World) (hS : RefAt B w p s) : Calls Tryz.prog 35 #[.pointer (some ⟨p, 0, none⟩)] w (fun e w' => w = w' ∧ e = .returned (.int .i64 s.fly.length)) := by
 have BP := hS.top
 refine C.enter Tryz.func35 rfl Tryz.ntmps35 rfl ?_
 intro a0 f0
 have f1 : Fr 8 a0 [(0, .pointer (some ⟨p, 0, none⟩))] := f0
 refine C.sk fun K0 hK0 => ?_
 refine L.ag f1 fun a2 f2 => ?_
 have f3 := f2.pk [0, 2]
 refine wn hK0 (C.sk fun K1 hK1 => ?_)
 refine L.mv f3 fun a4 f4 => ?_
 refine L.va f4 (E.nilCheck f4 rfl) fun a5 f5 => ?_
 refine L.fa 4 f5 U64 rfl wsz62_rc1 fun a6 f6 => ?_
 refine L.va f6 (E.load f6 Tryz.underlying62 rfl rfl ((BP).cl rfl)) fun a7 f7 => ?_
 refine L.va f7 (E.lenL f7 Tryz.underlying62 rfl) fun a8 f8 => ?_
 clear f0 f1 a0 f2 f3 a2 f4 a4 f5 a5 f6 a6 f7 a7
 refine L.ag f8 fun a9 f9 => ?_
 have f10 := f9.pk [2]
 refine wn hK1 (wp_ret ?_); (try simp only [xt, xb]); refine C.ret f10 rfl rfl ?_
 exact ⟨rfl, rfl⟩
theorem start_any (B p : Nat) (s : Rs) (m : Ms) (Am : Option Addr) (cm : Nat) (now : Int) (w : World) (hS : RefAt B w p s) (HP : Pay B w Am m.pay) (hB : B ≤ w.heap.size) (h4 : s.fly.length < 4) : Calls Tryz.prog 51 #[.pointer (some ⟨p, 0, none⟩), .agg #[.string m.tp, .slice Am m.pay.length cm, .int .i64 m.qos, .bool m.ret], .int .i64 now] w (StartPost B p s m now w) := by
 have HK : Mod [64, 92, 97] [s.im] B w w := .refl _ _ _ _
 have BP := hS.top
 have OWN := hS.fly.own
 have hlop := hS.lop
 have hul := hS.used_lt
 obtain ⟨MM, hMM⟩ : ∃ MM, MM = (Value.slice s.FA s.fly.length s.fc).ownBlock.toList := ⟨_, rfl⟩
 have hpM : p ∉ MM := by rw [hMM]; exact own_ne hS.fly.own hS.top (by decide)
 have htk := hS.tk
 have ID := hS.ids
 refine C.enter Tryz.func51 rfl Tryz.ntmps51 rfl ?_
 intro a0 f0
 have f1 : Fr 34 a0 [(0, .pointer (some ⟨p, 0, none⟩)), (1, .agg #[.string m.tp, .slice Am m.pay.length cm, .int .i64 m.qos, .bool m.ret]), (2, .int .i64 now)] := f0
 refine C.sk fun K0 hK0 => ?_
 refine L.box f1 wantedN (by decide) rfl rfl fun a2 w1 g0 N0 f2 => ?_
 have Bg0 := N0.blk
 have kg0 := N0.kept
 have log0 := N0.lo
 have ltg0 := Bg0.lt
 have szw1 := kg0.size
 have frg0 : w.heap.size ≤ g0 := Nat.le_trans HK.size log0
 have nep_g0 : p ≠ g0 := by have := BP.lt; omega
 replace HK := HK.trans (.of_kept0 kg0)
 replace BP := BP.z kg0
 replace OWN := OWN.mod (Mod.of_kept0 (T := []) (M := []) (B := B) kg0) (by decide)
 replace HP := HP.mod (Mod.of_kept0 (T := []) (M := []) (B := B) kg0) (by decide)
 replace ID := ID.mod (Mod.of_kept0 (T := []) (M := []) (B := B) kg0) (by decide) (by simp)
 clear f0 N0 kg0
 refine L.alloc f2 wantedN (by decide) (z := (.agg #[(.int .i64 0), (.bool false), (.bool false), (.int .i64 0), (.int .i64 0), (.string ⟨#[]⟩), (.slice none 0 0), (.int .i64 0), (.string ⟨#[]⟩), (.bool false), (.int .i64 0), (.bool false), (.string ⟨#[]⟩), (.slice none 0 0), (.int .i64 0), (.bool false), (.bool false), (.bool false), (.string ⟨#[]⟩), (.slice none 0 0), (.bool false), (.int .i64 0), (.slice none 0 0), (.slice none 0 0)])) (fun _ => by kernel_rfl) rfl fun a3 w2 g1 N1 f3 => ?_
 have Bg1 := N1.blk
 have kg1 := N1.kept
 have log1 := N1.lo
 have ltg1 := Bg1.lt
 have szw2 := kg1.size
 have frg1 : w.heap.size ≤ g1 := Nat.le_trans HK.size log1
 have nep_g1 : p ≠ g1 := by have := BP.lt; omega
 have neg0_g1 : g0 ≠ g1 := by have := Bg0.lt; omega
 replace HK := HK.trans (.of_kept0 kg1)
 replace BP := BP.z kg1
 replace OWN := OWN.mod (Mod.of_kept0 (T := []) (M := []) (B := B) kg1) (by decide)
 replace HP := HP.mod (Mod.of_kept0 (T := []) (M := []) (B := B) kg1) (by decide)
 replace ID := ID.mod (Mod.of_kept0 (T := []) (M := []) (B := B) kg1) (by decide) (by simp)
 replace Bg0 := Bg0.z kg1
 clear f1 a0 N1 kg1
 have f4 := f3.pk [0, 2, 4, 6]
 refine wn hK0 (C.sk fun K1 hK1 => ?_)
 refine L.mv f4 fun a5 f5 => ?_
 refine L.va f5 (E.nilCheck f5 rfl) fun a6 f6 => ?_
 refine L.fa 2 f6 U64 rfl wsz58_rc1 fun a7 f7 => ?_
 refine L.va f7 (E.load f7 Tryz.underlying58 rfl rfl ((BP).cl rfl)) fun a8 f8 => ?_
 refine L.cl f8 (run_call Tryz.call77 (args1 f8 rfl)) (takeR_ok B s.ip s.im s.used s.taken _ ID hul htk.1 htk.2 hS.loi hS.lom) ?_
 clear f2 a2 f3 f4 a3 f5 a5 f6 a6 f7 a7
 rintro e w3 ⟨rfl, kc3, IDN, hti, htn⟩
 refine ⟨_, rfl, fun a9 f9 => ?_⟩
 have szw3 := kc3.size
 replace HK := HK.step kc3 (by decide) (by simp) (by omega)
 replace BP := BP.mod kc3 (by decide)
 replace OWN := OWN.mod kc3 (by decide)
 replace HP := HP.mod kc3 (by decide)
 replace Bg0 := Bg0.mod kc3 (by decide)
 replace Bg1 := Bg1.mod kc3 (by decide)
 clear f8 a8 kc3
 refine L.mv f9 fun a10 f10 => ?_
 refine L.va f10 (E.extract f10 rfl rfl) fun a11 f11 => ?_
 refine L.va f11 (E.extract f11 rfl rfl) fun a12 f12 => ?_
 refine L.ag f12 fun a13 f13 => ?_
 refine L.ag f13 fun a14 f14 => ?_
 refine wn hK1 ?_
 have f15 := f14.pk [0, 2, 4, 6, 7]
 refine wp_seq_k fun K2 hK2 => ?_
 have hg0M : g0 ∉ MM := by rw [hMM]; exact own_old hS.fly.own frg0
 have hg1M : g1 ∉ MM := by rw [hMM]; exact own_old hS.fly.own frg1
 have OWN1 := OWN
 refine RB.begin (S := fun W => Kept MM w3 W) 12 (by kernel_rfl) (by exact (Kept.refl _ _).drewN 1) ?_
 have hS2 : Kept MM w3 (w3.drewN 1) := (Kept.refl _ _).drewN 1
 have hd2 : Kept [] w3 (w3.drewN 1) := (Kept.refl _ _).drewN 1
 obtain ⟨w4, hww4⟩ : ∃ W, W = w3.drewN 1 := ⟨_, rfl⟩
 rw [← hww4] at hS2 hd2 ⊢
 clear f9 a9 f10 a10 f11 a11 f12 a12 f13 a13 f14 hww4
 have szw4 := hS2.size
 replace HP := HP.kept0 hd2
 replace OWN := OWN.mod (T := []) (M := []) (Mod.of_kept0 (B := B) hd2) (by simp)
 refine RB.tk 0 f15 rfl hS2 (fun W hW => (E.move f15 rfl)) fun a16 f16 => ?_
 refine RB.tk 1 f16 rfl hS2 (fun W hW => (E.move f16 rfl)) fun a17 f17 => ?_
 refine RB.tk 2 f17 rfl hS2 (fun W hW => (E.nilCheck f17 rfl)) fun a18 f18 => ?_
 refine RB.tk 3 f18 rfl hS2 (fun W hW => (E.fa 4 f18 U64 rfl wsz62_rc1)) fun a19 f19 => ?_
 refine RB.tk 4 f19 rfl hS2 (fun W hW => (E.load f19 Tryz.underlying62 rfl rfl ((BP.kept hW (by assumption)).cl rfl))) fun a20 f20 => ?_
 refine RB.tk 5 f20 rfl hS2 (fun W hW => (E.move f20 rfl)) fun a21 f21 => ?_
 refine RB.tk 6 f21 rfl hS2 (fun W hW => (E.move f21 rfl)) fun a22 f22 => ?_
 clear f15 a14 f16 a16 f17 a17 f18 a18 f19 a19 f20 a20 f21 a21
 refine RB.tk 8 f22 rfl hS2 (fun W hW => (E.loadB f22 U30 rfl wsz30_rc1 rfl (Bg0.kept hW (by assumption)) rfl)) fun a23 f23 => ?_
 refine RB.call 7 f23 rfl rfl (by decide) (by kernel_rfl) (by kernel_rfl) wantedN (run_call Tryz.call55 (args1 f23 rfl)) (timeR_any now _) ?_
 clear f22 a22
 rintro e w4x ⟨rfl, rfl⟩
 refine ⟨_, rfl, hS2, fun a24 f24 => ?_⟩
 refine RB.tk 9 f24 rfl hS2 (fun W hW => (E.build f24 (parts3 f24 rfl rfl rfl) (wbl97_0_1_2_rc1 _ _ _ _ _ _))) fun a25 f25 => ?_
 refine RB.one 10 (by kernel_rfl) (by kernel_rfl) ?_
 refine O.buildSlice f25 rfl wantedN (by decide) (parts1 f25 rfl) Tryz.underlying62 wzi97_rc1 rfl rfl (wbs62_1_rc1 _ _ _ _ _ _ _) (fun _ hk => hS2.trans hk (by simp)) fun a26 w5 g4 N4 hSn f26 => ?_
 have Bg4 := N4.blk
 have kg4 := N4.kept
 have log4 := N4.lo
 have ltg4 := Bg4.lt
 have szw5 := kg4.size
 have szSw5 := hS2.size
 replace HP := HP.kept0 kg4
 replace OWN := OWN.mod (T := []) (M := []) (Mod.of_kept0 (B := B) kg4) (by simp)
 clear f23 a23 f24 a24 f25 a25 N4 kg4
 replace hS2 := hSn
 clear hSn
 refine RB.one 11 (by kernel_rfl) (by kernel_rfl) ?_
 refine O.append f26 rfl wantedN (by decide) Tryz.underlying62 wzib97_rc1 rfl rfl rfl rfl (OWN) (sl_blk Bg4 rfl) (by simp [Value.oneCell']) (by unfold maxLen; omega) (by omega) fun a27 w6 A2 c2 AP6 => ?_
 have kap6 : Kept MM w5 w6 := by rw [hMM]; exact AP6.kept
 have KA : Mod [97] [] B w5 w6 := .of_app AP6 OWN hS.fly.loA (by simp)
 have RX := AP6.own
 have LX := AP6.from hS.fly.loA (B := B) (by omega)
 have hSn := hS2.trans kap6 (by exact fun x hx _ => hx)
 refine ⟨hSn, fun f27 => ?_⟩
 have szw6 := kap6.size
 replace HP := HP.mod KA (by decide)
 clear f26 kap6
 replace hS2 := hSn
 clear hSn
 refine RB.stop (by kernel_rfl) ?_
 have szw6r := hS2.size
 have KM := Mod.of_own (T := [97]) (M := []) (B := B) (hMM ▸ hS2) OWN1 hS.fly.loA (by simp)
 replace HK := HK.step KM (by decide) (by simp) (by omega)
 replace BP := BP.kept hS2 (by assumption)
 replace Bg0 := Bg0.kept hS2 (by assumption)
 replace Bg1 := Bg1.kept hS2 (by assumption)
 replace IDN := IDN.mod KM (by decide) (by simp)
 clear hS2
 refine R.t 12 f27 rfl trivial (fun W hW => (E.nilCheck f27 rfl)) fun a28 f28 => ?_
 refine R.t 13 f28 rfl trivial (fun W hW => (E.fa 4 f28 U64 rfl wsz62_rc1)) fun a29 f29 => ?_
 refine R.one 14 (by kernel_rfl) ?_
 refine OT.store f29 rfl wantedN wsz62_rc1 rfl rfl rfl BP (by (simp [Value.cells]; done)) fun a30 w7 f30 NB7 ks7 => ?_
 have szw7 := ks7.size
 have KM := (Mod.of_blk (T := [64]) (M := []) (B := B) ks7 BP hS.lop (by simp))
 replace HK := HK.step KM (by decide) (by simp) (by omega)
 replace Bg0 := Bg0.kept ks7 (by simp; omega)
 replace Bg1 := Bg1.kept ks7 (by simp; omega)
 replace IDN := IDN.mod KM (by decide) (by simp)
 replace HP := HP.mod KM (by decide)
 replace RX := RX.mod KM (by decide)
 replace BP := NB7
 simp only [Value.cells, List.setIfInBounds_toArray, List.set_cons_zero, List.set_cons_succ, Nat.reduceAdd, Nat.zero_add] at BP
 clear f27 a27 f28 a28 ks7 f29 a29
 refine R.done (by kernel_rfl) (hK2 _ _ ?_)
 have f31 := f30.pk [4, 6, 7]
 refine C.sk fun K3 hK3 => ?_
 refine L.va f31 (E.loadB f31 U30 rfl wsz30_rc1 rfl (Bg0) rfl) fun a32 f32 => ?_
 refine L.mv f32 fun a33 f33 => ?_
 refine L.cl f33 (run_call Tryz.call50 (args3 f33 rfl rfl rfl)) (publishR_any m Am cm _ false _) ?_
 clear f30 f31 a30 f32 a32
 rintro e w8 ⟨kc8, rfl⟩
 refine ⟨_, rfl, fun a34 f34 => ?_⟩
 have szw8 := kc8.size
 replace HK := HK.trans (.of_kept0 kc8)
 replace Bg0 := Bg0.z kc8
 replace Bg1 := Bg1.z kc8
 replace IDN := IDN.mod (Mod.of_kept0 (T := []) (M := []) (B := B) kc8) (by decide) (by simp)
 replace HP := HP.mod (Mod.of_kept0 (T := []) (M := []) (B := B) kc8) (by decide)
 replace RX := RX.mod (Mod.of_kept0 (T := []) (M := []) (B := B) kc8) (by decide)
 replace BP := BP.z kc8
 clear f33 a33 kc8
 refine L.storeR f34 wantedN wsz35_rc1 rfl rfl rfl Bg1 rfl rfl fun a35 w9 f35 NB9 ks9 => ?_
 have szw9 := ks9.size
 replace HK := HK.kept_new ks9 (by simp; omega)
 replace Bg0 := Bg0.kept ks9 (by simp; omega)
 replace IDN := IDN.mod (Mod.of_blk1 (M := []) (B := B) ks9 Bg1 (by omega)) (by decide) (by simp)
 replace HP := HP.mod (Mod.of_blk1 (M := []) (B := B) ks9 Bg1 (by omega)) (by decide)
 replace RX := RX.mod (Mod.of_blk1 (M := []) (B := B) ks9 Bg1 (by omega)) (by decide)
 replace BP := BP.kept ks9 (by simp; omega)
 replace Bg1 := NB9
 clear ks9 f34 a34
 have f36 := f35.pk [6]
 refine wn hK3 (wp_ret ?_); (try simp only [xt, xb]); refine C.retC f36 rfl rfl Bg1 U35 rfl wsz35_rc1 ?_
 exact start_fin hS htn hti h4 HK BP IDN RX HP LX
end Go.Proofs.YtdfllmiokgoekaaGreatDoor
namespace Go.Proofs.YtdfllmiokgoekaaGreatDoor
open Go.RowKit Go.Hub
theorem wzib35_i : (Tryz.prog.info? 35).map (fun i => (i.zero, i.size, i.bytes)) = some (some (.agg #[(.int .i64 0), (.bool false), (.bool false), (.int .i64 0), (.int .i64 0), (.string ⟨#[]⟩), (.slice none 0 0), (.int .i64 0), (.string ⟨#[]⟩), (.bool false), (.int .i64 0), (.bool false), (.string ⟨#[]⟩), (.slice none 0 0), (.int .i64 0), (.bool false), (.bool false), (.bool false), (.string ⟨#[]⟩), (.slice none 0 0), (.bool false), (.int .i64 0), (.slice none 0 0), (.slice none 0 0)]), 24, 288) := by kernel_rfl
theorem wsz30_i : (Tryz.prog.info? 30).map (·.size) = some 4 := by kernel_rfl
theorem wsz52_i : (Tryz.prog.info? 52).map (·.size) = some 1 := by kernel_rfl
theorem wsz55_i : (Tryz.prog.info? 55).map (·.size) = some 1 := by kernel_rfl
theorem wpk1 (x : Pc) : Instr.fill (fun i => some (i * 24, 24)) ((Array.range (1 * 24)).map fun j => (Value.cells (.agg #[(.int .i64 0), (.bool false), (.bool false), (.int .i64 0), (.int .i64 0), (.string ⟨#[]⟩), (.slice none 0 0), (.int .i64 0), (.string ⟨#[]⟩), (.bool false), (.int .i64 0), (.bool false), (.string ⟨#[]⟩), (.slice none 0 0), (.int .i64 0), (.bool false), (.bool false), (.bool false), (.string ⟨#[]⟩), (.slice none 0 0), (.bool false), (.int .i64 0), (.slice none 0 0), (.slice none 0 0)]))[j % (Value.cells (.agg #[(.int .i64 0), (.bool false), (.bool false), (.int .i64 0), (.int .i64 0), (.string ⟨#[]⟩), (.slice none 0 0), (.int .i64 0), (.string ⟨#[]⟩), (.bool false), (.int .i64 0), (.bool false), (.string ⟨#[]⟩), (.slice none 0 0), (.int .i64 0), (.bool false), (.bool false), (.bool false), (.string ⟨#[]⟩), (.slice none 0 0), (.bool false), (.int .i64 0), (.slice none 0 0), (.slice none 0 0)])).size]!) [(0, .agg (pcell x).toArray)] = some (pcell x).toArray := by kernel_rfl
theorem wzj35 : (Tryz.prog.info? 35).map (fun i => (i.zero, i.size)) = some (some (.agg #[(.int .i64 0), (.bool false), (.bool false), (.int .i64 0), (.int .i64 0), (.string ⟨#[]⟩), (.slice none 0 0), (.int .i64 0), (.string ⟨#[]⟩), (.bool false), (.int .i64 0), (.bool false), (.string ⟨#[]⟩), (.slice none 0 0), (.int .i64 0), (.bool false), (.bool false), (.bool false), (.string ⟨#[]⟩), (.slice none 0 0), (.bool false), (.int .i64 0), (.slice none 0 0), (.slice none 0 0)]), 24) := by kernel_rfl
theorem pcell_one (x : Pc) : ∀ u ∈ pcell x, u.oneCell' = true := by simp [pcell, Value.oneCell']
theorem Ses.Like.trans {w w1 : World} {s t u : Ses} (h : Ses.Like w s t) (k : Ses.Like w1 t u) (hs : w.heap.size ≤ w1.heap.size) : Ses.Like w s u :=
  ⟨k.im.trans h.im, k.gm.trans h.gm, k.cl.trans h.cl, k.sv.trans h.sv, fun b hb => (k.qa b hb).elim (fun h2 => h.qa b h2) (fun h2 => .inr (Nat.le_trans hs h2))⟩
theorem PkAt.push {B : Nat} {w0 w w' : World} {A A' : Option Addr} {c c' : Nat} {l : List Pc} {x : Pc} (h : PkAt B w0 w A c l) (ap : App w w' 35 24 A l.length c (l.flatMap pcell) (pcell x) 1 A' c') (hw : w0.heap.size ≤ w.heap.size) (hB : B ≤ w0.heap.size) (hp : Pay B w x.A x.p.pay) : PkAt B w0 w' A' c' (l ++ [x]) := by
  have hm : Mod [35] [] B w w' := .of_app ap h.fr.own (fun a ha => Nat.le_trans hB (h.fr.from a ha)) (by simp)
  refine ⟨by simpa using ap.next h.fr hw, fun y hy => ?_⟩
  rcases List.mem_append.1 hy with hy | hy
  · exact (h.pay y hy).mod hm (by decide)
  obtain rfl := List.mem_singleton.1 hy
  exact hp.mod hm (by decide)
theorem SesAt.popped {B p : Nat} {w w' : World} {u : Ses} {A' : Option Addr} {c' : Nat} {r : List Mc} (h : SesAt B w p u) (hk : Mod [90] [] B w w') (HQ : QuAt B w' u.q A' c' r u.lost) (hr : Row w u.QA A') : ∃ v : Ses, SesAt B w' p v ∧ v.abs = { u.abs with wait := r.map (·.m) } ∧ Ses.Like w u v ∧ v.fly = u.fly :=
  ⟨{ u with wait := r, QA := A', qc := c' }, ⟨h.top.mod hk (by decide), h.one, h.ids.mod hk (by decide) (by simp), HQ, h.fly.mod hk (by decide), h.got.mod hk (by simp), h.ne, h.lop, h.loi, h.lom, h.log, h.tk, h.perm, h.ats, h.idb⟩, rfl, ⟨rfl, rfl, rfl, rfl, hr⟩, rfl⟩
theorem pop_got {l : List Mc} {x : Mc} {r : List Mc} (hnon : (!l.isEmpty) = true) (hor : l = x :: r ∨ l = [] ∧ r = []) : l = x :: r := by
  rcases hor with h | h
  · exact h
  rw [h.1] at hnon; cases hnon
def DrainPost (B p : Nat) (s : Ses) (now : Int) (w : World) (e : Ending) (w' : World) : Prop :=
  ∃ s' A c pks, e = .returned (.slice A pks.length c) ∧ SesAt B w' p s' ∧ s'.abs = (drainS s.abs now).1 ∧ pks.map (·.p) = (drainS s.abs now).2 ∧ Ses.Like w s s' ∧ Mod [57, 88, 82, 90] [s.im] B w w' ∧ PkAt B w w' A c pks
section
variable {B p : Nat} {s u v u2 : Ses} {now : Int} {w W : World} {x : Mc} {r : List Mc} {gk : Nat} {pks : List Pc} {A : Option Addr} {c : Nat}
theorem abs_fly (s : Ses) : s.abs.fly.length = s.fly.length := by simp [Ses.abs]
theorem drain_more (hab : u2.abs = riseS v.abs x.m now) (hva : v.abs = { u.abs with wait := r.map (·.m) }) (h : 4 < gk + u.fly.length) : 4 < gk - 1 + u2.fly.length := by
  have h1 : u2.abs.fly.length = u.fly.length + 1 := by rw [hab, hva]; simp [riseS, Ses.abs]
  rw [abs_fly] at h1
  omega
theorem drain_next (hab : u2.abs = riseS v.abs x.m now) (hva : v.abs = { u.abs with wait := r.map (·.m) }) (hwt : u.wait = x :: r) (h : 4 < gk + u.fly.length) (h4 : u.fly.length < 4) (pks : List Pc) {Ap : Option Addr} {cp : Nat} :
    ((drainN gk u.abs now).1, pks.map (·.p) ++ (drainN gk u.abs now).2) = ((drainN (gk - 1) u2.abs now).1, (pks ++ [(⟨riseP v.abs x.m, Ap, cp⟩ : Pc)]).map (·.p) ++ (drainN (gk - 1) u2.abs now).2) := by
  obtain ⟨k, rfl⟩ : ∃ k, gk = k + 1 := ⟨gk - 1, by omega⟩
  have h4' : u.abs.fly.length < 4 := by rw [abs_fly]; exact h4
  have hw : u.abs.wait = x.m :: r.map (·.m) := by simp [Ses.abs, hwt]
  rw [hab, hva, Nat.add_sub_cancel]
  rw [drainN, if_pos h4', hw]
  simp
theorem drain_a (hS : SesAt B w p s) (HS : SesAt B W p u) (hL : Ses.Like w s u) (hq : drainN 5 s.abs now = ((drainN gk u.abs now).1, pks.map (·.p) ++ (drainN gk u.abs now).2)) (PK : PkAt B w W A c pks) (HK : Mod [57, 88, 82, 90] [s.im] B w W) (h : ¬ u.fly.length < 4) :
    DrainPost B p s now w (.returned (.slice A pks.length c)) W := by
  have h0 : drainN gk u.abs now = (u.abs, []) := by
    cases gk with
    | zero => rfl
    | succ k => rw [drainN, if_neg (by rw [abs_fly]; exact h)]
  rw [h0, List.append_nil] at hq
  exact ⟨u, A, c, pks, rfl, HS, by rw [drainS, hq], by rw [drainS, hq], hL, HK, PK⟩
theorem drain_b (hS : SesAt B w p s) (HS : SesAt B W p v) (hL : Ses.Like w s v) (hva : v.abs = { u.abs with wait := r.map (·.m) }) (hemp : (!u.wait.isEmpty) = false) (hor : u.wait = x :: r ∨ u.wait = [] ∧ r = []) (hq : drainN 5 s.abs now = ((drainN gk u.abs now).1, pks.map (·.p) ++ (drainN gk u.abs now).2)) (PK : PkAt B w W A c pks) (HK : Mod [57, 88, 82, 90] [s.im] B w W) :
    DrainPost B p s now w (.returned (.slice A pks.length c)) W := by
  have hw : u.wait = [] ∧ r = [] := by
    rcases hor with h | h
    · rw [h] at hemp; cases hemp
    exact h
  have hv : v.abs = u.abs := by rw [hva, hw.2]; simp [Ses.abs, hw.1]
  have h0 : drainN gk u.abs now = (u.abs, []) := by
    cases gk with
    | zero => rfl
    | succ k =>
      rw [drainN, show u.abs.wait = [] by simp [Ses.abs, hw.1]]
      split <;> rfl
  rw [h0, List.append_nil] at hq
  exact ⟨v, A, c, pks, rfl, HS, by rw [drainS, hq, hv], by rw [drainS, hq], hL, HK, PK⟩
end
theorem drain_any (B p : Nat) (s : Ses) (now : Int) (w : World) (hS : SesAt B w p s) (hB : B ≤ w.heap.size) : Calls Tryz.prog 57 #[.pointer (some ⟨p, 0, none⟩), .int .i64 now] w (DrainPost B p s now w) := by
 have HK : Mod [57, 88, 82, 90] [s.im] B w w := .refl _ _ _ _
 refine C.enter Tryz.func57 rfl Tryz.ntmps57 rfl ?_
 intro a0 f0
 have f1 : Fr 32 a0 [(0, .pointer (some ⟨p, 0, none⟩)), (1, .int .i64 now)] := f0
 refine C.sk fun K0 hK0 => ?_
 refine L.ag f1 fun a2 f2 => ?_
 have f3 := f2.pk [0, 1, 4]
 refine wn hK0 (C.sk fun K1 hK1 => ?_)
 refine L.ag f3 fun a4 f4 => ?_
 refine wn hK1 ?_
 have f5 := f4.pk [0, 1, 4, 5]
 refine wp_seq_k fun K2 hK2 => ?_
 refine wp_block ?_
 clear f0 f1 a0 f2 f3 a2 f4
 refine C.loop (fun gk a W => ∃ (u : Ses) (Ao : Option Addr) (co : Nat) (pks : List Pc), SesAt B W p u ∧ Ses.Like w s u ∧ 4 < gk + u.fly.length ∧ drainN 5 s.abs now = ((drainN gk u.abs now).1, pks.map (·.p) ++ (drainN gk u.abs now).2) ∧ PkAt B w W Ao co pks ∧ pks.length + gk ≤ 5 ∧ Mod [57, 88, 82, 90] [s.im] B w W ∧ Fr 32 a [(0, .pointer (some ⟨p, 0, none⟩)), (1, .int .i64 now), (5, .slice Ao pks.length co)]) (5) ?_ ?_
 ·exact ⟨s, none, 0, [], hS, ⟨rfl, rfl, rfl, rfl, fun b hb => .inl hb⟩, by omega, rfl, PkAt.nil _ _ _, by simp, HK, f5.sub (sx (sx (sx sn)))⟩
 intro gk4 a6 w1 hI KL3 hKL3
 obtain ⟨u, Ao, co, pks, HS, hL, hgk, hq, PK, hpk, HK, f6⟩ := hI
 try clear f5
 have BP := HS.top
 have szw1x := HK.size
 have hu4 := HS.fly.len
 refine wp_seq_k fun K4 hK4 => C.sk fun K5 hK5 => ?_
 refine L.mv f6 fun a7 f7 => ?_
 refine L.va f7 (E.nilCheck f7 rfl) fun a8 f8 => ?_
 refine L.fa 3 f8 U57 rfl wsz55_i fun a9 f9 => ?_
 refine L.va f9 (E.load f9 Tryz.underlying55 rfl rfl ((BP).cl rfl)) fun a10 f10 => ?_
 refine L.va f10 (E.lenL f10 Tryz.underlying55 rfl) fun a11 f11 => ?_
 refine L.va f11 (E.lss f11 rfl rfl) fun a12 f12 => ?_
 refine wn hK5 ?_
 have f13 := f12.pk [0, 1, 5, 8, 9, 10, 11, 12, 13]
 clear f6 a6 f7 a7 f8 a8 f9 a9 f10 a10 f11 a11 f12
 refine f13.splitD 13 rfl (fun h0 f14 => ?_) (fun h0 f14 => ?_)
 ·have hlt := h0
  refine C.condT f14 rfl ?_
  refine wp_skip (hK4 _ _ ?_)
  have f15 := f14.pk [0, 1, 5, 8, 9, 10, 11, 12, 13]
  refine wp_block ?_
  refine C.sk fun K6 hK6 => ?_
  refine L.mv f15 fun a16 f16 => ?_
  refine L.va f16 (E.nilCheck f16 rfl) fun a17 f17 => ?_
  refine L.fa 4 f17 U57 rfl wsz52_i fun a18 f18 => ?_
  refine L.va f18 (E.load f18 Tryz.underlying52 rfl rfl ((BP).cl rfl)) fun a19 f19 => ?_
  refine L.cl f19 (run_call Tryz.call79 (args1 f19 rfl)) (pop_any B u.q u.QA u.qc u.wait u.lost _ HS.qu (by omega)) ?_
  clear f13 f14 f15 a12 f16 a16 f17 a17 f18 a18
  rintro e w2 ⟨kc2, x, Aq, cq, r, rfl, HQ, HX, hor, hrow⟩
  obtain ⟨v, HV, hva, hvL, hvf⟩ := HS.popped kc2 HQ hrow
  have HKp := Mod.refl [] [] B w2
  refine ⟨_, rfl, fun a20 f20 => ?_⟩
  have szw2 := kc2.size
  replace HK := HK.step kc2 (by decide) (by simp) (by omega)
  replace BP := BP.mod kc2 (by decide)
  replace PK := PK.mod kc2 (by decide)
  clear f19 a19 kc2
  refine L.mv f20 fun a21 f21 => ?_
  refine L.va f21 (E.extract f21 rfl rfl) fun a22 f22 => ?_
  refine L.va f22 (E.extract f22 rfl rfl) fun a23 f23 => ?_
  refine L.alloc f23 wantedN (by decide) (z := (.agg #[(.string ⟨#[]⟩), (.slice none 0 0), (.int .i64 0), (.bool false)])) (fun _ => by kernel_rfl) rfl fun a24 w3 g2 N2 f24 => ?_
  have Bg2 := N2.blk
  have kg2 := N2.kept
  have log2 := N2.lo
  have ltg2 := Bg2.lt
  have szw3 := kg2.size
  have frg2 : w.heap.size ≤ g2 := Nat.le_trans HK.size log2
  have nep_g2 : p ≠ g2 := by have := BP.lt; omega
  replace HK := HK.trans (.of_kept0 kg2)
  replace BP := BP.z kg2
  replace PK := PK.mod (Mod.of_kept0 (T := []) (M := []) (B := B) kg2) (by decide)
  replace HKp := HKp.trans (.of_kept0 kg2)
  replace HX := HX.mod (Mod.of_kept0 (T := []) (M := []) (B := B) kg2) (by decide)
  clear f20 a20 f21 a21 f22 a22 N2 kg2
  refine L.storeR f24 wantedN wsz30_i rfl rfl rfl Bg2 rfl rfl fun a25 w4 f25 NB4 ks4 => ?_
  have szw4 := ks4.size
  replace HK := HK.kept_new ks4 (by simp; omega)
  replace BP := BP.kept ks4 (by simp; omega)
  replace PK := PK.mod (Mod.of_blk1 (M := []) (B := B) ks4 Bg2 (by omega)) (by decide)
  replace HKp := HKp.kept_new ks4 (by simp; omega)
  replace HX := HX.mod (Mod.of_blk1 (M := []) (B := B) ks4 Bg2 (by omega)) (by decide)
  replace Bg2 := NB4
  clear f23 a23 ks4 f24 a24
  refine L.ag f25 fun a26 f26 => ?_
  refine wn hK6 ?_
  have f27 := f26.pk [0, 1, 5, 6, 7, 8, 9, 10, 11, 12, 13, 14, 15, 16, 17, 18, 19, 20, 21]
  refine wp_seq_k fun K7 hK7 => C.sk fun K8 hK8 => ?_
  refine L.mv f27 fun a28 f28 => ?_
  refine L.va f28 (E.not f28 rfl) fun a29 f29 => ?_
  refine wn hK8 ?_
  have f30 := f29.pk [0, 1, 5, 6, 7, 8, 9, 10, 11, 12, 13, 14, 15, 16, 17, 18, 19, 20, 21, 22, 23]
  clear f25 a25 f26 f27 a26 f28 a28 f29
  refine f30.splitNB 23 rfl (fun h1 f31 => ?_) (fun h1 f31 => ?_)
  ·have hemp := h1
   refine C.condT f31 rfl ?_
   refine wp_exit (hK2 _ _ ?_)
   have f32 := f31.pk [5]
   refine C.sk fun K9 hK9 => ?_
   refine L.mv f32 fun a33 f33 => ?_
   refine L.ag f33 fun a34 f34 => ?_
   have f35 := f34.pk [4]
   refine wn hK9 (wp_ret ?_); (try simp only [xt, xb]); refine C.ret f35 rfl rfl ?_
   exact drain_b hS (HV.mod HKp (by simp)) (hL.trans hvL (by omega)) hva hemp hor hq PK HK
  have hnon := h1
  have hwt := pop_got hnon hor
  refine C.condF f31 rfl ?_
  refine wp_skip (hK7 _ _ ?_)
  have f32 := f31.pk [0, 1, 5, 6, 7, 8, 9, 10, 11, 12, 13, 14, 15, 16, 17, 18, 19, 20, 21, 22, 23]
  refine C.region ?_
  refine L.mv f32 fun a33 f33 => ?_
  refine L.mv f33 fun a34 f34 => ?_
  refine L.va f34 (E.loadB f34 U30 rfl wsz30_i rfl (Bg2) rfl) fun a35 f35 => ?_
  refine L.mv f35 fun a36 f36 => ?_
  refine L.cl f36 (run_call Tryz.call40 (args3 f36 rfl rfl rfl)) (rise_any B p v x.m x.A x.c now _ (HV.mod HKp (by simp)) HX (by omega) (by rw [hvf]; omega)) ?_
  clear f30 f31 f32 a29 f33 a33 f34 a34 f35 a35
  rintro e w5 ⟨u2, Ap, cp, rfl, HS2, hab, hL2, kc5, HR⟩
  replace kc5 : Mod [57, 88, 82] [v.im] B _ _ := kc5
  rw [hvL.im, hL.im] at kc5
  refine ⟨_, rfl, fun a37 f37 => ?_⟩
  have szw5 := kc5.size
  replace HK := HK.step kc5 (by decide) (by simp) (by omega)
  replace PK := PK.mod kc5 (by decide)
  replace Bg2 := Bg2.mod kc5 (by decide)
  clear f36 a36 kc5
  refine L.buildSlice f37 wantedN (by decide) (parts1 f37 rfl) U42 wzj35 rfl rfl (wpk1 _) fun a38 w6 g5 N5 f38 => ?_
  have Bg5 := N5.blk
  have kg5 := N5.kept
  have log5 := N5.lo
  have ltg5 := Bg5.lt
  have szw6 := kg5.size
  have frg5 : w.heap.size ≤ g5 := Nat.le_trans HK.size log5
  have neg2_g5 : g2 ≠ g5 := by have := Bg2.lt; omega
  replace HK := HK.trans (.of_kept0 kg5)
  replace PK := PK.mod (Mod.of_kept0 (T := []) (M := []) (B := B) kg5) (by decide)
  replace Bg2 := Bg2.z kg5
  replace HS2 := HS2.mod (Mod.of_kept0 (T := []) (M := []) (B := B) kg5) (by decide)
  replace HR := HR.mod (Mod.of_kept0 (T := []) (M := []) (B := B) kg5) (by decide)
  clear N5 kg5
  refine L.append f38 wantedN (by decide) U42 wzib35_i rfl rfl rfl rfl (PK.fr.own) ((show Sl _ _ 1 24 (pcell ⟨riseP v.abs x.m, Ap, cp⟩) from sl_blk Bg5 rfl)) (pcell_one _) (by unfold maxLen; omega) (by omega) fun a39 w7 A2 c2 AP7 f39 => ?_
  have kap7 : Mod [35] [] B w6 w7 := .of_app AP7 PK.fr.own (fun a ha => Nat.le_trans hB (PK.fr.from a ha)) (by simp)
  have PK2 := PK.push (x := ⟨riseP v.abs x.m, Ap, cp⟩) AP7 HK.size hB HR
  replace HK := HK.app_new AP7 PK.fr
  have szw7 := kap7.size
  replace Bg2 := Bg2.mod kap7 (by decide)
  replace HS2 := HS2.mod kap7 (by decide)
  clear f37 a37 f38 a38 kap7
  refine L.ag f39 fun a40 f40 => ?_
  clear f39 a39
  refine wpList_nil (hKL3 _ _ (gk4 - 1) ?_ ?_)
  ·omega
  exact ⟨u2, A2, c2, pks ++ [⟨riseP v.abs x.m, Ap, cp⟩], HS2, (hL.trans hvL (by omega)).trans hL2 (by omega), drain_more hab hva hgk, by rw [hq]; exact drain_next hab hva hwt hgk (by omega) pks, by simpa using PK2, by simp; omega, HK, by simpa using f40.sub (sx (sx (sx sn)))⟩
 have hge := h0
 refine C.condF f14 rfl ?_
 refine wp_exit (hK2 _ _ ?_)
 have f15 := f14.pk [5]
 refine C.sk fun K10 hK10 => ?_
 refine L.mv f15 fun a16 f16 => ?_
 refine L.ag f16 fun a17 f17 => ?_
 have f18 := f17.pk [4]
 refine wn hK10 (wp_ret ?_); (try simp only [xt, xb]); refine C.ret f18 rfl rfl ?_
 exact drain_a hS HS hL hq PK HK (by omega)
end Go.Proofs.YtdfllmiokgoekaaGreatDoor
namespace Go.Proofs.YtdfllmiokgoekaaGreatDoor
open Go.RowKit Go.Hub
theorem wzib35_rd : (Tryz.prog.info? 35).map (fun i => (i.zero, i.size, i.bytes)) = some (some (.agg #[(.int .i64 0), (.bool false), (.bool false), (.int .i64 0), (.int .i64 0), (.string ⟨#[]⟩), (.slice none 0 0), (.int .i64 0), (.string ⟨#[]⟩), (.bool false), (.int .i64 0), (.bool false), (.string ⟨#[]⟩), (.slice none 0 0), (.int .i64 0), (.bool false), (.bool false), (.bool false), (.string ⟨#[]⟩), (.slice none 0 0), (.bool false), (.int .i64 0), (.slice none 0 0), (.slice none 0 0)]), 24, 288) := by kernel_rfl
theorem wsz30_rd : (Tryz.prog.info? 30).map (·.size) = some 4 := by kernel_rfl
theorem wsz60_rd : (Tryz.prog.info? 60).map (·.size) = some 1 := by kernel_rfl
theorem wsz62_rd : (Tryz.prog.info? 62).map (·.size) = some 1 := by kernel_rfl
theorem wsz74_rd : (Tryz.prog.info? 74).map (·.size) = some 1 := by kernel_rfl
theorem wsz3_rd : (Tryz.prog.info? 3).map (·.size) = some 1 := by kernel_rfl
theorem wsz97_rd : (Tryz.prog.info? 97).map (·.size) = some 7 := by kernel_rfl
theorem fly_rcj {w : World} {A : Option Addr} {l : List Fc} {b off k : Nat} {f : Fc} (S : Sl w A l.length 7 (l.flatMap rcell)) (hA : A = some ⟨b, off, none⟩) (hf : l[k]? = some f) (j : Nat) {v : Value} (hv : (rcell f)[j]? = some v) : w.cell? ⟨b, off + (k : Int).toNat * 7 + j, none⟩ = some v := by
  have hk := (List.getElem?_eq_some_iff.1 hf).1
  obtain ⟨b', off', e, hb, hc⟩ := S.2 (by omega)
  rw [hA] at e
  injection e with e
  injection e with e1 e2
  subst e1 e2
  have hj : j < 7 := (List.getElem?_eq_some_iff.1 hv).1
  rw [Int.toNat_natCast, Nat.add_assoc]
  refine hc _ v ?_
  rw [flat_get rcell 7 (fun _ => rfl), show (k * 7 + j) / 7 = k by omega, show (k * 7 + j) % 7 = j by omega, hf]
  exact hv
theorem Rs.Like.refl (w : World) (s : Rs) : Rs.Like w s s := ⟨rfl, rfl, rfl, rfl, fun b hb => .inl hb⟩
theorem Rs.Like.trans {w w1 : World} {s t u : Rs} (h : Rs.Like w s t) (k : Rs.Like w1 t u) (hs : w.heap.size ≤ w1.heap.size) : Rs.Like w s u :=
  ⟨k.im.trans h.im, k.gm.trans h.gm, k.cl.trans h.cl, k.ls.trans h.ls, fun b hb => (k.qa b hb).elim (fun h2 => h.qa b h2) (fun h2 => .inr (Nat.le_trans hs h2))⟩
theorem pop_gotR {l : List Mc} {x : Mc} {r : List Mc} (hnon : (0 : Int) < (l.length : Nat)) (hor : l = x :: r ∨ l = [] ∧ r = []) : l = x :: r := by
  rcases hor with h | h
  · exact h
  rw [h.1] at hnon; simp at hnon
theorem RefAt.poppedR {B p : Nat} {w w' : World} {u : Rs} {A' : Option Addr} {c' : Nat} {r : List Mc} (h : RefAt B w p u) (hk : Mod [76] [] B w w') (HQ : QuR B w' u.q A' c' r u.lost) (hr : Row w u.QA A') : ∃ v : Rs, RefAt B w' p v ∧ v.abs = { u.abs with wait := r.map (·.m) } ∧ Rs.Like w u v ∧ v.fly = u.fly :=
  ⟨{ u with wait := r, QA := A', qc := c' }, ⟨h.top.mod hk (by decide), h.ids.mod hk (by decide) (by simp), HQ, h.fly.mod hk (by decide), h.ls.mod hk (by decide), h.got.mod hk (by simp), h.ne, h.lop, h.loi, h.lom, h.log, h.tk, h.perm, h.ats, h.idb⟩, rfl, ⟨rfl, rfl, rfl, rfl, hr⟩, rfl⟩
def DrainPostR (B p : Nat) (s : Rs) (now : Int) (w : World) (e : Ending) (w' : World) : Prop :=
  ∃ s' A c pks, e = .returned (.slice A pks.length c) ∧ RefAt B w' p s' ∧ s'.abs = (drainS s.abs now).1 ∧ pks.map (·.p) = (drainS s.abs now).2 ∧ Rs.Like w s s' ∧ Mod [64, 92, 97, 76] [s.im] B w w' ∧ PkAt B w w' A c pks
section
variable {B p : Nat} {s u v u2 : Rs} {now : Int} {w W : World} {x : Mc} {r : List Mc} {gk : Nat} {pks : List Pc} {A : Option Addr} {c : Nat}
theorem absR_fly (s : Rs) : s.abs.fly.length = s.fly.length := by simp [Rs.abs]
theorem drainR_more (hab : u2.abs = riseS v.abs x.m now) (hva : v.abs = { u.abs with wait := r.map (·.m) }) (h : 4 < gk + u.fly.length) : 4 < gk - 1 + u2.fly.length := by
  have h1 : u2.abs.fly.length = u.fly.length + 1 := by rw [hab, hva]; simp [riseS, Rs.abs]
  rw [absR_fly] at h1
  omega
theorem drainR_next (hab : u2.abs = riseS v.abs x.m now) (hva : v.abs = { u.abs with wait := r.map (·.m) }) (hwt : u.wait = x :: r) (h : 4 < gk + u.fly.length) (h4 : u.fly.length < 4) (pks : List Pc) {Ap : Option Addr} {cp : Nat} :
    ((drainN gk u.abs now).1, pks.map (·.p) ++ (drainN gk u.abs now).2) = ((drainN (gk - 1) u2.abs now).1, (pks ++ [(⟨riseP v.abs x.m, Ap, cp⟩ : Pc)]).map (·.p) ++ (drainN (gk - 1) u2.abs now).2) := by
  obtain ⟨k, rfl⟩ : ∃ k, gk = k + 1 := ⟨gk - 1, by omega⟩
  have h4' : u.abs.fly.length < 4 := by rw [absR_fly]; exact h4
  have hw : u.abs.wait = x.m :: r.map (·.m) := by simp [Rs.abs, hwt]
  rw [hab, hva, Nat.add_sub_cancel]
  rw [drainN, if_pos h4', hw]
  simp
theorem drainR_a (HS : RefAt B W p u) (hL : Rs.Like w s u) (hq : drainN 5 s.abs now = ((drainN gk u.abs now).1, pks.map (·.p) ++ (drainN gk u.abs now).2)) (PK : PkAt B w W A c pks) (HK : Mod [64, 92, 97, 76] [s.im] B w W) (h : ¬ u.fly.length < 4) :
    DrainPostR B p s now w (.returned (.slice A pks.length c)) W := by
  have h0 : drainN gk u.abs now = (u.abs, []) := by
    cases gk with
    | zero => rfl
    | succ k => rw [drainN, if_neg (by rw [absR_fly]; exact h)]
  rw [h0, List.append_nil] at hq
  exact ⟨u, A, c, pks, rfl, HS, by rw [drainS, hq], by rw [drainS, hq], hL, HK, PK⟩
theorem drainR_b (HS : RefAt B W p u) (hL : Rs.Like w s u) (hw : u.wait = []) (hq : drainN 5 s.abs now = ((drainN gk u.abs now).1, pks.map (·.p) ++ (drainN gk u.abs now).2)) (PK : PkAt B w W A c pks) (HK : Mod [64, 92, 97, 76] [s.im] B w W) :
    DrainPostR B p s now w (.returned (.slice A pks.length c)) W := by
  have h0 : drainN gk u.abs now = (u.abs, []) := by
    cases gk with
    | zero => rfl
    | succ k =>
      rw [drainN, show u.abs.wait = [] by simp [Rs.abs, hw]]
      split <;> rfl
  rw [h0, List.append_nil] at hq
  exact ⟨u, A, c, pks, rfl, HS, by rw [drainS, hq], by rw [drainS, hq], hL, HK, PK⟩
end
theorem drainR_any (B p : Nat) (s : Rs) (now : Int) (w : World) (hS : RefAt B w p s) (hB : B ≤ w.heap.size) : Calls Tryz.prog 59 #[.pointer (some ⟨p, 0, none⟩), .int .i64 now] w (DrainPostR B p s now w) := by
 have HK : Mod [64, 92, 97, 76] [s.im] B w w := .refl _ _ _ _
 refine C.enter Tryz.func59 rfl Tryz.ntmps59 rfl ?_
 intro a0 f0
 have f1 : Fr 41 a0 [(0, .pointer (some ⟨p, 0, none⟩)), (1, .int .i64 now)] := f0
 refine C.sk fun K0 hK0 => ?_
 refine L.ag f1 fun a2 f2 => ?_
 have f3 := f2.pk [0, 1, 4]
 refine wn hK0 (C.sk fun K1 hK1 => ?_)
 refine L.ag f3 fun a4 f4 => ?_
 refine wn hK1 ?_
 have f5 := f4.pk [0, 1, 4, 5]
 refine wp_seq_k fun K2 hK2 => ?_
 refine wp_block ?_
 clear f0 f1 a0 f2 f3 a2 f4
 refine C.loop (fun gk a W => ∃ (u : Rs) (Ao : Option Addr) (co : Nat) (pks : List Pc), RefAt B W p u ∧ Rs.Like w s u ∧ 4 < gk + u.fly.length ∧ drainN 5 s.abs now = ((drainN gk u.abs now).1, pks.map (·.p) ++ (drainN gk u.abs now).2) ∧ PkAt B w W Ao co pks ∧ pks.length + gk ≤ 5 ∧ Mod [64, 92, 97, 76] [s.im] B w W ∧ Fr 41 a [(0, .pointer (some ⟨p, 0, none⟩)), (1, .int .i64 now), (5, .slice Ao pks.length co)]) (5) ?_ ?_
 ·exact ⟨s, none, 0, [], hS, Rs.Like.refl _ _, by omega, rfl, PkAt.nil _ _ _, by simp, HK, f5.sub (sx (sx (sx sn)))⟩
 intro gk4 a6 w1 hI KL3 hKL3
 obtain ⟨u, Ao, co, pks, HS, hL, hgk, hq, PK, hpk, HK, f6⟩ := hI
 try clear f5
 have BP := HS.top
 have BQ := HS.qu.top
 have szw1x := HK.size
 have hu4 := HS.fly.len
 refine wp_seq_k fun K4 hK4 => C.sk fun K5 hK5 => ?_
 refine L.mv f6 fun a7 f7 => ?_
 refine L.va f7 (E.nilCheck f7 rfl) fun a8 f8 => ?_
 refine L.fa 4 f8 U64 rfl wsz62_rd fun a9 f9 => ?_
 refine L.va f9 (E.load f9 Tryz.underlying62 rfl rfl ((BP).cl rfl)) fun a10 f10 => ?_
 refine L.va f10 (E.lenL f10 Tryz.underlying62 rfl) fun a11 f11 => ?_
 refine L.va f11 (E.lss f11 rfl rfl) fun a12 f12 => ?_
 refine L.mv f12 fun a13 f13 => ?_
 clear f6 a6 f7 a7 f8 a8 f9 a9 f10 a10 f11 a11 f12 a12
 refine f13.splitD 14 rfl (fun h0 f14 => ?_) (fun h0 f14 => ?_)
 ·have hlt := h0
  refine L.mv f14 (hw := (f14.yes rfl rfl)) fun a15 f15 => ?_
  refine L.va f15 (E.nilCheck f15 rfl) (hw := (f15.yes rfl rfl)) fun a16 f16 => ?_
  refine L.fa 3 f16 U64 rfl wsz60_rd (hw := (f16.yes rfl rfl)) fun a17 f17 => ?_
  refine L.va f17 (E.load f17 Tryz.underlying60 rfl rfl ((BP).cl rfl)) (hw := (f17.yes rfl rfl)) fun a18 f18 => ?_
  refine L.va f18 (E.nilCheck f18 rfl) (hw := (f18.yes rfl rfl)) fun a19 f19 => ?_
  refine L.fa 2 f19 U76 rfl wsz74_rd (hw := (f19.yes rfl rfl)) fun a20 f20 => ?_
  refine L.va f20 (E.load f20 U74 rfl rfl ((BQ).cl rfl)) (hw := (f20.yes rfl rfl)) fun a21 f21 => ?_
  clear f13 f14 a13 f15 a15 f16 a16 f17 a17 f18 a18 f19 a19 f20 a20
  refine L.va f21 (E.lenL f21 U74 rfl) (hw := (f21.yes rfl rfl)) fun a22 f22 => ?_
  refine L.va f22 (E.gtr f22 rfl rfl) (hw := (f22.yes rfl rfl)) fun a23 f23 => ?_
  refine L.va f23 (E.pickT f23 rfl rfl) fun a24 f24 => ?_
  refine wn hK5 ?_
  have f25 := f24.pk [0, 1, 5, 8, 9, 10, 11, 12, 13, 14, 15, 16, 17, 18, 19, 20, 21, 22, 23, 24]
  clear f21 a21 f22 a22 f23 a23 f24
  refine f25.splitD 24 rfl (fun h1 f26 => ?_) (fun h1 f26 => ?_)
  ·have hnon := h1
   refine C.condT f26 rfl ?_
   refine wp_skip (hK4 _ _ ?_)
   have f27 := f26.pk [0, 1, 5, 8, 9, 10, 11, 12, 13, 14, 15, 16, 17, 18, 19, 20, 21, 22, 23, 24]
   refine wp_block ?_
   refine C.sk fun K6 hK6 => ?_
   refine L.mv f27 fun a28 f28 => ?_
   refine L.va f28 (E.nilCheck f28 rfl) fun a29 f29 => ?_
   refine L.fa 3 f29 U64 rfl wsz60_rd fun a30 f30 => ?_
   refine L.va f30 (E.load f30 Tryz.underlying60 rfl rfl ((BP).cl rfl)) fun a31 f31 => ?_
   refine L.cl f31 (run_call Tryz.call80 (args1 f31 rfl)) (popR_any B u.q u.QA u.qc u.wait u.lost _ HS.qu (by omega)) ?_
   clear f25 f26 f27 a24 f28 a28 f29 a29 f30 a30
   rintro e w2 ⟨kc2, x, Aq, cq, r, rfl, HQ, HX, hor, hrow⟩
   have hwt := pop_gotR hnon hor
   obtain ⟨v, HV, hva, hvL, hvf⟩ := HS.poppedR kc2 HQ hrow
   have HKp := Mod.refl [] [] B w2
   refine ⟨_, rfl, fun a32 f32 => ?_⟩
   have szw2 := kc2.size
   replace HK := HK.step kc2 (by decide) (by simp) (by omega)
   replace BP := BP.mod kc2 (by decide)
   replace PK := PK.mod kc2 (by decide)
   clear f31 a31 kc2
   refine L.mv f32 fun a33 f33 => ?_
   refine L.va f33 (E.extract f33 rfl rfl) fun a34 f34 => ?_
   refine L.va f34 (E.extract f34 rfl rfl) fun a35 f35 => ?_
   refine L.alloc f35 wantedN (by decide) (z := (.agg #[(.string ⟨#[]⟩), (.slice none 0 0), (.int .i64 0), (.bool false)])) (fun _ => by kernel_rfl) rfl fun a36 w3 g2 N2 f36 => ?_
   have Bg2 := N2.blk
   have kg2 := N2.kept
   have log2 := N2.lo
   have ltg2 := Bg2.lt
   have szw3 := kg2.size
   have frg2 : w.heap.size ≤ g2 := Nat.le_trans HK.size log2
   have nep_g2 : p ≠ g2 := by have := BP.lt; omega
   replace HK := HK.trans (.of_kept0 kg2)
   replace BP := BP.z kg2
   replace PK := PK.mod (Mod.of_kept0 (T := []) (M := []) (B := B) kg2) (by decide)
   replace HKp := HKp.trans (.of_kept0 kg2)
   replace HX := HX.mod (Mod.of_kept0 (T := []) (M := []) (B := B) kg2) (by decide)
   clear f32 a32 f33 a33 f34 a34 N2 kg2
   refine L.storeR f36 wantedN wsz30_rd rfl rfl rfl Bg2 rfl rfl fun a37 w4 f37 NB4 ks4 => ?_
   have szw4 := ks4.size
   replace HK := HK.kept_new ks4 (by simp; omega)
   replace BP := BP.kept ks4 (by simp; omega)
   replace PK := PK.mod (Mod.of_blk1 (M := []) (B := B) ks4 Bg2 (by omega)) (by decide)
   replace HKp := HKp.kept_new ks4 (by simp; omega)
   replace HX := HX.mod (Mod.of_blk1 (M := []) (B := B) ks4 Bg2 (by omega)) (by decide)
   replace Bg2 := NB4
   clear f35 a35 ks4 f36 a36
   refine L.ag f37 fun a38 f38 => ?_
   refine wn hK6 ?_
   have f39 := f38.pk [0, 1, 5, 6, 8, 9, 10, 11, 12, 13, 14, 15, 16, 17, 18, 19, 20, 21, 22, 23, 24, 25, 26, 27, 28, 29, 30, 31, 32]
   refine C.region ?_
   refine L.mv f39 fun a40 f40 => ?_
   refine L.mv f40 fun a41 f41 => ?_
   refine L.va f41 (E.loadB f41 U30 rfl wsz30_rd rfl (Bg2) rfl) fun a42 f42 => ?_
   refine L.mv f42 fun a43 f43 => ?_
   refine L.cl f43 (run_call Tryz.call51 (args3 f43 rfl rfl rfl)) (start_any B p v x.m x.A x.c now _ (HV.mod HKp (by simp)) HX (by omega) (by rw [hvf]; omega)) ?_
   clear f37 a37 f38 f39 a38 f40 a40 f41 a41 f42 a42
   rintro e w5 ⟨u2, Ap, cp, rfl, HS2, hab, hL2, kc5, HR⟩
   replace kc5 : Mod [64, 92, 97] [v.im] B _ _ := kc5
   rw [hvL.im, hL.im] at kc5
   refine ⟨_, rfl, fun a44 f44 => ?_⟩
   have szw5 := kc5.size
   replace HK := HK.step kc5 (by decide) (by simp) (by omega)
   replace PK := PK.mod kc5 (by decide)
   replace Bg2 := Bg2.mod kc5 (by decide)
   clear f43 a43 kc5
   refine L.buildSlice f44 wantedN (by decide) (parts1 f44 rfl) U42 wzj35 rfl rfl (wpk1 _) fun a45 w6 g5 N5 f45 => ?_
   have Bg5 := N5.blk
   have kg5 := N5.kept
   have log5 := N5.lo
   have ltg5 := Bg5.lt
   have szw6 := kg5.size
   have frg5 : w.heap.size ≤ g5 := Nat.le_trans HK.size log5
   have neg2_g5 : g2 ≠ g5 := by have := Bg2.lt; omega
   replace HK := HK.trans (.of_kept0 kg5)
   replace PK := PK.mod (Mod.of_kept0 (T := []) (M := []) (B := B) kg5) (by decide)
   replace Bg2 := Bg2.z kg5
   replace HS2 := HS2.mod (Mod.of_kept0 (T := []) (M := []) (B := B) kg5) (by decide)
   replace HR := HR.mod (Mod.of_kept0 (T := []) (M := []) (B := B) kg5) (by decide)
   clear N5 kg5
   refine L.append f45 wantedN (by decide) U42 wzib35_rd rfl rfl rfl rfl (PK.fr.own) ((show Sl _ _ 1 24 (pcell ⟨riseP v.abs x.m, Ap, cp⟩) from sl_blk Bg5 rfl)) (pcell_one _) (by unfold maxLen; omega) (by omega) fun a46 w7 A2 c2 AP7 f46 => ?_
   have kap7 : Mod [35] [] B w6 w7 := .of_app AP7 PK.fr.own (fun a ha => Nat.le_trans hB (PK.fr.from a ha)) (by simp)
   have PK2 := PK.push (x := ⟨riseP v.abs x.m, Ap, cp⟩) AP7 HK.size hB HR
   replace HK := HK.app_new AP7 PK.fr
   have szw7 := kap7.size
   replace Bg2 := Bg2.mod kap7 (by decide)
   replace HS2 := HS2.mod kap7 (by decide)
   clear f44 a44 f45 a45 kap7
   refine L.ag f46 fun a47 f47 => ?_
   clear f46 a46
   refine wpList_nil (hKL3 _ _ (gk4 - 1) ?_ ?_)
   ·omega
   exact ⟨u2, A2, c2, pks ++ [⟨riseP v.abs x.m, Ap, cp⟩], HS2, (hL.trans hvL (by omega)).trans hL2 (by omega), drainR_more hab hva hgk, by rw [hq]; exact drainR_next hab hva hwt hgk (by omega) pks, by simpa using PK2, by simp; omega, HK, by simpa using f47.sub (sx (sx (sx sn)))⟩
  have hemp := h1
  refine C.condF f26 rfl ?_
  refine wp_exit (hK2 _ _ ?_)
  have f27 := f26.pk [5]
  refine C.sk fun K7 hK7 => ?_
  refine L.mv f27 fun a28 f28 => ?_
  refine L.ag f28 fun a29 f29 => ?_
  have f30 := f29.pk [4]
  refine wn hK7 (wp_ret ?_); (try simp only [xt, xb]); refine C.ret f30 rfl rfl ?_
  exact drainR_b HS hL (List.eq_nil_of_length_eq_zero (by omega)) hq PK HK
 have hge := h0
 refine L.run f14 (rest' := []) (by kernel_rfl) fun a15 f15 => ?_
 clear f13
 refine wn hK5 ?_
 have f16 := f15.sub (sv 24 (.bool false) (pkR f15 [0, 1, 5, 8, 9, 10, 11, 12, 13, 14]))
 refine C.condF f16 rfl ?_
 refine wp_exit (hK2 _ _ ?_)
 have f17 := f16.pk [5]
 refine C.sk fun K8 hK8 => ?_
 refine L.mv f17 fun a18 f18 => ?_
 refine L.ag f18 fun a19 f19 => ?_
 have f20 := f19.pk [4]
 refine wn hK8 (wp_ret ?_); (try simp only [xt, xb]); refine C.ret f20 rfl rfl ?_
 exact drainR_a HS hL hq PK HK (by omega)
theorem atR_any (B p : Nat) (s : Rs) (id : Int) (w : World) (hS : RefAt B w p s) : Calls Tryz.prog 53 #[.pointer (some ⟨p, 0, none⟩), .int .i64 id] w (fun e w' => w = w' ∧ e = .returned (.int .i64 (idxI (s.fly.map (·.id)) id 0))) := by
 have BP := hS.top
 have hl4 := hS.fly.len
 have SLF := Sl.of_own hS.fly.own
 refine C.enter Tryz.func53 rfl Tryz.ntmps53 rfl ?_
 intro a0 f0
 have f1 : Fr 26 a0 [(0, .pointer (some ⟨p, 0, none⟩)), (1, .int .i64 id)] := f0
 refine C.sk fun K0 hK0 => ?_
 refine L.ag f1 fun a2 f2 => ?_
 refine wn hK0 ?_
 have f3 := f2.pk [0, 1, 4]
 refine wp_seq_k fun K1 hK1 => C.sk fun K2 hK2 => ?_
 refine L.ag f3 fun a4 f4 => ?_
 refine wn hK2 ?_
 have f5 := f4.pk [0, 1, 4, 5]
 refine wp_block ?_
 clear f0 f1 a0 f2 f3 a2 f4
 refine C.loop (fun gk a W => w = W ∧ ∃ k : Nat, k + gk = s.fly.length ∧ idxI (s.fly.map (·.id)) id 0 = idxI ((s.fly.drop k).map (·.id)) id k ∧ Fr 26 a [(0, .pointer (some ⟨p, 0, none⟩)), (1, .int .i64 id), (5, .int .i64 k)]) (s.fly.length) ?_ ?_
 ·exact ⟨rfl, 0, by omega, rfl, f5.sub (sx (sx (sx sn)))⟩
 intro gk4 a6 w1 hI KL3 hKL3
 obtain ⟨hW, k, hk, hix, f6⟩ := hI
 subst hW
 try clear f5
 refine wp_seq_k fun K4 hK4 => C.sk fun K5 hK5 => ?_
 refine L.mv f6 fun a7 f7 => ?_
 refine L.mv f7 fun a8 f8 => ?_
 refine L.va f8 (E.nilCheck f8 rfl) fun a9 f9 => ?_
 refine L.fa 4 f9 U64 rfl wsz62_rd fun a10 f10 => ?_
 refine L.va f10 (E.load f10 Tryz.underlying62 rfl rfl ((BP).cl rfl)) fun a11 f11 => ?_
 refine L.va f11 (E.lenL f11 Tryz.underlying62 rfl) fun a12 f12 => ?_
 refine L.va f12 (E.lss f12 rfl rfl) fun a13 f13 => ?_
 clear f6 a6 f7 a7 f8 a8 f9 a9 f10 a10 f11 a11 f12 a12
 refine wn hK5 ?_
 have f14 := f13.pk [0, 1, 5, 6, 7, 8, 9, 10, 11, 12]
 clear f13
 refine f14.splitD 12 rfl (fun h0 f15 => ?_) (fun h0 f15 => ?_)
 ·obtain ⟨f0, hf⟩ : ∃ f, s.fly[k]? = some f := ⟨s.fly[k]'(by omega), List.getElem?_eq_getElem _⟩
  obtain ⟨b, off, hA⟩ := SLF.addr (by omega)
  refine C.condT f15 rfl ?_
  refine wp_skip (hK4 _ _ ?_)
  have f16 := f15.pk [0, 1, 5, 6, 7, 8, 9, 10, 11, 12]
  refine wp_seq_k fun K6 hK6 => ?_
  refine wp_block ?_
  refine C.sk fun K7 hK7 => ?_
  refine L.mv f16 fun a17 f17 => ?_
  refine L.va f17 (E.nilCheck f17 rfl) fun a18 f18 => ?_
  refine L.fa 4 f18 U64 rfl wsz62_rd fun a19 f19 => ?_
  refine L.va f19 (E.load f19 Tryz.underlying62 rfl rfl ((BP).cl rfl)) fun a20 f20 => ?_
  refine L.mv f20 fun a21 f21 => ?_
  refine L.va f21 (E.indexA f21 (by assumption) Tryz.underlying62 wsz97_rd rfl rfl (by omega) (by omega)) fun a22 f22 => ?_
  clear f14 f15 f16 a13 f17 a17 f18 a18 f19 a19 f20 a20 f21 a21
  refine L.fa 0 f22 U97 rfl wsz3_rd fun a23 f23 => ?_
  refine L.va f23 (E.load f23 U3 rfl rfl ((fly_rcj SLF hA hf 0 rfl))) fun a24 f24 => ?_
  refine L.mv f24 fun a25 f25 => ?_
  refine L.va f25 (E.eql f25 rfl rfl) fun a26 f26 => ?_
  refine wn hK7 ?_
  have f27 := f26.pk [0, 1, 5, 6, 7, 8, 9, 10, 11, 12, 15, 16, 17, 18, 19, 20, 21, 22, 23, 24]
  clear f22 a22 f23 a23 f24 a24 f25 a25 f26
  refine f27.splitD 24 rfl (fun h1 f28 => ?_) (fun h1 f28 => ?_)
  ·have h24 := h1
   refine C.condT f28 rfl ?_
   refine C.sk fun K8 hK8 => ?_
   refine L.mv f28 fun a29 f29 => ?_
   refine L.ag f29 fun a30 f30 => ?_
   have f31 := f30.pk [0, 1, 4, 5, 6, 7, 8, 9, 10, 11, 12, 15, 16, 17, 18, 19, 20, 21, 22, 23, 24, 25]
   refine wn hK8 (wp_ret ?_); (try simp only [xt, xb]); refine C.ret f31 rfl rfl ?_
   exact ⟨rfl, by rw [hix, idx_hit hf h24]⟩
  have h24 := h1
  refine C.condF f28 rfl ?_
  refine wp_skip (hK6 _ _ ?_)
  have f29 := f28.pk [0, 1, 5, 6, 7, 8, 9, 10, 11, 12, 15, 16, 17, 18, 19, 20, 21, 22, 23, 24]
  refine C.region ?_
  refine L.mv f29 fun a30 f30 => ?_
  refine L.va f30 (E.add f30 rfl rfl (IntWalk.i64_in _ (by omega))) fun a31 f31 => ?_
  refine L.ag f31 fun a32 f32 => ?_
  clear f27 f28 f29 a26 f30 a30 f31 a31
  refine wpList_nil (hKL3 _ _ (gk4 - 1) ?_ ?_)
  ·omega
  exact ⟨rfl, k + 1, by omega, hix.trans (idx_next hf h24), f32.sub (sx (sx (sx sn)))⟩
 have hend := h0
 refine C.condF f15 rfl ?_
 refine wp_exit (hK1 _ _ ?_)
 have f16 := f15.sub sn
 refine C.sk fun K9 hK9 => ?_
 refine L.ag f16 fun a17 f17 => ?_
 have f18 := f17.pk [4]
 refine wn hK9 (wp_ret ?_); (try simp only [xt, xb]); refine C.ret f18 rfl rfl ?_
 exact ⟨rfl, by rw [hix, List.drop_of_length_le (by omega)]; rfl⟩
end Go.Proofs.YtdfllmiokgoekaaGreatDoor
namespace Go.Proofs.YtdfllmiokgoekaaGreatDoor
open Go.RowKit Go.Hub
theorem wsz3_j : (Tryz.prog.info? 3).map (·.size) = some 1 := by kernel_rfl
theorem wsz50_j : (Tryz.prog.info? 50).map (·.size) = some 1 := by kernel_rfl
theorem wsz55_j : (Tryz.prog.info? 55).map (·.size) = some 1 := by kernel_rfl
theorem wsz82_j : (Tryz.prog.info? 82).map (·.size) = some 7 := by kernel_rfl
theorem wzib35_j : (Tryz.prog.info? 35).map (fun i => (i.zero, i.size, i.bytes)) = some (some (.agg #[(.int .i64 0), (.bool false), (.bool false), (.int .i64 0), (.int .i64 0), (.string ⟨#[]⟩), (.slice none 0 0), (.int .i64 0), (.string ⟨#[]⟩), (.bool false), (.int .i64 0), (.bool false), (.string ⟨#[]⟩), (.slice none 0 0), (.int .i64 0), (.bool false), (.bool false), (.bool false), (.string ⟨#[]⟩), (.slice none 0 0), (.bool false), (.int .i64 0), (.slice none 0 0), (.slice none 0 0)]), 24, 288) := by kernel_rfl
theorem wsz4_j : (Tryz.prog.info? 4).map (·.size) = some 1 := by kernel_rfl
theorem wsz30_j : (Tryz.prog.info? 30).map (·.size) = some 4 := by kernel_rfl
theorem far_map {w : World} {e : TypeId} {size n c im : Nat} {A : Option Addr} {xs : List Value} (h : Own w e size (.slice A n c) n xs) (hm : MapB w im) : Far A [im] := fun a ha hx => by
  obtain ⟨_, cs, h2⟩ := h.blk a.block (by rw [ha]; rfl)
  simp only [List.mem_singleton] at hx
  rw [hx] at h2
  exact (Typ.not_map (T := [e]) ⟨cs, e, _, h2, by simp⟩) hm
theorem own_own {w : World} {e e' : TypeId} {size size' n n' c c' k k' : Nat} {A A' : Option Addr} {xs ys : List Value} (h : Own w e size (.slice A n c) k xs) (h' : Own w e' size' (.slice A' n' c') k' ys) (hne : e ≠ e') : ∀ b, (Value.slice A n c).ownBlock = some b → b ∉ (Value.slice A' n' c').ownBlock.toList := fun b hb hx => by
  obtain ⟨_, cs, h1⟩ := h.blk b hb
  obtain ⟨_, cs', h2⟩ := h'.blk b (by simpa using hx)
  rw [h1] at h2
  injection h2 with h2
  injection h2 with _ h3 _
  exact hne h3
theorem fly_cell {w : World} {A : Option Addr} {l : List Fc} {b off i o : Nat} {f : Fc} (SL : Sl w A l.length 7 (l.flatMap fcell)) (hA : A = some ⟨b, off, none⟩) (hf : l[i]? = some f) (j : Nat) {v : Value} (hv : (fcell f)[j]? = some v) (ho : o = off + i * 7 + j) : w.cell? ⟨b, o, none⟩ = some v := by
  subst ho
  have h := (List.getElem?_eq_some_iff.1 hf).1
  rw [Nat.add_assoc]
  exact SL.cell (by omega) hA (flat_at fcell 7 (fun _ => rfl) l i f hf j v hv)
theorem fly_cell' {w : World} {A : Option Addr} {dn rs : List Fc} {b off i o : Nat} {f f' : Fc} (SL : Sl w A (dn ++ f' :: rs).length 7 ((dn ++ f' :: rs).flatMap fcell)) (hA : A = some ⟨b, off, none⟩) (hf : (dn ++ f :: rs)[i]? = some f) (j : Nat) {v : Value} (hv : (fcell f')[j]? = some v) (ho : o = off + dn.length * 7 + j) : w.cell? ⟨b, o, none⟩ = some v :=
  fly_cell SL hA (i := dn.length) (f := f') (by simp) j hv ho
theorem fly_msg {w : World} {A : Option Addr} {dn rs : List Fc} {b off i o : Nat} {f f' : Fc} (SL : Sl w A (dn ++ f' :: rs).length 7 ((dn ++ f' :: rs).flatMap fcell)) (hA : A = some ⟨b, off, none⟩) (hf : (dn ++ f :: rs)[i]? = some f) (ho : o = off + dn.length * 7) : w.rangeAt b o (mcell f'.x) := fun j v hv => by
  refine fly_cell' SL hA hf j ?_ (by omega)
  match j, hv with
  | 0, hv | 1, hv | 2, hv | 3, hv => exact hv
  | j + 4, hv => simp at hv
theorem del_A (B : Nat) (A : Option Addr) (c i : Nat) (l : List Fc) (w : World) (O : Own w 82 7 (.slice A l.length c) l.length (l.flatMap fcell)) (hi : i < l.length) (hB : ∀ a, A = some a → B ≤ a.block) :
    Calls Tryz.prog 68 #[.slice A l.length c, .int .i64 i, .int .i64 (i + 1)] w fun e w' => e = .returned (.slice A (l.eraseIdx i).length c) ∧ Own w' 82 7 (.slice A (l.eraseIdx i).length c) (l.eraseIdx i).length ((l.eraseIdx i).flatMap fcell) ∧ Mod [82] [] B w w' := by
  obtain ⟨b, off, hA⟩ := (Sl.of_own O).addr (by omega)
  subst hA
  have h1 : ∀ u ∈ l.flatMap fcell, u.oneCell' = true := fun u hu => by
    obtain ⟨f, _, hu⟩ := List.mem_flatMap.1 hu
    simp only [fcell, List.mem_cons, List.not_mem_nil, or_false] at hu
    rcases hu with rfl | rfl | rfl | rfl | rfl | rfl | rfl <;> rfl
  refine (del_any b off l.length c i _ w O h1 hi).mono ?_
  rintro e w' ⟨rfl, h2, h3⟩
  have hl : (l.eraseIdx i).length = l.length - 1 := List.length_eraseIdx_of_lt hi
  have hx : (l.eraseIdx i).flatMap fcell = (l.flatMap fcell).take (i * 7) ++ (l.flatMap fcell).drop ((i + 1) * 7) := by
    rw [List.eraseIdx_eq_take_drop_succ, List.flatMap_append, flat_take fcell 7 (fun _ => rfl) l i, flat_drop fcell 7 (fun _ => rfl) l (i + 1)]
  rw [hl, hx]
  exact ⟨rfl, h2, .of_own1 rfl h3 O hB (by simp)⟩
theorem erase_perm {α : Type} {l : List α} {i : Nat} (h : i < l.length) : l.Perm (l[i] :: l.eraseIdx i) := by
  rw [List.eraseIdx_eq_take_drop_succ]
  have h1 : l = l.take i ++ l[i] :: l.drop (i + 1) := by rw [← List.drop_eq_getElem_cons h, List.take_append_drop]
  exact (List.Perm.of_eq h1).trans List.perm_middle
theorem erase_map {α β : Type} (f : α → β) (l : List α) (i : Nat) : (l.eraseIdx i).map f = (l.map f).eraseIdx i := by
  rw [List.eraseIdx_eq_take_drop_succ, List.eraseIdx_eq_take_drop_succ, List.map_append, List.map_take, List.map_drop]
theorem done_ses {B p i : Nat} {s : Ses} {f : Fc} {w W : World} (hS : SesAt B w p s) (hf : s.fly[i]? = some f) (HK : Mod [57, 88, 82] [s.im] B w W)
    (BP : Blk W p 57 #[.string s.cl, s.sv, .pointer (some ⟨s.ip, 0, none⟩), .slice s.FA (s.fly.eraseIdx i).length s.fc, .pointer (some ⟨s.q, 0, none⟩), .map (some s.gm)]) (IDN : IdsAt W s.ip s.im (s.used.erase f.id) 65535 s.taken)
    (RX : Own W 82 7 (.slice s.FA (s.fly.eraseIdx i).length s.fc) (s.fly.eraseIdx i).length ((s.fly.eraseIdx i).flatMap fcell)) : SesAt B W p { s with used := s.used.erase f.id, fly := s.fly.eraseIdx i } := by
  have hi := (List.getElem?_eq_some_iff.1 hf).1
  have hsub : ∀ g ∈ s.fly.eraseIdx i, g ∈ s.fly := fun g hg => List.mem_of_mem_eraseIdx hg
  refine ⟨BP, hS.one, IDN, hS.qu.mod HK (by decide), ⟨RX, fun g hg => (hS.fly.pay g (hsub g hg)).mod HK (by decide), hS.fly.loA, ?_⟩, hS.got.mod HK (by simpa using Ne.symm hS.ne), hS.ne, hS.lop, hS.loi, hS.lom, hS.log, hS.tk, ?_, fun g hg => hS.ats g (hsub g hg), fun g hg => hS.idb g (hsub g hg)⟩
  · have := hS.fly.len
    show (s.fly.eraseIdx i).length ≤ 4
    rw [List.length_eraseIdx_of_lt hi]
    omega
  show (s.used.erase f.id).Perm ((s.fly.eraseIdx i).map (·.id))
  have h1 : (s.fly.map (·.id)).Perm (f.id :: (s.fly.eraseIdx i).map (·.id)) := by
    obtain ⟨h2, h3⟩ := List.getElem?_eq_some_iff.1 hf
    have h4 : s.fly.Perm (s.fly[i] :: s.fly.eraseIdx i) := erase_perm h2
    rw [h3] at h4
    exact h4.map (·.id)
  have h5 := ((hS.perm.trans h1).erase f.id)
  simpa using h5
theorem done_abs {s : Ses} {i : Nat} {f : Fc} {now : Int} (hf : s.fly[i]? = some f) : drainS (Ses.abs { s with used := s.used.erase f.id, fly := s.fly.eraseIdx i }) now = doneS s.abs i f.id now := by
  unfold doneS Ses.abs
  simp [erase_map]
def DonePost (B p : Nat) (s : Ses) (i : Nat) (id now : Int) (w : World) (e : Ending) (w' : World) : Prop :=
  ∃ s' A c pks, e = .returned (.slice A pks.length c) ∧ SesAt B w' p s' ∧ s'.abs = (doneS s.abs i id now).1 ∧ pks.map (·.p) = (doneS s.abs i id now).2 ∧ Ses.Like w s s' ∧ Mod [57, 88, 82, 90] [s.im] B w w' ∧ PkAt B w w' A c pks
def AgainPost (B p : Nat) (s : Ses) (now ago : Int) (w : World) (e : Ending) (w' : World) : Prop :=
  ∃ s' A c pks, e = .returned (.slice A pks.length c) ∧ SesAt B w' p s' ∧ s'.abs = (againS s.abs now ago).1 ∧ pks.map (·.p) = (againS s.abs now ago).2 ∧ Ses.Like w s s' ∧ Mod [82] [] B w w' ∧ PkAt B w w' A c pks ∧ pks.length ≤ 4
theorem drop_at {l rs : List Fc} {k : Nat} {f : Fc} (h : rs = l.drop k) (hf : l[k]? = some f) : ∃ rs', rs' = l.drop (k + 1) ∧ rs = f :: rs' := by
  obtain ⟨h1, h2⟩ := List.getElem?_eq_some_iff.1 hf
  exact ⟨_, rfl, by rw [h, List.drop_eq_getElem_cons h1, h2]⟩
section
variable {now ago : Int} {f : Fc} {dn rs' l : List Fc} {pks : List Pc} {k : Nat}
theorem again_skip (h : nearI now - f.at_ < ago) : (dn.map Fc.abs ++ (againF now ago ((f :: rs').map Fc.abs)).1, pks.map (·.p) ++ (againF now ago ((f :: rs').map Fc.abs)).2) = ((dn ++ [f]).map Fc.abs ++ (againF now ago (rs'.map Fc.abs)).1, pks.map (·.p) ++ (againF now ago (rs'.map Fc.abs)).2) := by
  rw [List.map_cons, againF, if_pos (show nearI now - f.abs.at_ < ago from h)]
  simp
theorem again_do {x : Pc} (h : ¬ nearI now - f.at_ < ago) (hx : (if f.rc = true then ackP 6 f.id else pubP f.x.m f.id true) = x.p) : (dn.map Fc.abs ++ (againF now ago ((f :: rs').map Fc.abs)).1, pks.map (·.p) ++ (againF now ago ((f :: rs').map Fc.abs)).2) = ((dn ++ [{ f with at_ := nearI now }]).map Fc.abs ++ (againF now ago (rs'.map Fc.abs)).1, (pks ++ [x]).map (·.p) ++ (againF now ago (rs'.map Fc.abs)).2) := by
  have hx' : (if f.abs.rc = true then ackP 6 f.abs.id else pubP f.abs.m f.abs.id true) = x.p := hx
  rw [List.map_cons, againF, if_neg (show ¬ nearI now - f.abs.at_ < ago from h), hx']
  simp [Fc.abs]
theorem again_ids {f' : Fc} (h : dn.map (·.id) = (l.take k).map (·.id)) (hf : l[k]? = some f) (hi : f'.id = f.id) : (dn ++ [f']).map (·.id) = (l.take (k + 1)).map (·.id) := by
  rw [List.map_append, h, List.take_succ, hf, List.map_append]
  simp [hi]
theorem again_ats {f' : Fc} (h : ∀ f ∈ dn, -1099511627776 ≤ f.at_ ∧ f.at_ ≤ 1099511627776) (h' : -1099511627776 ≤ f'.at_ ∧ f'.at_ ≤ 1099511627776) : ∀ f ∈ dn ++ [f'], -1099511627776 ≤ f.at_ ∧ f.at_ ≤ 1099511627776 := fun g hg => by
  rcases List.mem_append.1 hg with hg | hg
  · exact h g hg
  obtain rfl := List.mem_singleton.1 hg
  exact h'
end
theorem FlyAt.seg {B : Nat} {w w' : World} {A : Option Addr} {c k : Nat} {dn rs : List Fc} {f f' : Fc} {v : Value} (h : FlyAt B w A c (dn ++ f :: rs)) (hf : (dn ++ f :: rs)[k]? = some f) (hm : Mod [82] [] B w w') (hk : dn.length = k) (O : Own w' 82 7 (.slice A (dn ++ f :: rs).length c) (dn ++ f :: rs).length (((dn ++ f :: rs).flatMap fcell).set (k * 7 + 5) v)) (hv : fcell f' = (fcell f).set 5 v) (hp : f'.x = f.x) : FlyAt B w' A c (dn ++ f' :: rs) := by
  subst hk
  have hx : ((dn ++ f :: rs).flatMap fcell).set (dn.length * 7 + 5) v = (dn ++ f' :: rs).flatMap fcell := by
    rw [List.flatMap_append, List.flatMap_append, List.set_append_right _ _ (by rw [fcell_len]; omega), fcell_len, List.flatMap_cons, List.flatMap_cons, show dn.length * 7 + 5 - dn.length * 7 = 5 by omega, List.set_append_left _ _ (by simp), hv]
  have hl : (dn ++ f :: rs).length = (dn ++ f' :: rs).length := by simp
  rw [hx, hl] at O
  refine ⟨O, fun g hg => ?_, h.loA, by rw [← hl]; exact h.len⟩
  rcases List.mem_append.1 hg with hg | hg
  · exact (h.pay g (List.mem_append_left _ hg)).mod hm (by decide)
  rcases List.mem_cons.1 hg with rfl | hg
  · rw [hp]; exact (h.pay f (by simp)).mod hm (by decide)
  exact (h.pay g (by simp [hg])).mod hm (by decide)
theorem again_fin {B p k : Nat} {s : Ses} {now ago : Int} {w W : World} {dn rs : List Fc} {Ao : Option Addr} {co : Nat} {pks : List Pc} (hS : SesAt B w p s) (hrs : rs = s.fly.drop k) (FL : FlyAt B W s.FA s.fc (dn ++ rs)) (hq : againF now ago (s.fly.map Fc.abs) = (dn.map Fc.abs ++ (againF now ago (rs.map Fc.abs)).1, pks.map (·.p) ++ (againF now ago (rs.map Fc.abs)).2)) (hids : dn.map (·.id) = (s.fly.take k).map (·.id)) (hats : ∀ f ∈ dn, -1099511627776 ≤ f.at_ ∧ f.at_ ≤ 1099511627776)
    (PK : PkAt B w W Ao co pks) (HK : Mod [82] [] B w W) (BP : Blk W p 57 s.cells) (h : s.fly.length ≤ k ∧ pks.length ≤ 4) : AgainPost B p s now ago w (.returned (.slice Ao pks.length co)) W := by
  obtain rfl : rs = [] := by rw [hrs, List.drop_eq_nil_of_le h.1]
  rw [List.take_of_length_le h.1] at hids
  simp only [List.append_nil, List.map_nil, againF] at FL hq
  have hl : dn.length = s.fly.length := by have := congrArg List.length hids; simpa using this
  have hidb : ∀ f ∈ dn, 1 ≤ f.id ∧ f.id ≤ 65535 := fun f hf => by
    have : f.id ∈ s.fly.map (·.id) := hids ▸ List.mem_map_of_mem hf
    obtain ⟨g, hg, e⟩ := List.mem_map.1 this
    rw [← e]; exact hS.idb g hg
  refine ⟨{ s with fly := dn }, Ao, co, pks, rfl, ⟨?_, hS.one, hS.ids.mod HK (by decide) (by simp), hS.qu.mod HK (by decide), FL, hS.got.mod HK (by simp), hS.ne, hS.lop, hS.loi, hS.lom, hS.log, hS.tk, ?_, hats, hidb⟩, ?_, ?_, ⟨rfl, rfl, rfl, rfl, fun b hb => .inl hb⟩, HK, PK, h.2⟩
  · show Blk W p 57 #[.string s.cl, s.sv, .pointer (some ⟨s.ip, 0, none⟩), .slice s.FA dn.length s.fc, .pointer (some ⟨s.q, 0, none⟩), .map (some s.gm)]
    rw [hl]; exact BP
  · show s.used.Perm (dn.map (·.id))
    rw [hids]; exact hS.perm
  · unfold againS Ses.abs
    simp only
    rw [hq]
  unfold againS Ses.abs
  simp only
  rw [hq]
theorem done_any (B p : Nat) (s : Ses) (i : Nat) (f : Fc) (now : Int) (w : World) (hS : SesAt B w p s) (hf : s.fly[i]? = some f) (hB : B ≤ w.heap.size) : Calls Tryz.prog 44 #[.pointer (some ⟨p, 0, none⟩), .int .i64 i, .int .i64 now] w (DonePost B p s i f.id now w) := by
 have HK : Mod [57, 88, 82, 90] [s.im] B w w := .refl _ _ _ _
 have HK1 : Mod [57, 88, 82] [s.im] B w w := .refl _ _ _ _
 have BP := hS.top
 have OWN := hS.fly.own
 have ID := hS.ids
 have SLF := Sl.of_own hS.fly.own
 have hi4 : i < s.fly.length := (List.getElem?_eq_some_iff.1 hf).1
 have hl4 := hS.fly.len
 obtain ⟨b, off, hA⟩ := SLF.addr (by omega)
 have hmap := hS.ids.set.map
 have hpim : p ≠ s.im := fun h => hS.top.not_map (h ▸ hmap)
 have hfar : Far s.FA [s.im] := far_map hS.fly.own hmap
 have hidb := hS.idb f (List.mem_of_getElem? hf)
 refine C.enter Tryz.func44 rfl Tryz.ntmps44 rfl ?_
 intro a0 f0
 have f1 : Fr 34 a0 [(0, .pointer (some ⟨p, 0, none⟩)), (1, .int .i64 i), (2, .int .i64 now)] := f0
 refine C.sk fun K0 hK0 => ?_
 refine L.ag f1 fun a2 f2 => ?_
 refine wn hK0 ?_
 have f3 := f2.pk [0, 1, 2, 6]
 refine wp_seq_k fun K1 hK1 => ?_
 refine R.begin (S := fun W => Kept [s.im] w W) (by kernel_rfl) (by exact (Kept.refl _ _).drewN 1) ?_
 have hS1 : Kept [s.im] w (w.drewN 1) := (Kept.refl _ _).drewN 1
 have hd1 : Kept [] w (w.drewN 1) := (Kept.refl _ _).drewN 1
 obtain ⟨w1, hww1⟩ : ∃ W, W = w.drewN 1 := ⟨_, rfl⟩
 rw [← hww1] at hS1 hd1 ⊢
 clear f0 f1 a0 f2 hww1
 have szw1 := hS1.size
 replace ID := ID.kept hd1 (by simp) (by simp)
 refine R.mv 0 f3 rfl hS1 fun a4 f4 => ?_
 refine R.t 1 f4 rfl hS1 (fun W hW => (E.nilCheck f4 rfl)) fun a5 f5 => ?_
 refine R.t 2 f5 rfl hS1 (fun W hW => (E.fa 2 f5 U57 rfl wsz50_j)) fun a6 f6 => ?_
 refine R.t 3 f6 rfl hS1 (fun W hW => (E.load f6 Tryz.underlying50 rfl rfl ((BP.kept hW (by simpa using hpim)).cl rfl))) fun a7 f7 => ?_
 refine R.mv 4 f7 rfl hS1 fun a8 f8 => ?_
 refine R.t 5 f8 rfl hS1 (fun W hW => (E.nilCheck f8 rfl)) fun a9 f9 => ?_
 refine R.t 6 f9 rfl hS1 (fun W hW => (E.fa 3 f9 U57 rfl wsz55_j)) fun a10 f10 => ?_
 clear f3 a2 f4 a4 f5 a5 f6 a6 f7 a7 f8 a8 f9 a9
 refine R.t 7 f10 rfl hS1 (fun W hW => (E.load f10 Tryz.underlying55 rfl rfl ((BP.kept hW (by simpa using hpim)).cl rfl))) fun a11 f11 => ?_
 refine R.mv 8 f11 rfl hS1 fun a12 f12 => ?_
 refine R.t 9 f12 rfl hS1 (fun W hW => (E.indexA f12 (by assumption) Tryz.underlying55 wsz82_j rfl rfl (by omega) (by omega))) fun a13 f13 => ?_
 refine R.t 10 f13 rfl hS1 (fun W hW => (E.fa 4 f13 U82 rfl wsz3_j)) fun a14 f14 => ?_
 refine R.t 11 f14 rfl hS1 (fun W hW => (E.load f14 U3 rfl rfl (fly_cell (SLF.keptF hW hfar) hA hf 4 rfl (show off + i * 7 + 4 = _ by omega)))) fun a15 f15 => ?_
 refine R.call 12 f15 rfl rfl (by decide) (by kernel_rfl) wantedN (run_call Tryz.call67 (args2 f15 rfl rfl)) (idsFree_any s.ip s.im s.used 65535 s.taken f.id _ ID (wf64 (by omega))) ?_
 clear f10 a10 f11 a11 f12 a12 f13 a13 f14 a14
 rintro e w2 ⟨rfl, kc2, IDN⟩
 replace hS1 := hS1.trans kc2 (by simp)
 refine ⟨_, rfl, hS1, fun a16 f16 => ?_⟩
 have szw2 := kc2.size
 clear f15 a15 kc2
 have szw2r := hS1.size
 have KM : Mod [] [s.im] B w w2 := Mod.of_kept hS1 (fun x hx _ => by obtain rfl := List.mem_singleton.1 hx; exact ⟨hS.lom, .inr ⟨hmap, by simp⟩⟩)
 replace HK := HK.step KM (by decide) (by simp) (by omega)
 replace HK1 := HK1.step KM (by decide) (by simp) (by omega)
 replace BP := BP.kept hS1 (by simpa using hpim)
 replace OWN := OWN.mod KM (by decide)
 clear hS1
 refine R.done (by kernel_rfl) (hK1 _ _ ?_)
 have f17 := f16.pk [0, 1, 2, 6]
 refine C.sk fun K2 hK2 => ?_
 refine L.mv f17 fun a18 f18 => ?_
 refine L.mv f18 fun a19 f19 => ?_
 refine L.va f19 (E.nilCheck f19 rfl) fun a20 f20 => ?_
 refine L.fa 3 f20 U57 rfl wsz55_j fun a21 f21 => ?_
 refine L.va f21 (E.load f21 Tryz.underlying55 rfl rfl ((BP).cl rfl)) fun a22 f22 => ?_
 refine L.mv f22 fun a23 f23 => ?_
 refine L.mv f23 fun a24 f24 => ?_
 clear f16 f17 a16 f18 a18 f19 a19 f20 a20 f21 a21 f22 a22 f23 a23
 refine L.va f24 (E.add f24 rfl rfl (IntWalk.i64_in _ (by omega))) fun a25 f25 => ?_
 refine L.cl f25 (run_call Tryz.call68 (args3 f25 rfl rfl rfl)) (del_A B s.FA s.fc i s.fly _ OWN hi4 hS.fly.loA) ?_
 clear f24 a24
 rintro e w3 ⟨rfl, RX, kc3⟩
 refine ⟨_, rfl, fun a26 f26 => ?_⟩
 have szw3 := kc3.size
 replace HK := HK.step kc3 (by decide) (by simp) (by omega)
 replace HK1 := HK1.step kc3 (by decide) (by simp) (by omega)
 replace BP := BP.mod kc3 (by decide)
 replace IDN := IDN.mod kc3 (by decide) (by simp)
 clear f25 a25 kc3
 refine L.va f26 (E.nilCheck f26 rfl) fun a27 f27 => ?_
 refine L.fa 3 f27 U57 rfl wsz55_j fun a28 f28 => ?_
 refine L.store f28 wantedN wsz55_j rfl rfl rfl BP (by (simp [Value.cells]; done)) fun a29 w4 f29 NB4 ks4 => ?_
 have szw4 := ks4.size
 have KM := (Mod.of_blk (T := [57]) (M := []) (B := B) ks4 BP hS.lop (by simp))
 replace HK := HK.step KM (by decide) (by simp) (by omega)
 replace HK1 := HK1.step KM (by decide) (by simp) (by omega)
 replace IDN := IDN.mod KM (by decide) (by simp)
 replace RX := RX.mod KM (by decide)
 replace BP := NB4
 simp only [Value.cells, List.setIfInBounds_toArray, List.set_cons_zero, List.set_cons_succ, Nat.reduceAdd, Nat.zero_add] at BP
 clear f26 a26 f27 a27 ks4 f28 a28
 have f30 := f29.pk [0, 2, 6]
 refine wn hK2 (C.sk fun K3 hK3 => ?_)
 refine L.mv f30 fun a31 f31 => ?_
 refine L.mv f31 fun a32 f32 => ?_
 have HD := done_ses hS hf HK1 BP IDN RX
 refine L.cl f32 (run_call Tryz.call57 (args2 f32 rfl rfl)) (drain_any B p _ now _ HD (by omega)) ?_
 clear f29 f30 a29 f31 a31
 rintro e w5 ⟨s2, A2, c2, pks, rfl, HS2, hab, hpp, hL2, kc5, PK⟩
 replace kc5 : Mod [57, 88, 82, 90] [s.im] B _ _ := kc5
 refine ⟨_, rfl, fun a33 f33 => ?_⟩
 have szw5 := kc5.size
 replace HK := HK.step kc5 (by decide) (by simp) (by omega)
 clear f32 a32 kc5
 refine L.ag f33 fun a34 f34 => ?_
 have f35 := f34.pk [6]
 refine wn hK3 (wp_ret ?_); (try simp only [xt, xb]); refine C.ret f35 rfl rfl ?_
 exact ⟨s2, A2, c2, pks, rfl, HS2, by rw [hab, done_abs hf], by rw [hpp, done_abs hf], ⟨hL2.im, hL2.gm, hL2.cl, hL2.sv, fun b hb => (hL2.qa b hb).imp id (fun h => by omega)⟩, HK, PK.lower (by omega)⟩
theorem again_any (B p : Nat) (s : Ses) (now ago : Int) (w : World) (hS : SesAt B w p s) (hB : B ≤ w.heap.size) : Calls Tryz.prog 56 #[.pointer (some ⟨p, 0, none⟩), .int .i64 now, .int .i64 ago] w (AgainPost B p s now ago w) := by
 have HK : Mod [82] [] B w w := .refl _ _ _ _
 have BP := hS.top
 have hl4 := hS.fly.len
 refine C.enter Tryz.func56 rfl Tryz.ntmps56 rfl ?_
 intro a0 f0
 have f1 : Fr 63 a0 [(0, .pointer (some ⟨p, 0, none⟩)), (1, .int .i64 now), (2, .int .i64 ago)] := f0
 refine C.sk fun K0 hK0 => ?_
 refine L.ag f1 fun a2 f2 => ?_
 have f3 := f2.pk [0, 1, 2, 6]
 refine wn hK0 (C.sk fun K1 hK1 => ?_)
 refine L.ag f3 fun a4 f4 => ?_
 refine wn hK1 ?_
 have f5 := f4.pk [0, 1, 2, 6, 7]
 refine wp_seq_k fun K2 hK2 => C.sk fun K3 hK3 => ?_
 refine L.mv f5 fun a6 f6 => ?_
 refine L.va f6 (E.nilCheck f6 rfl) fun a7 f7 => ?_
 refine L.fa 3 f7 U57 rfl wsz55_j fun a8 f8 => ?_
 refine L.va f8 (E.load f8 Tryz.underlying55 rfl rfl ((BP).cl rfl)) fun a9 f9 => ?_
 clear f0 f1 a0 f2 f3 a2 f4 f5 a4 f6 a6 f7 a7 f8 a8
 refine L.va f9 (E.lenL f9 Tryz.underlying55 rfl) fun a10 f10 => ?_
 refine L.mv f10 fun a11 f11 => ?_
 refine wn hK3 ?_
 have f12 := f11.pk [0, 1, 2, 6, 7, 14, 15]
 refine wp_block ?_
 clear f9 a9 f10 a10 f11
 refine C.loop (fun gk a W => ∃ (k : Nat) (dn rs : List Fc) (Ao : Option Addr) (co : Nat) (pks : List Pc), k + gk = s.fly.length ∧ dn.length = k ∧ rs = s.fly.drop k ∧ FlyAt B W s.FA s.fc (dn ++ rs) ∧ againF now ago (s.fly.map Fc.abs) = (dn.map Fc.abs ++ (againF now ago (rs.map Fc.abs)).1, pks.map (·.p) ++ (againF now ago (rs.map Fc.abs)).2) ∧ dn.map (·.id) = (s.fly.take k).map (·.id) ∧ (∀ f ∈ dn, -1099511627776 ≤ f.at_ ∧ f.at_ ≤ 1099511627776) ∧ PkAt B w W Ao co pks ∧ pks.length ≤ k ∧ Mod [82] [] B w W ∧ Blk W p 57 s.cells ∧ Fr 63 a [(0, .pointer (some ⟨p, 0, none⟩)), (1, .int .i64 now), (2, .int .i64 ago), (7, .slice Ao pks.length co), (14, .int .i64 s.fly.length), (15, .int .i64 k)]) (s.fly.length) ?_ ?_
 ·exact ⟨0, [], s.fly, none, 0, [], by omega, rfl, rfl, hS.fly, by simp, rfl, by simp, PkAt.nil _ _ _, by simp, HK, BP, f12.sub (sx (sx (sx (sx (sx (sx sn))))))⟩
 intro gk5 a13 w1 hI KL4 hKL4
 obtain ⟨k, dn, rs, Ao, co, pks, hk, hdk, hrs, FL, hq, hids, hats, PK, hpk, HK, BP, f13⟩ := hI
 try clear f12
 have szw1x := HK.size
 refine C.sk fun K5 hK5 => ?_
 refine L.va f13 (E.lss f13 rfl rfl) fun a14 f14 => ?_
 refine wn hK5 ?_
 have f15 := f14.pk [0, 1, 2, 7, 14, 15, 16]
 refine wp_seq_k fun K6 hK6 => ?_
 clear f13 a13 f14
 refine f15.splitD 16 rfl (fun h0 f16 => ?_) (fun h0 f16 => ?_)
 ·obtain ⟨f, hfs⟩ : ∃ f, s.fly[k]? = some f := ⟨s.fly[k]'(by omega), List.getElem?_eq_getElem _⟩
  have hfm := List.mem_of_getElem? hfs
  obtain ⟨rs', hrs', hrs0⟩ := drop_at hrs hfs
  clear f15
  subst hrs0
  have hf : (dn ++ f :: rs')[k]? = some f := by rw [← hdk]; simp
  have hlen : (dn ++ f :: rs').length = s.fly.length := by simp; have := congrArg List.length hrs'; simp at this; omega
  obtain ⟨b, off, hA⟩ := (Sl.of_own FL.own).addr (by omega)
  have hats0 := hS.ats f hfm
  have hnb := near_bd now
  refine C.condT f16 rfl ?_
  refine wp_skip (hK6 _ _ ?_)
  have f17 := f16.pk [0, 1, 2, 7, 14, 15, 16]
  refine wp_seq_k fun K7 hK7 => ?_
  refine wp_block ?_
  refine C.sk fun K8 hK8 => ?_
  refine L.mv f17 fun a18 f18 => ?_
  refine L.ag f18 fun a19 f19 => ?_
  have f20 := f19.pk [0, 1, 2, 7, 8, 14, 15, 16, 17]
  refine wn hK8 (C.sk fun K9 hK9 => ?_)
  refine L.mv f20 fun a21 f21 => ?_
  refine L.va f21 (E.nilCheck f21 rfl) fun a22 f22 => ?_
  refine L.fa 3 f22 U57 rfl wsz55_j fun a23 f23 => ?_
  refine L.va f23 (E.load f23 Tryz.underlying55 rfl rfl ((BP).cl rfl)) fun a24 f24 => ?_
  clear f16 f17 a14 f18 a18 f19 f20 a19 f21 a21 f22 a22 f23 a23
  refine L.mv f24 fun a25 f25 => ?_
  refine L.va f25 (E.indexA f25 (by assumption) Tryz.underlying55 wsz82_j rfl rfl (by omega) (by omega)) fun a26 f26 => ?_
  refine L.ag f26 fun a27 f27 => ?_
  refine wn hK9 ?_
  have f28 := f27.pk [0, 1, 2, 7, 8, 9, 14, 15, 16, 17, 18, 19, 20, 21, 22, 23]
  refine wp_seq_k fun K10 hK10 => ?_
  refine wp_seq_k fun K11 hK11 => ?_
  refine R.begin (S := fun W => Kept [] w1 W) (by kernel_rfl) (by exact (Kept.refl _ _).drewN 1) ?_
  have hS6 : Kept [] w1 (w1.drewN 1) := (Kept.refl _ _).drewN 1
  have hd6 : Kept [] w1 (w1.drewN 1) := (Kept.refl _ _).drewN 1
  obtain ⟨w2, hww2⟩ : ∃ W, W = w1.drewN 1 := ⟨_, rfl⟩
  rw [← hww2] at hS6 hd6 ⊢
  clear f24 a24 f25 a25 f26 a26 f27 hww2
  have szw2 := hS6.size
  refine R.mv 0 f28 rfl hS6 fun a29 f29 => ?_
  refine R.mv 2 f29 rfl hS6 fun a30 f30 => ?_
  refine R.t 3 f30 rfl hS6 (fun W hW => (E.nilCheck f30 rfl)) fun a31 f31 => ?_
  refine R.t 4 f31 rfl hS6 (fun W hW => (E.fa 5 f31 U82 rfl wsz3_j)) fun a32 f32 => ?_
  refine R.t 5 f32 rfl hS6 (fun W hW => (E.load f32 U3 rfl rfl (fly_cell (Sl.of_own (FL.own.kept hW (by simp))) hA hf 5 rfl (show off + k * 7 + 5 = _ by omega)))) fun a33 f33 => ?_
  refine R.mv 7 f33 rfl hS6 fun a34 f34 => ?_
  refine R.call 1 f34 rfl rfl (by decide) (by kernel_rfl) wantedN (run_call Tryz.call45 (args1 f34 rfl)) (near_any now _) ?_
  clear f28 a27 f29 a29 f30 a30 f31 a31 f32 a32 f33 a33
  rintro e w2x ⟨rfl, rfl⟩
  refine ⟨_, rfl, hS6, fun a35 f35 => ?_⟩
  refine R.t 6 f35 rfl hS6 (fun W hW => (E.sub f35 rfl rfl (IntWalk.i64_in _ (by omega)))) fun a36 f36 => ?_
  refine R.t 8 f36 rfl hS6 (fun W hW => (E.lss f36 rfl rfl)) fun a37 f37 => ?_
  have szw2r := hS6.size
  replace HK := HK.trans (.of_kept0 hS6)
  replace BP := BP.z hS6
  replace FL := FL.mod (Mod.of_kept0 (T := []) (M := []) (B := B) hS6) (by decide)
  replace PK := PK.mod (Mod.of_kept0 (T := []) (M := []) (B := B) hS6) (by decide)
  clear f34 a34 f35 a35 f36 a36 hS6
  refine R.done (by kernel_rfl) (hK11 _ _ ?_)
  have f38 := f37.pk [0, 1, 2, 7, 8, 9, 14, 15, 16, 17, 18, 19, 20, 21, 22, 23, 24, 25, 26, 27, 28, 29, 30, 31, 32]
  clear f37
  refine f38.splitD 32 rfl (fun h1 f39 => ?_) (fun h1 f39 => ?_)
  ·have hlt := h1
   refine C.condT f39 rfl ?_
   refine wp_exit (hK7 _ _ ?_)
   have f40 := f39.pk [0, 1, 2, 7, 8, 9, 14, 15, 16, 17, 18, 19, 20, 21, 22, 23, 24, 25, 26, 27, 28, 29, 30, 31, 32]
   refine C.region ?_
   refine L.va f40 (E.add f40 rfl rfl (IntWalk.i64_in _ (by omega))) fun a41 f41 => ?_
   refine L.mv f41 fun a42 f42 => ?_
   clear f38 f39 f40 a37 f41 a41
   refine wpList_nil (hKL4 _ _ (gk5 - 1) ?_ ?_)
   ·omega
   exact ⟨k + 1, dn ++ [f], rs', Ao, co, pks, by omega, by simp; omega, hrs', by simpa using FL, by rw [hq]; exact again_skip (by omega), again_ids hids hfs rfl, again_ats hats (hS.ats f hfm), PK, by omega, HK, BP, by simpa using f42.sub (sx (sx (sx (sx (sx (sx sn))))))⟩
  have hge := h1
  refine C.condF f39 rfl ?_
  refine wp_skip (hK10 _ _ ?_)
  have f40 := f39.pk [0, 1, 2, 7, 8, 9, 14, 15, 16, 17, 18, 19, 20, 21, 22, 23, 24, 25, 26, 27, 28, 29, 30, 31, 32]
  refine C.sk fun K12 hK12 => ?_
  refine L.mv f40 fun a41 f41 => ?_
  refine L.mv f41 fun a42 f42 => ?_
  refine L.cl f42 (run_call Tryz.call45 (args1 f42 rfl)) (near_any now _) ?_
  clear f38 f39 f40 a37 f41 a41
  rintro e w2x ⟨rfl, rfl⟩
  refine ⟨_, rfl, fun a43 f43 => ?_⟩
  refine L.va f43 (E.nilCheck f43 rfl) fun a44 f44 => ?_
  refine L.fa 5 f44 U82 rfl wsz3_j fun a45 f45 => ?_
  refine L.storeO f45 wantedN wsz3_j (j := k * 7 + 5) hA FL.own rfl (show off + k * 7 + 5 = _ by omega) (by rw [fcell_len]; omega) rfl rfl fun a46 w3 f46 OW2 ks => ?_
  have szw3 := ks.size
  have KM : Mod [82] [] B _ w3 := .of_own1 hA ks FL.own hS.fly.loA (by simp)
  have FL2 := FL.seg hf (f' := { f with at_ := nearI now }) KM hdk OW2 rfl rfl
  replace HK := HK.step KM (by decide) (by simp) (by omega)
  replace BP := BP.mod KM (by decide)
  replace PK := PK.mod KM (by decide)
  clear f42 a42 f43 a43 f44 a44 f45 a45 ks KM OW2
  have f47 := f46.pk [0, 1, 2, 7, 8, 9, 14, 15, 16, 17, 18, 19, 20, 21, 22, 23, 24, 25, 26, 27, 28, 29, 30, 31, 32, 33, 34, 35, 36, 37]
  refine wn hK12 (C.sk fun K13 hK13 => ?_)
  refine L.mv f47 fun a48 f48 => ?_
  refine L.va f48 (E.nilCheck f48 rfl) fun a49 f49 => ?_
  refine L.fa 6 f49 U82 rfl wsz4_j fun a50 f50 => ?_
  refine L.va f50 (E.load f50 U4 rfl rfl (fly_cell' (Sl.of_own FL2.own) hA hf 6 rfl (show off + k * 7 + 6 = _ by omega))) fun a51 f51 => ?_
  refine wn hK13 ?_
  have f52 := f51.pk [0, 1, 2, 7, 8, 9, 14, 15, 16, 17, 18, 19, 20, 21, 22, 23, 24, 25, 26, 27, 28, 29, 30, 31, 32, 33, 34, 35, 36, 37, 38, 39, 40, 41]
  clear f46 f47 a46 f48 a48 f49 a49 f50 a50 f51
  refine f52.split 41 rfl (fun h2 f53 => ?_) (fun h2 f53 => ?_)
  ·have hrc := h2
   refine C.condT f53 rfl ?_
   refine C.region ?_
   refine L.mv f53 fun a54 f54 => ?_
   refine L.mv f54 fun a55 f55 => ?_
   refine L.va f55 (E.nilCheck f55 rfl) fun a56 f56 => ?_
   refine L.fa 4 f56 U82 rfl wsz3_j fun a57 f57 => ?_
   refine L.va f57 (E.load f57 U3 rfl rfl (fly_cell' (Sl.of_own FL2.own) hA hf 4 rfl (show off + k * 7 + 4 = _ by omega))) fun a58 f58 => ?_
   refine L.cl f58 (run_call Tryz.call46 (args2 f58 rfl rfl)) (reply_any 6 f.id _) ?_
   clear f52 f53 a51 f54 a54 f55 a55 f56 a56 f57 a57
   rintro e w4 ⟨g9, rfl, kc4, B9, lo9⟩
   refine ⟨_, rfl, fun a59 f59 => ?_⟩
   have szw4 := kc4.size
   replace HK := HK.trans (.of_kept0 kc4)
   replace BP := BP.z kc4
   replace PK := PK.mod (Mod.of_kept0 (T := []) (M := []) (B := B) kc4) (by decide)
   replace FL2 := FL2.mod (Mod.of_kept0 (T := []) (M := []) (B := B) kc4) (by decide)
   clear f58 a58 kc4
   refine L.append f59 wantedN (by decide) U42 wzib35_j rfl rfl rfl rfl (PK.fr.own) ((show Sl _ _ 1 24 (pcell ⟨ackP 6 f.id, none, 0⟩) from sl_blk B9 rfl)) (pcell_one _) (by unfold maxLen; omega) (by omega) fun a60 w5 A2 c2 AP5 f60 => ?_
   have kap5 : Mod [35] [] B w4 w5 := .of_app AP5 PK.fr.own (fun a ha => Nat.le_trans hB (PK.fr.from a ha)) (by simp)
   have PK2 := PK.push (x := ⟨ackP 6 f.id, none, 0⟩) AP5 HK.size hB (Pay.nil _ _ _)
   replace HK := HK.app_new AP5 PK.fr
   have szw5 := kap5.size
   replace BP := BP.mod kap5 (by decide)
   replace FL2 := FL2.mod kap5 (by decide)
   clear f59 a59 kap5
   refine L.ag f60 fun a61 f61 => ?_
   refine wn hK7 ?_
   have f62 := f61.pk [0, 1, 2, 7, 8, 9, 14, 15, 16, 17, 18, 19, 20, 21, 22, 23, 24, 25, 26, 27, 28, 29, 30, 31, 32, 33, 34, 35, 36, 37, 38, 39, 40, 41, 42, 43, 44, 45, 46, 47, 48]
   refine C.region ?_
   refine L.va f62 (E.add f62 rfl rfl (IntWalk.i64_in _ (by omega))) fun a63 f63 => ?_
   refine L.mv f63 fun a64 f64 => ?_
   clear f60 a60 f61 f62 a61 f63 a63
   refine wpList_nil (hKL4 _ _ (gk5 - 1) ?_ ?_)
   ·omega
   exact ⟨k + 1, dn ++ [{ f with at_ := nearI now }], rs', A2, c2, pks ++ [⟨ackP 6 f.id, none, 0⟩], by omega, by simp; omega, hrs', by simpa using FL2, by rw [hq]; exact again_do (by omega) (by rw [show f.rc = true from hrc]; rfl), again_ids hids hfs rfl, again_ats hats (near_bd now), by simpa using PK2, by simp; omega, HK, BP, by simpa using f64.sub (sx (sx (sx (sx (sx (sx sn))))))⟩
  have hrc := h2
  refine C.condF f53 rfl ?_
  obtain ⟨MM, hMM⟩ : ∃ MM, MM = (Value.slice Ao pks.length co).ownBlock.toList := ⟨_, rfl⟩
  have hMF : ∀ b, (Value.slice s.FA (dn ++ { f with at_ := nearI now } :: rs').length s.fc).ownBlock = some b → b ∉ MM := by rw [hMM]; exact own_own FL2.own PK.fr.own (by decide)
  have hpM : p ∉ MM := by rw [hMM]; exact own_ne PK.fr.own BP (by decide)
  have HPF : Pay B w3 f.x.A f.x.m.pay := FL2.pay { f with at_ := nearI now } (List.mem_append_right dn List.mem_cons_self)
  have PK1 := PK
  refine R.begin (S := fun W => Kept MM w3 W) (by kernel_rfl) (by exact (Kept.refl _ _).drewN 1) ?_
  have hS10 : Kept MM w3 (w3.drewN 1) := (Kept.refl _ _).drewN 1
  have hd10 : Kept [] w3 (w3.drewN 1) := (Kept.refl _ _).drewN 1
  obtain ⟨w4, hww4⟩ : ∃ W, W = w3.drewN 1 := ⟨_, rfl⟩
  rw [← hww4] at hS10 hd10 ⊢
  clear f52 hww4
  have szw4 := hS10.size
  replace PK := PK.mod (T := []) (M := []) (Mod.of_kept0 (B := B) hd10) (by simp)
  replace HPF := HPF.kept0 hd10
  replace HK := HK.trans (.of_kept0 hd10)
  refine R.mv 0 f53 rfl hS10 fun a54 f54 => ?_
  refine R.mv 1 f54 rfl hS10 fun a55 f55 => ?_
  refine R.t 2 f55 rfl hS10 (fun W hW => (E.nilCheck f55 rfl)) fun a56 f56 => ?_
  refine R.t 3 f56 rfl hS10 (fun W hW => (E.fa 0 f56 U82 rfl wsz30_j)) fun a57 f57 => ?_
  refine R.t 4 f57 rfl hS10 (fun W hW => (E.loadR f57 U30 rfl wsz30_j rfl (fly_msg (Sl.of_own (FL2.own.kept hW hMF)) hA hf (show off + k * 7 + 0 = _ by omega)) rfl)) fun a58 f58 => ?_
  refine R.mv 5 f58 rfl hS10 fun a59 f59 => ?_
  refine R.t 6 f59 rfl hS10 (fun W hW => (E.nilCheck f59 rfl)) fun a60 f60 => ?_
  clear f53 a51 f54 a54 f55 a55 f56 a56 f57 a57 f58 a58 f59 a59
  refine R.t 7 f60 rfl hS10 (fun W hW => (E.fa 4 f60 U82 rfl wsz3_j)) fun a61 f61 => ?_
  refine R.t 8 f61 rfl hS10 (fun W hW => (E.load f61 U3 rfl rfl (fly_cell' (Sl.of_own (FL2.own.kept hW hMF)) hA hf 4 rfl (show off + k * 7 + 4 = _ by omega)))) fun a62 f62 => ?_
  refine R.call 9 f62 rfl rfl (by decide) (by kernel_rfl) wantedN (run_call Tryz.call38 (args3 f62 rfl rfl rfl)) (publish_any f.x.m.tp f.x.A f.x.m.pay.length f.x.c _ f.x.m.qos f.x.m.ret f.id true _ HPF.sl u8_one HPF.2) ?_
  clear f60 a60 f61 a61
  rintro e w5 ⟨kc5, Ap, cp, rfl, FP⟩
  have HR : Pay B w5 Ap f.x.m.pay := Pay.of_fresh FP HPF.2
  replace hS10 := hS10.trans kc5 (by simp)
  refine ⟨_, rfl, hS10, fun a63 f63 => ?_⟩
  have szw5 := kc5.size
  replace PK := PK.mod (T := []) (M := []) (Mod.of_kept0 (B := B) kc5) (by simp)
  replace HPF := HPF.kept0 kc5
  replace HK := HK.trans (.of_kept0 kc5)
  clear f62 a62 kc5
  refine R.one 10 (by kernel_rfl) ?_
  refine O.buildSlice f63 rfl wantedN (by decide) (parts1 f63 rfl) U42 wzj35 rfl rfl (wpk1 ⟨pubP f.x.m f.id true, Ap, cp⟩) (fun _ hk => hS10.trans hk (by simp)) fun a64 w6 g5 N5 hSn f64 => ?_
  have Bg5 := N5.blk
  have kg5 := N5.kept
  have log5 := N5.lo
  have ltg5 := Bg5.lt
  have szw6 := kg5.size
  have szSw6 := hS10.size
  replace PK := PK.mod (T := []) (M := []) (Mod.of_kept0 (B := B) kg5) (by simp)
  replace HPF := HPF.kept0 kg5
  replace HK := HK.trans (.of_kept0 kg5)
  replace HR := HR.kept0 kg5
  clear f63 a63 N5 kg5
  replace hS10 := hSn
  clear hSn
  refine R.one 11 (by kernel_rfl) ?_
  refine O.append f64 rfl wantedN (by decide) U42 wzib35_j rfl rfl rfl rfl (PK.fr.own) ((show Sl _ _ 1 24 (pcell ⟨pubP f.x.m f.id true, Ap, cp⟩) from sl_blk Bg5 rfl)) (pcell_one _) (by unfold maxLen; omega) (by omega) fun a65 w7 A2 c2 AP7 => ?_
  have kap7 : Kept MM w6 w7 := by rw [hMM]; exact AP7.kept
  have PK2 := PK.push (x := ⟨pubP f.x.m f.id true, Ap, cp⟩) AP7 HK.size hB HR
  have HK2 := HK.app_new AP7 PK.fr
  have hSn := hS10.trans kap7 (by exact fun x hx _ => hx)
  refine ⟨hSn, fun f65 => ?_⟩
  have szw7 := kap7.size
  replace HPF := HPF
  clear f64 kap7
  replace hS10 := hSn
  clear hSn
  refine R.t 12 f65 rfl hS10 (fun W hW => (E.assign f65 rfl)) fun a66 f66 => ?_
  have szw7r := hS10.size
  have KM := Mod.of_own (T := [35]) (M := []) (B := B) (hMM ▸ hS10) PK1.fr.own (fun a ha => Nat.le_trans hB (PK1.fr.from a ha)) (by simp)
  replace BP := BP.kept hS10 (by assumption)
  replace FL2 := FL2.mod KM (by decide)
  clear f65 a65 hS10
  refine R.done (by kernel_rfl) (hK7 _ _ ?_)
  have f67 := f66.pk [0, 1, 2, 7, 8, 9, 14, 15, 16, 17, 18, 19, 20, 21, 22, 23, 24, 25, 26, 27, 28, 29, 30, 31, 32, 33, 34, 35, 36, 37, 38, 39, 40, 41, 49, 50, 51, 52, 53, 54, 55, 56, 57, 58, 59, 60]
  refine C.region ?_
  refine L.va f67 (E.add f67 rfl rfl (IntWalk.i64_in _ (by omega))) fun a68 f68 => ?_
  refine L.mv f68 fun a69 f69 => ?_
  clear f66 f67 a66 f68 a68
  refine wpList_nil (hKL4 _ _ (gk5 - 1) ?_ ?_)
  ·omega
  exact ⟨k + 1, dn ++ [{ f with at_ := nearI now }], rs', A2, c2, pks ++ [⟨pubP f.x.m f.id true, Ap, cp⟩], by omega, by simp; omega, hrs', by simpa using FL2, by rw [hq]; exact again_do (by omega) (by rw [show f.rc = false from hrc]; rfl), again_ids hids hfs rfl, again_ats hats (near_bd now), by simpa using PK2, by simp; omega, HK2, BP, by simpa using f69.sub (sx (sx (sx (sx (sx (sx sn))))))⟩
 refine C.condF f16 rfl ?_
 refine wp_exit (hK2 _ _ ?_)
 have f17 := f16.pk [7]
 refine C.sk fun K14 hK14 => ?_
 refine L.mv f17 fun a18 f18 => ?_
 refine L.ag f18 fun a19 f19 => ?_
 have f20 := f19.pk [6]
 refine wn hK14 (wp_ret ?_); (try simp only [xt, xb]); refine C.ret f20 rfl rfl ?_
 exact again_fin hS hrs FL hq hids hats PK HK BP (by omega)
end Go.Proofs.YtdfllmiokgoekaaGreatDoor
namespace Go.Proofs.YtdfllmiokgoekaaGreatDoor
open Go.RowKit Go.Hub
theorem wbl57_0_1_2_3_4_5_k (x0 : ByteArray) (x1 : Option Nat) (x2 : Option Addr) (x3 : Option Addr) (y3 z3 : Nat) (x4 : Option Addr) (x5 : Option Nat) : Tryz.prog.built 57 [(0, .string x0), (1, .map x1), (2, .pointer x2), (3, .slice x3 y3 z3), (4, .pointer x4), (5, .map x5)] = some #[.string x0, .map x1, .pointer x2, .slice x3 y3 z3, .pointer x4, .map x5] := by kernel_rfl
theorem wzib35_k : (Tryz.prog.info? 35).map (fun i => (i.zero, i.size, i.bytes)) = some (some (.agg #[(.int .i64 0), (.bool false), (.bool false), (.int .i64 0), (.int .i64 0), (.string ⟨#[]⟩), (.slice none 0 0), (.int .i64 0), (.string ⟨#[]⟩), (.bool false), (.int .i64 0), (.bool false), (.string ⟨#[]⟩), (.slice none 0 0), (.int .i64 0), (.bool false), (.bool false), (.bool false), (.string ⟨#[]⟩), (.slice none 0 0), (.bool false), (.int .i64 0), (.slice none 0 0), (.slice none 0 0)]), 24, 288) := by kernel_rfl
theorem wsz3_k : (Tryz.prog.info? 3).map (·.size) = some 1 := by kernel_rfl
theorem wsz30_k : (Tryz.prog.info? 30).map (·.size) = some 4 := by kernel_rfl
theorem wsz52_k : (Tryz.prog.info? 52).map (·.size) = some 1 := by kernel_rfl
theorem wsz55_k : (Tryz.prog.info? 55).map (·.size) = some 1 := by kernel_rfl
def NewPost (B : Nat) (cl : ByteArray) (w : World) (e : Ending) (w' : World) : Prop := ∃ p s, e = .returned (.pointer (some ⟨p, 0, none⟩)) ∧ SesAt B w' p s ∧ s.abs = newS ∧ s.cl = cl ∧ Mod [] [] B w w'
theorem new_fin {B : Nat} {cl : ByteArray} {w W : World} {p ip im q gs gm : Nat} (hB : B ≤ w.heap.size) (HK : Mod [] [] B w W) (BP : Blk W p 57 #[.string cl, .map (some gs), .pointer (some ⟨ip, 0, none⟩), .slice none 0 0, .pointer (some ⟨q, 0, none⟩), .map (some gm)])
    (ID : IdsAt W ip im [] (mostI 65535 65535) 0) (BQ : Blk W q 90 #[.slice none 0 0, .int .i64 (mostI 8 65536), .int .i64 0]) (IG : IsSet Tryz.prog 3 4 W gm []) (h1 : B ≤ p) (h2 : B ≤ ip) (h3 : B ≤ im) (h4 : B ≤ q) (h5 : B ≤ gm) (him : im ≠ gm) : NewPost B cl w (.returned (.pointer (some ⟨p, 0, none⟩))) W :=
  ⟨p, ⟨cl, .map (some gs), ip, im, q, gm, [], 0, [], none, 0, [], none, 0, 0, []⟩, rfl, ⟨BP, rfl, ID, ⟨BQ, Own.nil _ _ _, by simp, h4, by simp, by simp⟩, ⟨Own.nil _ _ _, by simp, by simp, by simp⟩, IG, him, h1, h2, h3, h5, by simp, List.Perm.nil, by simp, by simp⟩, rfl, rfl, HK⟩
def OutPost (T : List TypeId) (B p : Nat) (s : Ses) (r : SA × List Pa) (w : World) (e : Ending) (w' : World) : Prop :=
  ∃ s' A c pks, e = .returned (.slice A pks.length c) ∧ SesAt B w' p s' ∧ (s'.abs, pks.map (·.p)) = r ∧ Ses.Like w s s' ∧ Mod T [s.im, s.gm] B w w' ∧ PkAt B w w' A c pks ∧ pks.length ≤ 10
def QFar (w w' : World) (A : Option Addr) : Prop := ∀ k, k < w.heap.size → Typ w k [30] → (∀ b, A.map (·.block) = some b → b ≠ k) → w'.heap[k]? = w.heap[k]?
theorem QFar.refl (w : World) (A : Option Addr) : QFar w w A := fun _ _ _ _ => rfl
theorem QFar.mod {w w1 w2 : World} {A : Option Addr} {T : List TypeId} {M : List Nat} {B : Nat} (h : QFar w w1 A) (hm : Mod T M B w1 w2) (hT : (30 : TypeId) ∉ T) (hs : w.heap.size ≤ w1.heap.size := by omega) : QFar w w2 A := fun k hk ht hne => by
  have h1 := h k hk ht hne
  have ht1 : Typ w1 k [30] := ht.of_eq h1
  refine (hm.block k (Nat.lt_of_lt_of_le hk hs) (.inr ⟨?_, fun hc => ht1.not_map hc.1⟩)).trans h1
  rintro ⟨cs, e, fr, h2, h3⟩
  obtain ⟨cs', e', fr', h4, h5⟩ := ht1
  rw [h2] at h4
  injection h4 with h4
  injection h4 with _ he _
  subst he
  have := List.mem_singleton.1 h5
  subst this
  exact hT h3
theorem qfar_of {B q : Nat} {w w1 w2 : World} {A : Option Addr} {c : Nat} {l : List Mc} {lost : Int} {MM : List Nat} (hq : QuAt B w q A c l lost) (h0 : Mod [] [] B w w1) (hMM : MM = q :: (Value.slice A l.length c).ownBlock.toList) (k : Kept MM w1 w2) : QFar w w2 A := fun x hx ht hne => by
  have h1 : w1.heap[x]? = w.heap[x]? := h0.block x hx (.inr ⟨(fun h => by obtain ⟨_, _, _, _, h3⟩ := h; cases h3), (fun hc => by cases hc.2)⟩)
  refine (k.block x (Nat.lt_of_lt_of_le hx h0.size) ?_).trans h1
  rw [hMM]
  intro hm
  rcases List.mem_cons.1 hm with e | hm
  · subst e
    obtain ⟨cs, e, fr, h2, h3⟩ := ht
    have h4 := hq.top
    unfold Blk at h4
    rw [h2] at h4
    injection h4 with h4
    injection h4 with _ he _
    rw [he] at h3
    exact absurd h3 (by decide)
  exact hne x ((own_block _ _ _ _).1 (by simpa using hm)) rfl
theorem pcells_one (l : List Pc) : ∀ u ∈ l.flatMap pcell, u.oneCell' = true := fun u hu => by
  obtain ⟨x, _, h⟩ := List.mem_flatMap.1 hu
  exact pcell_one x u h
theorem PkAt.app {B : Nat} {w0 w w' : World} {A A' : Option Addr} {c c' : Nat} {l l2 : List Pc} (h : PkAt B w0 w A c l) (ap : App w w' 35 24 A l.length c (l.flatMap pcell) (l2.flatMap pcell) l2.length A' c') (hw : w0.heap.size ≤ w.heap.size) (hB : B ≤ w0.heap.size) (hp : ∀ x ∈ l2, Pay B w x.A x.p.pay) : PkAt B w0 w' A' c' (l ++ l2) := by
  have hm : Mod [35] [] B w w' := .of_app ap h.fr.own (fun a ha => Nat.le_trans hB (h.fr.from a ha)) (by simp)
  refine ⟨by simpa using ap.next h.fr hw, fun y hy => ?_⟩
  rcases List.mem_append.1 hy with hy | hy
  · exact (h.pay y hy).mod hm (by decide)
  exact (hp y hy).mod hm (by decide)
theorem drainN_len : ∀ (k : Nat) (s : SA) (now : Int), (drainN k s now).2.length ≤ k
  | 0, _, _ => by simp [drainN]
  | k + 1, s, now => by
    unfold drainN
    split
    · split
      · simp
      simp only [List.length_cons]
      exact Nat.succ_le_succ (drainN_len k _ now)
    simp
theorem drainS_len (s : SA) (now : Int) : (drainS s now).2.length ≤ 5 := drainN_len 5 s now
def SendPost (B p : Nat) (s : Ses) (r : SA × List Pa) (w : World) (e : Ending) (w' : World) : Prop := OutPost [57, 88, 82, 90, 30] B p s r w e w' ∧ QFar w w' s.QA
theorem pk_one {B g : Nat} {w W : World} {x : Pc} (O : Own W 35 24 (.slice (some ⟨g, 0, none⟩) 1 1) 1 (pcell x)) (hg : w.heap.size ≤ g) (hp : Pay B W x.A x.p.pay) : PkAt B w W (some ⟨g, 0, none⟩) 1 [x] :=
  ⟨⟨by simpa using O, fun b hb => by simp at hb; omega⟩, fun y hy => by obtain rfl := List.mem_singleton.1 hy; exact hp⟩
theorem SesAt.p_ne_q {B p : Nat} {w : World} {s : Ses} (h : SesAt B w p s) : p = s.q → False := fun e => by
  have h1 := h.top
  rw [e] at h1
  have h2 := h.qu.top
  unfold Blk at h1 h2
  rw [h1] at h2
  injection h2 with h2
  injection h2 with _ h3 _
  exact absurd h3 (by decide)
section
variable {s : SA} {m : Ms} {on : Bool} {now : Int}
theorem send_rise (h0 : ¬ (m.qos = 0 ∧ on = true)) (h1 : ¬ m.qos < 1) (h2 : ¬ 2 < m.qos) (h3 : on = true) {t : Ses} (h4 : (t.fly.length : Int) < 4) (h5 : t.wait.length = 0) : sendS t.abs m on now = (riseS t.abs m now, [riseP t.abs m]) := by
  have h6 : t.abs.fly.length < 4 := by rw [abs_fly]; omega
  have h7 : t.abs.wait.length = 0 := by simp [Ses.abs, h5]
  rw [sendS, if_neg h0, if_neg (by omega), if_pos ⟨h3, h6, h7⟩]
theorem send_none (h0 : ¬ (m.qos = 0 ∧ on = true)) (h1 : m.qos < 1 ∨ 2 < m.qos) : sendS s m on now = (s, []) := by rw [sendS, if_neg h0, if_pos h1]
theorem send_push (h0 : ¬ (m.qos = 0 ∧ on = true)) (h1 : ¬ m.qos < 1) (h2 : ¬ 2 < m.qos) {t : Ses} (h : ¬ (on = true ∧ (t.fly.length : Int) < 4 ∧ (t.wait.length : Int) = 0)) : sendS t.abs m on now = (pushS t.abs m, []) := by
  rw [sendS, if_neg h0, if_neg (by omega), if_neg ?_]
  rintro ⟨h3, h4, h5⟩
  rw [abs_fly] at h4
  exact h ⟨h3, by omega, by simp [Ses.abs] at h5; simp [h5]⟩
theorem send_fin {B p : Nat} {s : Ses} {w W : World} {A2 : Option Addr} {c2 : Nat} {l2 : List Mc} (hS : SesAt B w p s) (HK : Mod [57, 88, 82, 90, 30] [s.im, s.gm] B w W) (HK1 : Mod [90, 30] [] B w W) (BP : Blk W p 57 s.cells) (HQ : QuAt B W s.q A2 c2 l2 (if s.wait.length < 8 then s.lost else s.lost + 1)) (hql : l2.map (·.m) = if s.wait.length < 8 then s.wait.map (·.m) ++ [m] else s.wait.map (·.m)) (hr : Row w s.QA A2)
    (h : sendS s.abs m on now = (pushS s.abs m, [])) : OutPost [57, 88, 82, 90, 30] B p s (sendS s.abs m on now) w (.returned (.slice none 0 0)) W := by
  refine ⟨{ s with wait := l2, QA := A2, qc := c2, lost := if s.wait.length < 8 then s.lost else s.lost + 1 }, none, 0, [], rfl, ⟨BP, hS.one, hS.ids.mod HK1 (by decide) (by simp), HQ, hS.fly.mod HK1 (by decide), hS.got.mod HK1 (by simp), hS.ne, hS.lop, hS.loi, hS.lom, hS.log, hS.tk, hS.perm, hS.ats, hS.idb⟩, ?_, ⟨rfl, rfl, rfl, rfl, hr⟩, HK, PkAt.nil _ _ _, by simp⟩
  rw [h]
  unfold pushS Ses.abs
  simp only [List.length_map]
  split
  · rename_i h8; rw [if_pos h8] at hql; simp [hql, h8]
  rename_i h8; rw [if_neg h8] at hql; simp [hql, h8]
end
theorem new_any (cl : ByteArray) (B : Nat) (w : World) (hB : B ≤ w.heap.size) : Calls Tryz.prog 5 #[.string cl] w (NewPost B cl w) := by
 have HK : Mod [] [] B w w := .refl _ _ _ _
 refine C.enter Tryz.func5 rfl Tryz.ntmps5 rfl ?_
 intro a0 f0
 have f1 : Fr 10 a0 [(0, .string cl)] := f0
 refine C.sk fun K0 hK0 => ?_
 refine L.ag f1 fun a2 f2 => ?_
 have f3 := f2.pk [0, 2]
 refine wn hK0 (C.sk fun K1 hK1 => ?_)
 refine L.mv f3 fun a4 f4 => ?_
 refine L.makeMap f4 wantedN (by decide) 9 3 fun a5 w1 g0 Ig0 kg0 log0 f5 => ?_
 have ltg0 := Ig0.lt
 have szw1 := kg0.size
 have frg0 : w.heap.size ≤ g0 := Nat.le_trans HK.size log0
 replace HK := HK.trans (.of_kept0 kg0)
 clear f0 f1 a0 f2 f3 a2 f4 kg0 a4
 refine L.cl f5 (run_call Tryz.call15 (args1 f5 rfl)) (idsNew_any 65535 _) ?_
 rintro e w2 ⟨ip, im, rfl, kc2, ID, loi, lom⟩
 refine ⟨_, rfl, fun a6 f6 => ?_⟩
 have szw2 := kc2.size
 replace HK := HK.trans (.of_kept0 kc2)
 replace Ig0 := Ig0.kept kc2 (by simp)
 clear f5 a5 kc2
 refine L.cl f6 (run_call Tryz.call16 (args1 f6 rfl)) (quNew_any 8 _) ?_
 rintro e w3 ⟨q, rfl, kc3, BQ, loq⟩
 have hltm := (ID.mod (Mod.of_kept0 (T := []) (M := []) (B := B) kc3) (by decide) (by simp)).set.lt
 refine ⟨_, rfl, fun a7 f7 => ?_⟩
 have szw3 := kc3.size
 replace HK := HK.trans (.of_kept0 kc3)
 replace Ig0 := Ig0.kept kc3 (by simp)
 replace ID := ID.mod (Mod.of_kept0 (T := []) (M := []) (B := B) kc3) (by decide) (by simp)
 clear f6 a6 kc3
 refine L.makeMap f7 wantedN (by decide) 3 4 fun a8 w4 g3 Ig3 kg3 log3 f8 => ?_
 have ltg3 := Ig3.lt
 have szw4 := kg3.size
 have frg3 : w.heap.size ≤ g3 := Nat.le_trans HK.size log3
 have neg0_g3 : g0 ≠ g3 := by have := Ig0.lt; omega
 have neq_g3 : q ≠ g3 := by have := BQ.lt; omega
 replace HK := HK.trans (.of_kept0 kg3)
 replace Ig0 := Ig0.kept kg3 (by simp)
 replace ID := ID.mod (Mod.of_kept0 (T := []) (M := []) (B := B) kg3) (by decide) (by simp)
 replace BQ := BQ.z kg3
 clear f7 kg3 a7
 refine L.va f8 (E.build f8 (parts6 f8 rfl rfl rfl rfl rfl rfl) (wbl57_0_1_2_3_4_5_k _ _ _ _ _ _ _ _)) fun a9 f9 => ?_
 refine L.box f9 wantedN (by decide) rfl rfl fun a10 w5 g4 N4 f10 => ?_
 have Bg4 := N4.blk
 have kg4 := N4.kept
 have log4 := N4.lo
 have ltg4 := Bg4.lt
 have szw5 := kg4.size
 have frg4 : w.heap.size ≤ g4 := Nat.le_trans HK.size log4
 have neg0_g4 : g0 ≠ g4 := by have := Ig0.lt; omega
 have neq_g4 : q ≠ g4 := by have := BQ.lt; omega
 have neg3_g4 : g3 ≠ g4 := by have := Ig3.lt; omega
 replace HK := HK.trans (.of_kept0 kg4)
 replace Ig0 := Ig0.kept kg4 (by simp)
 replace ID := ID.mod (Mod.of_kept0 (T := []) (M := []) (B := B) kg4) (by decide) (by simp)
 replace BQ := BQ.z kg4
 replace Ig3 := Ig3.kept kg4 (by simp)
 clear f8 a8 N4 kg4
 refine L.ag f10 fun a11 f11 => ?_
 have f12 := f11.pk [2]
 refine wn hK1 (wp_ret ?_); (try simp only [xt, xb]); refine C.ret f12 rfl rfl ?_
 clear f9 a9 f10 a10 f11
 have him : im ≠ g3 := by omega
 exact new_fin (cl := cl) hB HK Bg4 ID BQ Ig3 (by omega) (by omega) (by omega) (by omega) (by omega) him
theorem Again_any (B p : Nat) (s : Ses) (now : Int) (w : World) (hS : SesAt B w p s) (hB : B ≤ w.heap.size) : Calls Tryz.prog 31 #[.pointer (some ⟨p, 0, none⟩), .int .i64 now] w (OutPost [57, 88, 82, 90] B p s (againS s.abs now 8) w) := by
 refine C.enter Tryz.func31 rfl Tryz.ntmps31 rfl ?_
 intro a0 f0
 have f1 : Fr 8 a0 [(0, .pointer (some ⟨p, 0, none⟩)), (1, .int .i64 now)] := f0
 refine C.sk fun K0 hK0 => ?_
 refine L.ag f1 fun a2 f2 => ?_
 have f3 := f2.pk [0, 1, 4]
 refine wn hK0 (C.sk fun K1 hK1 => ?_)
 refine L.mv f3 fun a4 f4 => ?_
 refine L.mv f4 fun a5 f5 => ?_
 refine L.cl f5 (run_call Tryz.call56 (args3 f5 rfl rfl rfl)) (again_any B p s now 8 _ hS hB) ?_
 clear f0 f1 a0 f2 f3 a2 f4 a4
 rintro e w1 ⟨s2, A2, c2, pks, rfl, HS2, hab, hpp, hL, kc1, PK, hlp⟩
 refine ⟨_, rfl, fun a6 f6 => ?_⟩
 have szw1 := kc1.size
 refine L.ag f6 fun a7 f7 => ?_
 have f8 := f7.pk [4]
 refine wn hK1 (wp_ret ?_); (try simp only [xt, xb]); refine C.ret f8 rfl rfl ?_
 exact ⟨s2, A2, c2, pks, rfl, HS2, by rw [hab, hpp], hL, kc1.mono (by decide) (by simp) (Nat.le_refl _), PK, by omega⟩
theorem Resume_any (B p : Nat) (s : Ses) (now : Int) (w : World) (hS : SesAt B w p s) (hB : B ≤ w.heap.size) : Calls Tryz.prog 29 #[.pointer (some ⟨p, 0, none⟩), .int .i64 now] w (OutPost [57, 88, 82, 90] B p s (resumeS s.abs now) w) := by
 have HK : Mod [57, 88, 82, 90] [s.im, s.gm] B w w := .refl _ _ _ _
 refine C.enter Tryz.func29 rfl Tryz.ntmps29 rfl ?_
 intro a0 f0
 have f1 : Fr 12 a0 [(0, .pointer (some ⟨p, 0, none⟩)), (1, .int .i64 now)] := f0
 refine C.sk fun K0 hK0 => ?_
 refine L.ag f1 fun a2 f2 => ?_
 have f3 := f2.pk [0, 1, 4]
 refine wn hK0 (C.sk fun K1 hK1 => ?_)
 refine L.mv f3 fun a4 f4 => ?_
 refine L.mv f4 fun a5 f5 => ?_
 refine L.cl f5 (run_call Tryz.call56 (args3 f5 rfl rfl rfl)) (again_any B p s now (-4398046511104) _ hS hB) ?_
 clear f0 f1 a0 f2 f3 a2 f4 a4
 rintro e w1 ⟨s2, A2, c2, pks, rfl, HS2, hab, hpp, hL, kc1, PK, hlp⟩
 refine ⟨_, rfl, fun a6 f6 => ?_⟩
 have szw1 := kc1.size
 replace HK := HK.step kc1 (by decide) (by simp) (by omega)
 clear f5 a5 kc1
 refine L.mv f6 fun a7 f7 => ?_
 refine L.mv f7 fun a8 f8 => ?_
 refine L.cl f8 (run_call Tryz.call57 (args2 f8 rfl rfl)) (drain_any B p s2 now _ HS2 (by omega)) ?_
 clear f6 a6 f7 a7
 rintro e w2 ⟨s3, A3, c3, pks3, rfl, HS3, hab3, hpp3, hL3, kc2, PK2⟩
 rw [hL.im] at kc2
 have hl3 := congrArg List.length hpp3
 rw [List.length_map] at hl3
 have hd5 := drainS_len s2.abs now
 refine ⟨_, rfl, fun a9 f9 => ?_⟩
 have szw2 := kc2.size
 replace HK := HK.step kc2 (by decide) (by simp) (by omega)
 replace PK := PK.mod kc2 (by decide)
 clear f8 a8 kc2
 refine L.append f9 wantedN (by decide) U42 wzib35_k rfl rfl rfl rfl (PK.fr.own) (PK2.fr.sl) (pcells_one _) (by unfold maxLen; omega) (by omega) fun a10 w3 A4 c4 AP3 f10 => ?_
 have kap3 : Mod [35] [] B w2 w3 := .of_app AP3 PK.fr.own (fun a ha => Nat.le_trans hB (PK.fr.from a ha)) (by simp)
 have PK3 := PK.app AP3 HK.size hB PK2.pay
 replace HK := HK.app_new AP3 PK.fr
 have szw3 := kap3.size
 replace HS3 := HS3.mod kap3 (by decide)
 clear f9 a9 kap3
 refine L.ag f10 fun a11 f11 => ?_
 have f12 := f11.pk [4]
 refine wn hK1 (wp_ret ?_); (try simp only [xt, xb]); refine C.ret f12 rfl rfl ?_
 exact ⟨s3, A4, c4, pks ++ pks3, by simp, HS3, by rw [resumeS, ← hab, hab3, List.map_append, hpp, hpp3], hL.trans hL3 (by omega), HK, PK3, by simp; omega⟩
theorem send_any (B p : Nat) (s : Ses) (m : Ms) (Am : Option Addr) (cm : Nat) (on : Bool) (now : Int) (w : World) (hS : SesAt B w p s) (HP : Pay B w Am m.pay) (hB : B ≤ w.heap.size) (hl : 0 ≤ s.lost ∧ s.lost ≤ 1000000000) : Calls Tryz.prog 10 #[.pointer (some ⟨p, 0, none⟩), .agg #[.string m.tp, .slice Am m.pay.length cm, .int .i64 m.qos, .bool m.ret], .bool on, .int .i64 now] w (SendPost B p s (sendS s.abs m on now) w) := by
 have HK : Mod [57, 88, 82, 90, 30] [s.im, s.gm] B w w := .refl _ _ _ _
 have HK0 : Mod [] [] B w w := .refl _ _ _ _
 have HK1 : Mod [90, 30] [] B w w := .refl _ _ _ _
 have BP := hS.top
 have hl4 := hS.fly.len
 have hw8 := hS.qu.len
 have HQF : QFar w w s.QA := QFar.refl _ _
 refine C.enter Tryz.func10 rfl Tryz.ntmps10 rfl ?_
 intro a0 f0
 have f1 : Fr 57 a0 [(0, .pointer (some ⟨p, 0, none⟩)), (1, .agg #[.string m.tp, .slice Am m.pay.length cm, .int .i64 m.qos, .bool m.ret]), (2, .bool on), (3, .int .i64 now)] := f0
 refine C.sk fun K0 hK0 => ?_
 refine L.box f1 wantedN (by decide) rfl rfl fun a2 w1 g0 N0 f2 => ?_
 have Bg0 := N0.blk
 have kg0 := N0.kept
 have log0 := N0.lo
 have ltg0 := Bg0.lt
 have szw1 := kg0.size
 have frg0 : w.heap.size ≤ g0 := Nat.le_trans HK.size log0
 have nep_g0 : p ≠ g0 := by have := BP.lt; omega
 replace HK := HK.trans (.of_kept0 kg0)
 replace HK0 := HK0.trans (.of_kept0 kg0)
 replace HK1 := HK1.trans (.of_kept0 kg0)
 replace BP := BP.z kg0
 replace HP := HP.mod (Mod.of_kept0 (T := []) (M := []) (B := B) kg0) (by decide)
 replace HQF := HQF.mod (Mod.of_kept0 (T := []) (M := []) (B := B) kg0) (by decide)
 clear f0 N0 kg0
 refine L.ag f2 fun a3 f3 => ?_
 refine wn hK0 ?_
 have f4 := f3.pk [0, 2, 3, 5, 8]
 refine wp_seq_k fun K1 hK1 => ?_
 refine wp_block ?_
 refine C.sk fun K2 hK2 => ?_
 refine L.fa 2 f4 U30 rfl wsz3_k fun a5 f5 => ?_
 refine L.va f5 (E.load f5 U3 rfl rfl ((Bg0).cl rfl)) fun a6 f6 => ?_
 refine L.va f6 (E.eql f6 rfl rfl) fun a7 f7 => ?_
 refine L.mv f7 fun a8 f8 => ?_
 clear f1 a0 f2 a2 f3 f4 a3 f5 a5 f6 a6 f7 a7
 refine f8.splitD 13 rfl (fun h0 f9 => ?_) (fun h0 f9 => ?_)
 ·have hq0 := h0
  refine L.mv f9 (hw := (f9.yes rfl rfl)) fun a10 f10 => ?_
  refine L.va f10 (E.pickT f10 rfl rfl) fun a11 f11 => ?_
  refine L.ag f11 fun a12 f12 => ?_
  refine wn hK2 ?_
  have f13 := f12.pk [0, 2, 3, 5, 8, 9]
  clear f8 f9 a8 f10 a10 f11 a11 f12
  refine f13.split 9 rfl (fun h1 f14 => ?_) (fun h1 f14 => ?_)
  ·have hon := h1
   refine C.condT f14 rfl ?_
   refine C.sk fun K3 hK3 => ?_
   refine L.va f14 (E.loadB f14 U30 rfl wsz30_k rfl (Bg0) rfl) fun a15 f15 => ?_
   refine L.cl f15 (run_call Tryz.call38 (args3 f15 rfl rfl rfl)) (publish_any m.tp Am m.pay.length cm _ m.qos m.ret 0 false _ HP.sl u8_one HP.2) ?_
   clear f13 f14 a12
   rintro e w2 ⟨kc2, Ap, cp, rfl, FP⟩
   have HR : Pay B w2 Ap m.pay := Pay.of_fresh FP HP.2
   refine ⟨_, rfl, fun a16 f16 => ?_⟩
   have szw2 := kc2.size
   replace HK := HK.trans (.of_kept0 kc2)
   replace HK0 := HK0.trans (.of_kept0 kc2)
   replace HK1 := HK1.trans (.of_kept0 kc2)
   replace BP := BP.z kc2
   replace HP := HP.mod (Mod.of_kept0 (T := []) (M := []) (B := B) kc2) (by decide)
   replace HQF := HQF.mod (Mod.of_kept0 (T := []) (M := []) (B := B) kc2) (by decide)
   replace Bg0 := Bg0.z kc2
   clear f15 a15 kc2
   refine L.buildSlice f16 wantedN (by decide) (parts1 f16 rfl) U42 wzj35 rfl rfl (wpk1 ⟨pubP m 0 false, Ap, cp⟩) fun a17 w3 g2 N2 f17 => ?_
   have OWR := N2.own (k := 1) (size := 24) rfl (by decide)
   have Bg2 := N2.blk
   have kg2 := N2.kept
   have log2 := N2.lo
   have ltg2 := Bg2.lt
   have szw3 := kg2.size
   have frg2 : w.heap.size ≤ g2 := Nat.le_trans HK.size log2
   have nep_g2 : p ≠ g2 := by have := BP.lt; omega
   have neg0_g2 : g0 ≠ g2 := by have := Bg0.lt; omega
   replace HK := HK.trans (.of_kept0 kg2)
   replace HK0 := HK0.trans (.of_kept0 kg2)
   replace HK1 := HK1.trans (.of_kept0 kg2)
   replace BP := BP.z kg2
   replace HP := HP.mod (Mod.of_kept0 (T := []) (M := []) (B := B) kg2) (by decide)
   replace HQF := HQF.mod (Mod.of_kept0 (T := []) (M := []) (B := B) kg2) (by decide)
   replace Bg0 := Bg0.z kg2
   replace HR := HR.mod (Mod.of_kept0 (T := []) (M := []) (B := B) kg2) (by decide)
   clear N2 kg2
   refine L.ag f17 fun a18 f18 => ?_
   have f19 := f18.pk [0, 5, 8]
   refine wn hK3 (wp_ret ?_); (try simp only [xt, xb]); refine C.ret f19 rfl rfl ?_
   exact ⟨⟨s, _, _, [⟨pubP m 0 false, Ap, cp⟩], rfl, hS.mod HK0 (by simp), by rw [sendS, if_pos ⟨hq0, hon⟩]; rfl, ⟨rfl, rfl, rfl, rfl, fun b hb => .inl hb⟩, HK, pk_one OWR frg2 HR, by simp⟩, HQF⟩
  have hoff := h1
  have hn0 : ¬ (m.qos = 0 ∧ on = true) := fun h => by rw [hoff] at h; cases h.2
  refine C.condF f14 rfl ?_
  refine C.sk fun K4 hK4 => ?_
  refine L.fa 2 f14 U30 rfl wsz3_k fun a15 f15 => ?_
  refine L.va f15 (E.load f15 U3 rfl rfl ((Bg0).cl rfl)) fun a16 f16 => ?_
  refine L.va f16 (E.lss f16 rfl rfl) fun a17 f17 => ?_
  refine L.mv f17 fun a18 f18 => ?_
  clear f13 f14 a12 f15 a15 f16 a16 f17 a17
  refine f18.splitD 23 rfl (fun h2 f19 => ?_) (fun h2 f19 => ?_)
  ·have hlo := h2
   refine L.run f19 (rest' := []) (by kernel_rfl) fun a20 f20 => ?_
   clear f18
   refine wn hK4 ?_
   have f21 := f20.sub (sv 19 (.bool true) (pkR f20 [0, 2, 3, 5, 8]))
   refine C.condT f21 rfl ?_
   refine C.sk fun K5 hK5 => ?_
   refine L.ag f21 fun a22 f22 => ?_
   have f23 := f22.pk [0, 5, 8]
   refine wn hK5 (wp_ret ?_); (try simp only [xt, xb]); refine C.ret f23 rfl rfl ?_
   exact ⟨⟨s, none, 0, [], rfl, hS.mod HK0 (by simp), by rw [send_none hn0 (by omega)]; rfl, ⟨rfl, rfl, rfl, rfl, fun b hb => .inl hb⟩, HK, PkAt.nil _ _ _, by simp⟩, HQF⟩
  have hlo := h2
  refine L.fa 2 f19 U30 rfl wsz3_k (hw := (f19.yes rfl rfl)) fun a20 f20 => ?_
  refine L.va f20 (E.load f20 U3 rfl rfl ((Bg0).cl rfl)) (hw := (f20.yes rfl rfl)) fun a21 f21 => ?_
  refine L.va f21 (E.gtr f21 rfl rfl) (hw := (f21.yes rfl rfl)) fun a22 f22 => ?_
  refine L.va f22 (E.pickF f22 rfl rfl) fun a23 f23 => ?_
  refine L.ag f23 fun a24 f24 => ?_
  refine wn hK4 ?_
  have f25 := f24.pk [0, 2, 3, 5, 8, 19]
  clear f18 f19 a18 f20 a20 f21 a21 f22 a22 f23 a23 f24
  refine f25.splitD 19 rfl (fun h3 f26 => ?_) (fun h3 f26 => ?_)
  ·have hhi := h3
   refine C.condT f26 rfl ?_
   refine C.sk fun K6 hK6 => ?_
   refine L.ag f26 fun a27 f27 => ?_
   have f28 := f27.pk [0, 5, 8]
   refine wn hK6 (wp_ret ?_); (try simp only [xt, xb]); refine C.ret f28 rfl rfl ?_
   exact ⟨⟨s, none, 0, [], rfl, hS.mod HK0 (by simp), by rw [send_none hn0 (by omega)]; rfl, ⟨rfl, rfl, rfl, rfl, fun b hb => .inl hb⟩, HK, PkAt.nil _ _ _, by simp⟩, HQF⟩
  have hhi := h3
  refine C.condF f26 rfl ?_
  refine C.sk fun K7 hK7 => ?_
  refine L.mv f26 fun a27 f27 => ?_
  refine L.mv f27 fun a28 f28 => ?_
  clear f25 f26 a24 f27 a27
  refine f28.split 30 rfl (fun h4 f29 => ?_) (fun h4 f29 => ?_)
  ·have hon4 := h4
   refine L.mv f29 (hw := (f29.yes rfl rfl)) fun a30 f30 => ?_
   refine L.va f30 (E.nilCheck f30 rfl) (hw := (f30.yes rfl rfl)) fun a31 f31 => ?_
   refine L.fa 3 f31 U57 rfl wsz55_k (hw := (f31.yes rfl rfl)) fun a32 f32 => ?_
   refine L.va f32 (E.load f32 Tryz.underlying55 rfl rfl ((BP).cl rfl)) (hw := (f32.yes rfl rfl)) fun a33 f33 => ?_
   refine L.va f33 (E.lenL f33 Tryz.underlying55 rfl) (hw := (f33.yes rfl rfl)) fun a34 f34 => ?_
   refine L.va f34 (E.lss f34 rfl rfl) (hw := (f34.yes rfl rfl)) fun a35 f35 => ?_
   refine L.va f35 (E.pickT f35 rfl rfl) fun a36 f36 => ?_
   clear f28 f29 a28 f30 a30 f31 a31 f32 a32 f33 a33 f34 a34 f35 a35
   refine L.mv f36 fun a37 f37 => ?_
   clear f36 a36
   refine f37.splitD 38 rfl (fun h5 f38 => ?_) (fun h5 f38 => ?_)
   ·have hlt := h5
    refine L.mv f38 (hw := (f38.yes rfl rfl)) fun a39 f39 => ?_
    refine L.va f39 (E.nilCheck f39 rfl) (hw := (f39.yes rfl rfl)) fun a40 f40 => ?_
    refine L.fa 4 f40 U57 rfl wsz52_k (hw := (f40.yes rfl rfl)) fun a41 f41 => ?_
    refine L.va f41 (E.load f41 Tryz.underlying52 rfl rfl ((BP).cl rfl)) (hw := (f41.yes rfl rfl)) fun a42 f42 => ?_
    refine L.cl f42 (run_call Tryz.call39 (args1 f42 rfl)) (quLen_any _ _ _ _ _ _ _ (hS.qu.mod HK0 (by decide)).top) ?_ (hw := (f42.yes rfl rfl))
    clear f37 f38 a37 f39 a39 f40 a40 f41 a41
    rintro e w1x ⟨rfl, rfl⟩
    refine ⟨_, rfl, fun a43 f43 => ?_⟩
    refine L.va f43 (E.eql f43 rfl rfl) (hw := (f43.yes rfl rfl)) fun a44 f44 => ?_
    refine L.va f44 (E.pickT f44 rfl rfl) fun a45 f45 => ?_
    refine L.ag f45 fun a46 f46 => ?_
    refine wn hK7 ?_
    have f47 := f46.pk [0, 3, 5, 8, 28]
    clear f42 a42 f43 a43 f44 a44 f45 a45 f46
    refine f47.splitD 28 rfl (fun h6 f48 => ?_) (fun h6 f48 => ?_)
    ·have hz := h6
     refine C.condT f48 rfl ?_
     refine C.sk fun K8 hK8 => ?_
     refine L.mv f48 fun a49 f49 => ?_
     refine L.va f49 (E.loadB f49 U30 rfl wsz30_k rfl (Bg0) rfl) fun a50 f50 => ?_
     refine L.mv f50 fun a51 f51 => ?_
     refine L.cl f51 (run_call Tryz.call40 (args3 f51 rfl rfl rfl)) (rise_any B p s m Am cm now _ (hS.mod HK0 (by simp)) HP (by omega) (by omega)) ?_
     clear f47 f48 a46 f49 a49 f50 a50
     rintro e w2 ⟨u2, Ap, cp, rfl, HS2, hab, hL2, kc2, HR⟩
     replace hL2 := (Ses.Like.refl w s).trans hL2 HK.size
     refine ⟨_, rfl, fun a52 f52 => ?_⟩
     have szw2 := kc2.size
     replace HK := HK.step kc2 (by decide) (by simp) (by omega)
     replace HQF := HQF.mod kc2 (by decide)
     replace Bg0 := Bg0.mod kc2 (by decide)
     clear f51 a51 kc2
     refine L.buildSlice f52 wantedN (by decide) (parts1 f52 rfl) U42 wzj35 rfl rfl (wpk1 ⟨riseP s.abs m, Ap, cp⟩) fun a53 w3 g2 N2 f53 => ?_
     have OWR := N2.own (k := 1) (size := 24) rfl (by decide)
     have Bg2 := N2.blk
     have kg2 := N2.kept
     have log2 := N2.lo
     have ltg2 := Bg2.lt
     have szw3 := kg2.size
     have frg2 : w.heap.size ≤ g2 := Nat.le_trans HK.size log2
     have neg0_g2 : g0 ≠ g2 := by have := Bg0.lt; omega
     replace HK := HK.trans (.of_kept0 kg2)
     replace HQF := HQF.mod (Mod.of_kept0 (T := []) (M := []) (B := B) kg2) (by decide)
     replace Bg0 := Bg0.z kg2
     replace HS2 := HS2.mod (Mod.of_kept0 (T := []) (M := []) (B := B) kg2) (by decide)
     replace HR := HR.mod (Mod.of_kept0 (T := []) (M := []) (B := B) kg2) (by decide)
     clear N2 kg2
     refine L.ag f53 fun a54 f54 => ?_
     have f55 := f54.pk [0, 5, 8]
     refine wn hK8 (wp_ret ?_); (try simp only [xt, xb]); refine C.ret f55 rfl rfl ?_
     exact ⟨⟨u2, _, _, [⟨riseP s.abs m, Ap, cp⟩], rfl, HS2, by rw [send_rise hn0 hlo hhi hon4 hlt (by omega), hab]; rfl, hL2, HK, pk_one OWR frg2 HR, by simp⟩, HQF⟩
    have hnz := h6
    refine C.condF f48 rfl ?_
    refine wp_skip (hK1 _ _ ?_)
    have f49 := f48.pk [0, 5, 8]
    refine wp_seq_k fun K9 hK9 => ?_
    obtain ⟨MM, hMM⟩ : ∃ MM, MM = s.q :: (Value.slice s.QA s.wait.length s.qc).ownBlock.toList := ⟨_, rfl⟩
    have hpM : p ∉ MM := by rw [hMM]; exact fun hx => (List.mem_cons.1 hx).elim hS.p_ne_q (own_ne hS.qu.own hS.top (by decide))
    have hg0M : g0 ∉ MM := by rw [hMM]; exact fun hx => (List.mem_cons.1 hx).elim (fun e => by have := hS.qu.top.lt; omega) (own_old hS.qu.own frg0)
    refine R.begin (S := fun W => Kept MM w1 W) (by kernel_rfl) (by exact (Kept.refl _ _).drewN 1) ?_
    have hS7 : Kept MM w1 (w1.drewN 1) := (Kept.refl _ _).drewN 1
    have hd7 : Kept [] w1 (w1.drewN 1) := (Kept.refl _ _).drewN 1
    obtain ⟨w2, hww2⟩ : ∃ W, W = w1.drewN 1 := ⟨_, rfl⟩
    rw [← hww2] at hS7 hd7 ⊢
    clear f47 f48 hww2
    have szw2 := hS7.size
    replace HK0 := HK0.trans (.of_kept0 hd7)
    replace HP := HP.kept0 hd7
    replace HQF := HQF.mod (T := []) (M := []) (Mod.of_kept0 (B := B) hd7) (by simp)
    refine R.mv 0 f49 rfl hS7 fun a50 f50 => ?_
    refine R.t 1 f50 rfl hS7 (fun W hW => (E.nilCheck f50 rfl)) fun a51 f51 => ?_
    refine R.t 2 f51 rfl hS7 (fun W hW => (E.fa 4 f51 U57 rfl wsz52_k)) fun a52 f52 => ?_
    refine R.t 3 f52 rfl hS7 (fun W hW => (E.load f52 Tryz.underlying52 rfl rfl ((BP.kept hW (by assumption)).cl rfl))) fun a53 f53 => ?_
    refine R.t 4 f53 rfl hS7 (fun W hW => (E.loadB f53 U30 rfl wsz30_k rfl (Bg0.kept hW (by assumption)) rfl)) fun a54 f54 => ?_
    refine R.call 5 f54 rfl rfl (by decide) (by kernel_rfl) wantedN (run_call Tryz.call41 (args2 f54 rfl rfl)) (push_any B s.q s.QA s.qc s.wait s.lost m Am cm _ (hS.qu.mod HK0 (by decide)) HP (by omega) hl) ?_
    clear f49 a46 f50 a50 f51 a51 f52 a52 f53 a53
    rintro e w3 ⟨km, kc3, rfl, A2, c2, l2, HQ, hql, hrow0⟩
    rw [← hMM] at kc3
    have hrow : Row w s.QA A2 := fun b hb => (hrow0 b hb).imp id (Nat.le_trans HK0.size)
    have HQG : QFar w w3 s.QA := qfar_of hS.qu HK0 hMM kc3
    replace hS7 := hS7.trans kc3 (by exact fun x hx _ => hx)
    refine ⟨_, rfl, hS7, fun a55 f55 => ?_⟩
    have szw3 := kc3.size
    clear f54 a54 kc3
    have szw3r := hS7.size
    have KM := km.mono (B' := B) (T' := [90, 30]) (M' := []) (by decide) (by simp) (Nat.le_refl _)
    replace KM := (Mod.of_kept0 hd7).trans KM
    have HQF := HQG
    replace HK := HK.step KM (by decide) (by simp) (by omega)
    replace HK1 := HK1.step KM (by decide) (by simp) (by omega)
    replace BP := BP.kept hS7 (by assumption)
    replace Bg0 := Bg0.kept hS7 (by assumption)
    clear hS7
    refine R.done (by kernel_rfl) (hK9 _ _ ?_)
    have f56 := f55.pk [8]
    refine C.sk fun K10 hK10 => ?_
    refine L.ag f56 fun a57 f57 => ?_
    have f58 := f57.pk [8]
    refine wn hK10 (wp_ret ?_); (try simp only [xt, xb]); refine C.ret f58 rfl rfl ?_
    exact ⟨send_fin hS HK HK1 BP HQ hql hrow (send_push hn0 hlo hhi (fun h => hnz h.2.2)), HQF⟩
   have hge := h5
   refine L.run f38 (rest' := []) (by kernel_rfl) fun a39 f39 => ?_
   clear f37
   refine wn hK7 ?_
   have f40 := f39.sub (sv 28 (.bool false) (pkR f39 [0, 3, 5, 8]))
   refine C.condF f40 rfl ?_
   refine wp_skip (hK1 _ _ ?_)
   have f41 := f40.pk [0, 5, 8]
   refine wp_seq_k fun K11 hK11 => ?_
   obtain ⟨MM, hMM⟩ : ∃ MM, MM = s.q :: (Value.slice s.QA s.wait.length s.qc).ownBlock.toList := ⟨_, rfl⟩
   have hpM : p ∉ MM := by rw [hMM]; exact fun hx => (List.mem_cons.1 hx).elim hS.p_ne_q (own_ne hS.qu.own hS.top (by decide))
   have hg0M : g0 ∉ MM := by rw [hMM]; exact fun hx => (List.mem_cons.1 hx).elim (fun e => by have := hS.qu.top.lt; omega) (own_old hS.qu.own frg0)
   refine R.begin (S := fun W => Kept MM w1 W) (by kernel_rfl) (by exact (Kept.refl _ _).drewN 1) ?_
   have hS7 : Kept MM w1 (w1.drewN 1) := (Kept.refl _ _).drewN 1
   have hd7 : Kept [] w1 (w1.drewN 1) := (Kept.refl _ _).drewN 1
   obtain ⟨w2, hww2⟩ : ∃ W, W = w1.drewN 1 := ⟨_, rfl⟩
   rw [← hww2] at hS7 hd7 ⊢
   clear f39 f38 f40 hww2
   have szw2 := hS7.size
   replace HK0 := HK0.trans (.of_kept0 hd7)
   replace HP := HP.kept0 hd7
   replace HQF := HQF.mod (T := []) (M := []) (Mod.of_kept0 (B := B) hd7) (by simp)
   refine R.mv 0 f41 rfl hS7 fun a42 f42 => ?_
   refine R.t 1 f42 rfl hS7 (fun W hW => (E.nilCheck f42 rfl)) fun a43 f43 => ?_
   refine R.t 2 f43 rfl hS7 (fun W hW => (E.fa 4 f43 U57 rfl wsz52_k)) fun a44 f44 => ?_
   refine R.t 3 f44 rfl hS7 (fun W hW => (E.load f44 Tryz.underlying52 rfl rfl ((BP.kept hW (by assumption)).cl rfl))) fun a45 f45 => ?_
   refine R.t 4 f45 rfl hS7 (fun W hW => (E.loadB f45 U30 rfl wsz30_k rfl (Bg0.kept hW (by assumption)) rfl)) fun a46 f46 => ?_
   refine R.call 5 f46 rfl rfl (by decide) (by kernel_rfl) wantedN (run_call Tryz.call41 (args2 f46 rfl rfl)) (push_any B s.q s.QA s.qc s.wait s.lost m Am cm _ (hS.qu.mod HK0 (by decide)) HP (by omega) hl) ?_
   clear f41 a39 f42 a42 f43 a43 f44 a44 f45 a45
   rintro e w3 ⟨km, kc3, rfl, A2, c2, l2, HQ, hql, hrow0⟩
   rw [← hMM] at kc3
   have hrow : Row w s.QA A2 := fun b hb => (hrow0 b hb).imp id (Nat.le_trans HK0.size)
   have HQG : QFar w w3 s.QA := qfar_of hS.qu HK0 hMM kc3
   replace hS7 := hS7.trans kc3 (by exact fun x hx _ => hx)
   refine ⟨_, rfl, hS7, fun a47 f47 => ?_⟩
   have szw3 := kc3.size
   clear f46 a46 kc3
   have szw3r := hS7.size
   have KM := km.mono (B' := B) (T' := [90, 30]) (M' := []) (by decide) (by simp) (Nat.le_refl _)
   replace KM := (Mod.of_kept0 hd7).trans KM
   have HQF := HQG
   replace HK := HK.step KM (by decide) (by simp) (by omega)
   replace HK1 := HK1.step KM (by decide) (by simp) (by omega)
   replace BP := BP.kept hS7 (by assumption)
   replace Bg0 := Bg0.kept hS7 (by assumption)
   clear hS7
   refine R.done (by kernel_rfl) (hK11 _ _ ?_)
   have f48 := f47.pk [8]
   refine C.sk fun K12 hK12 => ?_
   refine L.ag f48 fun a49 f49 => ?_
   have f50 := f49.pk [8]
   refine wn hK12 (wp_ret ?_); (try simp only [xt, xb]); refine C.ret f50 rfl rfl ?_
   exact ⟨send_fin hS HK HK1 BP HQ hql hrow (send_push hn0 hlo hhi (fun h => hge h.2.1)), HQF⟩
  have hoff := h4
  refine L.run f29 (rest' := []) (by kernel_rfl) fun a30 f30 => ?_
  clear f28
  refine wn hK7 ?_
  have f31 := f30.sub (sv 28 (.bool false) (pkR f30 [0, 3, 5, 8]))
  refine C.condF f31 rfl ?_
  refine wp_skip (hK1 _ _ ?_)
  have f32 := f31.pk [0, 5, 8]
  refine wp_seq_k fun K13 hK13 => ?_
  obtain ⟨MM, hMM⟩ : ∃ MM, MM = s.q :: (Value.slice s.QA s.wait.length s.qc).ownBlock.toList := ⟨_, rfl⟩
  have hpM : p ∉ MM := by rw [hMM]; exact fun hx => (List.mem_cons.1 hx).elim hS.p_ne_q (own_ne hS.qu.own hS.top (by decide))
  have hg0M : g0 ∉ MM := by rw [hMM]; exact fun hx => (List.mem_cons.1 hx).elim (fun e => by have := hS.qu.top.lt; omega) (own_old hS.qu.own frg0)
  refine R.begin (S := fun W => Kept MM w1 W) (by kernel_rfl) (by exact (Kept.refl _ _).drewN 1) ?_
  have hS7 : Kept MM w1 (w1.drewN 1) := (Kept.refl _ _).drewN 1
  have hd7 : Kept [] w1 (w1.drewN 1) := (Kept.refl _ _).drewN 1
  obtain ⟨w2, hww2⟩ : ∃ W, W = w1.drewN 1 := ⟨_, rfl⟩
  rw [← hww2] at hS7 hd7 ⊢
  clear f30 f29 f31 hww2
  have szw2 := hS7.size
  replace HK0 := HK0.trans (.of_kept0 hd7)
  replace HP := HP.kept0 hd7
  replace HQF := HQF.mod (T := []) (M := []) (Mod.of_kept0 (B := B) hd7) (by simp)
  refine R.mv 0 f32 rfl hS7 fun a33 f33 => ?_
  refine R.t 1 f33 rfl hS7 (fun W hW => (E.nilCheck f33 rfl)) fun a34 f34 => ?_
  refine R.t 2 f34 rfl hS7 (fun W hW => (E.fa 4 f34 U57 rfl wsz52_k)) fun a35 f35 => ?_
  refine R.t 3 f35 rfl hS7 (fun W hW => (E.load f35 Tryz.underlying52 rfl rfl ((BP.kept hW (by assumption)).cl rfl))) fun a36 f36 => ?_
  refine R.t 4 f36 rfl hS7 (fun W hW => (E.loadB f36 U30 rfl wsz30_k rfl (Bg0.kept hW (by assumption)) rfl)) fun a37 f37 => ?_
  refine R.call 5 f37 rfl rfl (by decide) (by kernel_rfl) wantedN (run_call Tryz.call41 (args2 f37 rfl rfl)) (push_any B s.q s.QA s.qc s.wait s.lost m Am cm _ (hS.qu.mod HK0 (by decide)) HP (by omega) hl) ?_
  clear f32 a30 f33 a33 f34 a34 f35 a35 f36 a36
  rintro e w3 ⟨km, kc3, rfl, A2, c2, l2, HQ, hql, hrow0⟩
  rw [← hMM] at kc3
  have hrow : Row w s.QA A2 := fun b hb => (hrow0 b hb).imp id (Nat.le_trans HK0.size)
  have HQG : QFar w w3 s.QA := qfar_of hS.qu HK0 hMM kc3
  replace hS7 := hS7.trans kc3 (by exact fun x hx _ => hx)
  refine ⟨_, rfl, hS7, fun a38 f38 => ?_⟩
  have szw3 := kc3.size
  clear f37 a37 kc3
  have szw3r := hS7.size
  have KM := km.mono (B' := B) (T' := [90, 30]) (M' := []) (by decide) (by simp) (Nat.le_refl _)
  replace KM := (Mod.of_kept0 hd7).trans KM
  have HQF := HQG
  replace HK := HK.step KM (by decide) (by simp) (by omega)
  replace HK1 := HK1.step KM (by decide) (by simp) (by omega)
  replace BP := BP.kept hS7 (by assumption)
  replace Bg0 := Bg0.kept hS7 (by assumption)
  clear hS7
  refine R.done (by kernel_rfl) (hK13 _ _ ?_)
  have f39 := f38.pk [8]
  refine C.sk fun K14 hK14 => ?_
  refine L.ag f39 fun a40 f40 => ?_
  have f41 := f40.pk [8]
  refine wn hK14 (wp_ret ?_); (try simp only [xt, xb]); refine C.ret f41 rfl rfl ?_
  exact ⟨send_fin hS HK HK1 BP HQ hql hrow (send_push hn0 hlo hhi (fun h => by rw [hoff] at h; cases h.1)), HQF⟩
 have hq0 := h0
 have hn0 : ¬ (m.qos = 0 ∧ on = true) := fun h => hq0 h.1
 refine L.skip f9 (f9.noT rfl rfl) rfl (by decide) fun a10 f10 => ?_
 refine L.va f10 (E.pickF f10 rfl rfl) fun a11 f11 => ?_
 refine L.ag f11 fun a12 f12 => ?_
 refine wn hK2 ?_
 have f13 := f12.pk [0, 2, 3, 5, 8, 9]
 refine C.condF f13 rfl ?_
 refine C.sk fun K15 hK15 => ?_
 refine L.fa 2 f13 U30 rfl wsz3_k fun a14 f14 => ?_
 refine L.va f14 (E.load f14 U3 rfl rfl ((Bg0).cl rfl)) fun a15 f15 => ?_
 refine L.va f15 (E.lss f15 rfl rfl) fun a16 f16 => ?_
 clear f8 f9 a8 f10 a10 f11 a11 f12 f13 a12 f14 a14 f15 a15
 refine L.mv f16 fun a17 f17 => ?_
 clear f16 a16
 refine f17.splitD 23 rfl (fun h7 f18 => ?_) (fun h7 f18 => ?_)
 ·have hlo := h7
  refine L.run f18 (rest' := []) (by kernel_rfl) fun a19 f19 => ?_
  clear f17
  refine wn hK15 ?_
  have f20 := f19.sub (sv 19 (.bool true) (pkR f19 [0, 2, 3, 5, 8]))
  refine C.condT f20 rfl ?_
  refine C.sk fun K16 hK16 => ?_
  refine L.ag f20 fun a21 f21 => ?_
  have f22 := f21.pk [0, 5, 8]
  refine wn hK16 (wp_ret ?_); (try simp only [xt, xb]); refine C.ret f22 rfl rfl ?_
  exact ⟨⟨s, none, 0, [], rfl, hS.mod HK0 (by simp), by rw [send_none hn0 (by omega)]; rfl, ⟨rfl, rfl, rfl, rfl, fun b hb => .inl hb⟩, HK, PkAt.nil _ _ _, by simp⟩, HQF⟩
 have hlo := h7
 refine L.fa 2 f18 U30 rfl wsz3_k (hw := (f18.yes rfl rfl)) fun a19 f19 => ?_
 refine L.va f19 (E.load f19 U3 rfl rfl ((Bg0).cl rfl)) (hw := (f19.yes rfl rfl)) fun a20 f20 => ?_
 refine L.va f20 (E.gtr f20 rfl rfl) (hw := (f20.yes rfl rfl)) fun a21 f21 => ?_
 refine L.va f21 (E.pickF f21 rfl rfl) fun a22 f22 => ?_
 refine L.ag f22 fun a23 f23 => ?_
 refine wn hK15 ?_
 have f24 := f23.pk [0, 2, 3, 5, 8, 19]
 clear f17 f18 a17 f19 a19 f20 a20 f21 a21 f22 a22 f23
 refine f24.splitD 19 rfl (fun h8 f25 => ?_) (fun h8 f25 => ?_)
 ·have hhi := h8
  refine C.condT f25 rfl ?_
  refine C.sk fun K17 hK17 => ?_
  refine L.ag f25 fun a26 f26 => ?_
  have f27 := f26.pk [0, 5, 8]
  refine wn hK17 (wp_ret ?_); (try simp only [xt, xb]); refine C.ret f27 rfl rfl ?_
  exact ⟨⟨s, none, 0, [], rfl, hS.mod HK0 (by simp), by rw [send_none hn0 (by omega)]; rfl, ⟨rfl, rfl, rfl, rfl, fun b hb => .inl hb⟩, HK, PkAt.nil _ _ _, by simp⟩, HQF⟩
 have hhi := h8
 refine C.condF f25 rfl ?_
 refine C.sk fun K18 hK18 => ?_
 refine L.mv f25 fun a26 f26 => ?_
 refine L.mv f26 fun a27 f27 => ?_
 clear f24 f25 a23 f26 a26
 refine f27.split 30 rfl (fun h9 f28 => ?_) (fun h9 f28 => ?_)
 ·have hon4 := h9
  refine L.mv f28 (hw := (f28.yes rfl rfl)) fun a29 f29 => ?_
  refine L.va f29 (E.nilCheck f29 rfl) (hw := (f29.yes rfl rfl)) fun a30 f30 => ?_
  refine L.fa 3 f30 U57 rfl wsz55_k (hw := (f30.yes rfl rfl)) fun a31 f31 => ?_
  refine L.va f31 (E.load f31 Tryz.underlying55 rfl rfl ((BP).cl rfl)) (hw := (f31.yes rfl rfl)) fun a32 f32 => ?_
  refine L.va f32 (E.lenL f32 Tryz.underlying55 rfl) (hw := (f32.yes rfl rfl)) fun a33 f33 => ?_
  refine L.va f33 (E.lss f33 rfl rfl) (hw := (f33.yes rfl rfl)) fun a34 f34 => ?_
  refine L.va f34 (E.pickT f34 rfl rfl) fun a35 f35 => ?_
  clear f27 f28 a27 f29 a29 f30 a30 f31 a31 f32 a32 f33 a33 f34 a34
  refine L.mv f35 fun a36 f36 => ?_
  clear f35 a35
  refine f36.splitD 38 rfl (fun h10 f37 => ?_) (fun h10 f37 => ?_)
  ·have hlt := h10
   refine L.mv f37 (hw := (f37.yes rfl rfl)) fun a38 f38 => ?_
   refine L.va f38 (E.nilCheck f38 rfl) (hw := (f38.yes rfl rfl)) fun a39 f39 => ?_
   refine L.fa 4 f39 U57 rfl wsz52_k (hw := (f39.yes rfl rfl)) fun a40 f40 => ?_
   refine L.va f40 (E.load f40 Tryz.underlying52 rfl rfl ((BP).cl rfl)) (hw := (f40.yes rfl rfl)) fun a41 f41 => ?_
   refine L.cl f41 (run_call Tryz.call39 (args1 f41 rfl)) (quLen_any _ _ _ _ _ _ _ (hS.qu.mod HK0 (by decide)).top) ?_ (hw := (f41.yes rfl rfl))
   clear f36 f37 a36 f38 a38 f39 a39 f40 a40
   rintro e w1x ⟨rfl, rfl⟩
   refine ⟨_, rfl, fun a42 f42 => ?_⟩
   refine L.va f42 (E.eql f42 rfl rfl) (hw := (f42.yes rfl rfl)) fun a43 f43 => ?_
   refine L.va f43 (E.pickT f43 rfl rfl) fun a44 f44 => ?_
   refine L.ag f44 fun a45 f45 => ?_
   refine wn hK18 ?_
   have f46 := f45.pk [0, 3, 5, 8, 28]
   clear f41 a41 f42 a42 f43 a43 f44 a44 f45
   refine f46.splitD 28 rfl (fun h11 f47 => ?_) (fun h11 f47 => ?_)
   ·have hz := h11
    refine C.condT f47 rfl ?_
    refine C.sk fun K19 hK19 => ?_
    refine L.mv f47 fun a48 f48 => ?_
    refine L.va f48 (E.loadB f48 U30 rfl wsz30_k rfl (Bg0) rfl) fun a49 f49 => ?_
    refine L.mv f49 fun a50 f50 => ?_
    refine L.cl f50 (run_call Tryz.call40 (args3 f50 rfl rfl rfl)) (rise_any B p s m Am cm now _ (hS.mod HK0 (by simp)) HP (by omega) (by omega)) ?_
    clear f46 f47 a45 f48 a48 f49 a49
    rintro e w2 ⟨u2, Ap, cp, rfl, HS2, hab, hL2, kc2, HR⟩
    replace hL2 := (Ses.Like.refl w s).trans hL2 HK.size
    refine ⟨_, rfl, fun a51 f51 => ?_⟩
    have szw2 := kc2.size
    replace HK := HK.step kc2 (by decide) (by simp) (by omega)
    replace HQF := HQF.mod kc2 (by decide)
    replace Bg0 := Bg0.mod kc2 (by decide)
    clear f50 a50 kc2
    refine L.buildSlice f51 wantedN (by decide) (parts1 f51 rfl) U42 wzj35 rfl rfl (wpk1 ⟨riseP s.abs m, Ap, cp⟩) fun a52 w3 g2 N2 f52 => ?_
    have OWR := N2.own (k := 1) (size := 24) rfl (by decide)
    have Bg2 := N2.blk
    have kg2 := N2.kept
    have log2 := N2.lo
    have ltg2 := Bg2.lt
    have szw3 := kg2.size
    have frg2 : w.heap.size ≤ g2 := Nat.le_trans HK.size log2
    have neg0_g2 : g0 ≠ g2 := by have := Bg0.lt; omega
    replace HK := HK.trans (.of_kept0 kg2)
    replace HQF := HQF.mod (Mod.of_kept0 (T := []) (M := []) (B := B) kg2) (by decide)
    replace Bg0 := Bg0.z kg2
    replace HS2 := HS2.mod (Mod.of_kept0 (T := []) (M := []) (B := B) kg2) (by decide)
    replace HR := HR.mod (Mod.of_kept0 (T := []) (M := []) (B := B) kg2) (by decide)
    clear N2 kg2
    refine L.ag f52 fun a53 f53 => ?_
    have f54 := f53.pk [0, 5, 8]
    refine wn hK19 (wp_ret ?_); (try simp only [xt, xb]); refine C.ret f54 rfl rfl ?_
    exact ⟨⟨u2, _, _, [⟨riseP s.abs m, Ap, cp⟩], rfl, HS2, by rw [send_rise hn0 hlo hhi hon4 hlt (by omega), hab]; rfl, hL2, HK, pk_one OWR frg2 HR, by simp⟩, HQF⟩
   have hnz := h11
   refine C.condF f47 rfl ?_
   refine wp_skip (hK1 _ _ ?_)
   have f48 := f47.pk [0, 5, 8]
   refine wp_seq_k fun K20 hK20 => ?_
   obtain ⟨MM, hMM⟩ : ∃ MM, MM = s.q :: (Value.slice s.QA s.wait.length s.qc).ownBlock.toList := ⟨_, rfl⟩
   have hpM : p ∉ MM := by rw [hMM]; exact fun hx => (List.mem_cons.1 hx).elim hS.p_ne_q (own_ne hS.qu.own hS.top (by decide))
   have hg0M : g0 ∉ MM := by rw [hMM]; exact fun hx => (List.mem_cons.1 hx).elim (fun e => by have := hS.qu.top.lt; omega) (own_old hS.qu.own frg0)
   refine R.begin (S := fun W => Kept MM w1 W) (by kernel_rfl) (by exact (Kept.refl _ _).drewN 1) ?_
   have hS7 : Kept MM w1 (w1.drewN 1) := (Kept.refl _ _).drewN 1
   have hd7 : Kept [] w1 (w1.drewN 1) := (Kept.refl _ _).drewN 1
   obtain ⟨w2, hww2⟩ : ∃ W, W = w1.drewN 1 := ⟨_, rfl⟩
   rw [← hww2] at hS7 hd7 ⊢
   clear f46 f47 hww2
   have szw2 := hS7.size
   replace HK0 := HK0.trans (.of_kept0 hd7)
   replace HP := HP.kept0 hd7
   replace HQF := HQF.mod (T := []) (M := []) (Mod.of_kept0 (B := B) hd7) (by simp)
   refine R.mv 0 f48 rfl hS7 fun a49 f49 => ?_
   refine R.t 1 f49 rfl hS7 (fun W hW => (E.nilCheck f49 rfl)) fun a50 f50 => ?_
   refine R.t 2 f50 rfl hS7 (fun W hW => (E.fa 4 f50 U57 rfl wsz52_k)) fun a51 f51 => ?_
   refine R.t 3 f51 rfl hS7 (fun W hW => (E.load f51 Tryz.underlying52 rfl rfl ((BP.kept hW (by assumption)).cl rfl))) fun a52 f52 => ?_
   refine R.t 4 f52 rfl hS7 (fun W hW => (E.loadB f52 U30 rfl wsz30_k rfl (Bg0.kept hW (by assumption)) rfl)) fun a53 f53 => ?_
   refine R.call 5 f53 rfl rfl (by decide) (by kernel_rfl) wantedN (run_call Tryz.call41 (args2 f53 rfl rfl)) (push_any B s.q s.QA s.qc s.wait s.lost m Am cm _ (hS.qu.mod HK0 (by decide)) HP (by omega) hl) ?_
   clear f48 a45 f49 a49 f50 a50 f51 a51 f52 a52
   rintro e w3 ⟨km, kc3, rfl, A2, c2, l2, HQ, hql, hrow0⟩
   rw [← hMM] at kc3
   have hrow : Row w s.QA A2 := fun b hb => (hrow0 b hb).imp id (Nat.le_trans HK0.size)
   have HQG : QFar w w3 s.QA := qfar_of hS.qu HK0 hMM kc3
   replace hS7 := hS7.trans kc3 (by exact fun x hx _ => hx)
   refine ⟨_, rfl, hS7, fun a54 f54 => ?_⟩
   have szw3 := kc3.size
   clear f53 a53 kc3
   have szw3r := hS7.size
   have KM := km.mono (B' := B) (T' := [90, 30]) (M' := []) (by decide) (by simp) (Nat.le_refl _)
   replace KM := (Mod.of_kept0 hd7).trans KM
   have HQF := HQG
   replace HK := HK.step KM (by decide) (by simp) (by omega)
   replace HK1 := HK1.step KM (by decide) (by simp) (by omega)
   replace BP := BP.kept hS7 (by assumption)
   replace Bg0 := Bg0.kept hS7 (by assumption)
   clear hS7
   refine R.done (by kernel_rfl) (hK20 _ _ ?_)
   have f55 := f54.pk [8]
   refine C.sk fun K21 hK21 => ?_
   refine L.ag f55 fun a56 f56 => ?_
   have f57 := f56.pk [8]
   refine wn hK21 (wp_ret ?_); (try simp only [xt, xb]); refine C.ret f57 rfl rfl ?_
   exact ⟨send_fin hS HK HK1 BP HQ hql hrow (send_push hn0 hlo hhi (fun h => hnz h.2.2)), HQF⟩
  have hge := h10
  refine L.run f37 (rest' := []) (by kernel_rfl) fun a38 f38 => ?_
  clear f36
  refine wn hK18 ?_
  have f39 := f38.sub (sv 28 (.bool false) (pkR f38 [0, 3, 5, 8]))
  refine C.condF f39 rfl ?_
  refine wp_skip (hK1 _ _ ?_)
  have f40 := f39.pk [0, 5, 8]
  refine wp_seq_k fun K22 hK22 => ?_
  obtain ⟨MM, hMM⟩ : ∃ MM, MM = s.q :: (Value.slice s.QA s.wait.length s.qc).ownBlock.toList := ⟨_, rfl⟩
  have hpM : p ∉ MM := by rw [hMM]; exact fun hx => (List.mem_cons.1 hx).elim hS.p_ne_q (own_ne hS.qu.own hS.top (by decide))
  have hg0M : g0 ∉ MM := by rw [hMM]; exact fun hx => (List.mem_cons.1 hx).elim (fun e => by have := hS.qu.top.lt; omega) (own_old hS.qu.own frg0)
  refine R.begin (S := fun W => Kept MM w1 W) (by kernel_rfl) (by exact (Kept.refl _ _).drewN 1) ?_
  have hS7 : Kept MM w1 (w1.drewN 1) := (Kept.refl _ _).drewN 1
  have hd7 : Kept [] w1 (w1.drewN 1) := (Kept.refl _ _).drewN 1
  obtain ⟨w2, hww2⟩ : ∃ W, W = w1.drewN 1 := ⟨_, rfl⟩
  rw [← hww2] at hS7 hd7 ⊢
  clear f38 f37 f39 hww2
  have szw2 := hS7.size
  replace HK0 := HK0.trans (.of_kept0 hd7)
  replace HP := HP.kept0 hd7
  replace HQF := HQF.mod (T := []) (M := []) (Mod.of_kept0 (B := B) hd7) (by simp)
  refine R.mv 0 f40 rfl hS7 fun a41 f41 => ?_
  refine R.t 1 f41 rfl hS7 (fun W hW => (E.nilCheck f41 rfl)) fun a42 f42 => ?_
  refine R.t 2 f42 rfl hS7 (fun W hW => (E.fa 4 f42 U57 rfl wsz52_k)) fun a43 f43 => ?_
  refine R.t 3 f43 rfl hS7 (fun W hW => (E.load f43 Tryz.underlying52 rfl rfl ((BP.kept hW (by assumption)).cl rfl))) fun a44 f44 => ?_
  refine R.t 4 f44 rfl hS7 (fun W hW => (E.loadB f44 U30 rfl wsz30_k rfl (Bg0.kept hW (by assumption)) rfl)) fun a45 f45 => ?_
  refine R.call 5 f45 rfl rfl (by decide) (by kernel_rfl) wantedN (run_call Tryz.call41 (args2 f45 rfl rfl)) (push_any B s.q s.QA s.qc s.wait s.lost m Am cm _ (hS.qu.mod HK0 (by decide)) HP (by omega) hl) ?_
  clear f40 a38 f41 a41 f42 a42 f43 a43 f44 a44
  rintro e w3 ⟨km, kc3, rfl, A2, c2, l2, HQ, hql, hrow0⟩
  rw [← hMM] at kc3
  have hrow : Row w s.QA A2 := fun b hb => (hrow0 b hb).imp id (Nat.le_trans HK0.size)
  have HQG : QFar w w3 s.QA := qfar_of hS.qu HK0 hMM kc3
  replace hS7 := hS7.trans kc3 (by exact fun x hx _ => hx)
  refine ⟨_, rfl, hS7, fun a46 f46 => ?_⟩
  have szw3 := kc3.size
  clear f45 a45 kc3
  have szw3r := hS7.size
  have KM := km.mono (B' := B) (T' := [90, 30]) (M' := []) (by decide) (by simp) (Nat.le_refl _)
  replace KM := (Mod.of_kept0 hd7).trans KM
  have HQF := HQG
  replace HK := HK.step KM (by decide) (by simp) (by omega)
  replace HK1 := HK1.step KM (by decide) (by simp) (by omega)
  replace BP := BP.kept hS7 (by assumption)
  replace Bg0 := Bg0.kept hS7 (by assumption)
  clear hS7
  refine R.done (by kernel_rfl) (hK22 _ _ ?_)
  have f47 := f46.pk [8]
  refine C.sk fun K23 hK23 => ?_
  refine L.ag f47 fun a48 f48 => ?_
  have f49 := f48.pk [8]
  refine wn hK23 (wp_ret ?_); (try simp only [xt, xb]); refine C.ret f49 rfl rfl ?_
  exact ⟨send_fin hS HK HK1 BP HQ hql hrow (send_push hn0 hlo hhi (fun h => hge h.2.1)), HQF⟩
 have hoff := h9
 refine L.run f28 (rest' := []) (by kernel_rfl) fun a29 f29 => ?_
 clear f27
 refine wn hK18 ?_
 have f30 := f29.sub (sv 28 (.bool false) (pkR f29 [0, 3, 5, 8]))
 refine C.condF f30 rfl ?_
 refine wp_skip (hK1 _ _ ?_)
 have f31 := f30.pk [0, 5, 8]
 refine wp_seq_k fun K24 hK24 => ?_
 obtain ⟨MM, hMM⟩ : ∃ MM, MM = s.q :: (Value.slice s.QA s.wait.length s.qc).ownBlock.toList := ⟨_, rfl⟩
 have hpM : p ∉ MM := by rw [hMM]; exact fun hx => (List.mem_cons.1 hx).elim hS.p_ne_q (own_ne hS.qu.own hS.top (by decide))
 have hg0M : g0 ∉ MM := by rw [hMM]; exact fun hx => (List.mem_cons.1 hx).elim (fun e => by have := hS.qu.top.lt; omega) (own_old hS.qu.own frg0)
 refine R.begin (S := fun W => Kept MM w1 W) (by kernel_rfl) (by exact (Kept.refl _ _).drewN 1) ?_
 have hS7 : Kept MM w1 (w1.drewN 1) := (Kept.refl _ _).drewN 1
 have hd7 : Kept [] w1 (w1.drewN 1) := (Kept.refl _ _).drewN 1
 obtain ⟨w2, hww2⟩ : ∃ W, W = w1.drewN 1 := ⟨_, rfl⟩
 rw [← hww2] at hS7 hd7 ⊢
 clear f29 f28 f30 hww2
 have szw2 := hS7.size
 replace HK0 := HK0.trans (.of_kept0 hd7)
 replace HP := HP.kept0 hd7
 replace HQF := HQF.mod (T := []) (M := []) (Mod.of_kept0 (B := B) hd7) (by simp)
 refine R.mv 0 f31 rfl hS7 fun a32 f32 => ?_
 refine R.t 1 f32 rfl hS7 (fun W hW => (E.nilCheck f32 rfl)) fun a33 f33 => ?_
 refine R.t 2 f33 rfl hS7 (fun W hW => (E.fa 4 f33 U57 rfl wsz52_k)) fun a34 f34 => ?_
 refine R.t 3 f34 rfl hS7 (fun W hW => (E.load f34 Tryz.underlying52 rfl rfl ((BP.kept hW (by assumption)).cl rfl))) fun a35 f35 => ?_
 refine R.t 4 f35 rfl hS7 (fun W hW => (E.loadB f35 U30 rfl wsz30_k rfl (Bg0.kept hW (by assumption)) rfl)) fun a36 f36 => ?_
 refine R.call 5 f36 rfl rfl (by decide) (by kernel_rfl) wantedN (run_call Tryz.call41 (args2 f36 rfl rfl)) (push_any B s.q s.QA s.qc s.wait s.lost m Am cm _ (hS.qu.mod HK0 (by decide)) HP (by omega) hl) ?_
 clear f31 a29 f32 a32 f33 a33 f34 a34 f35 a35
 rintro e w3 ⟨km, kc3, rfl, A2, c2, l2, HQ, hql, hrow0⟩
 rw [← hMM] at kc3
 have hrow : Row w s.QA A2 := fun b hb => (hrow0 b hb).imp id (Nat.le_trans HK0.size)
 have HQG : QFar w w3 s.QA := qfar_of hS.qu HK0 hMM kc3
 replace hS7 := hS7.trans kc3 (by exact fun x hx _ => hx)
 refine ⟨_, rfl, hS7, fun a37 f37 => ?_⟩
 have szw3 := kc3.size
 clear f36 a36 kc3
 have szw3r := hS7.size
 have KM := km.mono (B' := B) (T' := [90, 30]) (M' := []) (by decide) (by simp) (Nat.le_refl _)
 replace KM := (Mod.of_kept0 hd7).trans KM
 have HQF := HQG
 replace HK := HK.step KM (by decide) (by simp) (by omega)
 replace HK1 := HK1.step KM (by decide) (by simp) (by omega)
 replace BP := BP.kept hS7 (by assumption)
 replace Bg0 := Bg0.kept hS7 (by assumption)
 clear hS7
 refine R.done (by kernel_rfl) (hK24 _ _ ?_)
 have f38 := f37.pk [8]
 refine C.sk fun K25 hK25 => ?_
 refine L.ag f38 fun a39 f39 => ?_
 have f40 := f39.pk [8]
 refine wn hK25 (wp_ret ?_); (try simp only [xt, xb]); refine C.ret f40 rfl rfl ?_
 exact ⟨send_fin hS HK HK1 BP HQ hql hrow (send_push hn0 hlo hhi (fun h => by rw [hoff] at h; cases h.1)), HQF⟩
end Go.Proofs.YtdfllmiokgoekaaGreatDoor
