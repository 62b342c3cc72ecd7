/- Contracts: the program's matrices. -/
import Derived.Test.YtahmlcjgcdajbaaDe
import Derived.Test.YtahmlcjgcdajbaaMat
set_option linter.all false
namespace Go.Proofs.Ytahmlcjgcdajbaa
open Go.RowKit Go.Hub
theorem wzib73_m : (Try.prog.info? 73).map (fun i => (i.zero, i.size, i.bytes)) = some (some (.agg #[(.int .i64 0), (.int .i64 0), (.slice none 0 0)]), 3, 40) := by kernel_rfl
theorem wbl71_0_1_m (x0 : Option Addr) (y0 z0 : Nat) (x1 : Int) : Try.prog.built 71 [(0, .slice x0 y0 z0), (1, .int .i64 x1)] = some #[.slice x0 y0 z0, .int .i64 x1] := by kernel_rfl
theorem wsz3_m : (Try.prog.info? 3).map (·.size) = some 1 := by kernel_rfl
theorem wsz24_m : (Try.prog.info? 24).map (·.size) = some 1 := by kernel_rfl
theorem wsz69_m : (Try.prog.info? 69).map (·.size) = some 1 := by kernel_rfl
theorem wsz73_m : (Try.prog.info? 73).map (·.size) = some 3 := by kernel_rfl

def NewPost (n me : Int) (w : World) (e : Ending) (w' : World) : Prop := ∃ m fp, e = .returned (.pointer (some ⟨m, 0, none⟩)) ∧ MatI (71, 73) w' m fp (newRows n) (newSelf n me) ∧ Kept [] w w' ∧ ∀ x ∈ fp, w.heap.size ≤ x
def RowPost (rows : Rows15) (i : Int) (w : World) (e : Ending) (w' : World) : Prop := Kept [] w w' ∧ ∃ A c, e = .returned (.tuple #[.int .i64 (rowOf rows i).1, .int .i64 (rowOf rows i).2.1, .slice A (rowOf rows i).2.2.length c]) ∧ Fresh w w' 32 3 A (rowOf rows i).2.2.length c (dcells (rowOf rows i).2.2)
theorem row_out {rows : Rows15} {i : Int} (h : i < 0 ∨ (rows.length : Int) ≤ i) : rowOf rows i = (0, 0, []) := by
  unfold rowOf
  rw [if_neg (by omega)]
theorem row_in {ents : List Ent} {i : Int} {e : Ent} (h0 : 0 ≤ i) (he : ents[i.toNat]? = some e) : rowOf (ents.map Ent.abs) i = e.abs := by
  have := (List.getElem?_eq_some_iff.1 he).1
  unfold rowOf
  rw [if_pos (by simp; omega)]
  simp [he]
theorem new_done (n me : Int) {w W : World} {r m : Nat} (B1 : Blk W r 73 (madeCells (Value.cells (.agg #[.int .i64 0, .int .i64 0, .slice none 0 0])) ((Min.min (Max.max n 1) 16).toNat * 3)))
    (B2 : Blk W m 71 #[.slice (some ⟨r, 0, none⟩) (Min.min (Max.max n 1) 16).toNat (Min.min (Max.max n 1) 16).toNat, .int .i64 (Min.min (Max.max me 0) (Min.min (Max.max n 1) 16 - 1))]) (HK : Kept [] w W) (f1 : w.heap.size ≤ r) (f2 : w.heap.size ≤ m) (hne : r ≠ m) :
    NewPost n me w (.returned (.pointer (some ⟨m, 0, none⟩))) W := by
  have hc := made_flat ecell 3 (fun _ => rfl) (by omega) ⟨0, 0, [], none, 0⟩ (Min.min (Max.max n 1) 16).toNat
  refine ⟨m, [m, r], rfl, ⟨r, List.replicate (Min.min (Max.max n 1) 16).toNat ⟨0, 0, [], none, 0⟩, by simp [newRows, Ent.abs], ?_⟩, HK, fun x hx => by simp at hx; rcases hx with rfl | rfl <;> assumption⟩
  refine ⟨by simpa [newSelf] using B2, by rw [← hc]; exact B1, by simp; omega, by simp; omega, by unfold newSelf; omega, by unfold newSelf; simp; omega, by simp, by simp, fun h => hne h.symm, fun e he => ?_, fun x hx => ?_⟩
  · obtain ⟨_, rfl⟩ := List.mem_replicate.1 he
    exact ⟨Ds.nil _ _, fun a h => by simp at h, by simp⟩
  · simp at hx
    rcases hx with rfl | rfl
    · exact B2.lt
    · exact B1.lt

set_option maxHeartbeats 1000000 in
theorem new_any (n me : Int) (w : World) : Calls Try.prog 29 #[.int .i64 n, .int .i64 me] w (NewPost n me w) := by
  have HK : Kept [] w w := Kept.refl [] w
  refine C.enter Try.func29 rfl Try.ntmps29 rfl ?_
  intro a0 f0
  have f1 : Fr 17 a0 [(0, .int .i64 n), (1, .int .i64 me)] := f0
  clear f0
  refine wp_seq_k fun K0 hK0 => ?_
  refine C.region ?_
  refine L.val f1 wantedN rfl (by decide) (E.assign f1 rfl) fun a2 f2 => ?_
  clear f1 a0
  refine wpList_nil (hK0 _ _ ?_)
  try clear hK0 K0
  have f3 := f2.sub (sub_cons (i := 0) rfl (sub_cons (i := 1) rfl (sub_cons (i := 4) rfl sub_nil)))
  clear f2
  refine wp_seq_k fun K1 hK1 => ?_
  refine C.region ?_
  refine L.val f3 wantedN rfl (by decide) (E.move f3 rfl) fun a4 f4 => ?_
  clear f3 a2
  refine L.val f4 wantedN rfl (by decide) (E.max f4 rfl rfl) fun a5 f5 => ?_
  clear f4 a4
  refine L.val f5 wantedN rfl (by decide) (E.min f5 rfl rfl) fun a6 f6 => ?_
  clear f5 a5
  refine L.val f6 wantedN rfl (by decide) (E.assign f6 rfl) fun a7 f7 => ?_
  clear f6 a6
  refine wpList_nil (hK1 _ _ ?_)
  try clear hK1 K1
  have f8 := f7.sub (sub_cons (i := 0) rfl (sub_cons (i := 1) rfl (sub_cons (i := 4) rfl sub_nil)))
  clear f7
  refine wp_seq_k fun K2 hK2 => ?_
  refine C.region ?_
  refine L.val f8 wantedN rfl (by decide) (E.move f8 rfl) fun a9 f9 => ?_
  clear f8 a7
  refine L.make f9 wantedN (by decide) Try.underlying69 wzib73_m rfl rfl (by omega) (by omega) (by omega) (by omega) fun a10 w1 g0 N0 f10 => ?_
  have Bg0 := N0.blk
  have kg0 := N0.kept
  have log0 := N0.lo
  have ltg0 := Bg0.lt
  have szw1 := kg0.size
  have frg0 : w.heap.size ≤ g0 := Nat.le_trans HK.size log0
  replace HK := HK.trans kg0 (by simp)
  clear N0 kg0
  clear f9 a9
  refine L.val f10 wantedN rfl (by decide) (E.move f10 rfl) fun a11 f11 => ?_
  clear f10 a10
  refine L.val f11 wantedN rfl (by decide) (E.max f11 rfl rfl) fun a12 f12 => ?_
  clear f11 a11
  refine L.val f12 wantedN rfl (by decide) (E.move f12 rfl) fun a13 f13 => ?_
  clear f12 a12
  refine L.val f13 wantedN rfl (by decide) (E.sub f13 rfl rfl (IntWalk.i64_in _ (by omega))) fun a14 f14 => ?_
  clear f13 a13
  refine L.val f14 wantedN rfl (by decide) (E.min f14 rfl rfl) fun a15 f15 => ?_
  clear f14 a14
  refine L.val f15 wantedN rfl (by decide) (E.build f15 (parts2 f15 rfl rfl) (wbl71_0_1_m _ _ _ _)) fun a16 f16 => ?_
  clear f15 a15
  refine L.box f16 wantedN (by decide) rfl rfl fun a17 w2 g1 N1 f17 => ?_
  have Bg1 := N1.blk
  have kg1 := N1.kept
  have log1 := N1.lo
  have ltg1 := Bg1.lt
  have szw2 := kg1.size
  have frg1 : w.heap.size ≤ g1 := Nat.le_trans HK.size log1
  have neg0_g1 : g0 ≠ g1 := by have := Bg0.lt; omega
  replace HK := HK.trans kg1 (by simp)
  replace Bg0 := Bg0.kept kg1 (by simp)
  clear N1 kg1
  clear f16 a16
  refine L.val f17 wantedN rfl (by decide) (E.assign f17 rfl) fun a18 f18 => ?_
  clear f17 a17
  refine wpList_nil (hK2 _ _ ?_)
  try clear hK2 K2
  have f19 := f18.sub (sub_cons (i := 4) rfl sub_nil)
  clear f18
  refine wp_ret ?_
  try simp only [Exit.inBlock, Exit.then]
  refine C.ret (P := Try.prog) (fn := Try.f29) f19 rfl rfl ?_
  exact new_done n me Bg0 Bg1 HK frg0 frg1 neg0_g1

set_option maxHeartbeats 1000000 in
theorem row_any (m r : Nat) (fp : List Nat) (ents : List Ent) (me i : Int) (w : World) (M : MatA (71, 73) w m r fp ents me) : Calls Try.prog 36 #[.pointer (some ⟨m, 0, none⟩), .int .i64 i] w (RowPost (ents.map Ent.abs) i w) := by
  have HK : Kept [] w w := Kept.refl [] w
  have hmo := M.most
  have Bm := M.top
  have hlt := M.lt
  refine C.enter Try.func36 rfl Try.ntmps36 rfl ?_
  intro a0 f0
  have f1 : Fr 33 a0 [(0, .pointer (some ⟨m, 0, none⟩)), (1, .int .i64 i)] := f0
  clear f0
  refine wp_seq_k fun K0 hK0 => ?_
  refine C.region ?_
  refine L.val f1 wantedN rfl (by decide) (E.assign f1 rfl) fun a2 f2 => ?_
  clear f1 a0
  refine L.val f2 wantedN rfl (by decide) (E.assign f2 rfl) fun a3 f3 => ?_
  clear f2 a2
  refine L.val f3 wantedN rfl (by decide) (E.assign f3 rfl) fun a4 f4 => ?_
  clear f3 a3
  refine wpList_nil (hK0 _ _ ?_)
  try clear hK0 K0
  have f5 := f4.sub (sub_cons (i := 0) rfl (sub_cons (i := 1) rfl (sub_cons (i := 4) rfl (sub_cons (i := 5) rfl (sub_cons (i := 6) rfl sub_nil)))))
  clear f4
  refine wp_seq_k fun K1 hK1 => ?_
  refine wp_seq_k fun K2 hK2 => ?_
  refine C.region ?_
  refine L.val f5 wantedN rfl (by decide) (E.move f5 rfl) fun a6 f6 => ?_
  clear f5 a4
  refine L.val f6 wantedN rfl (by decide) (E.lss f6 rfl rfl) fun a7 f7 => ?_
  clear f6 a6
  refine L.val f7 wantedN rfl (by decide) (E.move f7 rfl) fun a8 f8 => ?_
  clear f7 a7
  first | refine f8.splitD 10 rfl (fun h0 f9 => ?_) (fun h0 f9 => ?_) | refine f8.splitN 10 rfl (fun h0 f9 => ?_) (fun h0 f9 => ?_) | refine f8.splitNB 10 rfl (fun h0 f9 => ?_) (fun h0 f9 => ?_) | refine f8.split 10 rfl (fun h0 f9 => ?_) (fun h0 f9 => ?_)
  · clear f8
    refine L.skip f9 (f9.noF rfl rfl) rfl (by decide) fun a10 f10 => ?_
    clear f9 a8
    refine L.skip f10 (f10.noF rfl rfl) rfl (by decide) fun a11 f11 => ?_
    clear f10 a10
    refine L.skip f11 (f11.noF rfl rfl) rfl (by decide) fun a12 f12 => ?_
    clear f11 a11
    refine L.skip f12 (f12.noF rfl rfl) rfl (by decide) fun a13 f13 => ?_
    clear f12 a12
    refine L.skip f13 (f13.noF rfl rfl) rfl (by decide) fun a14 f14 => ?_
    clear f13 a13
    refine L.skip f14 (f14.noF rfl rfl) rfl (by decide) fun a15 f15 => ?_
    clear f14 a14
    refine L.skip f15 (f15.noF rfl rfl) rfl (by decide) fun a16 f16 => ?_
    clear f15 a15
    refine L.val f16 wantedN rfl (by decide) (E.pickT f16 rfl rfl) fun a17 f17 => ?_
    clear f16 a16
    refine wpList_nil (hK2 _ _ ?_)
    try clear hK2 K2
    have f18 := f17.sub (sub_cons (i := 0) rfl (sub_cons (i := 1) rfl (sub_cons (i := 4) rfl (sub_cons (i := 5) rfl (sub_cons (i := 6) rfl (sub_cons (i := 18) rfl sub_nil))))))
    clear f17
    refine C.condT f18 rfl ?_
    refine wp_seq_k fun K3 hK3 => ?_
    refine C.region ?_
    refine L.val f18 wantedN rfl (by decide) (E.assign f18 rfl) fun a19 f19 => ?_
    clear f18 a17
    refine L.val f19 wantedN rfl (by decide) (E.assign f19 rfl) fun a20 f20 => ?_
    clear f19 a19
    refine L.val f20 wantedN rfl (by decide) (E.assign f20 rfl) fun a21 f21 => ?_
    clear f20 a20
    refine wpList_nil (hK3 _ _ ?_)
    try clear hK3 K3
    have f22 := f21.sub (sub_cons (i := 0) rfl (sub_cons (i := 1) rfl (sub_cons (i := 4) rfl (sub_cons (i := 5) rfl (sub_cons (i := 6) rfl sub_nil)))))
    clear f21
    refine wp_ret ?_
    try simp only [Exit.inBlock, Exit.then]
    refine C.ret3 (P := Try.prog) (fn := Try.f36) f22 rfl rfl rfl rfl ?_
    exact ⟨HK, none, 0, by rw [row_out (by simp; omega)]; rfl, by rw [row_out (by simp; omega)]; exact Fresh.nil _ _ _ _⟩
  · clear f8
    have hi0 := h0
    refine L.val f9 (f9.yes rfl rfl) rfl (by decide) (E.move f9 rfl) fun a10 f10 => ?_
    clear f9 a8
    refine L.val f10 (f10.yes rfl rfl) rfl (by decide) (E.move f10 rfl) fun a11 f11 => ?_
    clear f10 a10
    refine L.val f11 (f11.yes rfl rfl) rfl (by decide) (E.nilCheck f11 rfl) fun a12 f12 => ?_
    clear f11 a11
    refine L.val f12 (f12.yes rfl rfl) rfl (by decide) (E.fieldAddr f12 Try.underlying71 rfl rfl wsz69_m) fun a13 f13 => ?_
    clear f12 a12
    refine L.val f13 (f13.yes rfl rfl) rfl (by decide) (by exact E.load f13 Try.underlying69 rfl rfl ((Bm).cl rfl)) fun a14 f14 => ?_
    clear f13 a13
    refine L.val f14 (f14.yes rfl rfl) rfl (by decide) (E.lenL f14 Try.underlying69 rfl) fun a15 f15 => ?_
    clear f14 a14
    refine L.val f15 (f15.yes rfl rfl) rfl (by decide) (E.geq f15 rfl rfl) fun a16 f16 => ?_
    clear f15 a15
    refine L.val f16 wantedN rfl (by decide) (E.pickF f16 rfl rfl) fun a17 f17 => ?_
    clear f16 a16
    refine wpList_nil (hK2 _ _ ?_)
    try clear hK2 K2
    have f18 := f17.sub (sub_cons (i := 0) rfl (sub_cons (i := 1) rfl (sub_cons (i := 4) rfl (sub_cons (i := 5) rfl (sub_cons (i := 6) rfl (sub_cons (i := 18) rfl sub_nil))))))
    clear f17
    first | refine f18.splitD 18 rfl (fun h1 f19 => ?_) (fun h1 f19 => ?_) | refine f18.splitN 18 rfl (fun h1 f19 => ?_) (fun h1 f19 => ?_) | refine f18.splitNB 18 rfl (fun h1 f19 => ?_) (fun h1 f19 => ?_) | refine f18.split 18 rfl (fun h1 f19 => ?_) (fun h1 f19 => ?_)
    · clear f18
      refine C.condT f19 rfl ?_
      refine wp_seq_k fun K4 hK4 => ?_
      refine C.region ?_
      refine L.val f19 wantedN rfl (by decide) (E.assign f19 rfl) fun a20 f20 => ?_
      clear f19 a17
      refine L.val f20 wantedN rfl (by decide) (E.assign f20 rfl) fun a21 f21 => ?_
      clear f20 a20
      refine L.val f21 wantedN rfl (by decide) (E.assign f21 rfl) fun a22 f22 => ?_
      clear f21 a21
      refine wpList_nil (hK4 _ _ ?_)
      try clear hK4 K4
      have f23 := f22.sub (sub_cons (i := 0) rfl (sub_cons (i := 1) rfl (sub_cons (i := 4) rfl (sub_cons (i := 5) rfl (sub_cons (i := 6) rfl sub_nil)))))
      clear f22
      refine wp_ret ?_
      try simp only [Exit.inBlock, Exit.then]
      refine C.ret3 (P := Try.prog) (fn := Try.f36) f23 rfl rfl rfl rfl ?_
      exact ⟨HK, none, 0, by rw [row_out (by simp; omega)]; rfl, by rw [row_out (by simp; omega)]; exact Fresh.nil _ _ _ _⟩
    · clear f18
      have hin := h1
      refine C.condF f19 rfl ?_
      refine wp_skip (hK1 _ _ ?_)
      try clear hK1 K1
      have f20 := f19.sub (sub_cons (i := 0) rfl (sub_cons (i := 1) rfl (sub_cons (i := 4) rfl (sub_cons (i := 5) rfl (sub_cons (i := 6) rfl sub_nil)))))
      clear f19
      refine wp_seq_k fun K5 hK5 => ?_
      obtain ⟨e, he⟩ : ∃ e, ents[i.toNat]? = some e := ⟨ents[i.toNat]'(by omega), List.getElem?_eq_getElem _⟩
      have hok := M.ok e (List.mem_of_getElem? he)
      have DS := hok.ds
      refine C.region ?_
      refine L.val f20 wantedN rfl (by decide) (E.move f20 rfl) fun a21 f21 => ?_
      clear f20 a17
      refine L.val f21 wantedN rfl (by decide) (E.nilCheck f21 rfl) fun a22 f22 => ?_
      clear f21 a21
      refine L.val f22 wantedN rfl (by decide) (E.fieldAddr f22 Try.underlying71 rfl rfl wsz69_m) fun a23 f23 => ?_
      clear f22 a22
      refine L.val f23 wantedN rfl (by decide) (by exact E.load f23 Try.underlying69 rfl rfl ((Bm).cl rfl)) fun a24 f24 => ?_
      clear f23 a23
      refine L.val f24 wantedN rfl (by decide) (E.move f24 rfl) fun a25 f25 => ?_
      clear f24 a24
      refine L.val f25 wantedN rfl (by decide) (E.indexA f25 (by first | rfl | assumption) Try.underlying69 wsz73_m rfl rfl (by omega) (by omega)) fun a26 f26 => ?_
      clear f25 a25
      refine L.val f26 wantedN rfl (by decide) (by first | exact E.loadB f26 Try.underlying73 rfl wsz73_m rfl (Bm) rfl | exact E.loadR f26 Try.underlying73 rfl wsz73_m rfl (M.row he) rfl) fun a27 f27 => ?_
      clear f26 a26
      refine L.alloc f27 wantedN (by decide) (z := (.agg #[(.int .i64 0), (.int .i64 0), (.slice none 0 0)])) (fun _ => by kernel_rfl) rfl fun a28 w1 g0 N0 f28 => ?_
      have Bg0 := N0.blk
      have kg0 := N0.kept
      have log0 := N0.lo
      have ltg0 := Bg0.lt
      have szw1 := kg0.size
      have frg0 : w.heap.size ≤ g0 := Nat.le_trans HK.size log0
      have nem_g0 : m ≠ g0 := by have := Bm.lt; omega
      replace HK := HK.trans kg0 (by simp)
      replace M := M.kept kg0 (by simp)
      replace Bm := Bm.kept kg0 (by simp)
      replace DS := DS.kept kg0
      clear N0 kg0
      clear f27 a27
      refine L.storeR f28 wantedN wsz73_m rfl rfl rfl Bg0 rfl rfl fun a29 w2 f29 NB2 ks2 => ?_
      have szw2 := ks2.size
      replace HK := HK.trans ks2 (by intro x hx hlt; simp at hx; subst hx; first | (exfalso; omega) | simp)
      replace M := M.kept ks2 (by intro x hx hx2; simp at hx; subst hx; have := hlt _ hx2; omega)
      replace Bm := Bm.kept ks2 (by simp; omega)
      replace DS := DS.keptF ks2 (fun a ha hx => by simp at hx; have := hlt _ (hok.fp a ha).1; omega)
      replace Bg0 := NB2
      clear ks2 f28 a28
      refine wpList_nil (hK5 _ _ ?_)
      try clear hK5 K5
      have f30 := f29.sub (sub_cons (i := 4) rfl (sub_cons (i := 5) rfl (sub_cons (i := 6) rfl (sub_cons (i := 7) rfl sub_nil))))
      clear f29
      refine wp_seq_k fun K6 hK6 => ?_
      refine R.begin (S := fun W => Kept [] w2 W) (by kernel_rfl) (by exact (Kept.refl _ _).drewN 1) ?_
      have hS4 : Kept [] w2 (w2.drewN 1) := (Kept.refl _ _).drewN 1
      obtain ⟨w3, hww3⟩ : ∃ W, W = w2.drewN 1 := ⟨_, rfl⟩
      rw [← hww3] at hS4 ⊢
      clear hww3
      have szw3 := hS4.size
      refine R.take 0 f30 rfl rfl (by decide) (by kernel_rfl) (by kernel_rfl) (by kernel_rfl) (fun _ _ _ _ h => h) wantedN hS4 (fun W hW => (E.fieldAddr f30 Try.underlying73 rfl rfl wsz3_m)) fun a31 f31 => ?_
      clear f30 a29
      refine R.take 1 f31 rfl rfl (by decide) (by kernel_rfl) (by kernel_rfl) (by kernel_rfl) (fun _ _ _ _ h => h) wantedN hS4 (fun W hW => (by first | exact E.load f31 Try.underlying3 rfl rfl ((Bm.kept hW (by simp)).cl rfl) | exact E.load f31 Try.underlying3 rfl rfl ((Bg0.kept hW (by simp)).cl rfl))) fun a32 f32 => ?_
      clear f31 a31
      refine R.take 2 f32 rfl rfl (by decide) (by kernel_rfl) (by kernel_rfl) (by kernel_rfl) (fun _ _ _ _ h => h) wantedN hS4 (fun W hW => (E.fieldAddr f32 Try.underlying73 rfl rfl wsz3_m)) fun a33 f33 => ?_
      clear f32 a32
      refine R.take 3 f33 rfl rfl (by decide) (by kernel_rfl) (by kernel_rfl) (by kernel_rfl) (fun _ _ _ _ h => h) wantedN hS4 (fun W hW => (by first | exact E.load f33 Try.underlying3 rfl rfl ((Bm.kept hW (by simp)).cl rfl) | exact E.load f33 Try.underlying3 rfl rfl ((Bg0.kept hW (by simp)).cl rfl))) fun a34 f34 => ?_
      clear f33 a33
      refine R.take 4 f34 rfl rfl (by decide) (by kernel_rfl) (by kernel_rfl) (by kernel_rfl) (fun _ _ _ _ h => h) wantedN hS4 (fun W hW => (E.fieldAddr f34 Try.underlying73 rfl rfl wsz24_m)) fun a35 f35 => ?_
      clear f34 a34
      refine R.take 5 f35 rfl rfl (by decide) (by kernel_rfl) (by kernel_rfl) (by kernel_rfl) (fun _ _ _ _ h => h) wantedN hS4 (fun W hW => (by first | exact E.load f35 Try.underlying24 rfl rfl ((Bm.kept hW (by simp)).cl rfl) | exact E.load f35 Try.underlying24 rfl rfl ((Bg0.kept hW (by simp)).cl rfl))) fun a36 f36 => ?_
      clear f35 a35
      refine R.call 6 f36 rfl rfl (by decide) (by kernel_rfl) wantedN (run_call Try.call39 (args1 f36 rfl)) (clone_any e.seen _ _ _ (DS.kept hS4) hok.len) ?_
      rintro e w4 ⟨kc4, Ac, cc, rfl, FC⟩
      replace hS4 := hS4.trans kc4 (by simp)
      refine ⟨_, rfl, hS4, fun a37 f37 => ?_⟩
      clear f36 a36
      have szw4 := kc4.size
      clear kc4
      refine R.take 7 f37 rfl rfl (by decide) (by kernel_rfl) (by kernel_rfl) (by kernel_rfl) (fun _ _ _ _ h => h) wantedN hS4 (fun W hW => (E.assign f37 rfl)) fun a38 f38 => ?_
      clear f37 a37
      refine R.take 8 f38 rfl rfl (by decide) (by kernel_rfl) (by kernel_rfl) (by kernel_rfl) (fun _ _ _ _ h => h) wantedN hS4 (fun W hW => (E.assign f38 rfl)) fun a39 f39 => ?_
      clear f38 a38
      refine R.take 9 f39 rfl rfl (by decide) (by kernel_rfl) (by kernel_rfl) (by kernel_rfl) (fun _ _ _ _ h => h) wantedN hS4 (fun W hW => (E.assign f39 rfl)) fun a40 f40 => ?_
      clear f39 a39
      have szw4r := hS4.size
      replace HK := HK.trans hS4 (by simp)
      replace M := M.kept hS4 (by simp)
      replace Bm := Bm.kept hS4 (by simp)
      replace DS := DS.kept hS4
      replace Bg0 := Bg0.kept hS4 (by simp)
      clear hS4
      refine R.done (by kernel_rfl) (hK6 _ _ ?_)
      try clear hK6 K6
      have f41 := f40.sub (sub_cons (i := 4) rfl (sub_cons (i := 5) rfl (sub_cons (i := 6) rfl sub_nil)))
      clear f40
      refine wp_ret ?_
      try simp only [Exit.inBlock, Exit.then]
      refine C.ret3 (P := Try.prog) (fn := Try.f36) f41 rfl rfl rfl rfl ?_
      rw [show RowPost (ents.map Ent.abs) i w = RowPost (ents.map Ent.abs) i w from rfl]
      unfold RowPost
      rw [row_in (by omega) he]
      exact ⟨HK, Ac, cc, rfl, FC.lower (by omega)⟩

end Go.Proofs.Ytahmlcjgcdajbaa
