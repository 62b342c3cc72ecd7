/- Contracts: the document's matrices. -/
import Derived.Test.YtahmlcjgcdajbaaMb
set_option linter.all false
namespace Go.Proofs.Ytahmlcjgcdajbaa
open Go.RowKit Go.Hub
theorem wbl77_0_1_o (x0 : Int) (x1 : Int) : Try.prog.built 77 [(0, .int .i64 x0), (1, .int .i64 x1)] = some #[.int .i64 x0, .int .i64 x1, (.int .i64 0), (.int .i64 0), (.int .i64 0), (.int .i64 0), (.int .i64 0), (.int .i64 0), (.int .i64 0), (.int .i64 0), (.int .i64 0), (.int .i64 0), (.int .i64 0), (.int .i64 0), (.int .i64 0), (.int .i64 0), (.int .i64 0), (.int .i64 0), (.int .i64 0), (.int .i64 0), (.int .i64 0), (.int .i64 0), (.int .i64 0), (.int .i64 0), (.int .i64 0), (.int .i64 0), (.int .i64 0), (.int .i64 0), (.int .i64 0), (.int .i64 0), (.int .i64 0), (.int .i64 0), (.int .i64 0), (.int .i64 0), (.slice none 0 0), (.slice none 0 0), (.slice none 0 0), (.slice none 0 0), (.slice none 0 0), (.slice none 0 0), (.slice none 0 0), (.slice none 0 0), (.slice none 0 0), (.slice none 0 0), (.slice none 0 0), (.slice none 0 0), (.slice none 0 0), (.slice none 0 0), (.slice none 0 0), (.slice none 0 0)] := by kernel_rfl
theorem wsz3_o : (Try.prog.info? 3).map (·.size) = some 1 := by kernel_rfl
theorem wsz24_o : (Try.prog.info? 24).map (·.size) = some 1 := by kernel_rfl
theorem wsz74_o : (Try.prog.info? 74).map (·.size) = some 16 := by kernel_rfl
theorem wsz75_o : (Try.prog.info? 75).map (·.size) = some 16 := by kernel_rfl
theorem wzib32_o : (Try.prog.info? 32).map (fun i => (i.zero, i.size, i.bytes)) = some (some (.agg #[(.int .i64 0), (.int .i64 0), (.int .i64 0)]), 3, 24) := by kernel_rfl

def NewPostR (n me : Int) (w : World) (e : Ending) (w' : World) : Prop := ∃ m fp, e = .returned (.pointer (some ⟨m, 0, none⟩)) ∧ MatR 77 w' m fp (newRows n) (newSelf n me) ∧ Kept [] w w' ∧ ∀ x ∈ fp, w.heap.size ≤ x
def RowPostR (rows : Rows15) (i : Int) (w : World) (e : Ending) (w' : World) : Prop := Kept [] w w' ∧ ∃ A c, e = .returned (.tuple #[.int .i64 (rowOf rows i).1, .int .i64 (rowOf rows i).2.1, .slice A (rowOf rows i).2.2.length c]) ∧ Ds w' A (rowOf rows i).2.2 ∧ (rowOf rows i).2.2.length ≤ 1000000
def HearPostR (rows : Rows15) (me fr ep tm : Int) (l : List Dt) (m : Nat) (fp : List Nat) (w : World) (e : Ending) (w' : World) : Prop :=
  e = .returned (.bool (hearB rows me fr ep tm l)) ∧ Kept fp w w' ∧ ∃ fp', MatR 77 w' m fp' (hearR rows me fr ep tm l) me ∧ ∀ x ∈ fp', x ∈ fp ∨ w.heap.size ≤ x
def HearSetR (rows : Rows15) (me fr ep tm : Int) (l : List Dt) (m : Nat) (fp : List Nat) (w w' : World) : Prop :=
  Kept fp w w' ∧ ∃ fp', MatR 77 w' m fp' (rows.set fr.toNat (ep, tm, l)) me ∧ ∀ x ∈ fp', x ∈ fp ∨ w.heap.size ≤ x
theorem newR_done (n me : Int) {w W : World} {m : Nat} (B : Blk W m 77 (rcells (Min.min (Max.max n 1) 16) (Min.min (Max.max me 0) (Min.min (Max.max n 1) 16 - 1)) (List.replicate 16 ⟨0, 0, [], none, 0⟩)).toArray) (HK : Kept [] w W) (f1 : w.heap.size ≤ m) :
    NewPostR n me w (.returned (.pointer (some ⟨m, 0, none⟩))) W := by
  have hl : (newRows n).length = (Min.min (Max.max n 1) 16).toNat := by simp [newRows]
  refine ⟨m, [m], rfl, ⟨List.replicate 16 ⟨0, 0, [], none, 0⟩, ?_, ?_⟩, HK, fun x hx => by simp at hx; subst hx; exact f1⟩
  · rw [hl, List.take_replicate, List.map_replicate, Nat.min_eq_left (by omega)]
    rfl
  · rw [hl]
    refine ⟨by rw [show (((Min.min (Max.max n 1) 16).toNat : Nat) : Int) = Min.min (Max.max n 1) 16 by omega]; exact B, by simp, by omega, by omega, by unfold newSelf; omega, by unfold newSelf; omega, by simp, fun e he => ?_, fun x hx => ?_⟩
    · obtain ⟨_, rfl⟩ := List.mem_replicate.1 he
      exact ⟨Ds.nil _ _, fun a h => by simp at h, by simp⟩
    · simp at hx
      subst hx
      exact B.lt
theorem row_outR {rows : Rows15} {i : Int} {w W : World} (h : i < 0 ∨ (rows.length : Int) ≤ i) (HK : Kept [] w W) : RowPostR rows i w (.returned (.tuple #[.int .i64 0, .int .i64 0, .slice none 0 0])) W := by
  have e := row_out h
  unfold RowPostR
  rw [e]
  exact ⟨HK, none, 0, rfl, Ds.nil _ _, by simp⟩
theorem row_inR {ents : List Ent} {rows : Rows15} {n : Nat} {i : Int} {e : Ent} {fp excl : List Nat} {w W : World} (hrows : (ents.take n).map Ent.abs = rows) (hn : rows.length = n) (h0 : 0 ≤ i) (h1 : i < n) (he : ents[i.toNat]? = some e) (hok : EntOk w fp excl e) (HK : Kept [] w W) :
    RowPostR rows i w (.returned (.tuple #[.int .i64 e.epoch, .int .i64 e.at_, .slice e.A e.seen.length e.c])) W := by
  have e1 : rowOf rows i = e.abs := by
    unfold rowOf
    rw [if_pos (by omega), ← hrows, List.getElem?_map, List.getElem?_take, if_pos (by omega), he]
    rfl
  unfold RowPostR
  rw [e1]
  exact ⟨HK, e.A, e.c, rfl, hok.ds.kept HK, hok.len⟩
theorem hearB_at {rows : Rows15} {me fr ep tm : Int} {l : List Dt} {e : Int × Int × List Dt} (h0 : 0 ≤ fr) (h1 : fr < rows.length) (he : rows[fr.toNat]? = some e) : hearB rows me fr ep tm l = (!decide (fr = me) && decide (1 ≤ ep) && decide (0 ≤ tm) && rightB l && !later e ep tm) := by
  unfold hearB
  rw [he]
  simp [h0, h1]
theorem hearR_yes {rows : Rows15} {me fr ep tm : Int} {l : List Dt} {m : Nat} {fp : List Nat} {w w' : World} (hb : hearB rows me fr ep tm l = true) (h : HearSetR rows me fr ep tm l m fp w w') : HearPostR rows me fr ep tm l m fp w (.returned (.bool true)) w' := by
  refine ⟨by rw [hb], h.1, ?_⟩
  unfold hearR
  rw [if_pos hb]
  exact h.2
theorem hearR_no {rows : Rows15} {me fr ep tm : Int} {l : List Dt} {m n : Nat} {fp : List Nat} {w w' : World} {ents : List Ent} (hb : hearB rows me fr ep tm l = false) (hrows : (ents.take n).map Ent.abs = rows) (M : MatB 77 w m fp n ents me) (hn : rows.length = n) (HK : Kept [] w w') : HearPostR rows me fr ep tm l m fp w (.returned (.bool false)) w' := by
  refine ⟨by rw [hb], HK.mono (by simp), fp, ?_, fun x hx => .inl hx⟩
  unfold hearR
  rw [if_neg (by rw [hb]; simp)]
  subst hn
  exact ⟨ents, hrows, M.kept HK (by simp)⟩
theorem hearR_set {rows : Rows15} {me fr ep tm : Int} {l : List Dt} {m n : Nat} {fp : List Nat} {w w1 w2 : World} {ents : List Ent} {A : Option Addr} {c : Nat} (hrows : (ents.take n).map Ent.abs = rows) (hn : rows.length = n) (HK : Kept [] w w1) (M : MatB 77 w1 m fp n ents me) (FC : Fresh w w1 32 3 A (0 + l.length) c ([] ++ dcells l)) (h0 : 0 ≤ fr) (h1 : fr < n) (hl : l.length ≤ 1000000)
    (NB : Blk w2 m 77 ((((rcells n me ents).set (0 + 2 + fr.toNat * 1) (.int .i64 ep)).set (0 + 18 + fr.toNat * 1) (.int .i64 tm)).set (0 + 34 + fr.toNat * 1) (.slice A (0 + l.length) c)).toArray) (ks : Kept [m] w1 w2) (hfp : ∀ x ∈ fp, x < w.heap.size) : HearSetR rows me fr ep tm l m fp w w2 := by
  simp only [Nat.zero_add, List.nil_append, Nat.mul_one] at FC NB
  have hn16 := M.most
  have hs := rcells_set n me M.len (i := fr.toNat) (by omega) ⟨ep, tm, l, A, c⟩
  rw [show (((rcells n me ents).set (2 + fr.toNat) (.int .i64 ep)).set (18 + fr.toNat) (.int .i64 tm)).set (34 + fr.toNat) (.slice A l.length c) = rcells n me (ents.set fr.toNat ⟨ep, tm, l, A, c⟩) from hs] at NB
  have hA : ∀ a, A = some a → w.heap.size ≤ a.block := fun a ha => FC.lo a.block (by rw [ha]; rfl)
  have hmlt := hfp m M.mfp
  have hne : ∀ a, A = some a → a.block ≠ m := fun a ha e => by have := hA a ha; omega
  refine ⟨(HK.mono (L' := fp) (by simp)).trans ks (fun x hx _ => by simp at hx; subst hx; exact M.mfp), (A.map (·.block)).toList ++ fp, ⟨ents.set fr.toNat ⟨ep, tm, l, A, c⟩, ?_, ?_⟩, fun x hx => ?_⟩
  · rw [List.length_set, hn, List.take_set, List.map_set, hrows]; rfl
  · rw [List.length_set, hn]
    refine ⟨NB, by simpa using M.len, M.one, M.most, M.s0, M.s1, by simp [M.mfp], fun e he => ?_, fun x hx => ?_⟩
    · rcases List.mem_or_eq_of_mem_set he with h | rfl
      · exact ((M.ok e h).kept2 ks).more (by simp; exact fun x hx => .inr hx)
      · refine ⟨Sl.keptF FC.sl ks fun a ha hx => hne a ha (by simpa using hx), fun a ha => ⟨by simp; exact .inl ⟨a, ha, rfl⟩, by simpa using hne a ha⟩, hl⟩
    · simp at hx
      rcases hx with ⟨a, ha, rfl⟩ | hx
      · have := FC.own.blk a.block ((own_block A l.length c a.block).2 (by rw [ha]; rfl))
        exact Nat.lt_of_lt_of_le this.1 ks.size
      · exact Nat.lt_of_lt_of_le (M.lt x hx) ks.size
  · simp at hx
    rcases hx with ⟨a, ha, rfl⟩ | hx
    · exact .inr (hA a ha)
    · exact .inl hx

set_option maxHeartbeats 1000000 in
theorem newR_any (n me : Int) (w : World) : Calls Try.prog 34 #[.int .i64 n, .int .i64 me] w (NewPostR n me w) := by
  have HK : Kept [] w w := Kept.refl [] w
  refine C.enter Try.func34 rfl Try.ntmps34 rfl ?_
  intro a0 f0
  have f1 : Fr 16 a0 [(0, .int .i64 n), (1, .int .i64 me)] := f0
  clear f0
  refine wp_seq_k fun K0 hK0 => ?_
  refine C.region ?_
  refine L.val f1 wantedN rfl (by decide) (E.assign f1 rfl) fun a2 f2 => ?_
  clear f1 a0
  refine wpList_nil (hK0 _ _ ?_)
  try clear hK0 K0
  have f3 := f2.sub (sub_cons (i := 0) rfl (sub_cons (i := 1) rfl (sub_cons (i := 4) rfl sub_nil)))
  clear f2
  refine wp_seq_k fun K1 hK1 => ?_
  refine C.region ?_
  refine L.val f3 wantedN rfl (by decide) (E.move f3 rfl) fun a4 f4 => ?_
  clear f3 a2
  refine L.val f4 wantedN rfl (by decide) (E.max f4 rfl rfl) fun a5 f5 => ?_
  clear f4 a4
  refine L.val f5 wantedN rfl (by decide) (E.min f5 rfl rfl) fun a6 f6 => ?_
  clear f5 a5
  refine L.val f6 wantedN rfl (by decide) (E.assign f6 rfl) fun a7 f7 => ?_
  clear f6 a6
  refine wpList_nil (hK1 _ _ ?_)
  try clear hK1 K1
  have f8 := f7.sub (sub_cons (i := 0) rfl (sub_cons (i := 1) rfl (sub_cons (i := 4) rfl sub_nil)))
  clear f7
  refine wp_seq_k fun K2 hK2 => ?_
  refine C.region ?_
  refine L.val f8 wantedN rfl (by decide) (E.move f8 rfl) fun a9 f9 => ?_
  clear f8 a7
  refine L.val f9 wantedN rfl (by decide) (E.move f9 rfl) fun a10 f10 => ?_
  clear f9 a9
  refine L.val f10 wantedN rfl (by decide) (E.max f10 rfl rfl) fun a11 f11 => ?_
  clear f10 a10
  refine L.val f11 wantedN rfl (by decide) (E.move f11 rfl) fun a12 f12 => ?_
  clear f11 a11
  refine L.val f12 wantedN rfl (by decide) (E.sub f12 rfl rfl (IntWalk.i64_in _ (by omega))) fun a13 f13 => ?_
  clear f12 a12
  refine L.val f13 wantedN rfl (by decide) (E.min f13 rfl rfl) fun a14 f14 => ?_
  clear f13 a13
  refine L.val f14 wantedN rfl (by decide) (E.build f14 (parts2 f14 rfl rfl) (wbl77_0_1_o _ _)) fun a15 f15 => ?_
  clear f14 a14
  refine L.box f15 wantedN (by decide) rfl rfl fun a16 w1 g0 N0 f16 => ?_
  have Bg0 := N0.blk
  have kg0 := N0.kept
  have log0 := N0.lo
  have ltg0 := Bg0.lt
  have szw1 := kg0.size
  have frg0 : w.heap.size ≤ g0 := Nat.le_trans HK.size log0
  replace HK := HK.trans kg0 (by simp)
  clear N0 kg0
  clear f15 a15
  refine L.val f16 wantedN rfl (by decide) (E.assign f16 rfl) fun a17 f17 => ?_
  clear f16 a16
  refine wpList_nil (hK2 _ _ ?_)
  try clear hK2 K2
  have f18 := f17.sub (sub_cons (i := 4) rfl sub_nil)
  clear f17
  refine wp_ret ?_
  try simp only [Exit.inBlock, Exit.then]
  refine C.ret (P := Try.prog) (fn := Try.f34) f18 rfl rfl ?_
  exact newR_done n me Bg0 HK frg0

set_option maxHeartbeats 1000000 in
theorem rowR_any (m n : Nat) (fp : List Nat) (ents : List Ent) (me i : Int) (rows : Rows15) (hrows : (ents.take n).map Ent.abs = rows) (hn : rows.length = n) (w : World) (M : MatB 77 w m fp n ents me) : Calls Try.prog 37 #[.pointer (some ⟨m, 0, none⟩), .int .i64 i] w (RowPostR rows i w) := by
  have HK : Kept [] w w := Kept.refl [] w
  have hmo := M.most
  have Bm := M.top
  refine C.enter Try.func37 rfl Try.ntmps37 rfl ?_
  intro a0 f0
  have f1 : Fr 35 a0 [(0, .pointer (some ⟨m, 0, none⟩)), (1, .int .i64 i)] := f0
  clear f0
  refine wp_seq_k fun K0 hK0 => ?_
  refine C.region ?_
  refine L.val f1 wantedN rfl (by decide) (E.assign f1 rfl) fun a2 f2 => ?_
  clear f1 a0
  refine L.val f2 wantedN rfl (by decide) (E.assign f2 rfl) fun a3 f3 => ?_
  clear f2 a2
  refine L.val f3 wantedN rfl (by decide) (E.assign f3 rfl) fun a4 f4 => ?_
  clear f3 a3
  refine wpList_nil (hK0 _ _ ?_)
  try clear hK0 K0
  have f5 := f4.sub (sub_cons (i := 0) rfl (sub_cons (i := 1) rfl (sub_cons (i := 4) rfl (sub_cons (i := 5) rfl (sub_cons (i := 6) rfl sub_nil)))))
  clear f4
  refine wp_seq_k fun K1 hK1 => ?_
  refine wp_seq_k fun K2 hK2 => ?_
  refine C.region ?_
  refine L.val f5 wantedN rfl (by decide) (E.move f5 rfl) fun a6 f6 => ?_
  clear f5 a4
  refine L.val f6 wantedN rfl (by decide) (E.lss f6 rfl rfl) fun a7 f7 => ?_
  clear f6 a6
  refine L.val f7 wantedN rfl (by decide) (E.move f7 rfl) fun a8 f8 => ?_
  clear f7 a7
  first | refine f8.splitD 9 rfl (fun h0 f9 => ?_) (fun h0 f9 => ?_) | refine f8.splitN 9 rfl (fun h0 f9 => ?_) (fun h0 f9 => ?_) | refine f8.splitNB 9 rfl (fun h0 f9 => ?_) (fun h0 f9 => ?_) | refine f8.split 9 rfl (fun h0 f9 => ?_) (fun h0 f9 => ?_)
  · clear f8
    refine L.skip f9 (f9.noF rfl rfl) rfl (by decide) fun a10 f10 => ?_
    clear f9 a8
    refine L.skip f10 (f10.noF rfl rfl) rfl (by decide) fun a11 f11 => ?_
    clear f10 a10
    refine L.skip f11 (f11.noF rfl rfl) rfl (by decide) fun a12 f12 => ?_
    clear f11 a11
    refine L.skip f12 (f12.noF rfl rfl) rfl (by decide) fun a13 f13 => ?_
    clear f12 a12
    refine L.skip f13 (f13.noF rfl rfl) rfl (by decide) fun a14 f14 => ?_
    clear f13 a13
    refine L.skip f14 (f14.noF rfl rfl) rfl (by decide) fun a15 f15 => ?_
    clear f14 a14
    refine L.val f15 wantedN rfl (by decide) (E.pickT f15 rfl rfl) fun a16 f16 => ?_
    clear f15 a15
    refine wpList_nil (hK2 _ _ ?_)
    try clear hK2 K2
    have f17 := f16.sub (sub_cons (i := 0) rfl (sub_cons (i := 1) rfl (sub_cons (i := 4) rfl (sub_cons (i := 5) rfl (sub_cons (i := 6) rfl (sub_cons (i := 16) rfl sub_nil))))))
    clear f16
    refine C.condT f17 rfl ?_
    refine wp_seq_k fun K3 hK3 => ?_
    refine C.region ?_
    refine L.val f17 wantedN rfl (by decide) (E.assign f17 rfl) fun a18 f18 => ?_
    clear f17 a16
    refine L.val f18 wantedN rfl (by decide) (E.assign f18 rfl) fun a19 f19 => ?_
    clear f18 a18
    refine L.val f19 wantedN rfl (by decide) (E.assign f19 rfl) fun a20 f20 => ?_
    clear f19 a19
    refine wpList_nil (hK3 _ _ ?_)
    try clear hK3 K3
    have f21 := f20.sub (sub_cons (i := 0) rfl (sub_cons (i := 1) rfl (sub_cons (i := 4) rfl (sub_cons (i := 5) rfl (sub_cons (i := 6) rfl sub_nil)))))
    clear f20
    refine wp_ret ?_
    try simp only [Exit.inBlock, Exit.then]
    refine C.ret3 (P := Try.prog) (fn := Try.f37) f21 rfl rfl rfl rfl ?_
    exact row_outR (by omega) HK
  · clear f8
    refine L.val f9 (f9.yes rfl rfl) rfl (by decide) (E.move f9 rfl) fun a10 f10 => ?_
    clear f9 a8
    refine L.val f10 (f10.yes rfl rfl) rfl (by decide) (E.move f10 rfl) fun a11 f11 => ?_
    clear f10 a10
    refine L.val f11 (f11.yes rfl rfl) rfl (by decide) (E.nilCheck f11 rfl) fun a12 f12 => ?_
    clear f11 a11
    refine L.val f12 (f12.yes rfl rfl) rfl (by decide) (E.fieldAddr f12 Try.underlying77 rfl rfl wsz3_o) fun a13 f13 => ?_
    clear f12 a12
    refine L.val f13 (f13.yes rfl rfl) rfl (by decide) (by first | exact E.load f13 Try.underlying3 rfl rfl ((Bm).cl rfl) | exact E.load f13 Try.underlying3 rfl rfl ((M.kept HK (by simp)).ce he) | exact E.load f13 Try.underlying3 rfl rfl ((M.kept HK (by simp)).ca he) | exact E.load f13 Try.underlying3 rfl rfl ((M.kept HK (by simp)).cs he)) fun a14 f14 => ?_
    clear f13 a13
    refine L.val f14 (f14.yes rfl rfl) rfl (by decide) (E.geq f14 rfl rfl) fun a15 f15 => ?_
    clear f14 a14
    refine L.val f15 wantedN rfl (by decide) (E.pickF f15 rfl rfl) fun a16 f16 => ?_
    clear f15 a15
    refine wpList_nil (hK2 _ _ ?_)
    try clear hK2 K2
    have f17 := f16.sub (sub_cons (i := 0) rfl (sub_cons (i := 1) rfl (sub_cons (i := 4) rfl (sub_cons (i := 5) rfl (sub_cons (i := 6) rfl (sub_cons (i := 16) rfl sub_nil))))))
    clear f16
    first | refine f17.splitD 16 rfl (fun h1 f18 => ?_) (fun h1 f18 => ?_) | refine f17.splitN 16 rfl (fun h1 f18 => ?_) (fun h1 f18 => ?_) | refine f17.splitNB 16 rfl (fun h1 f18 => ?_) (fun h1 f18 => ?_) | refine f17.split 16 rfl (fun h1 f18 => ?_) (fun h1 f18 => ?_)
    · clear f17
      refine C.condT f18 rfl ?_
      refine wp_seq_k fun K4 hK4 => ?_
      refine C.region ?_
      refine L.val f18 wantedN rfl (by decide) (E.assign f18 rfl) fun a19 f19 => ?_
      clear f18 a16
      refine L.val f19 wantedN rfl (by decide) (E.assign f19 rfl) fun a20 f20 => ?_
      clear f19 a19
      refine L.val f20 wantedN rfl (by decide) (E.assign f20 rfl) fun a21 f21 => ?_
      clear f20 a20
      refine wpList_nil (hK4 _ _ ?_)
      try clear hK4 K4
      have f22 := f21.sub (sub_cons (i := 0) rfl (sub_cons (i := 1) rfl (sub_cons (i := 4) rfl (sub_cons (i := 5) rfl (sub_cons (i := 6) rfl sub_nil)))))
      clear f21
      refine wp_ret ?_
      try simp only [Exit.inBlock, Exit.then]
      refine C.ret3 (P := Try.prog) (fn := Try.f37) f22 rfl rfl rfl rfl ?_
      exact row_outR (by omega) HK
    · clear f17
      refine C.condF f18 rfl ?_
      refine wp_skip (hK1 _ _ ?_)
      try clear hK1 K1
      have f19 := f18.sub (sub_cons (i := 0) rfl (sub_cons (i := 1) rfl (sub_cons (i := 4) rfl (sub_cons (i := 5) rfl (sub_cons (i := 6) rfl sub_nil)))))
      clear f18
      refine wp_seq_k fun K5 hK5 => ?_
      obtain ⟨e, he⟩ : ∃ e, ents[i.toNat]? = some e := ⟨ents[i.toNat]'(by have := M.len; have := M.most; omega), List.getElem?_eq_getElem _⟩
      refine R.begin (S := fun W => Kept [] w W) (by kernel_rfl) (by exact (Kept.refl _ _).drewN 1) ?_
      have hS3 : Kept [] w (w.drewN 1) := (Kept.refl _ _).drewN 1
      have hd3 : Kept [] w (w.drewN 1) := (Kept.refl _ _).drewN 1
      obtain ⟨w1, hww1⟩ : ∃ W, W = w.drewN 1 := ⟨_, rfl⟩
      rw [← hww1] at hS3 hd3 ⊢
      clear hww1
      have szw1 := hS3.size
      refine R.take 0 f19 rfl rfl (by decide) (by kernel_rfl) (by kernel_rfl) (by kernel_rfl) (fun _ _ _ _ h => h) wantedN hS3 (fun W hW => (E.move f19 rfl)) fun a20 f20 => ?_
      clear f19 a16
      refine R.take 1 f20 rfl rfl (by decide) (by kernel_rfl) (by kernel_rfl) (by kernel_rfl) (fun _ _ _ _ h => h) wantedN hS3 (fun W hW => (E.move f20 rfl)) fun a21 f21 => ?_
      clear f20 a20
      refine R.take 2 f21 rfl rfl (by decide) (by kernel_rfl) (by kernel_rfl) (by kernel_rfl) (fun _ _ _ _ h => h) wantedN hS3 (fun W hW => (E.nilCheck f21 rfl)) fun a22 f22 => ?_
      clear f21 a21
      refine R.take 3 f22 rfl rfl (by decide) (by kernel_rfl) (by kernel_rfl) (by kernel_rfl) (fun _ _ _ _ h => h) wantedN hS3 (fun W hW => (E.fieldAddr f22 Try.underlying77 rfl rfl wsz74_o)) fun a23 f23 => ?_
      clear f22 a22
      refine R.take 4 f23 rfl rfl (by decide) (by kernel_rfl) (by kernel_rfl) (by kernel_rfl) (fun _ _ _ _ h => h) wantedN hS3 (fun W hW => (E.indexArr f23 Try.underlying74 wsz3_o rfl rfl (by omega) (by omega))) fun a24 f24 => ?_
      clear f23 a23
      refine R.take 5 f24 rfl rfl (by decide) (by kernel_rfl) (by kernel_rfl) (by kernel_rfl) (fun _ _ _ _ h => h) wantedN hS3 (fun W hW => (by first | exact E.load f24 Try.underlying3 rfl rfl ((Bm.kept hW (by simp)).cl rfl) | exact E.load f24 Try.underlying3 rfl rfl ((M.kept (HK.trans hW (by simp)) (by simp)).ce he) | exact E.load f24 Try.underlying3 rfl rfl ((M.kept (HK.trans hW (by simp)) (by simp)).ca he) | exact E.load f24 Try.underlying3 rfl rfl ((M.kept (HK.trans hW (by simp)) (by simp)).cs he))) fun a25 f25 => ?_
      clear f24 a24
      refine R.take 6 f25 rfl rfl (by decide) (by kernel_rfl) (by kernel_rfl) (by kernel_rfl) (fun _ _ _ _ h => h) wantedN hS3 (fun W hW => (E.move f25 rfl)) fun a26 f26 => ?_
      clear f25 a25
      refine R.take 7 f26 rfl rfl (by decide) (by kernel_rfl) (by kernel_rfl) (by kernel_rfl) (fun _ _ _ _ h => h) wantedN hS3 (fun W hW => (E.move f26 rfl)) fun a27 f27 => ?_
      clear f26 a26
      refine R.take 8 f27 rfl rfl (by decide) (by kernel_rfl) (by kernel_rfl) (by kernel_rfl) (fun _ _ _ _ h => h) wantedN hS3 (fun W hW => (E.nilCheck f27 rfl)) fun a28 f28 => ?_
      clear f27 a27
      refine R.take 9 f28 rfl rfl (by decide) (by kernel_rfl) (by kernel_rfl) (by kernel_rfl) (fun _ _ _ _ h => h) wantedN hS3 (fun W hW => (E.fieldAddr f28 Try.underlying77 rfl rfl wsz74_o)) fun a29 f29 => ?_
      clear f28 a28
      refine R.take 10 f29 rfl rfl (by decide) (by kernel_rfl) (by kernel_rfl) (by kernel_rfl) (fun _ _ _ _ h => h) wantedN hS3 (fun W hW => (E.indexArr f29 Try.underlying74 wsz3_o rfl rfl (by omega) (by omega))) fun a30 f30 => ?_
      clear f29 a29
      refine R.take 11 f30 rfl rfl (by decide) (by kernel_rfl) (by kernel_rfl) (by kernel_rfl) (fun _ _ _ _ h => h) wantedN hS3 (fun W hW => (by first | exact E.load f30 Try.underlying3 rfl rfl ((Bm.kept hW (by simp)).cl rfl) | exact E.load f30 Try.underlying3 rfl rfl ((M.kept (HK.trans hW (by simp)) (by simp)).ce he) | exact E.load f30 Try.underlying3 rfl rfl ((M.kept (HK.trans hW (by simp)) (by simp)).ca he) | exact E.load f30 Try.underlying3 rfl rfl ((M.kept (HK.trans hW (by simp)) (by simp)).cs he))) fun a31 f31 => ?_
      clear f30 a30
      refine R.take 12 f31 rfl rfl (by decide) (by kernel_rfl) (by kernel_rfl) (by kernel_rfl) (fun _ _ _ _ h => h) wantedN hS3 (fun W hW => (E.move f31 rfl)) fun a32 f32 => ?_
      clear f31 a31
      refine R.take 13 f32 rfl rfl (by decide) (by kernel_rfl) (by kernel_rfl) (by kernel_rfl) (fun _ _ _ _ h => h) wantedN hS3 (fun W hW => (E.move f32 rfl)) fun a33 f33 => ?_
      clear f32 a32
      refine R.take 14 f33 rfl rfl (by decide) (by kernel_rfl) (by kernel_rfl) (by kernel_rfl) (fun _ _ _ _ h => h) wantedN hS3 (fun W hW => (E.nilCheck f33 rfl)) fun a34 f34 => ?_
      clear f33 a33
      refine R.take 15 f34 rfl rfl (by decide) (by kernel_rfl) (by kernel_rfl) (by kernel_rfl) (fun _ _ _ _ h => h) wantedN hS3 (fun W hW => (E.fieldAddr f34 Try.underlying77 rfl rfl wsz75_o)) fun a35 f35 => ?_
      clear f34 a34
      refine R.take 16 f35 rfl rfl (by decide) (by kernel_rfl) (by kernel_rfl) (by kernel_rfl) (fun _ _ _ _ h => h) wantedN hS3 (fun W hW => (E.indexArr f35 Try.underlying75 wsz24_o rfl rfl (by omega) (by omega))) fun a36 f36 => ?_
      clear f35 a35
      refine R.take 17 f36 rfl rfl (by decide) (by kernel_rfl) (by kernel_rfl) (by kernel_rfl) (fun _ _ _ _ h => h) wantedN hS3 (fun W hW => (by first | exact E.load f36 Try.underlying24 rfl rfl ((Bm.kept hW (by simp)).cl rfl) | exact E.load f36 Try.underlying24 rfl rfl ((M.kept (HK.trans hW (by simp)) (by simp)).ce he) | exact E.load f36 Try.underlying24 rfl rfl ((M.kept (HK.trans hW (by simp)) (by simp)).ca he) | exact E.load f36 Try.underlying24 rfl rfl ((M.kept (HK.trans hW (by simp)) (by simp)).cs he))) fun a37 f37 => ?_
      clear f36 a36
      refine R.take 18 f37 rfl rfl (by decide) (by kernel_rfl) (by kernel_rfl) (by kernel_rfl) (fun _ _ _ _ h => h) wantedN hS3 (fun W hW => (E.assign f37 rfl)) fun a38 f38 => ?_
      clear f37 a37
      refine R.take 19 f38 rfl rfl (by decide) (by kernel_rfl) (by kernel_rfl) (by kernel_rfl) (fun _ _ _ _ h => h) wantedN hS3 (fun W hW => (E.assign f38 rfl)) fun a39 f39 => ?_
      clear f38 a38
      refine R.take 20 f39 rfl rfl (by decide) (by kernel_rfl) (by kernel_rfl) (by kernel_rfl) (fun _ _ _ _ h => h) wantedN hS3 (fun W hW => (E.assign f39 rfl)) fun a40 f40 => ?_
      clear f39 a39
      have szw1r := hS3.size
      replace HK := HK.trans hS3 (by simp)
      replace Bm := Bm.kept hS3 (by simp)
      clear hS3
      refine R.done (by kernel_rfl) (hK5 _ _ ?_)
      try clear hK5 K5
      have f41 := f40.sub (sub_cons (i := 4) rfl (sub_cons (i := 5) rfl (sub_cons (i := 6) rfl sub_nil)))
      clear f40
      refine wp_ret ?_
      try simp only [Exit.inBlock, Exit.then]
      refine C.ret3 (P := Try.prog) (fn := Try.f37) f41 rfl rfl rfl rfl ?_
      exact row_inR hrows hn (by omega) (by omega) he (M.ok e (List.mem_of_getElem? he)) HK

set_option maxRecDepth 100000 in
set_option maxHeartbeats 1000000 in
theorem hearR_any (m n : Nat) (fp : List Nat) (ents : List Ent) (me fr ep tm : Int) (l : List Dt) (A : Option Addr) (c : Nat) (rows : Rows15) (hrows : (ents.take n).map Ent.abs = rows) (hn : rows.length = n) (w : World) (M : MatB 77 w m fp n ents me) (A1 : Ds w A l) (hm : l.length ≤ 1000000) : Calls Try.prog 35 #[.pointer (some ⟨m, 0, none⟩), .int .i64 fr, .int .i64 ep, .int .i64 tm, .slice A l.length c] w (HearPostR rows me fr ep tm l m fp w) := by
  have HK : Kept [] w w := Kept.refl [] w
  have hmo := M.most
  have Bm := M.top
  refine C.enter Try.func35 rfl Try.ntmps35 rfl ?_
  intro a0 f0
  have f1 : Fr 91 a0 [(0, .pointer (some ⟨m, 0, none⟩)), (1, .int .i64 fr), (2, .int .i64 ep), (3, .int .i64 tm), (4, .slice A l.length c)] := f0
  clear f0
  refine wp_seq_k fun K0 hK0 => ?_
  refine C.region ?_
  refine L.val f1 wantedN rfl (by decide) (E.assign f1 rfl) fun a2 f2 => ?_
  clear f1 a0
  refine wpList_nil (hK0 _ _ ?_)
  try clear hK0 K0
  have f3 := f2.sub (sub_cons (i := 0) rfl (sub_cons (i := 1) rfl (sub_cons (i := 2) rfl (sub_cons (i := 3) rfl (sub_cons (i := 4) rfl (sub_cons (i := 10) rfl sub_nil))))))
  clear f2
  refine wp_seq_k fun K1 hK1 => ?_
  refine wp_seq_k fun K2 hK2 => ?_
  refine C.region ?_
  refine L.val f3 wantedN rfl (by decide) (E.move f3 rfl) fun a4 f4 => ?_
  clear f3 a2
  refine L.val f4 wantedN rfl (by decide) (E.lss f4 rfl rfl) fun a5 f5 => ?_
  clear f4 a4
  refine L.val f5 wantedN rfl (by decide) (E.move f5 rfl) fun a6 f6 => ?_
  clear f5 a5
  first | refine f6.splitD 13 rfl (fun h0 f7 => ?_) (fun h0 f7 => ?_) | refine f6.splitN 13 rfl (fun h0 f7 => ?_) (fun h0 f7 => ?_) | refine f6.splitNB 13 rfl (fun h0 f7 => ?_) (fun h0 f7 => ?_) | refine f6.split 13 rfl (fun h0 f7 => ?_) (fun h0 f7 => ?_)
  · clear f6
    refine L.skip f7 (f7.noF rfl rfl) rfl (by decide) fun a8 f8 => ?_
    clear f7 a6
    refine L.skip f8 (f8.noF rfl rfl) rfl (by decide) fun a9 f9 => ?_
    clear f8 a8
    refine L.skip f9 (f9.noF rfl rfl) rfl (by decide) fun a10 f10 => ?_
    clear f9 a9
    refine L.skip f10 (f10.noF rfl rfl) rfl (by decide) fun a11 f11 => ?_
    clear f10 a10
    refine L.skip f11 (f11.noF rfl rfl) rfl (by decide) fun a12 f12 => ?_
    clear f11 a11
    refine L.skip f12 (f12.noF rfl rfl) rfl (by decide) fun a13 f13 => ?_
    clear f12 a12
    refine L.val f13 wantedN rfl (by decide) (E.pickT f13 rfl rfl) fun a14 f14 => ?_
    clear f13 a13
    refine L.val f14 wantedN rfl (by decide) (E.move f14 rfl) fun a15 f15 => ?_
    clear f14 a14
    refine L.skip f15 (f15.noF rfl rfl) rfl (by decide) fun a16 f16 => ?_
    clear f15 a15
    refine L.skip f16 (f16.noF rfl rfl) rfl (by decide) fun a17 f17 => ?_
    clear f16 a16
    refine L.skip f17 (f17.noF rfl rfl) rfl (by decide) fun a18 f18 => ?_
    clear f17 a17
    refine L.skip f18 (f18.noF rfl rfl) rfl (by decide) fun a19 f19 => ?_
    clear f18 a18
    refine L.skip f19 (f19.noF rfl rfl) rfl (by decide) fun a20 f20 => ?_
    clear f19 a19
    refine L.skip f20 (f20.noF rfl rfl) rfl (by decide) fun a21 f21 => ?_
    clear f20 a20
    refine L.val f21 wantedN rfl (by decide) (E.pickT f21 rfl rfl) fun a22 f22 => ?_
    clear f21 a21
    refine L.val f22 wantedN rfl (by decide) (E.move f22 rfl) fun a23 f23 => ?_
    clear f22 a22
    refine L.skip f23 (f23.noF rfl rfl) rfl (by decide) fun a24 f24 => ?_
    clear f23 a23
    refine L.skip f24 (f24.noF rfl rfl) rfl (by decide) fun a25 f25 => ?_
    clear f24 a24
    refine L.val f25 wantedN rfl (by decide) (E.pickT f25 rfl rfl) fun a26 f26 => ?_
    clear f25 a25
    refine L.val f26 wantedN rfl (by decide) (E.move f26 rfl) fun a27 f27 => ?_
    clear f26 a26
    refine L.skip f27 (f27.noF rfl rfl) rfl (by decide) fun a28 f28 => ?_
    clear f27 a27
    refine L.skip f28 (f28.noF rfl rfl) rfl (by decide) fun a29 f29 => ?_
    clear f28 a28
    refine L.val f29 wantedN rfl (by decide) (E.pickT f29 rfl rfl) fun a30 f30 => ?_
    clear f29 a29
    refine L.val f30 wantedN rfl (by decide) (E.move f30 rfl) fun a31 f31 => ?_
    clear f30 a30
    refine L.skip f31 (f31.noF rfl rfl) rfl (by decide) fun a32 f32 => ?_
    clear f31 a31
    refine L.skip f32 (f32.noF rfl rfl) rfl (by decide) fun a33 f33 => ?_
    clear f32 a32
    refine L.skip f33 (f33.noF rfl rfl) rfl (by decide) fun a34 f34 => ?_
    clear f33 a33
    refine L.val f34 wantedN rfl (by decide) (E.pickT f34 rfl rfl) fun a35 f35 => ?_
    clear f34 a34
    refine L.val f35 wantedN rfl (by decide) (E.move f35 rfl) fun a36 f36 => ?_
    clear f35 a35
    refine L.skip f36 (f36.noF rfl rfl) rfl (by decide) fun a37 f37 => ?_
    clear f36 a36
    refine L.skip f37 (f37.noF rfl rfl) rfl (by decide) fun a38 f38 => ?_
    clear f37 a37
    refine L.skip f38 (f38.noF rfl rfl) rfl (by decide) fun a39 f39 => ?_
    clear f38 a38
    refine L.skip f39 (f39.noF rfl rfl) rfl (by decide) fun a40 f40 => ?_
    clear f39 a39
    refine L.skip f40 (f40.noF rfl rfl) rfl (by decide) fun a41 f41 => ?_
    clear f40 a40
    refine L.skip f41 (f41.noF rfl rfl) rfl (by decide) fun a42 f42 => ?_
    clear f41 a41
    refine L.skip f42 (f42.noF rfl rfl) rfl (by decide) fun a43 f43 => ?_
    clear f42 a42
    refine L.skip f43 (f43.noF rfl rfl) rfl (by decide) fun a44 f44 => ?_
    clear f43 a43
    refine L.val f44 wantedN rfl (by decide) (E.pickT f44 rfl rfl) fun a45 f45 => ?_
    clear f44 a44
    refine L.val f45 wantedN rfl (by decide) (E.move f45 rfl) fun a46 f46 => ?_
    clear f45 a45
    refine L.skip f46 (f46.noF rfl rfl) rfl (by decide) fun a47 f47 => ?_
    clear f46 a46
    refine L.skip f47 (f47.noF rfl rfl) rfl (by decide) fun a48 f48 => ?_
    clear f47 a47
    refine L.skip f48 (f48.noF rfl rfl) rfl (by decide) fun a49 f49 => ?_
    clear f48 a48
    refine L.skip f49 (f49.noF rfl rfl) rfl (by decide) fun a50 f50 => ?_
    clear f49 a49
    refine L.skip f50 (f50.noF rfl rfl) rfl (by decide) fun a51 f51 => ?_
    clear f50 a50
    refine L.skip f51 (f51.noF rfl rfl) rfl (by decide) fun a52 f52 => ?_
    clear f51 a51
    refine L.skip f52 (f52.noF rfl rfl) rfl (by decide) fun a53 f53 => ?_
    clear f52 a52
    refine L.skip f53 (f53.noF rfl rfl) rfl (by decide) fun a54 f54 => ?_
    clear f53 a53
    refine L.skip f54 (f54.noF rfl rfl) rfl (by decide) fun a55 f55 => ?_
    clear f54 a54
    refine L.skip f55 (f55.noU rfl rfl) rfl (by decide) fun a56 f56 => ?_
    clear f55 a55
    refine L.skip f56 (f56.noU rfl rfl) rfl (by decide) fun a57 f57 => ?_
    clear f56 a56
    refine L.skip f57 (f57.noU rfl rfl) rfl (by decide) fun a58 f58 => ?_
    clear f57 a57
    refine L.skip f58 (f58.noU rfl rfl) rfl (by decide) fun a59 f59 => ?_
    clear f58 a58
    refine L.skip f59 (f59.noU rfl rfl) rfl (by decide) fun a60 f60 => ?_
    clear f59 a59
    refine L.skip f60 (f60.noU rfl rfl) rfl (by decide) fun a61 f61 => ?_
    clear f60 a60
    refine L.skip f61 (f61.noU rfl rfl) rfl (by decide) fun a62 f62 => ?_
    clear f61 a61
    refine L.skip f62 (f62.noU rfl rfl) rfl (by decide) fun a63 f63 => ?_
    clear f62 a62
    refine L.skip f63 (f63.noF rfl rfl) rfl (by decide) fun a64 f64 => ?_
    clear f63 a63
    refine L.val f64 wantedN rfl (by decide) (E.pickT f64 rfl rfl) fun a65 f65 => ?_
    clear f64 a64
    refine wpList_nil (hK2 _ _ ?_)
    try clear hK2 K2
    have f66 := f65.sub (sub_cons (i := 0) rfl (sub_cons (i := 1) rfl (sub_cons (i := 2) rfl (sub_cons (i := 3) rfl (sub_cons (i := 4) rfl (sub_cons (i := 10) rfl (sub_cons (i := 71) rfl sub_nil)))))))
    clear f65
    refine C.condT f66 rfl ?_
    refine wp_seq_k fun K3 hK3 => ?_
    refine C.region ?_
    refine L.val f66 wantedN rfl (by decide) (E.assign f66 rfl) fun a67 f67 => ?_
    clear f66 a65
    refine wpList_nil (hK3 _ _ ?_)
    try clear hK3 K3
    have f68 := f67.sub (sub_cons (i := 0) rfl (sub_cons (i := 1) rfl (sub_cons (i := 2) rfl (sub_cons (i := 3) rfl (sub_cons (i := 4) rfl (sub_cons (i := 10) rfl sub_nil))))))
    clear f67
    refine wp_ret ?_
    try simp only [Exit.inBlock, Exit.then]
    refine C.ret (P := Try.prog) (fn := Try.f35) f68 rfl rfl ?_
    have hb : hearB rows me fr ep tm l = false := by simp [hearB, *] <;> omega
    exact hearR_no hb hrows M hn HK
  · clear f6
    refine L.val f7 (f7.yes rfl rfl) rfl (by decide) (E.move f7 rfl) fun a8 f8 => ?_
    clear f7 a6
    refine L.val f8 (f8.yes rfl rfl) rfl (by decide) (E.move f8 rfl) fun a9 f9 => ?_
    clear f8 a8
    refine L.val f9 (f9.yes rfl rfl) rfl (by decide) (E.nilCheck f9 rfl) fun a10 f10 => ?_
    clear f9 a9
    refine L.val f10 (f10.yes rfl rfl) rfl (by decide) (E.fieldAddr f10 Try.underlying77 rfl rfl wsz3_o) fun a11 f11 => ?_
    clear f10 a10
    refine L.val f11 (f11.yes rfl rfl) rfl (by decide) (by first | exact E.load f11 Try.underlying3 rfl rfl ((Bm).cl rfl) | exact E.load f11 Try.underlying3 rfl rfl ((M.kept HK (by simp)).ce he) | exact E.load f11 Try.underlying3 rfl rfl ((M.kept HK (by simp)).ca he) | exact E.load f11 Try.underlying3 rfl rfl ((M.kept HK (by simp)).cs he)) fun a12 f12 => ?_
    clear f11 a11
    refine L.val f12 (f12.yes rfl rfl) rfl (by decide) (E.geq f12 rfl rfl) fun a13 f13 => ?_
    clear f12 a12
    refine L.val f13 wantedN rfl (by decide) (E.pickF f13 rfl rfl) fun a14 f14 => ?_
    clear f13 a13
    refine L.val f14 wantedN rfl (by decide) (E.move f14 rfl) fun a15 f15 => ?_
    clear f14 a14
    first | refine f15.splitD 21 rfl (fun h1 f16 => ?_) (fun h1 f16 => ?_) | refine f15.splitN 21 rfl (fun h1 f16 => ?_) (fun h1 f16 => ?_) | refine f15.splitNB 21 rfl (fun h1 f16 => ?_) (fun h1 f16 => ?_) | refine f15.split 21 rfl (fun h1 f16 => ?_) (fun h1 f16 => ?_)
    · clear f15
      refine L.skip f16 (f16.noF rfl rfl) rfl (by decide) fun a17 f17 => ?_
      clear f16 a15
      refine L.skip f17 (f17.noF rfl rfl) rfl (by decide) fun a18 f18 => ?_
      clear f17 a17
      refine L.skip f18 (f18.noF rfl rfl) rfl (by decide) fun a19 f19 => ?_
      clear f18 a18
      refine L.skip f19 (f19.noF rfl rfl) rfl (by decide) fun a20 f20 => ?_
      clear f19 a19
      refine L.skip f20 (f20.noF rfl rfl) rfl (by decide) fun a21 f21 => ?_
      clear f20 a20
      refine L.skip f21 (f21.noF rfl rfl) rfl (by decide) fun a22 f22 => ?_
      clear f21 a21
      refine L.val f22 wantedN rfl (by decide) (E.pickT f22 rfl rfl) fun a23 f23 => ?_
      clear f22 a22
      refine L.val f23 wantedN rfl (by decide) (E.move f23 rfl) fun a24 f24 => ?_
      clear f23 a23
      refine L.skip f24 (f24.noF rfl rfl) rfl (by decide) fun a25 f25 => ?_
      clear f24 a24
      refine L.skip f25 (f25.noF rfl rfl) rfl (by decide) fun a26 f26 => ?_
      clear f25 a25
      refine L.val f26 wantedN rfl (by decide) (E.pickT f26 rfl rfl) fun a27 f27 => ?_
      clear f26 a26
      refine L.val f27 wantedN rfl (by decide) (E.move f27 rfl) fun a28 f28 => ?_
      clear f27 a27
      refine L.skip f28 (f28.noF rfl rfl) rfl (by decide) fun a29 f29 => ?_
      clear f28 a28
      refine L.skip f29 (f29.noF rfl rfl) rfl (by decide) fun a30 f30 => ?_
      clear f29 a29
      refine L.val f30 wantedN rfl (by decide) (E.pickT f30 rfl rfl) fun a31 f31 => ?_
      clear f30 a30
      refine L.val f31 wantedN rfl (by decide) (E.move f31 rfl) fun a32 f32 => ?_
      clear f31 a31
      refine L.skip f32 (f32.noF rfl rfl) rfl (by decide) fun a33 f33 => ?_
      clear f32 a32
      refine L.skip f33 (f33.noF rfl rfl) rfl (by decide) fun a34 f34 => ?_
      clear f33 a33
      refine L.skip f34 (f34.noF rfl rfl) rfl (by decide) fun a35 f35 => ?_
      clear f34 a34
      refine L.val f35 wantedN rfl (by decide) (E.pickT f35 rfl rfl) fun a36 f36 => ?_
      clear f35 a35
      refine L.val f36 wantedN rfl (by decide) (E.move f36 rfl) fun a37 f37 => ?_
      clear f36 a36
      refine L.skip f37 (f37.noF rfl rfl) rfl (by decide) fun a38 f38 => ?_
      clear f37 a37
      refine L.skip f38 (f38.noF rfl rfl) rfl (by decide) fun a39 f39 => ?_
      clear f38 a38
      refine L.skip f39 (f39.noF rfl rfl) rfl (by decide) fun a40 f40 => ?_
      clear f39 a39
      refine L.skip f40 (f40.noF rfl rfl) rfl (by decide) fun a41 f41 => ?_
      clear f40 a40
      refine L.skip f41 (f41.noF rfl rfl) rfl (by decide) fun a42 f42 => ?_
      clear f41 a41
      refine L.skip f42 (f42.noF rfl rfl) rfl (by decide) fun a43 f43 => ?_
      clear f42 a42
      refine L.skip f43 (f43.noF rfl rfl) rfl (by decide) fun a44 f44 => ?_
      clear f43 a43
      refine L.skip f44 (f44.noF rfl rfl) rfl (by decide) fun a45 f45 => ?_
      clear f44 a44
      refine L.val f45 wantedN rfl (by decide) (E.pickT f45 rfl rfl) fun a46 f46 => ?_
      clear f45 a45
      refine L.val f46 wantedN rfl (by decide) (E.move f46 rfl) fun a47 f47 => ?_
      clear f46 a46
      refine L.skip f47 (f47.noF rfl rfl) rfl (by decide) fun a48 f48 => ?_
      clear f47 a47
      refine L.skip f48 (f48.noF rfl rfl) rfl (by decide) fun a49 f49 => ?_
      clear f48 a48
      refine L.skip f49 (f49.noF rfl rfl) rfl (by decide) fun a50 f50 => ?_
      clear f49 a49
      refine L.skip f50 (f50.noF rfl rfl) rfl (by decide) fun a51 f51 => ?_
      clear f50 a50
      refine L.skip f51 (f51.noF rfl rfl) rfl (by decide) fun a52 f52 => ?_
      clear f51 a51
      refine L.skip f52 (f52.noF rfl rfl) rfl (by decide) fun a53 f53 => ?_
      clear f52 a52
      refine L.skip f53 (f53.noF rfl rfl) rfl (by decide) fun a54 f54 => ?_
      clear f53 a53
      refine L.skip f54 (f54.noF rfl rfl) rfl (by decide) fun a55 f55 => ?_
      clear f54 a54
      refine L.skip f55 (f55.noF rfl rfl) rfl (by decide) fun a56 f56 => ?_
      clear f55 a55
      refine L.skip f56 (f56.noU rfl rfl) rfl (by decide) fun a57 f57 => ?_
      clear f56 a56
      refine L.skip f57 (f57.noU rfl rfl) rfl (by decide) fun a58 f58 => ?_
      clear f57 a57
      refine L.skip f58 (f58.noU rfl rfl) rfl (by decide) fun a59 f59 => ?_
      clear f58 a58
      refine L.skip f59 (f59.noU rfl rfl) rfl (by decide) fun a60 f60 => ?_
      clear f59 a59
      refine L.skip f60 (f60.noU rfl rfl) rfl (by decide) fun a61 f61 => ?_
      clear f60 a60
      refine L.skip f61 (f61.noU rfl rfl) rfl (by decide) fun a62 f62 => ?_
      clear f61 a61
      refine L.skip f62 (f62.noU rfl rfl) rfl (by decide) fun a63 f63 => ?_
      clear f62 a62
      refine L.skip f63 (f63.noU rfl rfl) rfl (by decide) fun a64 f64 => ?_
      clear f63 a63
      refine L.skip f64 (f64.noF rfl rfl) rfl (by decide) fun a65 f65 => ?_
      clear f64 a64
      refine L.val f65 wantedN rfl (by decide) (E.pickT f65 rfl rfl) fun a66 f66 => ?_
      clear f65 a65
      refine wpList_nil (hK2 _ _ ?_)
      try clear hK2 K2
      have f67 := f66.sub (sub_cons (i := 0) rfl (sub_cons (i := 1) rfl (sub_cons (i := 2) rfl (sub_cons (i := 3) rfl (sub_cons (i := 4) rfl (sub_cons (i := 10) rfl (sub_cons (i := 71) rfl sub_nil)))))))
      clear f66
      refine C.condT f67 rfl ?_
      refine wp_seq_k fun K4 hK4 => ?_
      refine C.region ?_
      refine L.val f67 wantedN rfl (by decide) (E.assign f67 rfl) fun a68 f68 => ?_
      clear f67 a66
      refine wpList_nil (hK4 _ _ ?_)
      try clear hK4 K4
      have f69 := f68.sub (sub_cons (i := 0) rfl (sub_cons (i := 1) rfl (sub_cons (i := 2) rfl (sub_cons (i := 3) rfl (sub_cons (i := 4) rfl (sub_cons (i := 10) rfl sub_nil))))))
      clear f68
      refine wp_ret ?_
      try simp only [Exit.inBlock, Exit.then]
      refine C.ret (P := Try.prog) (fn := Try.f35) f69 rfl rfl ?_
      have hb : hearB rows me fr ep tm l = false := by simp [hearB, *] <;> omega
      exact hearR_no hb hrows M hn HK
    · clear f15
      refine L.val f16 (f16.yes rfl rfl) rfl (by decide) (E.move f16 rfl) fun a17 f17 => ?_
      clear f16 a15
      refine L.val f17 (f17.yes rfl rfl) rfl (by decide) (E.move f17 rfl) fun a18 f18 => ?_
      clear f17 a17
      refine L.val f18 (f18.yes rfl rfl) rfl (by decide) (E.nilCheck f18 rfl) fun a19 f19 => ?_
      clear f18 a18
      refine L.val f19 (f19.yes rfl rfl) rfl (by decide) (E.fieldAddr f19 Try.underlying77 rfl rfl wsz3_o) fun a20 f20 => ?_
      clear f19 a19
      refine L.val f20 (f20.yes rfl rfl) rfl (by decide) (by first | exact E.load f20 Try.underlying3 rfl rfl ((Bm).cl rfl) | exact E.load f20 Try.underlying3 rfl rfl ((M.kept HK (by simp)).ce he) | exact E.load f20 Try.underlying3 rfl rfl ((M.kept HK (by simp)).ca he) | exact E.load f20 Try.underlying3 rfl rfl ((M.kept HK (by simp)).cs he)) fun a21 f21 => ?_
      clear f20 a20
      refine L.val f21 (f21.yes rfl rfl) rfl (by decide) (E.eql f21 rfl rfl) fun a22 f22 => ?_
      clear f21 a21
      refine L.val f22 wantedN rfl (by decide) (E.pickF f22 rfl rfl) fun a23 f23 => ?_
      clear f22 a22
      refine L.val f23 wantedN rfl (by decide) (E.move f23 rfl) fun a24 f24 => ?_
      clear f23 a23
      first | refine f24.splitD 29 rfl (fun h2 f25 => ?_) (fun h2 f25 => ?_) | refine f24.splitN 29 rfl (fun h2 f25 => ?_) (fun h2 f25 => ?_) | refine f24.splitNB 29 rfl (fun h2 f25 => ?_) (fun h2 f25 => ?_) | refine f24.split 29 rfl (fun h2 f25 => ?_) (fun h2 f25 => ?_)
      · clear f24
        refine L.skip f25 (f25.noF rfl rfl) rfl (by decide) fun a26 f26 => ?_
        clear f25 a24
        refine L.skip f26 (f26.noF rfl rfl) rfl (by decide) fun a27 f27 => ?_
        clear f26 a26
        refine L.val f27 wantedN rfl (by decide) (E.pickT f27 rfl rfl) fun a28 f28 => ?_
        clear f27 a27
        refine L.val f28 wantedN rfl (by decide) (E.move f28 rfl) fun a29 f29 => ?_
        clear f28 a28
        refine L.skip f29 (f29.noF rfl rfl) rfl (by decide) fun a30 f30 => ?_
        clear f29 a29
        refine L.skip f30 (f30.noF rfl rfl) rfl (by decide) fun a31 f31 => ?_
        clear f30 a30
        refine L.val f31 wantedN rfl (by decide) (E.pickT f31 rfl rfl) fun a32 f32 => ?_
        clear f31 a31
        refine L.val f32 wantedN rfl (by decide) (E.move f32 rfl) fun a33 f33 => ?_
        clear f32 a32
        refine L.skip f33 (f33.noF rfl rfl) rfl (by decide) fun a34 f34 => ?_
        clear f33 a33
        refine L.skip f34 (f34.noF rfl rfl) rfl (by decide) fun a35 f35 => ?_
        clear f34 a34
        refine L.skip f35 (f35.noF rfl rfl) rfl (by decide) fun a36 f36 => ?_
        clear f35 a35
        refine L.val f36 wantedN rfl (by decide) (E.pickT f36 rfl rfl) fun a37 f37 => ?_
        clear f36 a36
        refine L.val f37 wantedN rfl (by decide) (E.move f37 rfl) fun a38 f38 => ?_
        clear f37 a37
        refine L.skip f38 (f38.noF rfl rfl) rfl (by decide) fun a39 f39 => ?_
        clear f38 a38
        refine L.skip f39 (f39.noF rfl rfl) rfl (by decide) fun a40 f40 => ?_
        clear f39 a39
        refine L.skip f40 (f40.noF rfl rfl) rfl (by decide) fun a41 f41 => ?_
        clear f40 a40
        refine L.skip f41 (f41.noF rfl rfl) rfl (by decide) fun a42 f42 => ?_
        clear f41 a41
        refine L.skip f42 (f42.noF rfl rfl) rfl (by decide) fun a43 f43 => ?_
        clear f42 a42
        refine L.skip f43 (f43.noF rfl rfl) rfl (by decide) fun a44 f44 => ?_
        clear f43 a43
        refine L.skip f44 (f44.noF rfl rfl) rfl (by decide) fun a45 f45 => ?_
        clear f44 a44
        refine L.skip f45 (f45.noF rfl rfl) rfl (by decide) fun a46 f46 => ?_
        clear f45 a45
        refine L.val f46 wantedN rfl (by decide) (E.pickT f46 rfl rfl) fun a47 f47 => ?_
        clear f46 a46
        refine L.val f47 wantedN rfl (by decide) (E.move f47 rfl) fun a48 f48 => ?_
        clear f47 a47
        refine L.skip f48 (f48.noF rfl rfl) rfl (by decide) fun a49 f49 => ?_
        clear f48 a48
        refine L.skip f49 (f49.noF rfl rfl) rfl (by decide) fun a50 f50 => ?_
        clear f49 a49
        refine L.skip f50 (f50.noF rfl rfl) rfl (by decide) fun a51 f51 => ?_
        clear f50 a50
        refine L.skip f51 (f51.noF rfl rfl) rfl (by decide) fun a52 f52 => ?_
        clear f51 a51
        refine L.skip f52 (f52.noF rfl rfl) rfl (by decide) fun a53 f53 => ?_
        clear f52 a52
        refine L.skip f53 (f53.noF rfl rfl) rfl (by decide) fun a54 f54 => ?_
        clear f53 a53
        refine L.skip f54 (f54.noF rfl rfl) rfl (by decide) fun a55 f55 => ?_
        clear f54 a54
        refine L.skip f55 (f55.noF rfl rfl) rfl (by decide) fun a56 f56 => ?_
        clear f55 a55
        refine L.skip f56 (f56.noF rfl rfl) rfl (by decide) fun a57 f57 => ?_
        clear f56 a56
        refine L.skip f57 (f57.noU rfl rfl) rfl (by decide) fun a58 f58 => ?_
        clear f57 a57
        refine L.skip f58 (f58.noU rfl rfl) rfl (by decide) fun a59 f59 => ?_
        clear f58 a58
        refine L.skip f59 (f59.noU rfl rfl) rfl (by decide) fun a60 f60 => ?_
        clear f59 a59
        refine L.skip f60 (f60.noU rfl rfl) rfl (by decide) fun a61 f61 => ?_
        clear f60 a60
        refine L.skip f61 (f61.noU rfl rfl) rfl (by decide) fun a62 f62 => ?_
        clear f61 a61
        refine L.skip f62 (f62.noU rfl rfl) rfl (by decide) fun a63 f63 => ?_
        clear f62 a62
        refine L.skip f63 (f63.noU rfl rfl) rfl (by decide) fun a64 f64 => ?_
        clear f63 a63
        refine L.skip f64 (f64.noU rfl rfl) rfl (by decide) fun a65 f65 => ?_
        clear f64 a64
        refine L.skip f65 (f65.noF rfl rfl) rfl (by decide) fun a66 f66 => ?_
        clear f65 a65
        refine L.val f66 wantedN rfl (by decide) (E.pickT f66 rfl rfl) fun a67 f67 => ?_
        clear f66 a66
        refine wpList_nil (hK2 _ _ ?_)
        try clear hK2 K2
        have f68 := f67.sub (sub_cons (i := 0) rfl (sub_cons (i := 1) rfl (sub_cons (i := 2) rfl (sub_cons (i := 3) rfl (sub_cons (i := 4) rfl (sub_cons (i := 10) rfl (sub_cons (i := 71) rfl sub_nil)))))))
        clear f67
        refine C.condT f68 rfl ?_
        refine wp_seq_k fun K5 hK5 => ?_
        refine C.region ?_
        refine L.val f68 wantedN rfl (by decide) (E.assign f68 rfl) fun a69 f69 => ?_
        clear f68 a67
        refine wpList_nil (hK5 _ _ ?_)
        try clear hK5 K5
        have f70 := f69.sub (sub_cons (i := 0) rfl (sub_cons (i := 1) rfl (sub_cons (i := 2) rfl (sub_cons (i := 3) rfl (sub_cons (i := 4) rfl (sub_cons (i := 10) rfl sub_nil))))))
        clear f69
        refine wp_ret ?_
        try simp only [Exit.inBlock, Exit.then]
        refine C.ret (P := Try.prog) (fn := Try.f35) f70 rfl rfl ?_
        have hb : hearB rows me fr ep tm l = false := by simp [hearB, *] <;> omega
        exact hearR_no hb hrows M hn HK
      · clear f24
        refine L.val f25 (f25.yes rfl rfl) rfl (by decide) (E.move f25 rfl) fun a26 f26 => ?_
        clear f25 a24
        refine L.val f26 (f26.yes rfl rfl) rfl (by decide) (E.lss f26 rfl rfl) fun a27 f27 => ?_
        clear f26 a26
        refine L.val f27 wantedN rfl (by decide) (E.pickF f27 rfl rfl) fun a28 f28 => ?_
        clear f27 a27
        refine L.val f28 wantedN rfl (by decide) (E.move f28 rfl) fun a29 f29 => ?_
        clear f28 a28
        first | refine f29.splitD 33 rfl (fun h3 f30 => ?_) (fun h3 f30 => ?_) | refine f29.splitN 33 rfl (fun h3 f30 => ?_) (fun h3 f30 => ?_) | refine f29.splitNB 33 rfl (fun h3 f30 => ?_) (fun h3 f30 => ?_) | refine f29.split 33 rfl (fun h3 f30 => ?_) (fun h3 f30 => ?_)
        · clear f29
          refine L.skip f30 (f30.noF rfl rfl) rfl (by decide) fun a31 f31 => ?_
          clear f30 a29
          refine L.skip f31 (f31.noF rfl rfl) rfl (by decide) fun a32 f32 => ?_
          clear f31 a31
          refine L.val f32 wantedN rfl (by decide) (E.pickT f32 rfl rfl) fun a33 f33 => ?_
          clear f32 a32
          refine L.val f33 wantedN rfl (by decide) (E.move f33 rfl) fun a34 f34 => ?_
          clear f33 a33
          refine L.skip f34 (f34.noF rfl rfl) rfl (by decide) fun a35 f35 => ?_
          clear f34 a34
          refine L.skip f35 (f35.noF rfl rfl) rfl (by decide) fun a36 f36 => ?_
          clear f35 a35
          refine L.skip f36 (f36.noF rfl rfl) rfl (by decide) fun a37 f37 => ?_
          clear f36 a36
          refine L.val f37 wantedN rfl (by decide) (E.pickT f37 rfl rfl) fun a38 f38 => ?_
          clear f37 a37
          refine L.val f38 wantedN rfl (by decide) (E.move f38 rfl) fun a39 f39 => ?_
          clear f38 a38
          refine L.skip f39 (f39.noF rfl rfl) rfl (by decide) fun a40 f40 => ?_
          clear f39 a39
          refine L.skip f40 (f40.noF rfl rfl) rfl (by decide) fun a41 f41 => ?_
          clear f40 a40
          refine L.skip f41 (f41.noF rfl rfl) rfl (by decide) fun a42 f42 => ?_
          clear f41 a41
          refine L.skip f42 (f42.noF rfl rfl) rfl (by decide) fun a43 f43 => ?_
          clear f42 a42
          refine L.skip f43 (f43.noF rfl rfl) rfl (by decide) fun a44 f44 => ?_
          clear f43 a43
          refine L.skip f44 (f44.noF rfl rfl) rfl (by decide) fun a45 f45 => ?_
          clear f44 a44
          refine L.skip f45 (f45.noF rfl rfl) rfl (by decide) fun a46 f46 => ?_
          clear f45 a45
          refine L.skip f46 (f46.noF rfl rfl) rfl (by decide) fun a47 f47 => ?_
          clear f46 a46
          refine L.val f47 wantedN rfl (by decide) (E.pickT f47 rfl rfl) fun a48 f48 => ?_
          clear f47 a47
          refine L.val f48 wantedN rfl (by decide) (E.move f48 rfl) fun a49 f49 => ?_
          clear f48 a48
          refine L.skip f49 (f49.noF rfl rfl) rfl (by decide) fun a50 f50 => ?_
          clear f49 a49
          refine L.skip f50 (f50.noF rfl rfl) rfl (by decide) fun a51 f51 => ?_
          clear f50 a50
          refine L.skip f51 (f51.noF rfl rfl) rfl (by decide) fun a52 f52 => ?_
          clear f51 a51
          refine L.skip f52 (f52.noF rfl rfl) rfl (by decide) fun a53 f53 => ?_
          clear f52 a52
          refine L.skip f53 (f53.noF rfl rfl) rfl (by decide) fun a54 f54 => ?_
          clear f53 a53
          refine L.skip f54 (f54.noF rfl rfl) rfl (by decide) fun a55 f55 => ?_
          clear f54 a54
          refine L.skip f55 (f55.noF rfl rfl) rfl (by decide) fun a56 f56 => ?_
          clear f55 a55
          refine L.skip f56 (f56.noF rfl rfl) rfl (by decide) fun a57 f57 => ?_
          clear f56 a56
          refine L.skip f57 (f57.noF rfl rfl) rfl (by decide) fun a58 f58 => ?_
          clear f57 a57
          refine L.skip f58 (f58.noU rfl rfl) rfl (by decide) fun a59 f59 => ?_
          clear f58 a58
          refine L.skip f59 (f59.noU rfl rfl) rfl (by decide) fun a60 f60 => ?_
          clear f59 a59
          refine L.skip f60 (f60.noU rfl rfl) rfl (by decide) fun a61 f61 => ?_
          clear f60 a60
          refine L.skip f61 (f61.noU rfl rfl) rfl (by decide) fun a62 f62 => ?_
          clear f61 a61
          refine L.skip f62 (f62.noU rfl rfl) rfl (by decide) fun a63 f63 => ?_
          clear f62 a62
          refine L.skip f63 (f63.noU rfl rfl) rfl (by decide) fun a64 f64 => ?_
          clear f63 a63
          refine L.skip f64 (f64.noU rfl rfl) rfl (by decide) fun a65 f65 => ?_
          clear f64 a64
          refine L.skip f65 (f65.noU rfl rfl) rfl (by decide) fun a66 f66 => ?_
          clear f65 a65
          refine L.skip f66 (f66.noF rfl rfl) rfl (by decide) fun a67 f67 => ?_
          clear f66 a66
          refine L.val f67 wantedN rfl (by decide) (E.pickT f67 rfl rfl) fun a68 f68 => ?_
          clear f67 a67
          refine wpList_nil (hK2 _ _ ?_)
          try clear hK2 K2
          have f69 := f68.sub (sub_cons (i := 0) rfl (sub_cons (i := 1) rfl (sub_cons (i := 2) rfl (sub_cons (i := 3) rfl (sub_cons (i := 4) rfl (sub_cons (i := 10) rfl (sub_cons (i := 71) rfl sub_nil)))))))
          clear f68
          refine C.condT f69 rfl ?_
          refine wp_seq_k fun K6 hK6 => ?_
          refine C.region ?_
          refine L.val f69 wantedN rfl (by decide) (E.assign f69 rfl) fun a70 f70 => ?_
          clear f69 a68
          refine wpList_nil (hK6 _ _ ?_)
          try clear hK6 K6
          have f71 := f70.sub (sub_cons (i := 0) rfl (sub_cons (i := 1) rfl (sub_cons (i := 2) rfl (sub_cons (i := 3) rfl (sub_cons (i := 4) rfl (sub_cons (i := 10) rfl sub_nil))))))
          clear f70
          refine wp_ret ?_
          try simp only [Exit.inBlock, Exit.then]
          refine C.ret (P := Try.prog) (fn := Try.f35) f71 rfl rfl ?_
          have hb : hearB rows me fr ep tm l = false := by simp [hearB, *] <;> omega
          exact hearR_no hb hrows M hn HK
        · clear f29
          refine L.val f30 (f30.yes rfl rfl) rfl (by decide) (E.move f30 rfl) fun a31 f31 => ?_
          clear f30 a29
          refine L.val f31 (f31.yes rfl rfl) rfl (by decide) (E.lss f31 rfl rfl) fun a32 f32 => ?_
          clear f31 a31
          refine L.val f32 wantedN rfl (by decide) (E.pickF f32 rfl rfl) fun a33 f33 => ?_
          clear f32 a32
          refine L.val f33 wantedN rfl (by decide) (E.move f33 rfl) fun a34 f34 => ?_
          clear f33 a33
          first | refine f34.splitD 37 rfl (fun h4 f35 => ?_) (fun h4 f35 => ?_) | refine f34.splitN 37 rfl (fun h4 f35 => ?_) (fun h4 f35 => ?_) | refine f34.splitNB 37 rfl (fun h4 f35 => ?_) (fun h4 f35 => ?_) | refine f34.split 37 rfl (fun h4 f35 => ?_) (fun h4 f35 => ?_)
          · clear f34
            refine L.skip f35 (f35.noF rfl rfl) rfl (by decide) fun a36 f36 => ?_
            clear f35 a34
            refine L.skip f36 (f36.noF rfl rfl) rfl (by decide) fun a37 f37 => ?_
            clear f36 a36
            refine L.skip f37 (f37.noF rfl rfl) rfl (by decide) fun a38 f38 => ?_
            clear f37 a37
            refine L.val f38 wantedN rfl (by decide) (E.pickT f38 rfl rfl) fun a39 f39 => ?_
            clear f38 a38
            refine L.val f39 wantedN rfl (by decide) (E.move f39 rfl) fun a40 f40 => ?_
            clear f39 a39
            refine L.skip f40 (f40.noF rfl rfl) rfl (by decide) fun a41 f41 => ?_
            clear f40 a40
            refine L.skip f41 (f41.noF rfl rfl) rfl (by decide) fun a42 f42 => ?_
            clear f41 a41
            refine L.skip f42 (f42.noF rfl rfl) rfl (by decide) fun a43 f43 => ?_
            clear f42 a42
            refine L.skip f43 (f43.noF rfl rfl) rfl (by decide) fun a44 f44 => ?_
            clear f43 a43
            refine L.skip f44 (f44.noF rfl rfl) rfl (by decide) fun a45 f45 => ?_
            clear f44 a44
            refine L.skip f45 (f45.noF rfl rfl) rfl (by decide) fun a46 f46 => ?_
            clear f45 a45
            refine L.skip f46 (f46.noF rfl rfl) rfl (by decide) fun a47 f47 => ?_
            clear f46 a46
            refine L.skip f47 (f47.noF rfl rfl) rfl (by decide) fun a48 f48 => ?_
            clear f47 a47
            refine L.val f48 wantedN rfl (by decide) (E.pickT f48 rfl rfl) fun a49 f49 => ?_
            clear f48 a48
            refine L.val f49 wantedN rfl (by decide) (E.move f49 rfl) fun a50 f50 => ?_
            clear f49 a49
            refine L.skip f50 (f50.noF rfl rfl) rfl (by decide) fun a51 f51 => ?_
            clear f50 a50
            refine L.skip f51 (f51.noF rfl rfl) rfl (by decide) fun a52 f52 => ?_
            clear f51 a51
            refine L.skip f52 (f52.noF rfl rfl) rfl (by decide) fun a53 f53 => ?_
            clear f52 a52
            refine L.skip f53 (f53.noF rfl rfl) rfl (by decide) fun a54 f54 => ?_
            clear f53 a53
            refine L.skip f54 (f54.noF rfl rfl) rfl (by decide) fun a55 f55 => ?_
            clear f54 a54
            refine L.skip f55 (f55.noF rfl rfl) rfl (by decide) fun a56 f56 => ?_
            clear f55 a55
            refine L.skip f56 (f56.noF rfl rfl) rfl (by decide) fun a57 f57 => ?_
            clear f56 a56
            refine L.skip f57 (f57.noF rfl rfl) rfl (by decide) fun a58 f58 => ?_
            clear f57 a57
            refine L.skip f58 (f58.noF rfl rfl) rfl (by decide) fun a59 f59 => ?_
            clear f58 a58
            refine L.skip f59 (f59.noU rfl rfl) rfl (by decide) fun a60 f60 => ?_
            clear f59 a59
            refine L.skip f60 (f60.noU rfl rfl) rfl (by decide) fun a61 f61 => ?_
            clear f60 a60
            refine L.skip f61 (f61.noU rfl rfl) rfl (by decide) fun a62 f62 => ?_
            clear f61 a61
            refine L.skip f62 (f62.noU rfl rfl) rfl (by decide) fun a63 f63 => ?_
            clear f62 a62
            refine L.skip f63 (f63.noU rfl rfl) rfl (by decide) fun a64 f64 => ?_
            clear f63 a63
            refine L.skip f64 (f64.noU rfl rfl) rfl (by decide) fun a65 f65 => ?_
            clear f64 a64
            refine L.skip f65 (f65.noU rfl rfl) rfl (by decide) fun a66 f66 => ?_
            clear f65 a65
            refine L.skip f66 (f66.noU rfl rfl) rfl (by decide) fun a67 f67 => ?_
            clear f66 a66
            refine L.skip f67 (f67.noF rfl rfl) rfl (by decide) fun a68 f68 => ?_
            clear f67 a67
            refine L.val f68 wantedN rfl (by decide) (E.pickT f68 rfl rfl) fun a69 f69 => ?_
            clear f68 a68
            refine wpList_nil (hK2 _ _ ?_)
            try clear hK2 K2
            have f70 := f69.sub (sub_cons (i := 0) rfl (sub_cons (i := 1) rfl (sub_cons (i := 2) rfl (sub_cons (i := 3) rfl (sub_cons (i := 4) rfl (sub_cons (i := 10) rfl (sub_cons (i := 71) rfl sub_nil)))))))
            clear f69
            refine C.condT f70 rfl ?_
            refine wp_seq_k fun K7 hK7 => ?_
            refine C.region ?_
            refine L.val f70 wantedN rfl (by decide) (E.assign f70 rfl) fun a71 f71 => ?_
            clear f70 a69
            refine wpList_nil (hK7 _ _ ?_)
            try clear hK7 K7
            have f72 := f71.sub (sub_cons (i := 0) rfl (sub_cons (i := 1) rfl (sub_cons (i := 2) rfl (sub_cons (i := 3) rfl (sub_cons (i := 4) rfl (sub_cons (i := 10) rfl sub_nil))))))
            clear f71
            refine wp_ret ?_
            try simp only [Exit.inBlock, Exit.then]
            refine C.ret (P := Try.prog) (fn := Try.f35) f72 rfl rfl ?_
            have hb : hearB rows me fr ep tm l = false := by simp [hearB, *] <;> omega
            exact hearR_no hb hrows M hn HK
          · clear f34
            refine L.val f35 (f35.yes rfl rfl) rfl (by decide) (E.move f35 rfl) fun a36 f36 => ?_
            clear f35 a34
            refine L.call f36 (f36.yes rfl rfl) rfl (by decide) (run_call Try.call21 (args1 f36 rfl)) (rightR_any l _ _ _ (A1.kept HK) (by unfold maxLen; omega)) ?_
            rintro e w1 ⟨kc1, rfl⟩
            refine ⟨_, rfl, fun a37 f37 => ?_⟩
            clear f36 a36
            have szw1 := kc1.size
            replace HK := HK.trans kc1 (by simp)
            replace Bm := Bm.kept kc1 (by simp)
            clear kc1
            refine L.val f37 (f37.yes rfl rfl) rfl (by decide) (E.not f37 rfl) fun a38 f38 => ?_
            clear f37 a37
            refine L.val f38 wantedN rfl (by decide) (E.pickF f38 rfl rfl) fun a39 f39 => ?_
            clear f38 a38
            refine L.val f39 wantedN rfl (by decide) (E.move f39 rfl) fun a40 f40 => ?_
            clear f39 a39
            first | refine f40.splitD 42 rfl (fun h5 f41 => ?_) (fun h5 f41 => ?_) | refine f40.splitN 42 rfl (fun h5 f41 => ?_) (fun h5 f41 => ?_) | refine f40.splitNB 42 rfl (fun h5 f41 => ?_) (fun h5 f41 => ?_) | refine f40.split 42 rfl (fun h5 f41 => ?_) (fun h5 f41 => ?_)
            · clear f40
              refine L.skip f41 (f41.noF rfl rfl) rfl (by decide) fun a42 f42 => ?_
              clear f41 a40
              refine L.skip f42 (f42.noF rfl rfl) rfl (by decide) fun a43 f43 => ?_
              clear f42 a42
              refine L.skip f43 (f43.noF rfl rfl) rfl (by decide) fun a44 f44 => ?_
              clear f43 a43
              refine L.skip f44 (f44.noF rfl rfl) rfl (by decide) fun a45 f45 => ?_
              clear f44 a44
              refine L.skip f45 (f45.noF rfl rfl) rfl (by decide) fun a46 f46 => ?_
              clear f45 a45
              refine L.skip f46 (f46.noF rfl rfl) rfl (by decide) fun a47 f47 => ?_
              clear f46 a46
              refine L.skip f47 (f47.noF rfl rfl) rfl (by decide) fun a48 f48 => ?_
              clear f47 a47
              refine L.skip f48 (f48.noF rfl rfl) rfl (by decide) fun a49 f49 => ?_
              clear f48 a48
              refine L.val f49 wantedN rfl (by decide) (E.pickT f49 rfl rfl) fun a50 f50 => ?_
              clear f49 a49
              refine L.val f50 wantedN rfl (by decide) (E.move f50 rfl) fun a51 f51 => ?_
              clear f50 a50
              refine L.skip f51 (f51.noF rfl rfl) rfl (by decide) fun a52 f52 => ?_
              clear f51 a51
              refine L.skip f52 (f52.noF rfl rfl) rfl (by decide) fun a53 f53 => ?_
              clear f52 a52
              refine L.skip f53 (f53.noF rfl rfl) rfl (by decide) fun a54 f54 => ?_
              clear f53 a53
              refine L.skip f54 (f54.noF rfl rfl) rfl (by decide) fun a55 f55 => ?_
              clear f54 a54
              refine L.skip f55 (f55.noF rfl rfl) rfl (by decide) fun a56 f56 => ?_
              clear f55 a55
              refine L.skip f56 (f56.noF rfl rfl) rfl (by decide) fun a57 f57 => ?_
              clear f56 a56
              refine L.skip f57 (f57.noF rfl rfl) rfl (by decide) fun a58 f58 => ?_
              clear f57 a57
              refine L.skip f58 (f58.noF rfl rfl) rfl (by decide) fun a59 f59 => ?_
              clear f58 a58
              refine L.skip f59 (f59.noF rfl rfl) rfl (by decide) fun a60 f60 => ?_
              clear f59 a59
              refine L.skip f60 (f60.noU rfl rfl) rfl (by decide) fun a61 f61 => ?_
              clear f60 a60
              refine L.skip f61 (f61.noU rfl rfl) rfl (by decide) fun a62 f62 => ?_
              clear f61 a61
              refine L.skip f62 (f62.noU rfl rfl) rfl (by decide) fun a63 f63 => ?_
              clear f62 a62
              refine L.skip f63 (f63.noU rfl rfl) rfl (by decide) fun a64 f64 => ?_
              clear f63 a63
              refine L.skip f64 (f64.noU rfl rfl) rfl (by decide) fun a65 f65 => ?_
              clear f64 a64
              refine L.skip f65 (f65.noU rfl rfl) rfl (by decide) fun a66 f66 => ?_
              clear f65 a65
              refine L.skip f66 (f66.noU rfl rfl) rfl (by decide) fun a67 f67 => ?_
              clear f66 a66
              refine L.skip f67 (f67.noU rfl rfl) rfl (by decide) fun a68 f68 => ?_
              clear f67 a67
              refine L.skip f68 (f68.noF rfl rfl) rfl (by decide) fun a69 f69 => ?_
              clear f68 a68
              refine L.val f69 wantedN rfl (by decide) (E.pickT f69 rfl rfl) fun a70 f70 => ?_
              clear f69 a69
              refine wpList_nil (hK2 _ _ ?_)
              try clear hK2 K2
              have f71 := f70.sub (sub_cons (i := 0) rfl (sub_cons (i := 1) rfl (sub_cons (i := 2) rfl (sub_cons (i := 3) rfl (sub_cons (i := 4) rfl (sub_cons (i := 10) rfl (sub_cons (i := 71) rfl sub_nil)))))))
              clear f70
              refine C.condT f71 rfl ?_
              refine wp_seq_k fun K8 hK8 => ?_
              refine C.region ?_
              refine L.val f71 wantedN rfl (by decide) (E.assign f71 rfl) fun a72 f72 => ?_
              clear f71 a70
              refine wpList_nil (hK8 _ _ ?_)
              try clear hK8 K8
              have f73 := f72.sub (sub_cons (i := 0) rfl (sub_cons (i := 1) rfl (sub_cons (i := 2) rfl (sub_cons (i := 3) rfl (sub_cons (i := 4) rfl (sub_cons (i := 10) rfl sub_nil))))))
              clear f72
              refine wp_ret ?_
              try simp only [Exit.inBlock, Exit.then]
              refine C.ret (P := Try.prog) (fn := Try.f35) f73 rfl rfl ?_
              have hb : hearB rows me fr ep tm l = false := by first | (simp [hearB, *]; done) | (rw [hearB_at (by omega) (by omega) hre]; simp [later, Ent.abs, *] <;> omega)
              exact hearR_no hb hrows M hn HK
            · clear f40
              obtain ⟨e, he⟩ : ∃ e, ents[fr.toNat]? = some e := ⟨ents[fr.toNat]'(by have := M.len; have := M.most; omega), List.getElem?_eq_getElem _⟩
              have hre : rows[fr.toNat]? = some e.abs := by rw [← hrows, List.getElem?_map, List.getElem?_take, if_pos (by omega), he]; rfl
              refine L.val f41 (f41.yes rfl rfl) rfl (by decide) (E.move f41 rfl) fun a42 f42 => ?_
              clear f41 a40
              refine L.val f42 (f42.yes rfl rfl) rfl (by decide) (E.move f42 rfl) fun a43 f43 => ?_
              clear f42 a42
              refine L.val f43 (f43.yes rfl rfl) rfl (by decide) (E.move f43 rfl) fun a44 f44 => ?_
              clear f43 a43
              refine L.val f44 (f44.yes rfl rfl) rfl (by decide) (E.nilCheck f44 rfl) fun a45 f45 => ?_
              clear f44 a44
              refine L.val f45 (f45.yes rfl rfl) rfl (by decide) (E.fieldAddr f45 Try.underlying77 rfl rfl wsz74_o) fun a46 f46 => ?_
              clear f45 a45
              refine L.val f46 (f46.yes rfl rfl) rfl (by decide) (E.indexArr f46 Try.underlying74 wsz3_o rfl rfl (by omega) (by omega)) fun a47 f47 => ?_
              clear f46 a46
              refine L.val f47 (f47.yes rfl rfl) rfl (by decide) (by first | exact E.load f47 Try.underlying3 rfl rfl ((Bm).cl rfl) | exact E.load f47 Try.underlying3 rfl rfl ((M.kept HK (by simp)).ce he) | exact E.load f47 Try.underlying3 rfl rfl ((M.kept HK (by simp)).ca he) | exact E.load f47 Try.underlying3 rfl rfl ((M.kept HK (by simp)).cs he)) fun a48 f48 => ?_
              clear f47 a47
              refine L.val f48 (f48.yes rfl rfl) rfl (by decide) (E.lss f48 rfl rfl) fun a49 f49 => ?_
              clear f48 a48
              refine L.val f49 wantedN rfl (by decide) (E.pickF f49 rfl rfl) fun a50 f50 => ?_
              clear f49 a49
              refine L.val f50 wantedN rfl (by decide) (E.move f50 rfl) fun a51 f51 => ?_
              clear f50 a50
              first | refine f51.splitD 52 rfl (fun h6 f52 => ?_) (fun h6 f52 => ?_) | refine f51.splitN 52 rfl (fun h6 f52 => ?_) (fun h6 f52 => ?_) | refine f51.splitNB 52 rfl (fun h6 f52 => ?_) (fun h6 f52 => ?_) | refine f51.split 52 rfl (fun h6 f52 => ?_) (fun h6 f52 => ?_)
              · clear f51
                refine L.skip f52 (f52.noF rfl rfl) rfl (by decide) fun a53 f53 => ?_
                clear f52 a51
                refine L.skip f53 (f53.noF rfl rfl) rfl (by decide) fun a54 f54 => ?_
                clear f53 a53
                refine L.skip f54 (f54.noF rfl rfl) rfl (by decide) fun a55 f55 => ?_
                clear f54 a54
                refine L.skip f55 (f55.noF rfl rfl) rfl (by decide) fun a56 f56 => ?_
                clear f55 a55
                refine L.skip f56 (f56.noF rfl rfl) rfl (by decide) fun a57 f57 => ?_
                clear f56 a56
                refine L.skip f57 (f57.noF rfl rfl) rfl (by decide) fun a58 f58 => ?_
                clear f57 a57
                refine L.skip f58 (f58.noF rfl rfl) rfl (by decide) fun a59 f59 => ?_
                clear f58 a58
                refine L.skip f59 (f59.noF rfl rfl) rfl (by decide) fun a60 f60 => ?_
                clear f59 a59
                refine L.skip f60 (f60.noF rfl rfl) rfl (by decide) fun a61 f61 => ?_
                clear f60 a60
                refine L.skip f61 (f61.noU rfl rfl) rfl (by decide) fun a62 f62 => ?_
                clear f61 a61
                refine L.skip f62 (f62.noU rfl rfl) rfl (by decide) fun a63 f63 => ?_
                clear f62 a62
                refine L.skip f63 (f63.noU rfl rfl) rfl (by decide) fun a64 f64 => ?_
                clear f63 a63
                refine L.skip f64 (f64.noU rfl rfl) rfl (by decide) fun a65 f65 => ?_
                clear f64 a64
                refine L.skip f65 (f65.noU rfl rfl) rfl (by decide) fun a66 f66 => ?_
                clear f65 a65
                refine L.skip f66 (f66.noU rfl rfl) rfl (by decide) fun a67 f67 => ?_
                clear f66 a66
                refine L.skip f67 (f67.noU rfl rfl) rfl (by decide) fun a68 f68 => ?_
                clear f67 a67
                refine L.skip f68 (f68.noU rfl rfl) rfl (by decide) fun a69 f69 => ?_
                clear f68 a68
                refine L.skip f69 (f69.noF rfl rfl) rfl (by decide) fun a70 f70 => ?_
                clear f69 a69
                refine L.val f70 wantedN rfl (by decide) (E.pickT f70 rfl rfl) fun a71 f71 => ?_
                clear f70 a70
                refine wpList_nil (hK2 _ _ ?_)
                try clear hK2 K2
                have f72 := f71.sub (sub_cons (i := 0) rfl (sub_cons (i := 1) rfl (sub_cons (i := 2) rfl (sub_cons (i := 3) rfl (sub_cons (i := 4) rfl (sub_cons (i := 10) rfl (sub_cons (i := 71) rfl sub_nil)))))))
                clear f71
                refine C.condT f72 rfl ?_
                refine wp_seq_k fun K9 hK9 => ?_
                refine C.region ?_
                refine L.val f72 wantedN rfl (by decide) (E.assign f72 rfl) fun a73 f73 => ?_
                clear f72 a71
                refine wpList_nil (hK9 _ _ ?_)
                try clear hK9 K9
                have f74 := f73.sub (sub_cons (i := 0) rfl (sub_cons (i := 1) rfl (sub_cons (i := 2) rfl (sub_cons (i := 3) rfl (sub_cons (i := 4) rfl (sub_cons (i := 10) rfl sub_nil))))))
                clear f73
                refine wp_ret ?_
                try simp only [Exit.inBlock, Exit.then]
                refine C.ret (P := Try.prog) (fn := Try.f35) f74 rfl rfl ?_
                have hb : hearB rows me fr ep tm l = false := by first | (simp [hearB, *]; done) | (rw [hearB_at (by omega) (by omega) hre]; simp [later, Ent.abs, *] <;> omega)
                exact hearR_no hb hrows M hn HK
              · clear f51
                refine L.val f52 (f52.yes rfl rfl) rfl (by decide) (E.move f52 rfl) fun a53 f53 => ?_
                clear f52 a51
                refine L.val f53 (f53.yes rfl rfl) rfl (by decide) (E.move f53 rfl) fun a54 f54 => ?_
                clear f53 a53
                refine L.val f54 (f54.yes rfl rfl) rfl (by decide) (E.move f54 rfl) fun a55 f55 => ?_
                clear f54 a54
                refine L.val f55 (f55.yes rfl rfl) rfl (by decide) (E.nilCheck f55 rfl) fun a56 f56 => ?_
                clear f55 a55
                refine L.val f56 (f56.yes rfl rfl) rfl (by decide) (E.fieldAddr f56 Try.underlying77 rfl rfl wsz74_o) fun a57 f57 => ?_
                clear f56 a56
                refine L.val f57 (f57.yes rfl rfl) rfl (by decide) (E.indexArr f57 Try.underlying74 wsz3_o rfl rfl (by omega) (by omega)) fun a58 f58 => ?_
                clear f57 a57
                refine L.val f58 (f58.yes rfl rfl) rfl (by decide) (by first | exact E.load f58 Try.underlying3 rfl rfl ((Bm).cl rfl) | exact E.load f58 Try.underlying3 rfl rfl ((M.kept HK (by simp)).ce he) | exact E.load f58 Try.underlying3 rfl rfl ((M.kept HK (by simp)).ca he) | exact E.load f58 Try.underlying3 rfl rfl ((M.kept HK (by simp)).cs he)) fun a59 f59 => ?_
                clear f58 a58
                refine L.val f59 (f59.yes rfl rfl) rfl (by decide) (E.eql f59 rfl rfl) fun a60 f60 => ?_
                clear f59 a59
                refine L.val f60 (f60.yes rfl rfl) rfl (by decide) (E.move f60 rfl) fun a61 f61 => ?_
                clear f60 a60
                first | refine f61.splitD 61 rfl (fun h7 f62 => ?_) (fun h7 f62 => ?_) | refine f61.splitN 61 rfl (fun h7 f62 => ?_) (fun h7 f62 => ?_) | refine f61.splitNB 61 rfl (fun h7 f62 => ?_) (fun h7 f62 => ?_) | refine f61.split 61 rfl (fun h7 f62 => ?_) (fun h7 f62 => ?_)
                · clear f61
                  refine L.val f62 (f62.yes rfl rfl) rfl (by decide) (E.move f62 rfl) fun a63 f63 => ?_
                  clear f62 a61
                  refine L.val f63 (f63.yes rfl rfl) rfl (by decide) (E.move f63 rfl) fun a64 f64 => ?_
                  clear f63 a63
                  refine L.val f64 (f64.yes rfl rfl) rfl (by decide) (E.move f64 rfl) fun a65 f65 => ?_
                  clear f64 a64
                  refine L.val f65 (f65.yes rfl rfl) rfl (by decide) (E.nilCheck f65 rfl) fun a66 f66 => ?_
                  clear f65 a65
                  refine L.val f66 (f66.yes rfl rfl) rfl (by decide) (E.fieldAddr f66 Try.underlying77 rfl rfl wsz74_o) fun a67 f67 => ?_
                  clear f66 a66
                  refine L.val f67 (f67.yes rfl rfl) rfl (by decide) (E.indexArr f67 Try.underlying74 wsz3_o rfl rfl (by omega) (by omega)) fun a68 f68 => ?_
                  clear f67 a67
                  refine L.val f68 (f68.yes rfl rfl) rfl (by decide) (by first | exact E.load f68 Try.underlying3 rfl rfl ((Bm).cl rfl) | exact E.load f68 Try.underlying3 rfl rfl ((M.kept HK (by simp)).ce he) | exact E.load f68 Try.underlying3 rfl rfl ((M.kept HK (by simp)).ca he) | exact E.load f68 Try.underlying3 rfl rfl ((M.kept HK (by simp)).cs he)) fun a69 f69 => ?_
                  clear f68 a68
                  refine L.val f69 (f69.yes rfl rfl) rfl (by decide) (E.lss f69 rfl rfl) fun a70 f70 => ?_
                  clear f69 a69
                  refine L.val f70 (f70.yes rfl rfl) rfl (by decide) (E.pickT f70 rfl rfl) fun a71 f71 => ?_
                  clear f70 a70
                  refine L.val f71 wantedN rfl (by decide) (E.pickF f71 rfl rfl) fun a72 f72 => ?_
                  clear f71 a71
                  refine wpList_nil (hK2 _ _ ?_)
                  try clear hK2 K2
                  have f73 := f72.sub (sub_cons (i := 0) rfl (sub_cons (i := 1) rfl (sub_cons (i := 2) rfl (sub_cons (i := 3) rfl (sub_cons (i := 4) rfl (sub_cons (i := 10) rfl (sub_cons (i := 71) rfl sub_nil)))))))
                  clear f72
                  first | refine f73.splitD 71 rfl (fun h8 f74 => ?_) (fun h8 f74 => ?_) | refine f73.splitN 71 rfl (fun h8 f74 => ?_) (fun h8 f74 => ?_) | refine f73.splitNB 71 rfl (fun h8 f74 => ?_) (fun h8 f74 => ?_) | refine f73.split 71 rfl (fun h8 f74 => ?_) (fun h8 f74 => ?_)
                  · clear f73
                    refine C.condT f74 rfl ?_
                    refine wp_seq_k fun K10 hK10 => ?_
                    refine C.region ?_
                    refine L.val f74 wantedN rfl (by decide) (E.assign f74 rfl) fun a75 f75 => ?_
                    clear f74 a72
                    refine wpList_nil (hK10 _ _ ?_)
                    try clear hK10 K10
                    have f76 := f75.sub (sub_cons (i := 0) rfl (sub_cons (i := 1) rfl (sub_cons (i := 2) rfl (sub_cons (i := 3) rfl (sub_cons (i := 4) rfl (sub_cons (i := 10) rfl sub_nil))))))
                    clear f75
                    refine wp_ret ?_
                    try simp only [Exit.inBlock, Exit.then]
                    refine C.ret (P := Try.prog) (fn := Try.f35) f76 rfl rfl ?_
                    have hb : hearB rows me fr ep tm l = false := by first | (simp [hearB, *]; done) | (rw [hearB_at (by omega) (by omega) hre]; simp [later, Ent.abs, *] <;> omega)
                    exact hearR_no hb hrows M hn HK
                  · clear f73
                    refine C.condF f74 rfl ?_
                    refine wp_skip (hK1 _ _ ?_)
                    try clear hK1 K1
                    have f75 := f74.sub (sub_cons (i := 0) rfl (sub_cons (i := 1) rfl (sub_cons (i := 2) rfl (sub_cons (i := 3) rfl (sub_cons (i := 4) rfl (sub_cons (i := 10) rfl sub_nil))))))
                    clear f74
                    refine wp_seq_k fun K11 hK11 => ?_
                    have KN := Kept.refl [] w1
                    refine R.begin (S := fun W => Kept [m] w1 W) (by kernel_rfl) (by exact (Kept.refl _ _).drewN 1) ?_
                    have hS3 : Kept [m] w1 (w1.drewN 1) := (Kept.refl _ _).drewN 1
                    have hd3 : Kept [] w1 (w1.drewN 1) := (Kept.refl _ _).drewN 1
                    obtain ⟨w2, hww2⟩ : ∃ W, W = w1.drewN 1 := ⟨_, rfl⟩
                    rw [← hww2] at hS3 hd3 ⊢
                    clear hww2
                    have szw2 := hS3.size
                    replace KN := KN.trans hd3 (by simp)
                    refine R.take 0 f75 rfl rfl (by decide) (by kernel_rfl) (by kernel_rfl) (by kernel_rfl) (fun _ _ _ _ h => h) wantedN hS3 (fun W hW => (E.move f75 rfl)) fun a76 f76 => ?_
                    clear f75 a72
                    refine R.take 1 f76 rfl rfl (by decide) (by kernel_rfl) (by kernel_rfl) (by kernel_rfl) (fun _ _ _ _ h => h) wantedN hS3 (fun W hW => (E.move f76 rfl)) fun a77 f77 => ?_
                    clear f76 a76
                    refine R.take 2 f77 rfl rfl (by decide) (by kernel_rfl) (by kernel_rfl) (by kernel_rfl) (fun _ _ _ _ h => h) wantedN hS3 (fun W hW => (E.move f77 rfl)) fun a78 f78 => ?_
                    clear f77 a77
                    refine R.take 3 f78 rfl rfl (by decide) (by kernel_rfl) (by kernel_rfl) (by kernel_rfl) (fun _ _ _ _ h => h) wantedN hS3 (fun W hW => (E.move f78 rfl)) fun a79 f79 => ?_
                    clear f78 a78
                    refine R.take 4 f79 rfl rfl (by decide) (by kernel_rfl) (by kernel_rfl) (by kernel_rfl) (fun _ _ _ _ h => h) wantedN hS3 (fun W hW => (E.move f79 rfl)) fun a80 f80 => ?_
                    clear f79 a79
                    refine R.take 5 f80 rfl rfl (by decide) (by kernel_rfl) (by kernel_rfl) (by kernel_rfl) (fun _ _ _ _ h => h) wantedN hS3 (fun W hW => (E.move f80 rfl)) fun a81 f81 => ?_
                    clear f80 a80
                    refine R.take 6 f81 rfl rfl (by decide) (by kernel_rfl) (by kernel_rfl) (by kernel_rfl) (fun _ _ _ _ h => h) wantedN hS3 (fun W hW => (E.move f81 rfl)) fun a82 f82 => ?_
                    clear f81 a81
                    refine R.take 7 f82 rfl rfl (by decide) (by kernel_rfl) (by kernel_rfl) (by kernel_rfl) (fun _ _ _ _ h => h) wantedN hS3 (fun W hW => (E.move f82 rfl)) fun a83 f83 => ?_
                    clear f82 a82
                    refine R.take 8 f83 rfl rfl (by decide) (by kernel_rfl) (by kernel_rfl) (by kernel_rfl) (fun _ _ _ _ h => h) wantedN hS3 (fun W hW => (E.move f83 rfl)) fun a84 f84 => ?_
                    clear f83 a83
                    refine R.take 10 f84 rfl rfl (by decide) (by kernel_rfl) (by kernel_rfl) (by kernel_rfl) (fun _ _ _ _ h => h) wantedN hS3 (fun W hW => (E.nilCheck f84 rfl)) fun a85 f85 => ?_
                    clear f84 a84
                    refine R.take 11 f85 rfl rfl (by decide) (by kernel_rfl) (by kernel_rfl) (by kernel_rfl) (fun _ _ _ _ h => h) wantedN hS3 (fun W hW => (E.fieldAddr f85 Try.underlying77 rfl rfl wsz74_o)) fun a86 f86 => ?_
                    clear f85 a85
                    refine R.take 14 f86 rfl rfl (by decide) (by kernel_rfl) (by kernel_rfl) (by kernel_rfl) (fun _ _ _ _ h => h) wantedN hS3 (fun W hW => (E.nilCheck f86 rfl)) fun a87 f87 => ?_
                    clear f86 a86
                    refine R.take 15 f87 rfl rfl (by decide) (by kernel_rfl) (by kernel_rfl) (by kernel_rfl) (fun _ _ _ _ h => h) wantedN hS3 (fun W hW => (E.fieldAddr f87 Try.underlying77 rfl rfl wsz74_o)) fun a88 f88 => ?_
                    clear f87 a87
                    refine R.take 18 f88 rfl rfl (by decide) (by kernel_rfl) (by kernel_rfl) (by kernel_rfl) (fun _ _ _ _ h => h) wantedN hS3 (fun W hW => (E.nilCheck f88 rfl)) fun a89 f89 => ?_
                    clear f88 a88
                    refine R.take 19 f89 rfl rfl (by decide) (by kernel_rfl) (by kernel_rfl) (by kernel_rfl) (fun _ _ _ _ h => h) wantedN hS3 (fun W hW => (E.fieldAddr f89 Try.underlying77 rfl rfl wsz75_o)) fun a90 f90 => ?_
                    clear f89 a89
                    refine R.one 9 (by kernel_rfl) ?_
                    refine O.append f90 rfl wantedN (by decide) Try.underlying24 wzib32_o rfl rfl rfl rfl (Own.nil _ _ _) (A1.kept (HK.trans KN (by simp))) (dcells_one l) (by unfold maxLen; omega) (by omega) fun a91 w3 Ac cc AP3 => ?_
                    have kap3 : Kept [] w2 w3 := by simpa [Value.ownBlock] using AP3.kept
                    have FC : Fresh w w3 32 3 Ac (0 + l.length) cc ([] ++ dcells l) := AP3.next (Fresh.nil w w2 32 3) (HK.trans KN (by simp)).size
                    have hSn := hS3.trans kap3 (by simp)
                    refine ⟨hSn, fun f91 => ?_⟩
                    clear f90
                    have szw3 := kap3.size
                    replace KN := KN.trans kap3 (by simp)
                    clear kap3
                    replace hS3 := hSn
                    clear hSn
                    refine R.take 12 f91 rfl rfl (by decide) (by kernel_rfl) (by kernel_rfl) (by kernel_rfl) (fun _ _ _ _ h => h) wantedN hS3 (fun W hW => (E.indexArr f91 Try.underlying74 wsz3_o rfl rfl (by omega) (by omega))) fun a92 f92 => ?_
                    clear f91 a91
                    refine R.one 13 (by kernel_rfl) ?_
                    have KW := HK.trans KN (by simp)
                    have MW := M.kept KW (by simp)
                    refine O.store f92 rfl wantedN wsz3_o rfl rfl rfl MW.top (by simp only [List.length_set, rcells_len, MW.len]; simp; omega) (fun _ hk => hS3.trans hk (by simp)) fun a93 w4 f93 NB0 ks0 => ?_
                    replace hS3 := hS3.trans ks0 (by simp)
                    have szw4 := ks0.size
                    clear f92 a92
                    refine R.take 16 f93 rfl rfl (by decide) (by kernel_rfl) (by kernel_rfl) (by kernel_rfl) (fun _ _ _ _ h => h) wantedN hS3 (fun W hW => (E.indexArr f93 Try.underlying74 wsz3_o rfl rfl (by omega) (by omega))) fun a94 f94 => ?_
                    clear f93 a93
                    refine R.one 17 (by kernel_rfl) ?_
                    refine O.store f94 rfl wantedN wsz3_o rfl rfl rfl NB0 (by simp only [List.length_set, rcells_len, MW.len]; simp; omega) (fun _ hk => hS3.trans hk (by simp)) fun a95 w5 f95 NB1 ks1 => ?_
                    replace hS3 := hS3.trans ks1 (by simp)
                    have szw5 := ks1.size
                    clear f94 a94
                    refine R.take 20 f95 rfl rfl (by decide) (by kernel_rfl) (by kernel_rfl) (by kernel_rfl) (fun _ _ _ _ h => h) wantedN hS3 (fun W hW => (E.indexArr f95 Try.underlying75 wsz24_o rfl rfl (by omega) (by omega))) fun a96 f96 => ?_
                    clear f95 a95
                    refine R.one 21 (by kernel_rfl) ?_
                    refine O.store f96 rfl wantedN wsz24_o rfl rfl rfl NB1 (by simp only [List.length_set, rcells_len, MW.len]; simp; omega) (fun _ hk => hS3.trans hk (by simp)) fun a97 w6 f97 NB2 ks2 => ?_
                    replace hS3 := hS3.trans ks2 (by simp)
                    have szw6 := ks2.size
                    clear f96 a96
                    have HD := hearR_set (fr := fr) (ep := ep) (tm := tm) hrows hn KW MW FC (by omega) (by omega) hm NB2 ((ks0.trans ks1 (by simp)).trans ks2 (by simp)) M.lt
                    have szw6r := hS3.size
                    clear hS3
                    refine R.done (by kernel_rfl) (hK11 _ _ ?_)
                    try clear hK11 K11
                    have f98 := f97.sub (sub_cons (i := 10) rfl sub_nil)
                    clear f97
                    refine wp_seq_k fun K12 hK12 => ?_
                    refine C.region ?_
                    refine L.val f98 wantedN rfl (by decide) (E.assign f98 rfl) fun a99 f99 => ?_
                    clear f98 a97
                    refine wpList_nil (hK12 _ _ ?_)
                    try clear hK12 K12
                    have f100 := f99.sub (sub_cons (i := 10) rfl sub_nil)
                    clear f99
                    refine wp_ret ?_
                    try simp only [Exit.inBlock, Exit.then]
                    refine C.ret (P := Try.prog) (fn := Try.f35) f100 rfl rfl ?_
                    have hb : hearB rows me fr ep tm l = true := by rw [hearB_at (by omega) (by omega) hre]; simp [later, Ent.abs, *] <;> omega
                    exact hearR_yes hb HD
                · clear f61
                  refine L.skip f62 (f62.noT rfl rfl) rfl (by decide) fun a63 f63 => ?_
                  clear f62 a61
                  refine L.skip f63 (f63.noT rfl rfl) rfl (by decide) fun a64 f64 => ?_
                  clear f63 a63
                  refine L.skip f64 (f64.noT rfl rfl) rfl (by decide) fun a65 f65 => ?_
                  clear f64 a64
                  refine L.skip f65 (f65.noT rfl rfl) rfl (by decide) fun a66 f66 => ?_
                  clear f65 a65
                  refine L.skip f66 (f66.noT rfl rfl) rfl (by decide) fun a67 f67 => ?_
                  clear f66 a66
                  refine L.skip f67 (f67.noT rfl rfl) rfl (by decide) fun a68 f68 => ?_
                  clear f67 a67
                  refine L.skip f68 (f68.noT rfl rfl) rfl (by decide) fun a69 f69 => ?_
                  clear f68 a68
                  refine L.skip f69 (f69.noT rfl rfl) rfl (by decide) fun a70 f70 => ?_
                  clear f69 a69
                  refine L.val f70 (f70.yes rfl rfl) rfl (by decide) (E.pickF f70 rfl rfl) fun a71 f71 => ?_
                  clear f70 a70
                  refine L.val f71 wantedN rfl (by decide) (E.pickF f71 rfl rfl) fun a72 f72 => ?_
                  clear f71 a71
                  refine wpList_nil (hK2 _ _ ?_)
                  try clear hK2 K2
                  have f73 := f72.sub (sub_cons (i := 0) rfl (sub_cons (i := 1) rfl (sub_cons (i := 2) rfl (sub_cons (i := 3) rfl (sub_cons (i := 4) rfl (sub_cons (i := 10) rfl (sub_cons (i := 71) rfl sub_nil)))))))
                  clear f72
                  refine C.condF f73 rfl ?_
                  refine wp_skip (hK1 _ _ ?_)
                  try clear hK1 K1
                  have f74 := f73.sub (sub_cons (i := 0) rfl (sub_cons (i := 1) rfl (sub_cons (i := 2) rfl (sub_cons (i := 3) rfl (sub_cons (i := 4) rfl (sub_cons (i := 10) rfl sub_nil))))))
                  clear f73
                  refine wp_seq_k fun K13 hK13 => ?_
                  have KN := Kept.refl [] w1
                  refine R.begin (S := fun W => Kept [m] w1 W) (by kernel_rfl) (by exact (Kept.refl _ _).drewN 1) ?_
                  have hS3 : Kept [m] w1 (w1.drewN 1) := (Kept.refl _ _).drewN 1
                  have hd3 : Kept [] w1 (w1.drewN 1) := (Kept.refl _ _).drewN 1
                  obtain ⟨w2, hww2⟩ : ∃ W, W = w1.drewN 1 := ⟨_, rfl⟩
                  rw [← hww2] at hS3 hd3 ⊢
                  clear hww2
                  have szw2 := hS3.size
                  replace KN := KN.trans hd3 (by simp)
                  refine R.take 0 f74 rfl rfl (by decide) (by kernel_rfl) (by kernel_rfl) (by kernel_rfl) (fun _ _ _ _ h => h) wantedN hS3 (fun W hW => (E.move f74 rfl)) fun a75 f75 => ?_
                  clear f74 a72
                  refine R.take 1 f75 rfl rfl (by decide) (by kernel_rfl) (by kernel_rfl) (by kernel_rfl) (fun _ _ _ _ h => h) wantedN hS3 (fun W hW => (E.move f75 rfl)) fun a76 f76 => ?_
                  clear f75 a75
                  refine R.take 2 f76 rfl rfl (by decide) (by kernel_rfl) (by kernel_rfl) (by kernel_rfl) (fun _ _ _ _ h => h) wantedN hS3 (fun W hW => (E.move f76 rfl)) fun a77 f77 => ?_
                  clear f76 a76
                  refine R.take 3 f77 rfl rfl (by decide) (by kernel_rfl) (by kernel_rfl) (by kernel_rfl) (fun _ _ _ _ h => h) wantedN hS3 (fun W hW => (E.move f77 rfl)) fun a78 f78 => ?_
                  clear f77 a77
                  refine R.take 4 f78 rfl rfl (by decide) (by kernel_rfl) (by kernel_rfl) (by kernel_rfl) (fun _ _ _ _ h => h) wantedN hS3 (fun W hW => (E.move f78 rfl)) fun a79 f79 => ?_
                  clear f78 a78
                  refine R.take 5 f79 rfl rfl (by decide) (by kernel_rfl) (by kernel_rfl) (by kernel_rfl) (fun _ _ _ _ h => h) wantedN hS3 (fun W hW => (E.move f79 rfl)) fun a80 f80 => ?_
                  clear f79 a79
                  refine R.take 6 f80 rfl rfl (by decide) (by kernel_rfl) (by kernel_rfl) (by kernel_rfl) (fun _ _ _ _ h => h) wantedN hS3 (fun W hW => (E.move f80 rfl)) fun a81 f81 => ?_
                  clear f80 a80
                  refine R.take 7 f81 rfl rfl (by decide) (by kernel_rfl) (by kernel_rfl) (by kernel_rfl) (fun _ _ _ _ h => h) wantedN hS3 (fun W hW => (E.move f81 rfl)) fun a82 f82 => ?_
                  clear f81 a81
                  refine R.take 8 f82 rfl rfl (by decide) (by kernel_rfl) (by kernel_rfl) (by kernel_rfl) (fun _ _ _ _ h => h) wantedN hS3 (fun W hW => (E.move f82 rfl)) fun a83 f83 => ?_
                  clear f82 a82
                  refine R.take 10 f83 rfl rfl (by decide) (by kernel_rfl) (by kernel_rfl) (by kernel_rfl) (fun _ _ _ _ h => h) wantedN hS3 (fun W hW => (E.nilCheck f83 rfl)) fun a84 f84 => ?_
                  clear f83 a83
                  refine R.take 11 f84 rfl rfl (by decide) (by kernel_rfl) (by kernel_rfl) (by kernel_rfl) (fun _ _ _ _ h => h) wantedN hS3 (fun W hW => (E.fieldAddr f84 Try.underlying77 rfl rfl wsz74_o)) fun a85 f85 => ?_
                  clear f84 a84
                  refine R.take 14 f85 rfl rfl (by decide) (by kernel_rfl) (by kernel_rfl) (by kernel_rfl) (fun _ _ _ _ h => h) wantedN hS3 (fun W hW => (E.nilCheck f85 rfl)) fun a86 f86 => ?_
                  clear f85 a85
                  refine R.take 15 f86 rfl rfl (by decide) (by kernel_rfl) (by kernel_rfl) (by kernel_rfl) (fun _ _ _ _ h => h) wantedN hS3 (fun W hW => (E.fieldAddr f86 Try.underlying77 rfl rfl wsz74_o)) fun a87 f87 => ?_
                  clear f86 a86
                  refine R.take 18 f87 rfl rfl (by decide) (by kernel_rfl) (by kernel_rfl) (by kernel_rfl) (fun _ _ _ _ h => h) wantedN hS3 (fun W hW => (E.nilCheck f87 rfl)) fun a88 f88 => ?_
                  clear f87 a87
                  refine R.take 19 f88 rfl rfl (by decide) (by kernel_rfl) (by kernel_rfl) (by kernel_rfl) (fun _ _ _ _ h => h) wantedN hS3 (fun W hW => (E.fieldAddr f88 Try.underlying77 rfl rfl wsz75_o)) fun a89 f89 => ?_
                  clear f88 a88
                  refine R.one 9 (by kernel_rfl) ?_
                  refine O.append f89 rfl wantedN (by decide) Try.underlying24 wzib32_o rfl rfl rfl rfl (Own.nil _ _ _) (A1.kept (HK.trans KN (by simp))) (dcells_one l) (by unfold maxLen; omega) (by omega) fun a90 w3 Ac cc AP3 => ?_
                  have kap3 : Kept [] w2 w3 := by simpa [Value.ownBlock] using AP3.kept
                  have FC : Fresh w w3 32 3 Ac (0 + l.length) cc ([] ++ dcells l) := AP3.next (Fresh.nil w w2 32 3) (HK.trans KN (by simp)).size
                  have hSn := hS3.trans kap3 (by simp)
                  refine ⟨hSn, fun f90 => ?_⟩
                  clear f89
                  have szw3 := kap3.size
                  replace KN := KN.trans kap3 (by simp)
                  clear kap3
                  replace hS3 := hSn
                  clear hSn
                  refine R.take 12 f90 rfl rfl (by decide) (by kernel_rfl) (by kernel_rfl) (by kernel_rfl) (fun _ _ _ _ h => h) wantedN hS3 (fun W hW => (E.indexArr f90 Try.underlying74 wsz3_o rfl rfl (by omega) (by omega))) fun a91 f91 => ?_
                  clear f90 a90
                  refine R.one 13 (by kernel_rfl) ?_
                  have KW := HK.trans KN (by simp)
                  have MW := M.kept KW (by simp)
                  refine O.store f91 rfl wantedN wsz3_o rfl rfl rfl MW.top (by simp only [List.length_set, rcells_len, MW.len]; simp; omega) (fun _ hk => hS3.trans hk (by simp)) fun a92 w4 f92 NB0 ks0 => ?_
                  replace hS3 := hS3.trans ks0 (by simp)
                  have szw4 := ks0.size
                  clear f91 a91
                  refine R.take 16 f92 rfl rfl (by decide) (by kernel_rfl) (by kernel_rfl) (by kernel_rfl) (fun _ _ _ _ h => h) wantedN hS3 (fun W hW => (E.indexArr f92 Try.underlying74 wsz3_o rfl rfl (by omega) (by omega))) fun a93 f93 => ?_
                  clear f92 a92
                  refine R.one 17 (by kernel_rfl) ?_
                  refine O.store f93 rfl wantedN wsz3_o rfl rfl rfl NB0 (by simp only [List.length_set, rcells_len, MW.len]; simp; omega) (fun _ hk => hS3.trans hk (by simp)) fun a94 w5 f94 NB1 ks1 => ?_
                  replace hS3 := hS3.trans ks1 (by simp)
                  have szw5 := ks1.size
                  clear f93 a93
                  refine R.take 20 f94 rfl rfl (by decide) (by kernel_rfl) (by kernel_rfl) (by kernel_rfl) (fun _ _ _ _ h => h) wantedN hS3 (fun W hW => (E.indexArr f94 Try.underlying75 wsz24_o rfl rfl (by omega) (by omega))) fun a95 f95 => ?_
                  clear f94 a94
                  refine R.one 21 (by kernel_rfl) ?_
                  refine O.store f95 rfl wantedN wsz24_o rfl rfl rfl NB1 (by simp only [List.length_set, rcells_len, MW.len]; simp; omega) (fun _ hk => hS3.trans hk (by simp)) fun a96 w6 f96 NB2 ks2 => ?_
                  replace hS3 := hS3.trans ks2 (by simp)
                  have szw6 := ks2.size
                  clear f95 a95
                  have HD := hearR_set (fr := fr) (ep := ep) (tm := tm) hrows hn KW MW FC (by omega) (by omega) hm NB2 ((ks0.trans ks1 (by simp)).trans ks2 (by simp)) M.lt
                  have szw6r := hS3.size
                  clear hS3
                  refine R.done (by kernel_rfl) (hK13 _ _ ?_)
                  try clear hK13 K13
                  have f97 := f96.sub (sub_cons (i := 10) rfl sub_nil)
                  clear f96
                  refine wp_seq_k fun K14 hK14 => ?_
                  refine C.region ?_
                  refine L.val f97 wantedN rfl (by decide) (E.assign f97 rfl) fun a98 f98 => ?_
                  clear f97 a96
                  refine wpList_nil (hK14 _ _ ?_)
                  try clear hK14 K14
                  have f99 := f98.sub (sub_cons (i := 10) rfl sub_nil)
                  clear f98
                  refine wp_ret ?_
                  try simp only [Exit.inBlock, Exit.then]
                  refine C.ret (P := Try.prog) (fn := Try.f35) f99 rfl rfl ?_
                  have hb : hearB rows me fr ep tm l = true := by rw [hearB_at (by omega) (by omega) hre]; simp [later, Ent.abs, *] <;> omega
                  exact hearR_yes hb HD

end Go.Proofs.Ytahmlcjgcdajbaa
