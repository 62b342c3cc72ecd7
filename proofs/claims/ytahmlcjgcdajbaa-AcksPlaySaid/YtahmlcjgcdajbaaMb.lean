/- Contracts: Hear. -/
import Derived.Test.YtahmlcjgcdajbaaMa
set_option linter.all false
namespace Go.Proofs.Ytahmlcjgcdajbaa
open Go.RowKit Go.Hub
theorem wsz3_n : (Try.prog.info? 3).map (·.size) = some 1 := by kernel_rfl
theorem wsz69_n : (Try.prog.info? 69).map (·.size) = some 1 := by kernel_rfl
theorem wsz73_n : (Try.prog.info? 73).map (·.size) = some 3 := by kernel_rfl
theorem wbl73_0_1_2_n (x0 : Int) (x1 : Int) (x2 : Option Addr) (y2 z2 : Nat) : Try.prog.built 73 [(0, .int .i64 x0), (1, .int .i64 x1), (2, .slice x2 y2 z2)] = some #[.int .i64 x0, .int .i64 x1, .slice x2 y2 z2] := by kernel_rfl

def HearPost (rows : Rows15) (me fr ep tm : Int) (l : List Dt) (m : Nat) (fp : List Nat) (w : World) (e : Ending) (w' : World) : Prop :=
  e = .returned (.bool (hearB rows me fr ep tm l)) ∧ Kept fp w w' ∧ ∃ fp', MatI (71, 73) w' m fp' (hearR rows me fr ep tm l) me ∧ ∀ x ∈ fp', x ∈ fp ∨ w.heap.size ≤ x
def HearSet (rows : Rows15) (me fr ep tm : Int) (l : List Dt) (m : Nat) (fp : List Nat) (w w' : World) : Prop :=
  Kept fp w w' ∧ ∃ fp', MatI (71, 73) w' m fp' (rows.set fr.toNat (ep, tm, l)) me ∧ ∀ x ∈ fp', x ∈ fp ∨ w.heap.size ≤ x
theorem hear_yes {rows : Rows15} {me fr ep tm : Int} {l : List Dt} {m : Nat} {fp : List Nat} {w w' : World} (hb : hearB rows me fr ep tm l = true) (h : HearSet rows me fr ep tm l m fp w w') : HearPost rows me fr ep tm l m fp w (.returned (.bool true)) w' := by
  refine ⟨by rw [hb], h.1, ?_⟩
  unfold hearR
  rw [if_pos hb]
  exact h.2
theorem hear_no {me fr ep tm : Int} {l : List Dt} {m r : Nat} {fp : List Nat} {w w' : World} {ents : List Ent} (hb : hearB (ents.map Ent.abs) me fr ep tm l = false) (M : MatA (71, 73) w m r fp ents me) (HK : Kept [] w w') : HearPost (ents.map Ent.abs) me fr ep tm l m fp w (.returned (.bool false)) w' := by
  refine ⟨by rw [hb], HK.mono (by simp), fp, ?_, fun x hx => .inl hx⟩
  unfold hearR
  rw [if_neg (by rw [hb]; simp)]
  exact ⟨r, ents, rfl, M.kept HK (by simp)⟩
theorem hear_set {me fr ep tm : Int} {l : List Dt} {m r : Nat} {fp : List Nat} {w w1 w2 wc : World} {ents : List Ent} {A : Option Addr} {c : Nat} (HK : Kept [] w w1) (M : MatA (71, 73) w1 m r fp ents me) (FC : Fresh wc w1 32 3 A l.length c (dcells l)) (h0 : 0 ≤ fr) (h1 : fr < ents.length) (hl : l.length ≤ 1000000)
    (NB : Blk w2 r 73 (setSeg (ents.flatMap ecell) (0 + fr.toNat * 3) [.int .i64 ep, .int .i64 tm, .slice A l.length c]).toArray) (ks : Kept [r] w1 w2) (hwc : w.heap.size ≤ wc.heap.size) (hfp : ∀ x ∈ fp, x < w.heap.size) : HearSet (ents.map Ent.abs) me fr ep tm l m fp w w2 := by
  have hi : fr.toNat < ents.length := by omega
  rw [Nat.zero_add] at NB
  have hs := flat_seg ecell 3 (fun _ => rfl) (by omega) ents fr.toNat ⟨ep, tm, l, A, c⟩ hi
  rw [show setSeg (ents.flatMap ecell) (fr.toNat * 3) [.int .i64 ep, .int .i64 tm, .slice A l.length c] = (ents.set fr.toNat ⟨ep, tm, l, A, c⟩).flatMap ecell from hs] at NB
  have hA : ∀ a, A = some a → w.heap.size ≤ a.block := fun a ha => Nat.le_trans hwc (FC.lo a.block (by rw [ha]; rfl))
  have hrlt := hfp r M.rfp
  refine ⟨(HK.mono (L' := fp) (by simp)).trans ks (fun x hx _ => by simp at hx; subst hx; exact M.rfp), (A.map (·.block)).toList ++ fp, ⟨r, ents.set fr.toNat ⟨ep, tm, l, A, c⟩, ?_, ?_⟩, fun x hx => ?_⟩
  · rw [List.map_set]; rfl
  · have hne : ∀ a, A = some a → a.block ≠ r := fun a ha e => by have := hA a ha; omega
    refine ⟨?_, NB, by simpa using M.one, by simpa using M.most, M.s0, by simpa using M.s1, by simp [M.mfp], by simp [M.rfp], M.mr, fun e he => ?_, fun x hx => ?_⟩
    · have := M.top.kept ks (by have := M.mr; simpa using this)
      simpa using this
    · rcases List.mem_or_eq_of_mem_set he with h | rfl
      · exact ((M.ok e h).kept2 ks).more (by simp; exact fun x hx => .inr hx)
      · refine ⟨Sl.keptF FC.sl ks fun a ha hx => hne a ha (by simpa using hx), fun a ha => ⟨by simp; exact .inl ⟨a, ha, rfl⟩, by simpa using hne a ha⟩, hl⟩
    · simp at hx
      rcases hx with ⟨a, ha, rfl⟩ | hx
      · have := FC.own.blk a.block ((own_block A l.length c a.block).2 (by rw [ha]; rfl))
        exact Nat.lt_of_lt_of_le this.1 ks.size
      · exact Nat.lt_of_lt_of_le (M.lt x hx) ks.size
  · simp at hx
    rcases hx with ⟨a, ha, rfl⟩ | hx
    · exact .inr (hA a ha)
    · exact .inl hx

set_option maxHeartbeats 1000000 in
theorem hear_any (m r : Nat) (fp : List Nat) (ents : List Ent) (me fr ep tm : Int) (l : List Dt) (A : Option Addr) (c : Nat) (w : World) (M : MatA (71, 73) w m r fp ents me) (A1 : Ds w A l) (hm : l.length ≤ 1000000) : Calls Try.prog 31 #[.pointer (some ⟨m, 0, none⟩), .int .i64 fr, .int .i64 ep, .int .i64 tm, .slice A l.length c] w (HearPost (ents.map Ent.abs) me fr ep tm l m fp w) := by
  have HK : Kept [] w w := Kept.refl [] w
  have hmo := M.most
  have Bm := M.top
  have hmr := M.mr
  have hrl := M.lt r M.rfp
  refine C.enter Try.func31 rfl Try.ntmps31 rfl ?_
  intro a0 f0
  have f1 : Fr 78 a0 [(0, .pointer (some ⟨m, 0, none⟩)), (1, .int .i64 fr), (2, .int .i64 ep), (3, .int .i64 tm), (4, .slice A l.length c)] := f0
  clear f0
  refine wp_seq_k fun K0 hK0 => ?_
  refine C.region ?_
  refine L.val f1 wantedN rfl (by decide) (E.assign f1 rfl) fun a2 f2 => ?_
  clear f1 a0
  refine wpList_nil (hK0 _ _ ?_)
  try clear hK0 K0
  have f3 := f2.sub (sub_cons (i := 0) rfl (sub_cons (i := 1) rfl (sub_cons (i := 2) rfl (sub_cons (i := 3) rfl (sub_cons (i := 4) rfl (sub_cons (i := 10) rfl sub_nil))))))
  clear f2
  refine wp_seq_k fun K1 hK1 => ?_
  refine wp_seq_k fun K2 hK2 => ?_
  refine C.region ?_
  refine L.val f3 wantedN rfl (by decide) (E.move f3 rfl) fun a4 f4 => ?_
  clear f3 a2
  refine L.val f4 wantedN rfl (by decide) (E.lss f4 rfl rfl) fun a5 f5 => ?_
  clear f4 a4
  refine L.val f5 wantedN rfl (by decide) (E.move f5 rfl) fun a6 f6 => ?_
  clear f5 a5
  first | refine f6.splitD 14 rfl (fun h0 f7 => ?_) (fun h0 f7 => ?_) | refine f6.splitN 14 rfl (fun h0 f7 => ?_) (fun h0 f7 => ?_) | refine f6.splitNB 14 rfl (fun h0 f7 => ?_) (fun h0 f7 => ?_) | refine f6.split 14 rfl (fun h0 f7 => ?_) (fun h0 f7 => ?_)
  · clear f6
    refine L.skip f7 (f7.noF rfl rfl) rfl (by decide) fun a8 f8 => ?_
    clear f7 a6
    refine L.skip f8 (f8.noF rfl rfl) rfl (by decide) fun a9 f9 => ?_
    clear f8 a8
    refine L.skip f9 (f9.noF rfl rfl) rfl (by decide) fun a10 f10 => ?_
    clear f9 a9
    refine L.skip f10 (f10.noF rfl rfl) rfl (by decide) fun a11 f11 => ?_
    clear f10 a10
    refine L.skip f11 (f11.noF rfl rfl) rfl (by decide) fun a12 f12 => ?_
    clear f11 a11
    refine L.skip f12 (f12.noF rfl rfl) rfl (by decide) fun a13 f13 => ?_
    clear f12 a12
    refine L.skip f13 (f13.noF rfl rfl) rfl (by decide) fun a14 f14 => ?_
    clear f13 a13
    refine L.val f14 wantedN rfl (by decide) (E.pickT f14 rfl rfl) fun a15 f15 => ?_
    clear f14 a14
    refine L.val f15 wantedN rfl (by decide) (E.move f15 rfl) fun a16 f16 => ?_
    clear f15 a15
    refine L.skip f16 (f16.noF rfl rfl) rfl (by decide) fun a17 f17 => ?_
    clear f16 a16
    refine L.skip f17 (f17.noF rfl rfl) rfl (by decide) fun a18 f18 => ?_
    clear f17 a17
    refine L.skip f18 (f18.noF rfl rfl) rfl (by decide) fun a19 f19 => ?_
    clear f18 a18
    refine L.skip f19 (f19.noF rfl rfl) rfl (by decide) fun a20 f20 => ?_
    clear f19 a19
    refine L.skip f20 (f20.noF rfl rfl) rfl (by decide) fun a21 f21 => ?_
    clear f20 a20
    refine L.skip f21 (f21.noF rfl rfl) rfl (by decide) fun a22 f22 => ?_
    clear f21 a21
    refine L.val f22 wantedN rfl (by decide) (E.pickT f22 rfl rfl) fun a23 f23 => ?_
    clear f22 a22
    refine L.val f23 wantedN rfl (by decide) (E.move f23 rfl) fun a24 f24 => ?_
    clear f23 a23
    refine L.skip f24 (f24.noF rfl rfl) rfl (by decide) fun a25 f25 => ?_
    clear f24 a24
    refine L.skip f25 (f25.noF rfl rfl) rfl (by decide) fun a26 f26 => ?_
    clear f25 a25
    refine L.val f26 wantedN rfl (by decide) (E.pickT f26 rfl rfl) fun a27 f27 => ?_
    clear f26 a26
    refine L.val f27 wantedN rfl (by decide) (E.move f27 rfl) fun a28 f28 => ?_
    clear f27 a27
    refine L.skip f28 (f28.noF rfl rfl) rfl (by decide) fun a29 f29 => ?_
    clear f28 a28
    refine L.skip f29 (f29.noF rfl rfl) rfl (by decide) fun a30 f30 => ?_
    clear f29 a29
    refine L.val f30 wantedN rfl (by decide) (E.pickT f30 rfl rfl) fun a31 f31 => ?_
    clear f30 a30
    refine L.val f31 wantedN rfl (by decide) (E.move f31 rfl) fun a32 f32 => ?_
    clear f31 a31
    refine L.skip f32 (f32.noF rfl rfl) rfl (by decide) fun a33 f33 => ?_
    clear f32 a32
    refine L.skip f33 (f33.noF rfl rfl) rfl (by decide) fun a34 f34 => ?_
    clear f33 a33
    refine L.skip f34 (f34.noF rfl rfl) rfl (by decide) fun a35 f35 => ?_
    clear f34 a34
    refine L.val f35 wantedN rfl (by decide) (E.pickT f35 rfl rfl) fun a36 f36 => ?_
    clear f35 a35
    refine wpList_nil (hK2 _ _ ?_)
    try clear hK2 K2
    have f37 := f36.sub (sub_cons (i := 0) rfl (sub_cons (i := 1) rfl (sub_cons (i := 2) rfl (sub_cons (i := 3) rfl (sub_cons (i := 4) rfl (sub_cons (i := 10) rfl (sub_cons (i := 43) rfl sub_nil)))))))
    clear f36
    refine C.condT f37 rfl ?_
    refine wp_seq_k fun K3 hK3 => ?_
    refine C.region ?_
    refine L.val f37 wantedN rfl (by decide) (E.assign f37 rfl) fun a38 f38 => ?_
    clear f37 a36
    refine wpList_nil (hK3 _ _ ?_)
    try clear hK3 K3
    have f39 := f38.sub (sub_cons (i := 0) rfl (sub_cons (i := 1) rfl (sub_cons (i := 2) rfl (sub_cons (i := 3) rfl (sub_cons (i := 4) rfl (sub_cons (i := 10) rfl sub_nil))))))
    clear f38
    refine wp_ret ?_
    try simp only [Exit.inBlock, Exit.then]
    refine C.ret (P := Try.prog) (fn := Try.f31) f39 rfl rfl ?_
    have hb : hearB (ents.map Ent.abs) me fr ep tm l = false := by simp [hearB, later, Ent.abs, *] <;> omega
    exact hear_no hb M HK
  · clear f6
    refine L.val f7 (f7.yes rfl rfl) rfl (by decide) (E.move f7 rfl) fun a8 f8 => ?_
    clear f7 a6
    refine L.val f8 (f8.yes rfl rfl) rfl (by decide) (E.move f8 rfl) fun a9 f9 => ?_
    clear f8 a8
    refine L.val f9 (f9.yes rfl rfl) rfl (by decide) (E.nilCheck f9 rfl) fun a10 f10 => ?_
    clear f9 a9
    refine L.val f10 (f10.yes rfl rfl) rfl (by decide) (E.fieldAddr f10 Try.underlying71 rfl rfl wsz69_n) fun a11 f11 => ?_
    clear f10 a10
    refine L.val f11 (f11.yes rfl rfl) rfl (by decide) (by exact E.load f11 Try.underlying69 rfl rfl ((Bm).cl rfl)) fun a12 f12 => ?_
    clear f11 a11
    refine L.val f12 (f12.yes rfl rfl) rfl (by decide) (E.lenL f12 Try.underlying69 rfl) fun a13 f13 => ?_
    clear f12 a12
    refine L.val f13 (f13.yes rfl rfl) rfl (by decide) (E.geq f13 rfl rfl) fun a14 f14 => ?_
    clear f13 a13
    refine L.val f14 wantedN rfl (by decide) (E.pickF f14 rfl rfl) fun a15 f15 => ?_
    clear f14 a14
    refine L.val f15 wantedN rfl (by decide) (E.move f15 rfl) fun a16 f16 => ?_
    clear f15 a15
    first | refine f16.splitD 23 rfl (fun h1 f17 => ?_) (fun h1 f17 => ?_) | refine f16.splitN 23 rfl (fun h1 f17 => ?_) (fun h1 f17 => ?_) | refine f16.splitNB 23 rfl (fun h1 f17 => ?_) (fun h1 f17 => ?_) | refine f16.split 23 rfl (fun h1 f17 => ?_) (fun h1 f17 => ?_)
    · clear f16
      refine L.skip f17 (f17.noF rfl rfl) rfl (by decide) fun a18 f18 => ?_
      clear f17 a16
      refine L.skip f18 (f18.noF rfl rfl) rfl (by decide) fun a19 f19 => ?_
      clear f18 a18
      refine L.skip f19 (f19.noF rfl rfl) rfl (by decide) fun a20 f20 => ?_
      clear f19 a19
      refine L.skip f20 (f20.noF rfl rfl) rfl (by decide) fun a21 f21 => ?_
      clear f20 a20
      refine L.skip f21 (f21.noF rfl rfl) rfl (by decide) fun a22 f22 => ?_
      clear f21 a21
      refine L.skip f22 (f22.noF rfl rfl) rfl (by decide) fun a23 f23 => ?_
      clear f22 a22
      refine L.val f23 wantedN rfl (by decide) (E.pickT f23 rfl rfl) fun a24 f24 => ?_
      clear f23 a23
      refine L.val f24 wantedN rfl (by decide) (E.move f24 rfl) fun a25 f25 => ?_
      clear f24 a24
      refine L.skip f25 (f25.noF rfl rfl) rfl (by decide) fun a26 f26 => ?_
      clear f25 a25
      refine L.skip f26 (f26.noF rfl rfl) rfl (by decide) fun a27 f27 => ?_
      clear f26 a26
      refine L.val f27 wantedN rfl (by decide) (E.pickT f27 rfl rfl) fun a28 f28 => ?_
      clear f27 a27
      refine L.val f28 wantedN rfl (by decide) (E.move f28 rfl) fun a29 f29 => ?_
      clear f28 a28
      refine L.skip f29 (f29.noF rfl rfl) rfl (by decide) fun a30 f30 => ?_
      clear f29 a29
      refine L.skip f30 (f30.noF rfl rfl) rfl (by decide) fun a31 f31 => ?_
      clear f30 a30
      refine L.val f31 wantedN rfl (by decide) (E.pickT f31 rfl rfl) fun a32 f32 => ?_
      clear f31 a31
      refine L.val f32 wantedN rfl (by decide) (E.move f32 rfl) fun a33 f33 => ?_
      clear f32 a32
      refine L.skip f33 (f33.noF rfl rfl) rfl (by decide) fun a34 f34 => ?_
      clear f33 a33
      refine L.skip f34 (f34.noF rfl rfl) rfl (by decide) fun a35 f35 => ?_
      clear f34 a34
      refine L.skip f35 (f35.noF rfl rfl) rfl (by decide) fun a36 f36 => ?_
      clear f35 a35
      refine L.val f36 wantedN rfl (by decide) (E.pickT f36 rfl rfl) fun a37 f37 => ?_
      clear f36 a36
      refine wpList_nil (hK2 _ _ ?_)
      try clear hK2 K2
      have f38 := f37.sub (sub_cons (i := 0) rfl (sub_cons (i := 1) rfl (sub_cons (i := 2) rfl (sub_cons (i := 3) rfl (sub_cons (i := 4) rfl (sub_cons (i := 10) rfl (sub_cons (i := 43) rfl sub_nil)))))))
      clear f37
      refine C.condT f38 rfl ?_
      refine wp_seq_k fun K4 hK4 => ?_
      refine C.region ?_
      refine L.val f38 wantedN rfl (by decide) (E.assign f38 rfl) fun a39 f39 => ?_
      clear f38 a37
      refine wpList_nil (hK4 _ _ ?_)
      try clear hK4 K4
      have f40 := f39.sub (sub_cons (i := 0) rfl (sub_cons (i := 1) rfl (sub_cons (i := 2) rfl (sub_cons (i := 3) rfl (sub_cons (i := 4) rfl (sub_cons (i := 10) rfl sub_nil))))))
      clear f39
      refine wp_ret ?_
      try simp only [Exit.inBlock, Exit.then]
      refine C.ret (P := Try.prog) (fn := Try.f31) f40 rfl rfl ?_
      have hb : hearB (ents.map Ent.abs) me fr ep tm l = false := by simp [hearB, later, Ent.abs, *] <;> omega
      exact hear_no hb M HK
    · clear f16
      refine L.val f17 (f17.yes rfl rfl) rfl (by decide) (E.move f17 rfl) fun a18 f18 => ?_
      clear f17 a16
      refine L.val f18 (f18.yes rfl rfl) rfl (by decide) (E.move f18 rfl) fun a19 f19 => ?_
      clear f18 a18
      refine L.val f19 (f19.yes rfl rfl) rfl (by decide) (E.nilCheck f19 rfl) fun a20 f20 => ?_
      clear f19 a19
      refine L.val f20 (f20.yes rfl rfl) rfl (by decide) (E.fieldAddr f20 Try.underlying71 rfl rfl wsz3_n) fun a21 f21 => ?_
      clear f20 a20
      refine L.val f21 (f21.yes rfl rfl) rfl (by decide) (by exact E.load f21 Try.underlying3 rfl rfl ((Bm).cl rfl)) fun a22 f22 => ?_
      clear f21 a21
      refine L.val f22 (f22.yes rfl rfl) rfl (by decide) (E.eql f22 rfl rfl) fun a23 f23 => ?_
      clear f22 a22
      refine L.val f23 wantedN rfl (by decide) (E.pickF f23 rfl rfl) fun a24 f24 => ?_
      clear f23 a23
      refine L.val f24 wantedN rfl (by decide) (E.move f24 rfl) fun a25 f25 => ?_
      clear f24 a24
      first | refine f25.splitD 31 rfl (fun h2 f26 => ?_) (fun h2 f26 => ?_) | refine f25.splitN 31 rfl (fun h2 f26 => ?_) (fun h2 f26 => ?_) | refine f25.splitNB 31 rfl (fun h2 f26 => ?_) (fun h2 f26 => ?_) | refine f25.split 31 rfl (fun h2 f26 => ?_) (fun h2 f26 => ?_)
      · clear f25
        refine L.skip f26 (f26.noF rfl rfl) rfl (by decide) fun a27 f27 => ?_
        clear f26 a25
        refine L.skip f27 (f27.noF rfl rfl) rfl (by decide) fun a28 f28 => ?_
        clear f27 a27
        refine L.val f28 wantedN rfl (by decide) (E.pickT f28 rfl rfl) fun a29 f29 => ?_
        clear f28 a28
        refine L.val f29 wantedN rfl (by decide) (E.move f29 rfl) fun a30 f30 => ?_
        clear f29 a29
        refine L.skip f30 (f30.noF rfl rfl) rfl (by decide) fun a31 f31 => ?_
        clear f30 a30
        refine L.skip f31 (f31.noF rfl rfl) rfl (by decide) fun a32 f32 => ?_
        clear f31 a31
        refine L.val f32 wantedN rfl (by decide) (E.pickT f32 rfl rfl) fun a33 f33 => ?_
        clear f32 a32
        refine L.val f33 wantedN rfl (by decide) (E.move f33 rfl) fun a34 f34 => ?_
        clear f33 a33
        refine L.skip f34 (f34.noF rfl rfl) rfl (by decide) fun a35 f35 => ?_
        clear f34 a34
        refine L.skip f35 (f35.noF rfl rfl) rfl (by decide) fun a36 f36 => ?_
        clear f35 a35
        refine L.skip f36 (f36.noF rfl rfl) rfl (by decide) fun a37 f37 => ?_
        clear f36 a36
        refine L.val f37 wantedN rfl (by decide) (E.pickT f37 rfl rfl) fun a38 f38 => ?_
        clear f37 a37
        refine wpList_nil (hK2 _ _ ?_)
        try clear hK2 K2
        have f39 := f38.sub (sub_cons (i := 0) rfl (sub_cons (i := 1) rfl (sub_cons (i := 2) rfl (sub_cons (i := 3) rfl (sub_cons (i := 4) rfl (sub_cons (i := 10) rfl (sub_cons (i := 43) rfl sub_nil)))))))
        clear f38
        refine C.condT f39 rfl ?_
        refine wp_seq_k fun K5 hK5 => ?_
        refine C.region ?_
        refine L.val f39 wantedN rfl (by decide) (E.assign f39 rfl) fun a40 f40 => ?_
        clear f39 a38
        refine wpList_nil (hK5 _ _ ?_)
        try clear hK5 K5
        have f41 := f40.sub (sub_cons (i := 0) rfl (sub_cons (i := 1) rfl (sub_cons (i := 2) rfl (sub_cons (i := 3) rfl (sub_cons (i := 4) rfl (sub_cons (i := 10) rfl sub_nil))))))
        clear f40
        refine wp_ret ?_
        try simp only [Exit.inBlock, Exit.then]
        refine C.ret (P := Try.prog) (fn := Try.f31) f41 rfl rfl ?_
        have hb : hearB (ents.map Ent.abs) me fr ep tm l = false := by simp [hearB, later, Ent.abs, *] <;> omega
        exact hear_no hb M HK
      · clear f25
        refine L.val f26 (f26.yes rfl rfl) rfl (by decide) (E.move f26 rfl) fun a27 f27 => ?_
        clear f26 a25
        refine L.val f27 (f27.yes rfl rfl) rfl (by decide) (E.lss f27 rfl rfl) fun a28 f28 => ?_
        clear f27 a27
        refine L.val f28 wantedN rfl (by decide) (E.pickF f28 rfl rfl) fun a29 f29 => ?_
        clear f28 a28
        refine L.val f29 wantedN rfl (by decide) (E.move f29 rfl) fun a30 f30 => ?_
        clear f29 a29
        first | refine f30.splitD 35 rfl (fun h3 f31 => ?_) (fun h3 f31 => ?_) | refine f30.splitN 35 rfl (fun h3 f31 => ?_) (fun h3 f31 => ?_) | refine f30.splitNB 35 rfl (fun h3 f31 => ?_) (fun h3 f31 => ?_) | refine f30.split 35 rfl (fun h3 f31 => ?_) (fun h3 f31 => ?_)
        · clear f30
          refine L.skip f31 (f31.noF rfl rfl) rfl (by decide) fun a32 f32 => ?_
          clear f31 a30
          refine L.skip f32 (f32.noF rfl rfl) rfl (by decide) fun a33 f33 => ?_
          clear f32 a32
          refine L.val f33 wantedN rfl (by decide) (E.pickT f33 rfl rfl) fun a34 f34 => ?_
          clear f33 a33
          refine L.val f34 wantedN rfl (by decide) (E.move f34 rfl) fun a35 f35 => ?_
          clear f34 a34
          refine L.skip f35 (f35.noF rfl rfl) rfl (by decide) fun a36 f36 => ?_
          clear f35 a35
          refine L.skip f36 (f36.noF rfl rfl) rfl (by decide) fun a37 f37 => ?_
          clear f36 a36
          refine L.skip f37 (f37.noF rfl rfl) rfl (by decide) fun a38 f38 => ?_
          clear f37 a37
          refine L.val f38 wantedN rfl (by decide) (E.pickT f38 rfl rfl) fun a39 f39 => ?_
          clear f38 a38
          refine wpList_nil (hK2 _ _ ?_)
          try clear hK2 K2
          have f40 := f39.sub (sub_cons (i := 0) rfl (sub_cons (i := 1) rfl (sub_cons (i := 2) rfl (sub_cons (i := 3) rfl (sub_cons (i := 4) rfl (sub_cons (i := 10) rfl (sub_cons (i := 43) rfl sub_nil)))))))
          clear f39
          refine C.condT f40 rfl ?_
          refine wp_seq_k fun K6 hK6 => ?_
          refine C.region ?_
          refine L.val f40 wantedN rfl (by decide) (E.assign f40 rfl) fun a41 f41 => ?_
          clear f40 a39
          refine wpList_nil (hK6 _ _ ?_)
          try clear hK6 K6
          have f42 := f41.sub (sub_cons (i := 0) rfl (sub_cons (i := 1) rfl (sub_cons (i := 2) rfl (sub_cons (i := 3) rfl (sub_cons (i := 4) rfl (sub_cons (i := 10) rfl sub_nil))))))
          clear f41
          refine wp_ret ?_
          try simp only [Exit.inBlock, Exit.then]
          refine C.ret (P := Try.prog) (fn := Try.f31) f42 rfl rfl ?_
          have hb : hearB (ents.map Ent.abs) me fr ep tm l = false := by simp [hearB, later, Ent.abs, *] <;> omega
          exact hear_no hb M HK
        · clear f30
          refine L.val f31 (f31.yes rfl rfl) rfl (by decide) (E.move f31 rfl) fun a32 f32 => ?_
          clear f31 a30
          refine L.val f32 (f32.yes rfl rfl) rfl (by decide) (E.lss f32 rfl rfl) fun a33 f33 => ?_
          clear f32 a32
          refine L.val f33 wantedN rfl (by decide) (E.pickF f33 rfl rfl) fun a34 f34 => ?_
          clear f33 a33
          refine L.val f34 wantedN rfl (by decide) (E.move f34 rfl) fun a35 f35 => ?_
          clear f34 a34
          first | refine f35.splitD 39 rfl (fun h4 f36 => ?_) (fun h4 f36 => ?_) | refine f35.splitN 39 rfl (fun h4 f36 => ?_) (fun h4 f36 => ?_) | refine f35.splitNB 39 rfl (fun h4 f36 => ?_) (fun h4 f36 => ?_) | refine f35.split 39 rfl (fun h4 f36 => ?_) (fun h4 f36 => ?_)
          · clear f35
            refine L.skip f36 (f36.noF rfl rfl) rfl (by decide) fun a37 f37 => ?_
            clear f36 a35
            refine L.skip f37 (f37.noF rfl rfl) rfl (by decide) fun a38 f38 => ?_
            clear f37 a37
            refine L.skip f38 (f38.noF rfl rfl) rfl (by decide) fun a39 f39 => ?_
            clear f38 a38
            refine L.val f39 wantedN rfl (by decide) (E.pickT f39 rfl rfl) fun a40 f40 => ?_
            clear f39 a39
            refine wpList_nil (hK2 _ _ ?_)
            try clear hK2 K2
            have f41 := f40.sub (sub_cons (i := 0) rfl (sub_cons (i := 1) rfl (sub_cons (i := 2) rfl (sub_cons (i := 3) rfl (sub_cons (i := 4) rfl (sub_cons (i := 10) rfl (sub_cons (i := 43) rfl sub_nil)))))))
            clear f40
            refine C.condT f41 rfl ?_
            refine wp_seq_k fun K7 hK7 => ?_
            refine C.region ?_
            refine L.val f41 wantedN rfl (by decide) (E.assign f41 rfl) fun a42 f42 => ?_
            clear f41 a40
            refine wpList_nil (hK7 _ _ ?_)
            try clear hK7 K7
            have f43 := f42.sub (sub_cons (i := 0) rfl (sub_cons (i := 1) rfl (sub_cons (i := 2) rfl (sub_cons (i := 3) rfl (sub_cons (i := 4) rfl (sub_cons (i := 10) rfl sub_nil))))))
            clear f42
            refine wp_ret ?_
            try simp only [Exit.inBlock, Exit.then]
            refine C.ret (P := Try.prog) (fn := Try.f31) f43 rfl rfl ?_
            have hb : hearB (ents.map Ent.abs) me fr ep tm l = false := by simp [hearB, later, Ent.abs, *] <;> omega
            exact hear_no hb M HK
          · clear f35
            refine L.val f36 (f36.yes rfl rfl) rfl (by decide) (E.move f36 rfl) fun a37 f37 => ?_
            clear f36 a35
            refine L.call f37 (f37.yes rfl rfl) rfl (by decide) (run_call Try.call16 (args1 f37 rfl)) (right_any l _ _ _ (A1.kept HK) (by unfold maxLen; omega)) ?_
            rintro e w1 ⟨kc1, rfl⟩
            refine ⟨_, rfl, fun a38 f38 => ?_⟩
            clear f37 a37
            have szw1 := kc1.size
            replace HK := HK.trans kc1 (by simp)
            replace Bm := Bm.kept kc1 (by simp)
            clear kc1
            refine L.val f38 (f38.yes rfl rfl) rfl (by decide) (E.not f38 rfl) fun a39 f39 => ?_
            clear f38 a38
            refine L.val f39 wantedN rfl (by decide) (E.pickF f39 rfl rfl) fun a40 f40 => ?_
            clear f39 a39
            refine wpList_nil (hK2 _ _ ?_)
            try clear hK2 K2
            have f41 := f40.sub (sub_cons (i := 0) rfl (sub_cons (i := 1) rfl (sub_cons (i := 2) rfl (sub_cons (i := 3) rfl (sub_cons (i := 4) rfl (sub_cons (i := 10) rfl (sub_cons (i := 43) rfl sub_nil)))))))
            clear f40
            first | refine f41.splitD 43 rfl (fun h5 f42 => ?_) (fun h5 f42 => ?_) | refine f41.splitN 43 rfl (fun h5 f42 => ?_) (fun h5 f42 => ?_) | refine f41.splitNB 43 rfl (fun h5 f42 => ?_) (fun h5 f42 => ?_) | refine f41.split 43 rfl (fun h5 f42 => ?_) (fun h5 f42 => ?_)
            · clear f41
              refine C.condT f42 rfl ?_
              refine wp_seq_k fun K8 hK8 => ?_
              refine C.region ?_
              refine L.val f42 wantedN rfl (by decide) (E.assign f42 rfl) fun a43 f43 => ?_
              clear f42 a40
              refine wpList_nil (hK8 _ _ ?_)
              try clear hK8 K8
              have f44 := f43.sub (sub_cons (i := 0) rfl (sub_cons (i := 1) rfl (sub_cons (i := 2) rfl (sub_cons (i := 3) rfl (sub_cons (i := 4) rfl (sub_cons (i := 10) rfl sub_nil))))))
              clear f43
              refine wp_ret ?_
              try simp only [Exit.inBlock, Exit.then]
              refine C.ret (P := Try.prog) (fn := Try.f31) f44 rfl rfl ?_
              have hb : hearB (ents.map Ent.abs) me fr ep tm l = false := by simp [hearB, later, Ent.abs, *] <;> omega
              exact hear_no hb M HK
            · clear f41
              refine C.condF f42 rfl ?_
              refine wp_skip (hK1 _ _ ?_)
              try clear hK1 K1
              have f43 := f42.sub (sub_cons (i := 0) rfl (sub_cons (i := 1) rfl (sub_cons (i := 2) rfl (sub_cons (i := 3) rfl (sub_cons (i := 4) rfl (sub_cons (i := 10) rfl sub_nil))))))
              clear f42
              refine wp_seq_k fun K9 hK9 => ?_
              refine wp_seq_k fun K10 hK10 => ?_
              obtain ⟨e, he⟩ : ∃ e, ents[fr.toNat]? = some e := ⟨ents[fr.toNat]'(by omega), List.getElem?_eq_getElem _⟩
              refine C.region ?_
              refine L.val f43 wantedN rfl (by decide) (E.move f43 rfl) fun a44 f44 => ?_
              clear f43 a40
              refine L.val f44 wantedN rfl (by decide) (E.nilCheck f44 rfl) fun a45 f45 => ?_
              clear f44 a44
              refine L.val f45 wantedN rfl (by decide) (E.fieldAddr f45 Try.underlying71 rfl rfl wsz69_n) fun a46 f46 => ?_
              clear f45 a45
              refine L.val f46 wantedN rfl (by decide) (by exact E.load f46 Try.underlying69 rfl rfl ((Bm).cl rfl)) fun a47 f47 => ?_
              clear f46 a46
              refine L.val f47 wantedN rfl (by decide) (E.move f47 rfl) fun a48 f48 => ?_
              clear f47 a47
              refine L.val f48 wantedN rfl (by decide) (E.indexA f48 (by first | rfl | assumption) Try.underlying69 wsz73_n rfl rfl (by omega) (by omega)) fun a49 f49 => ?_
              clear f48 a48
              refine L.val f49 wantedN rfl (by decide) (by first | exact E.loadB f49 Try.underlying73 rfl wsz73_n rfl (Bm) rfl | exact E.loadR f49 Try.underlying73 rfl wsz73_n rfl ((M.kept HK (by simp)).row he) rfl) fun a50 f50 => ?_
              clear f49 a49
              refine L.alloc f50 wantedN (by decide) (z := (.agg #[(.int .i64 0), (.int .i64 0), (.slice none 0 0)])) (fun _ => by kernel_rfl) rfl fun a51 w2 g1 N1 f51 => ?_
              have Bg1 := N1.blk
              have kg1 := N1.kept
              have log1 := N1.lo
              have ltg1 := Bg1.lt
              have szw2 := kg1.size
              have frg1 : w.heap.size ≤ g1 := Nat.le_trans HK.size log1
              have nem_g1 : m ≠ g1 := by have := Bm.lt; omega
              replace HK := HK.trans kg1 (by simp)
              replace Bm := Bm.kept kg1 (by simp)
              clear N1 kg1
              clear f50 a50
              refine L.storeR f51 wantedN wsz73_n rfl rfl rfl Bg1 rfl rfl fun a52 w3 f52 NB3 ks3 => ?_
              have szw3 := ks3.size
              replace HK := HK.trans ks3 (by intro x hx hlt; simp at hx; subst hx; first | (exfalso; omega) | simp)
              replace Bm := Bm.kept ks3 (by simp; omega)
              replace Bg1 := NB3
              clear ks3 f51 a51
              refine wpList_nil (hK10 _ _ ?_)
              try clear hK10 K10
              have f53 := f52.sub (sub_cons (i := 0) rfl (sub_cons (i := 1) rfl (sub_cons (i := 2) rfl (sub_cons (i := 3) rfl (sub_cons (i := 4) rfl (sub_cons (i := 10) rfl (sub_cons (i := 11) rfl sub_nil)))))))
              clear f52
              refine wp_seq_k fun K11 hK11 => ?_
              refine C.region ?_
              refine L.val f53 wantedN rfl (by decide) (E.move f53 rfl) fun a54 f54 => ?_
              clear f53 a52
              refine L.val f54 wantedN rfl (by decide) (E.fieldAddr f54 Try.underlying73 rfl rfl wsz3_n) fun a55 f55 => ?_
              clear f54 a54
              refine L.val f55 wantedN rfl (by decide) (by first | exact E.load f55 Try.underlying3 rfl rfl ((Bm).cl rfl) | exact E.load f55 Try.underlying3 rfl rfl ((Bg1).cl rfl)) fun a56 f56 => ?_
              clear f55 a55
              refine L.val f56 wantedN rfl (by decide) (E.lss f56 rfl rfl) fun a57 f57 => ?_
              clear f56 a56
              refine L.val f57 wantedN rfl (by decide) (E.move f57 rfl) fun a58 f58 => ?_
              clear f57 a57
              first | refine f58.splitD 55 rfl (fun h6 f59 => ?_) (fun h6 f59 => ?_) | refine f58.splitN 55 rfl (fun h6 f59 => ?_) (fun h6 f59 => ?_) | refine f58.splitNB 55 rfl (fun h6 f59 => ?_) (fun h6 f59 => ?_) | refine f58.split 55 rfl (fun h6 f59 => ?_) (fun h6 f59 => ?_)
              · clear f58
                refine L.skip f59 (f59.noF rfl rfl) rfl (by decide) fun a60 f60 => ?_
                clear f59 a58
                refine L.skip f60 (f60.noF rfl rfl) rfl (by decide) fun a61 f61 => ?_
                clear f60 a60
                refine L.skip f61 (f61.noF rfl rfl) rfl (by decide) fun a62 f62 => ?_
                clear f61 a61
                refine L.skip f62 (f62.noF rfl rfl) rfl (by decide) fun a63 f63 => ?_
                clear f62 a62
                refine L.skip f63 (f63.noF rfl rfl) rfl (by decide) fun a64 f64 => ?_
                clear f63 a63
                refine L.skip f64 (f64.noU rfl rfl) rfl (by decide) fun a65 f65 => ?_
                clear f64 a64
                refine L.skip f65 (f65.noU rfl rfl) rfl (by decide) fun a66 f66 => ?_
                clear f65 a65
                refine L.skip f66 (f66.noU rfl rfl) rfl (by decide) fun a67 f67 => ?_
                clear f66 a66
                refine L.skip f67 (f67.noU rfl rfl) rfl (by decide) fun a68 f68 => ?_
                clear f67 a67
                refine L.skip f68 (f68.noF rfl rfl) rfl (by decide) fun a69 f69 => ?_
                clear f68 a68
                refine L.val f69 wantedN rfl (by decide) (E.pickT f69 rfl rfl) fun a70 f70 => ?_
                clear f69 a69
                refine wpList_nil (hK11 _ _ ?_)
                try clear hK11 K11
                have f71 := f70.sub (sub_cons (i := 0) rfl (sub_cons (i := 1) rfl (sub_cons (i := 2) rfl (sub_cons (i := 3) rfl (sub_cons (i := 4) rfl (sub_cons (i := 10) rfl (sub_cons (i := 66) rfl sub_nil)))))))
                clear f70
                refine C.condT f71 rfl ?_
                refine wp_seq_k fun K12 hK12 => ?_
                refine C.region ?_
                refine L.val f71 wantedN rfl (by decide) (E.assign f71 rfl) fun a72 f72 => ?_
                clear f71 a70
                refine wpList_nil (hK12 _ _ ?_)
                try clear hK12 K12
                have f73 := f72.sub (sub_cons (i := 0) rfl (sub_cons (i := 1) rfl (sub_cons (i := 2) rfl (sub_cons (i := 3) rfl (sub_cons (i := 4) rfl (sub_cons (i := 10) rfl sub_nil))))))
                clear f72
                refine wp_ret ?_
                try simp only [Exit.inBlock, Exit.then]
                refine C.ret (P := Try.prog) (fn := Try.f31) f73 rfl rfl ?_
                have hb : hearB (ents.map Ent.abs) me fr ep tm l = false := by simp [hearB, later, Ent.abs, *] <;> omega
                exact hear_no hb M HK
              · clear f58
                refine L.val f59 (f59.yes rfl rfl) rfl (by decide) (E.move f59 rfl) fun a60 f60 => ?_
                clear f59 a58
                refine L.val f60 (f60.yes rfl rfl) rfl (by decide) (E.fieldAddr f60 Try.underlying73 rfl rfl wsz3_n) fun a61 f61 => ?_
                clear f60 a60
                refine L.val f61 (f61.yes rfl rfl) rfl (by decide) (by first | exact E.load f61 Try.underlying3 rfl rfl ((Bm).cl rfl) | exact E.load f61 Try.underlying3 rfl rfl ((Bg1).cl rfl)) fun a62 f62 => ?_
                clear f61 a61
                refine L.val f62 (f62.yes rfl rfl) rfl (by decide) (E.eql f62 rfl rfl) fun a63 f63 => ?_
                clear f62 a62
                refine L.val f63 (f63.yes rfl rfl) rfl (by decide) (E.move f63 rfl) fun a64 f64 => ?_
                clear f63 a63
                first | refine f64.splitD 60 rfl (fun h7 f65 => ?_) (fun h7 f65 => ?_) | refine f64.splitN 60 rfl (fun h7 f65 => ?_) (fun h7 f65 => ?_) | refine f64.splitNB 60 rfl (fun h7 f65 => ?_) (fun h7 f65 => ?_) | refine f64.split 60 rfl (fun h7 f65 => ?_) (fun h7 f65 => ?_)
                · clear f64
                  refine L.val f65 (f65.yes rfl rfl) rfl (by decide) (E.move f65 rfl) fun a66 f66 => ?_
                  clear f65 a64
                  refine L.val f66 (f66.yes rfl rfl) rfl (by decide) (E.fieldAddr f66 Try.underlying73 rfl rfl wsz3_n) fun a67 f67 => ?_
                  clear f66 a66
                  refine L.val f67 (f67.yes rfl rfl) rfl (by decide) (by first | exact E.load f67 Try.underlying3 rfl rfl ((Bm).cl rfl) | exact E.load f67 Try.underlying3 rfl rfl ((Bg1).cl rfl)) fun a68 f68 => ?_
                  clear f67 a67
                  refine L.val f68 (f68.yes rfl rfl) rfl (by decide) (E.lss f68 rfl rfl) fun a69 f69 => ?_
                  clear f68 a68
                  refine L.val f69 (f69.yes rfl rfl) rfl (by decide) (E.pickT f69 rfl rfl) fun a70 f70 => ?_
                  clear f69 a69
                  refine L.val f70 wantedN rfl (by decide) (E.pickF f70 rfl rfl) fun a71 f71 => ?_
                  clear f70 a70
                  refine wpList_nil (hK11 _ _ ?_)
                  try clear hK11 K11
                  have f72 := f71.sub (sub_cons (i := 0) rfl (sub_cons (i := 1) rfl (sub_cons (i := 2) rfl (sub_cons (i := 3) rfl (sub_cons (i := 4) rfl (sub_cons (i := 10) rfl (sub_cons (i := 66) rfl sub_nil)))))))
                  clear f71
                  first | refine f72.splitD 66 rfl (fun h8 f73 => ?_) (fun h8 f73 => ?_) | refine f72.splitN 66 rfl (fun h8 f73 => ?_) (fun h8 f73 => ?_) | refine f72.splitNB 66 rfl (fun h8 f73 => ?_) (fun h8 f73 => ?_) | refine f72.split 66 rfl (fun h8 f73 => ?_) (fun h8 f73 => ?_)
                  · clear f72
                    refine C.condT f73 rfl ?_
                    refine wp_seq_k fun K13 hK13 => ?_
                    refine C.region ?_
                    refine L.val f73 wantedN rfl (by decide) (E.assign f73 rfl) fun a74 f74 => ?_
                    clear f73 a71
                    refine wpList_nil (hK13 _ _ ?_)
                    try clear hK13 K13
                    have f75 := f74.sub (sub_cons (i := 0) rfl (sub_cons (i := 1) rfl (sub_cons (i := 2) rfl (sub_cons (i := 3) rfl (sub_cons (i := 4) rfl (sub_cons (i := 10) rfl sub_nil))))))
                    clear f74
                    refine wp_ret ?_
                    try simp only [Exit.inBlock, Exit.then]
                    refine C.ret (P := Try.prog) (fn := Try.f31) f75 rfl rfl ?_
                    have hb : hearB (ents.map Ent.abs) me fr ep tm l = false := by simp [hearB, later, Ent.abs, *] <;> omega
                    exact hear_no hb M HK
                  · clear f72
                    refine C.condF f73 rfl ?_
                    refine wp_skip (hK9 _ _ ?_)
                    try clear hK9 K9
                    have f74 := f73.sub (sub_cons (i := 0) rfl (sub_cons (i := 1) rfl (sub_cons (i := 2) rfl (sub_cons (i := 3) rfl (sub_cons (i := 4) rfl (sub_cons (i := 10) rfl sub_nil))))))
                    clear f73
                    refine wp_seq_k fun K14 hK14 => ?_
                    have KN := Kept.refl [] w3
                    refine R.begin (S := fun W => Kept [r] w3 W) (by kernel_rfl) (by exact (Kept.refl _ _).drewN 1) ?_
                    have hS6 : Kept [r] w3 (w3.drewN 1) := (Kept.refl _ _).drewN 1
                    have hd6 : Kept [] w3 (w3.drewN 1) := (Kept.refl _ _).drewN 1
                    obtain ⟨w4, hww4⟩ : ∃ W, W = w3.drewN 1 := ⟨_, rfl⟩
                    rw [← hww4] at hS6 hd6 ⊢
                    clear hww4
                    have szw4 := hS6.size
                    replace KN := KN.trans hd6 (by simp)
                    refine R.take 0 f74 rfl rfl (by decide) (by kernel_rfl) (by kernel_rfl) (by kernel_rfl) (fun _ _ _ _ h => h) wantedN hS6 (fun W hW => (E.move f74 rfl)) fun a75 f75 => ?_
                    clear f74 a71
                    refine R.take 1 f75 rfl rfl (by decide) (by kernel_rfl) (by kernel_rfl) (by kernel_rfl) (fun _ _ _ _ h => h) wantedN hS6 (fun W hW => (E.nilCheck f75 rfl)) fun a76 f76 => ?_
                    clear f75 a75
                    refine R.take 2 f76 rfl rfl (by decide) (by kernel_rfl) (by kernel_rfl) (by kernel_rfl) (fun _ _ _ _ h => h) wantedN hS6 (fun W hW => (E.fieldAddr f76 Try.underlying71 rfl rfl wsz69_n)) fun a77 f77 => ?_
                    clear f76 a76
                    refine R.take 3 f77 rfl rfl (by decide) (by kernel_rfl) (by kernel_rfl) (by kernel_rfl) (fun _ _ _ _ h => h) wantedN hS6 (fun W hW => (by first | exact E.load f77 Try.underlying69 rfl rfl ((Bm.kept hW (by simp; omega)).cl rfl) | exact E.load f77 Try.underlying69 rfl rfl ((Bg1.kept hW (by simp; omega)).cl rfl))) fun a78 f78 => ?_
                    clear f77 a77
                    refine R.take 4 f78 rfl rfl (by decide) (by kernel_rfl) (by kernel_rfl) (by kernel_rfl) (fun _ _ _ _ h => h) wantedN hS6 (fun W hW => (E.move f78 rfl)) fun a79 f79 => ?_
                    clear f78 a78
                    refine R.take 5 f79 rfl rfl (by decide) (by kernel_rfl) (by kernel_rfl) (by kernel_rfl) (fun _ _ _ _ h => h) wantedN hS6 (fun W hW => (E.move f79 rfl)) fun a80 f80 => ?_
                    clear f79 a79
                    refine R.take 6 f80 rfl rfl (by decide) (by kernel_rfl) (by kernel_rfl) (by kernel_rfl) (fun _ _ _ _ h => h) wantedN hS6 (fun W hW => (E.move f80 rfl)) fun a81 f81 => ?_
                    clear f80 a80
                    refine R.take 7 f81 rfl rfl (by decide) (by kernel_rfl) (by kernel_rfl) (by kernel_rfl) (fun _ _ _ _ h => h) wantedN hS6 (fun W hW => (E.move f81 rfl)) fun a82 f82 => ?_
                    clear f81 a81
                    refine R.call 8 f82 rfl rfl (by decide) (by kernel_rfl) wantedN (run_call Try.call39 (args1 f82 rfl)) (clone_any l _ _ _ (A1.kept (HK.trans KN (by simp))) hm) ?_
                    rintro e w5 ⟨kc5, Ac, cc, rfl, FC⟩
                    replace hS6 := hS6.trans kc5 (by simp)
                    refine ⟨_, rfl, hS6, fun a83 f83 => ?_⟩
                    clear f82 a82
                    have szw5 := kc5.size
                    replace KN := KN.trans kc5 (by simp)
                    clear kc5
                    refine R.take 9 f83 rfl rfl (by decide) (by kernel_rfl) (by kernel_rfl) (by kernel_rfl) (fun _ _ _ _ h => h) wantedN hS6 (fun W hW => (E.build f83 (parts3 f83 rfl rfl rfl) (wbl73_0_1_2_n _ _ _ _ _))) fun a84 f84 => ?_
                    clear f83 a83
                    refine R.take 10 f84 rfl rfl (by decide) (by kernel_rfl) (by kernel_rfl) (by kernel_rfl) (fun _ _ _ _ h => h) wantedN hS6 (fun W hW => (E.indexA f84 (by first | rfl | assumption) Try.underlying69 wsz73_n rfl rfl (by omega) (by omega))) fun a85 f85 => ?_
                    clear f84 a84
                    refine R.one 11 (by kernel_rfl) ?_
                    have KW := HK.trans KN (by simp)
                    have MW := M.kept KW (by simp)
                    refine O.storeSeg f85 rfl wantedN wsz73_n rfl rfl rfl MW.rows (by rw [ent_len]; simp; omega) rfl (fun _ hk => hS6.trans hk (by simp)) fun a86 w6 f86 NB ks => ?_
                    have HD := hear_set (fr := fr) (ep := ep) (tm := tm) KW MW FC (by omega) (by omega) hm NB ks (by omega) M.lt
                    replace hS6 := hS6.trans ks (by simp)
                    have szw6 := ks.size
                    clear f85 a85
                    have szw6r := hS6.size
                    replace Bg1 := Bg1.kept hS6 (by simp; omega)
                    clear hS6
                    refine R.done (by kernel_rfl) (hK14 _ _ ?_)
                    try clear hK14 K14
                    have f87 := f86.sub (sub_cons (i := 10) rfl sub_nil)
                    clear f86
                    refine wp_seq_k fun K15 hK15 => ?_
                    refine C.region ?_
                    refine L.val f87 wantedN rfl (by decide) (E.assign f87 rfl) fun a88 f88 => ?_
                    clear f87 a86
                    refine wpList_nil (hK15 _ _ ?_)
                    try clear hK15 K15
                    have f89 := f88.sub (sub_cons (i := 10) rfl sub_nil)
                    clear f88
                    refine wp_ret ?_
                    try simp only [Exit.inBlock, Exit.then]
                    refine C.ret (P := Try.prog) (fn := Try.f31) f89 rfl rfl ?_
                    have hb : hearB (ents.map Ent.abs) me fr ep tm l = true := by simp [hearB, later, Ent.abs, he, *] <;> omega
                    exact hear_yes hb HD
                · clear f64
                  refine L.skip f65 (f65.noT rfl rfl) rfl (by decide) fun a66 f66 => ?_
                  clear f65 a64
                  refine L.skip f66 (f66.noT rfl rfl) rfl (by decide) fun a67 f67 => ?_
                  clear f66 a66
                  refine L.skip f67 (f67.noT rfl rfl) rfl (by decide) fun a68 f68 => ?_
                  clear f67 a67
                  refine L.skip f68 (f68.noT rfl rfl) rfl (by decide) fun a69 f69 => ?_
                  clear f68 a68
                  refine L.val f69 (f69.yes rfl rfl) rfl (by decide) (E.pickF f69 rfl rfl) fun a70 f70 => ?_
                  clear f69 a69
                  refine L.val f70 wantedN rfl (by decide) (E.pickF f70 rfl rfl) fun a71 f71 => ?_
                  clear f70 a70
                  refine wpList_nil (hK11 _ _ ?_)
                  try clear hK11 K11
                  have f72 := f71.sub (sub_cons (i := 0) rfl (sub_cons (i := 1) rfl (sub_cons (i := 2) rfl (sub_cons (i := 3) rfl (sub_cons (i := 4) rfl (sub_cons (i := 10) rfl (sub_cons (i := 66) rfl sub_nil)))))))
                  clear f71
                  refine C.condF f72 rfl ?_
                  refine wp_skip (hK9 _ _ ?_)
                  try clear hK9 K9
                  have f73 := f72.sub (sub_cons (i := 0) rfl (sub_cons (i := 1) rfl (sub_cons (i := 2) rfl (sub_cons (i := 3) rfl (sub_cons (i := 4) rfl (sub_cons (i := 10) rfl sub_nil))))))
                  clear f72
                  refine wp_seq_k fun K16 hK16 => ?_
                  have KN := Kept.refl [] w3
                  refine R.begin (S := fun W => Kept [r] w3 W) (by kernel_rfl) (by exact (Kept.refl _ _).drewN 1) ?_
                  have hS6 : Kept [r] w3 (w3.drewN 1) := (Kept.refl _ _).drewN 1
                  have hd6 : Kept [] w3 (w3.drewN 1) := (Kept.refl _ _).drewN 1
                  obtain ⟨w4, hww4⟩ : ∃ W, W = w3.drewN 1 := ⟨_, rfl⟩
                  rw [← hww4] at hS6 hd6 ⊢
                  clear hww4
                  have szw4 := hS6.size
                  replace KN := KN.trans hd6 (by simp)
                  refine R.take 0 f73 rfl rfl (by decide) (by kernel_rfl) (by kernel_rfl) (by kernel_rfl) (fun _ _ _ _ h => h) wantedN hS6 (fun W hW => (E.move f73 rfl)) fun a74 f74 => ?_
                  clear f73 a71
                  refine R.take 1 f74 rfl rfl (by decide) (by kernel_rfl) (by kernel_rfl) (by kernel_rfl) (fun _ _ _ _ h => h) wantedN hS6 (fun W hW => (E.nilCheck f74 rfl)) fun a75 f75 => ?_
                  clear f74 a74
                  refine R.take 2 f75 rfl rfl (by decide) (by kernel_rfl) (by kernel_rfl) (by kernel_rfl) (fun _ _ _ _ h => h) wantedN hS6 (fun W hW => (E.fieldAddr f75 Try.underlying71 rfl rfl wsz69_n)) fun a76 f76 => ?_
                  clear f75 a75
                  refine R.take 3 f76 rfl rfl (by decide) (by kernel_rfl) (by kernel_rfl) (by kernel_rfl) (fun _ _ _ _ h => h) wantedN hS6 (fun W hW => (by first | exact E.load f76 Try.underlying69 rfl rfl ((Bm.kept hW (by simp; omega)).cl rfl) | exact E.load f76 Try.underlying69 rfl rfl ((Bg1.kept hW (by simp; omega)).cl rfl))) fun a77 f77 => ?_
                  clear f76 a76
                  refine R.take 4 f77 rfl rfl (by decide) (by kernel_rfl) (by kernel_rfl) (by kernel_rfl) (fun _ _ _ _ h => h) wantedN hS6 (fun W hW => (E.move f77 rfl)) fun a78 f78 => ?_
                  clear f77 a77
                  refine R.take 5 f78 rfl rfl (by decide) (by kernel_rfl) (by kernel_rfl) (by kernel_rfl) (fun _ _ _ _ h => h) wantedN hS6 (fun W hW => (E.move f78 rfl)) fun a79 f79 => ?_
                  clear f78 a78
                  refine R.take 6 f79 rfl rfl (by decide) (by kernel_rfl) (by kernel_rfl) (by kernel_rfl) (fun _ _ _ _ h => h) wantedN hS6 (fun W hW => (E.move f79 rfl)) fun a80 f80 => ?_
                  clear f79 a79
                  refine R.take 7 f80 rfl rfl (by decide) (by kernel_rfl) (by kernel_rfl) (by kernel_rfl) (fun _ _ _ _ h => h) wantedN hS6 (fun W hW => (E.move f80 rfl)) fun a81 f81 => ?_
                  clear f80 a80
                  refine R.call 8 f81 rfl rfl (by decide) (by kernel_rfl) wantedN (run_call Try.call39 (args1 f81 rfl)) (clone_any l _ _ _ (A1.kept (HK.trans KN (by simp))) hm) ?_
                  rintro e w5 ⟨kc5, Ac, cc, rfl, FC⟩
                  replace hS6 := hS6.trans kc5 (by simp)
                  refine ⟨_, rfl, hS6, fun a82 f82 => ?_⟩
                  clear f81 a81
                  have szw5 := kc5.size
                  replace KN := KN.trans kc5 (by simp)
                  clear kc5
                  refine R.take 9 f82 rfl rfl (by decide) (by kernel_rfl) (by kernel_rfl) (by kernel_rfl) (fun _ _ _ _ h => h) wantedN hS6 (fun W hW => (E.build f82 (parts3 f82 rfl rfl rfl) (wbl73_0_1_2_n _ _ _ _ _))) fun a83 f83 => ?_
                  clear f82 a82
                  refine R.take 10 f83 rfl rfl (by decide) (by kernel_rfl) (by kernel_rfl) (by kernel_rfl) (fun _ _ _ _ h => h) wantedN hS6 (fun W hW => (E.indexA f83 (by first | rfl | assumption) Try.underlying69 wsz73_n rfl rfl (by omega) (by omega))) fun a84 f84 => ?_
                  clear f83 a83
                  refine R.one 11 (by kernel_rfl) ?_
                  have KW := HK.trans KN (by simp)
                  have MW := M.kept KW (by simp)
                  refine O.storeSeg f84 rfl wantedN wsz73_n rfl rfl rfl MW.rows (by rw [ent_len]; simp; omega) rfl (fun _ hk => hS6.trans hk (by simp)) fun a85 w6 f85 NB ks => ?_
                  have HD := hear_set (fr := fr) (ep := ep) (tm := tm) KW MW FC (by omega) (by omega) hm NB ks (by omega) M.lt
                  replace hS6 := hS6.trans ks (by simp)
                  have szw6 := ks.size
                  clear f84 a84
                  have szw6r := hS6.size
                  replace Bg1 := Bg1.kept hS6 (by simp; omega)
                  clear hS6
                  refine R.done (by kernel_rfl) (hK16 _ _ ?_)
                  try clear hK16 K16
                  have f86 := f85.sub (sub_cons (i := 10) rfl sub_nil)
                  clear f85
                  refine wp_seq_k fun K17 hK17 => ?_
                  refine C.region ?_
                  refine L.val f86 wantedN rfl (by decide) (E.assign f86 rfl) fun a87 f87 => ?_
                  clear f86 a85
                  refine wpList_nil (hK17 _ _ ?_)
                  try clear hK17 K17
                  have f88 := f87.sub (sub_cons (i := 10) rfl sub_nil)
                  clear f87
                  refine wp_ret ?_
                  try simp only [Exit.inBlock, Exit.then]
                  refine C.ret (P := Try.prog) (fn := Try.f31) f88 rfl rfl ?_
                  have hb : hearB (ents.map Ent.abs) me fr ep tm l = true := by simp [hearB, later, Ent.abs, he, *] <;> omega
                  exact hear_yes hb HD

end Go.Proofs.Ytahmlcjgcdajbaa
