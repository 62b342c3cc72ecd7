/- Contracts: the cuts of both matrices. -/
import Derived.Test.YtahmlcjgcdajbaaMc
set_option linter.all false
namespace Go.Proofs.Ytahmlcjgcdajbaa
open Go.RowKit Go.Hub
theorem wzib24_p : (Try.prog.info? 24).map (fun i => (i.zero, i.size, i.bytes)) = some (some (.slice none 0 0), 1, 24) := by kernel_rfl
theorem wzi24_p : (Try.prog.info? 24).map (fun i => (i.zero, i.size)) = some (some (.slice none 0 0), 1) := by kernel_rfl
theorem wbs46_1_p (x0 : Option Addr) (y0 z0 : Nat) : Instr.fill (fun i => some (i * 1, 1)) ((Array.range (1 * 1)).map fun j => (Value.cells (.slice none 0 0))[j % (Value.cells (.slice none 0 0)).size]!) [(0, .slice x0 y0 z0)] = some #[.slice x0 y0 z0] := by kernel_rfl
theorem wsz3_p : (Try.prog.info? 3).map (·.size) = some 1 := by kernel_rfl
theorem wsz24_p : (Try.prog.info? 24).map (·.size) = some 1 := by kernel_rfl
theorem wsz69_p : (Try.prog.info? 69).map (·.size) = some 1 := by kernel_rfl
theorem wsz73_p : (Try.prog.info? 73).map (·.size) = some 3 := by kernel_rfl
theorem wsz74_p : (Try.prog.info? 74).map (·.size) = some 16 := by kernel_rfl
theorem wsz75_p : (Try.prog.info? 75).map (·.size) = some 16 := by kernel_rfl

abbrev SD := Option Addr × Nat × List Dt
abbrev sval (s : SD) : Value := .slice s.1 s.2.2.length s.2.1
/-- a slice of the call's own, of slices of dots -/
structure Outs (w W : World) (A : Option Addr) (c : Nat) (ss : List SD) : Prop where
  fr : Fresh w W 24 1 A ss.length c (ss.map sval)
  ok : ∀ s ∈ ss, Ds W s.1 s.2.2
  lt : ∀ s ∈ ss, ∀ a, s.1 = some a → a.block < W.heap.size
  ne : ∀ s ∈ ss, ∀ a b, s.1 = some a → A.map (·.block) = some b → a.block ≠ b
  len : ∀ s ∈ ss, s.2.2.length ≤ 1000000
theorem Outs.nil (w W : World) : Outs w W none 0 [] := ⟨Fresh.nil _ _ _ _, by simp, by simp, by simp, by simp⟩
theorem Outs.kept0 {w W W' : World} {A : Option Addr} {c : Nat} {ss : List SD} (h : Outs w W A c ss) (hk : Kept [] W W') : Outs w W' A c ss :=
  ⟨h.fr.kept0 hk, fun s hs => (h.ok s hs).kept hk, fun s hs a ha => Nat.lt_of_lt_of_le (h.lt s hs a ha) hk.size, h.ne, h.len⟩
theorem Outs.far {w W W' : World} {A Ac : Option Addr} {c n cc : Nat} {ss : List SD} {xs : List Value} (h : Outs w W A c ss) (F : Fresh W W' 32 3 Ac n cc xs) : ∀ a b, Ac = some a → A.map (·.block) = some b → a.block ≠ b := fun a b ha hb e => by
  have h1 := F.lo a.block (by rw [ha]; rfl)
  have h2 := (h.fr.own.blk b ((own_block A ss.length c b).2 hb)).1
  omega
theorem Outs.old {w W : World} {A Ac : Option Addr} {c : Nat} {ss : List SD} (h : Outs w W A c ss) (hl : ∀ a, Ac = some a → a.block < w.heap.size) : ∀ a b, Ac = some a → A.map (·.block) = some b → a.block ≠ b := fun a b ha hb e => by
  have h1 := h.fr.lo b hb
  have h2 := hl a ha
  omega
theorem fresh_low {w W : World} {A : Option Addr} {n c : Nat} {xs : List Value} (F : Fresh w W 32 3 A n c xs) : ∀ a, A = some a → a.block < W.heap.size := fun a ha => (F.own.blk a.block ((own_block A n c a.block).2 (by rw [ha]; rfl))).1
theorem Outs.push {w W W' : World} {A A' : Option Addr} {c c' : Nat} {ss : List SD} {s : SD} (h : Outs w W A c ss) (ap : App W W' 24 1 A ss.length c (ss.map sval) [sval s] 1 A' c') (hw : w.heap.size ≤ W.heap.size) (d : Ds W s.1 s.2.2) (lt : ∀ a, s.1 = some a → a.block < W.heap.size)
    (ne : ∀ a b, s.1 = some a → A.map (·.block) = some b → a.block ≠ b) (hl : s.2.2.length ≤ 1000000) : Outs w W' A' c' (ss ++ [s]) := by
  have F := ap.next h.fr hw
  have hall : ∀ t ∈ ss ++ [s], Ds W t.1 t.2.2 ∧ (∀ a, t.1 = some a → a.block < W.heap.size) ∧ (∀ a b, t.1 = some a → A.map (·.block) = some b → a.block ≠ b) ∧ t.2.2.length ≤ 1000000 := fun t ht => by
    rcases List.mem_append.1 ht with ht | ht
    · exact ⟨h.ok t ht, h.lt t ht, h.ne t ht, h.len t ht⟩
    · obtain rfl := List.mem_singleton.1 ht
      exact ⟨d, lt, ne, hl⟩
  refine ⟨by simpa using F, fun t ht => ?_, fun t ht a ha => Nat.lt_of_lt_of_le ((hall t ht).2.1 a ha) ap.kept.size, fun t ht a b ha hb => ?_, fun t ht => (hall t ht).2.2.2⟩
  · exact (hall t ht).1.keptF ap.kept fun a ha hx => by
      have hb := (own_block A ss.length c a.block).1 (by simpa using hx)
      exact (hall t ht).2.2.1 a a.block ha hb rfl
  · rcases ap.where_ b hb with hb | hb
    · exact (hall t ht).2.2.1 a b ha hb
    · have := (hall t ht).2.1 a ha
      omega
theorem sl_s {w : World} {g T : Nat} {v : Value} (B : Blk w g T #[v]) : Sl w (some ⟨g, 0, none⟩) 1 1 [v] :=
  ⟨rfl, fun _ => ⟨g, 0, rfl, B.lt, fun j u hu => by rw [Nat.zero_add]; exact B.cell_ (by simpa using hu)⟩⟩
theorem cut_next (R : Option (List (List Dt))) (ss : List SD) (s : SD) : Option.map (ss.map (·.2.2) ++ ·) (Option.map (s.2.2 :: ·) R) = Option.map ((ss ++ [s]).map (·.2.2) ++ ·) R := by cases R <;> simp
def CutPost (rows : Rows15) (me : Int) (own : List Dt) (tm : Int) (w : World) (e : Ending) (w' : World) : Prop :=
  Kept [] w w' ∧ ∃ A c ss, e = .returned (.tuple #[.slice A ss.length c, .bool (cutL rows me own tm).isSome]) ∧ Outs w w' A c ss ∧ ss.map (·.2.2) = (cutL rows me own tm).getD [] ∧ ss.length ≤ 16
theorem cut_step {me : Int} {own : List Dt} {tm : Int} {rows : Rows15} {k : Nat} {e : Int × Int × List Dt} (he : rows[k]? = some e) :
    cutFrom me own tm k (rows.drop k) = if (k : Int) = me then cutFrom me own tm ((k + 1 : Nat) : Int) (rows.drop (k + 1)) else if bad own tm e then none else (cutFrom me own tm ((k + 1 : Nat) : Int) (rows.drop (k + 1))).map (e.2.2 :: ·) := by
  have h := (List.getElem?_eq_some_iff.1 he)
  rw [List.drop_eq_getElem_cons h.1, h.2]
  rfl
theorem cut_none {me : Int} {own : List Dt} {tm : Int} {rows : Rows15} {w W : World} (h : cutFrom me own tm 0 rows = none) (HK : Kept [] w W) : CutPost rows me own tm w (.returned (.tuple #[.slice none 0 0, .bool false])) W :=
  ⟨HK, none, 0, [], by unfold cutL; rw [h]; rfl, Outs.nil _ _, by unfold cutL; rw [h]; rfl, by simp⟩
theorem cut_done {me : Int} {own : List Dt} {tm : Int} {rows : Rows15} {w W : World} {A : Option Addr} {c : Nat} {ss : List SD} (h : cutFrom me own tm 0 rows = some (ss.map (·.2.2))) (hl : ss.length ≤ 16) (RW : Outs w W A c ss) (HK : Kept [] w W) : CutPost rows me own tm w (.returned (.tuple #[.slice A ss.length c, .bool true])) W :=
  ⟨HK, A, c, ss, by unfold cutL; rw [h]; rfl, RW, by unfold cutL; rw [h]; rfl, hl⟩

set_option maxHeartbeats 1000000 in
theorem cut_any (m r : Nat) (fp : List Nat) (ents : List Ent) (me tm : Int) (own : List Dt) (A : Option Addr) (c : Nat) (w : World) (M : MatA (71, 73) w m r fp ents me) (A1 : Ds w A own) (hm : own.length ≤ 1000000) : Calls Try.prog 32 #[.pointer (some ⟨m, 0, none⟩), .int .i64 tm, .slice A own.length c] w (CutPost (ents.map Ent.abs) me own tm w) := by
  have HK : Kept [] w w := Kept.refl [] w
  have hmo := M.most
  have Bm := M.top
  refine C.enter Try.func32 rfl Try.ntmps32 rfl ?_
  intro a0 f0
  have f1 : Fr 51 a0 [(0, .pointer (some ⟨m, 0, none⟩)), (1, .int .i64 tm), (2, .slice A own.length c)] := f0
  clear f0
  refine wp_seq_k fun K0 hK0 => ?_
  refine C.region ?_
  refine L.val f1 wantedN rfl (by decide) (E.assign f1 rfl) fun a2 f2 => ?_
  clear f1 a0
  refine L.val f2 wantedN rfl (by decide) (E.assign f2 rfl) fun a3 f3 => ?_
  clear f2 a2
  refine wpList_nil (hK0 _ _ ?_)
  try clear hK0 K0
  have f4 := f3.sub (sub_cons (i := 0) rfl (sub_cons (i := 1) rfl (sub_cons (i := 2) rfl (sub_cons (i := 6) rfl (sub_cons (i := 7) rfl sub_nil)))))
  clear f3
  refine wp_seq_k fun K1 hK1 => ?_
  refine C.region ?_
  refine L.val f4 wantedN rfl (by decide) (E.assign f4 rfl) fun a5 f5 => ?_
  clear f4 a3
  refine wpList_nil (hK1 _ _ ?_)
  try clear hK1 K1
  have f6 := f5.sub (sub_cons (i := 0) rfl (sub_cons (i := 1) rfl (sub_cons (i := 2) rfl (sub_cons (i := 6) rfl (sub_cons (i := 7) rfl (sub_cons (i := 8) rfl sub_nil))))))
  clear f5
  refine wp_seq_k fun K2 hK2 => ?_
  refine wp_seq_k fun K3 hK3 => ?_
  refine C.region ?_
  refine L.val f6 wantedN rfl (by decide) (E.move f6 rfl) fun a7 f7 => ?_
  clear f6 a5
  refine L.val f7 wantedN rfl (by decide) (E.nilCheck f7 rfl) fun a8 f8 => ?_
  clear f7 a7
  refine L.val f8 wantedN rfl (by decide) (E.fieldAddr f8 Try.underlying71 rfl rfl wsz69_p) fun a9 f9 => ?_
  clear f8 a8
  refine L.val f9 wantedN rfl (by decide) (by exact E.load f9 Try.underlying69 rfl rfl ((Bm).cl rfl)) fun a10 f10 => ?_
  clear f9 a9
  refine L.val f10 wantedN rfl (by decide) (E.lenL f10 Try.underlying69 rfl) fun a11 f11 => ?_
  clear f10 a10
  refine L.val f11 wantedN rfl (by decide) (E.move f11 rfl) fun a12 f12 => ?_
  clear f11 a11
  refine wpList_nil (hK3 _ _ ?_)
  try clear hK3 K3
  have f13 := f12.sub (sub_cons (i := 0) rfl (sub_cons (i := 1) rfl (sub_cons (i := 2) rfl (sub_cons (i := 6) rfl (sub_cons (i := 7) rfl (sub_cons (i := 8) rfl (sub_cons (i := 14) rfl (sub_cons (i := 15) rfl (sub_cons (i := 16) rfl sub_nil)))))))))
  clear f12
  refine wp_block ?_
  refine C.loop (fun gk a W => ∃ (k : Nat) (Ao : Option Addr) (co : Nat) (ss : List SD), k + gk = ents.length ∧ Kept [] w W ∧ cutFrom me own tm 0 (ents.map Ent.abs) = (cutFrom me own tm k ((ents.map Ent.abs).drop k)).map (ss.map (·.2.2) ++ ·) ∧ ss.length ≤ k ∧ Outs w W Ao co ss ∧ Fr 51 a [(0, .pointer (some ⟨m, 0, none⟩)), (1, .int .i64 tm), (2, .slice A own.length c), (8, .slice Ao ss.length co), (14, .slice (some ⟨r, 0, none⟩) ents.length ents.length), (15, .int .i64 ents.length), (16, .int .i64 k)]) (ents.length) ?_ ?_
  · exact ⟨0, none, 0, [], by omega, HK, by simp, by simp, Outs.nil _ _, f13.sub (sub_cons rfl (sub_cons rfl (sub_cons rfl (sub_cons rfl (sub_cons rfl (sub_cons rfl (sub_cons rfl sub_nil)))))))⟩
  · intro gk5 a14 w1 hI KL4 hKL4
    obtain ⟨k, Ao, co, ss, hk, HK, hq, hss, RW, f14⟩ := hI
    try clear f13
    have Bm := M.top.kept HK (by simp)
    refine wp_seq_k fun K5 hK5 => ?_
    refine C.region ?_
    refine L.val f14 wantedN rfl (by decide) (E.lss f14 rfl rfl) fun a15 f15 => ?_
    clear f14 a14
    refine wpList_nil (hK5 _ _ ?_)
    try clear hK5 K5
    have f16 := f15.sub (sub_cons (i := 0) rfl (sub_cons (i := 1) rfl (sub_cons (i := 2) rfl (sub_cons (i := 8) rfl (sub_cons (i := 14) rfl (sub_cons (i := 15) rfl (sub_cons (i := 16) rfl (sub_cons (i := 17) rfl sub_nil))))))))
    clear f15
    refine wp_seq_k fun K6 hK6 => ?_
    first | refine f16.splitD 17 rfl (fun h0 f17 => ?_) (fun h0 f17 => ?_) | refine f16.splitN 17 rfl (fun h0 f17 => ?_) (fun h0 f17 => ?_) | refine f16.splitNB 17 rfl (fun h0 f17 => ?_) (fun h0 f17 => ?_) | refine f16.split 17 rfl (fun h0 f17 => ?_) (fun h0 f17 => ?_)
    · clear f16
      obtain ⟨e, he⟩ : ∃ e, ents[k]? = some e := ⟨ents[k]'(by omega), List.getElem?_eq_getElem _⟩
      have hst := cut_step (me := me) (own := own) (tm := tm) (rows := ents.map Ent.abs) (k := k) (e := e.abs) (by simp [he])
      have hok := M.ok e (List.mem_of_getElem? he)
      refine C.condT f17 rfl ?_
      refine wp_skip (hK6 _ _ ?_)
      try clear hK6 K6
      have f18 := f17.sub (sub_cons (i := 0) rfl (sub_cons (i := 1) rfl (sub_cons (i := 2) rfl (sub_cons (i := 8) rfl (sub_cons (i := 14) rfl (sub_cons (i := 15) rfl (sub_cons (i := 16) rfl (sub_cons (i := 17) rfl sub_nil))))))))
      clear f17
      refine wp_seq_k fun K7 hK7 => ?_
      refine wp_block ?_
      refine wp_seq_k fun K8 hK8 => ?_
      have RW0 := RW
      have KL := Kept.refl [] w1
      refine C.region ?_
      refine L.val f18 wantedN rfl (by decide) (E.move f18 rfl) fun a19 f19 => ?_
      clear f18 a15
      refine L.val f19 wantedN rfl (by decide) (E.indexA f19 (by first | rfl | assumption) Try.underlying69 wsz73_p rfl rfl (by omega) (by omega)) fun a20 f20 => ?_
      clear f19 a19
      refine L.val f20 wantedN rfl (by decide) (by first | exact E.loadB f20 Try.underlying73 rfl wsz73_p rfl (Bm) rfl | exact E.loadR f20 Try.underlying73 rfl wsz73_p rfl ((M.kept HK (by simp)).row he) rfl) fun a21 f21 => ?_
      clear f20 a20
      refine L.alloc f21 wantedN (by decide) (z := (.agg #[(.int .i64 0), (.int .i64 0), (.slice none 0 0)])) (fun _ => by kernel_rfl) rfl fun a22 w2 g1 N1 f22 => ?_
      have Bg1 := N1.blk
      have kg1 := N1.kept
      have log1 := N1.lo
      have ltg1 := Bg1.lt
      have szw2 := kg1.size
      have frg1 : w.heap.size ≤ g1 := Nat.le_trans HK.size log1
      have nem_g1 : m ≠ g1 := by have := Bm.lt; omega
      replace HK := HK.trans kg1 (by simp)
      replace KL := KL.trans kg1 (by simp)
      replace Bm := Bm.kept kg1 (by simp)
      replace RW := RW.kept0 kg1
      clear N1 kg1
      clear f21 a21
      refine L.val f22 wantedN rfl (by decide) (E.assign f22 rfl) fun a23 f23 => ?_
      clear f22 a22
      refine L.storeR f23 wantedN wsz73_p rfl rfl rfl Bg1 rfl rfl fun a24 w3 f24 NB3 ks3 => ?_
      have szw3 := ks3.size
      replace HK := HK.trans ks3 (by intro x hx hlt; simp at hx; subst hx; first | (exfalso; omega) | simp)
      replace KL := KL.trans ks3 (by intro x hx hlt; simp at hx; subst hx; first | (exfalso; omega) | simp)
      replace Bm := Bm.kept ks3 (by simp; omega)
      replace RW := RW0.kept0 KL
      replace Bg1 := NB3
      clear ks3 f23 a23
      refine wpList_nil (hK8 _ _ ?_)
      try clear hK8 K8
      have f25 := f24.sub (sub_cons (i := 0) rfl (sub_cons (i := 1) rfl (sub_cons (i := 2) rfl (sub_cons (i := 8) rfl (sub_cons (i := 9) rfl (sub_cons (i := 10) rfl (sub_cons (i := 14) rfl (sub_cons (i := 15) rfl (sub_cons (i := 16) rfl (sub_cons (i := 17) rfl (sub_cons (i := 18) rfl (sub_cons (i := 19) rfl (sub_cons (i := 20) rfl sub_nil)))))))))))))
      clear f24
      refine wp_seq_k fun K9 hK9 => ?_
      refine wp_seq_k fun K10 hK10 => ?_
      refine C.region ?_
      refine L.val f25 wantedN rfl (by decide) (E.move f25 rfl) fun a26 f26 => ?_
      clear f25 a24
      refine L.val f26 wantedN rfl (by decide) (E.move f26 rfl) fun a27 f27 => ?_
      clear f26 a26
      refine L.val f27 wantedN rfl (by decide) (E.nilCheck f27 rfl) fun a28 f28 => ?_
      clear f27 a27
      refine L.val f28 wantedN rfl (by decide) (E.fieldAddr f28 Try.underlying71 rfl rfl wsz3_p) fun a29 f29 => ?_
      clear f28 a28
      refine L.val f29 wantedN rfl (by decide) (by first | exact E.load f29 Try.underlying3 rfl rfl ((Bm).cl rfl) | exact E.load f29 Try.underlying3 rfl rfl ((Bg1).cl rfl)) fun a30 f30 => ?_
      clear f29 a29
      refine L.val f30 wantedN rfl (by decide) (E.eql f30 rfl rfl) fun a31 f31 => ?_
      clear f30 a30
      refine wpList_nil (hK10 _ _ ?_)
      try clear hK10 K10
      have f32 := f31.sub (sub_cons (i := 0) rfl (sub_cons (i := 1) rfl (sub_cons (i := 2) rfl (sub_cons (i := 8) rfl (sub_cons (i := 9) rfl (sub_cons (i := 10) rfl (sub_cons (i := 14) rfl (sub_cons (i := 15) rfl (sub_cons (i := 16) rfl (sub_cons (i := 17) rfl (sub_cons (i := 18) rfl (sub_cons (i := 19) rfl (sub_cons (i := 20) rfl (sub_cons (i := 21) rfl (sub_cons (i := 22) rfl (sub_cons (i := 23) rfl (sub_cons (i := 24) rfl (sub_cons (i := 25) rfl (sub_cons (i := 26) rfl sub_nil)))))))))))))))))))
      clear f31
      first | refine f32.splitD 26 rfl (fun h1 f33 => ?_) (fun h1 f33 => ?_) | refine f32.splitN 26 rfl (fun h1 f33 => ?_) (fun h1 f33 => ?_) | refine f32.splitNB 26 rfl (fun h1 f33 => ?_) (fun h1 f33 => ?_) | refine f32.split 26 rfl (fun h1 f33 => ?_) (fun h1 f33 => ?_)
      · clear f32
        have hme := h1
        refine C.condT f33 rfl ?_
        refine wp_exit (hK7 _ _ ?_)
        try clear hK7 K7
        have f34 := f33.sub (sub_cons (i := 0) rfl (sub_cons (i := 1) rfl (sub_cons (i := 2) rfl (sub_cons (i := 8) rfl (sub_cons (i := 9) rfl (sub_cons (i := 10) rfl (sub_cons (i := 14) rfl (sub_cons (i := 15) rfl (sub_cons (i := 16) rfl (sub_cons (i := 17) rfl (sub_cons (i := 18) rfl (sub_cons (i := 19) rfl (sub_cons (i := 20) rfl (sub_cons (i := 21) rfl (sub_cons (i := 22) rfl (sub_cons (i := 23) rfl (sub_cons (i := 24) rfl (sub_cons (i := 25) rfl (sub_cons (i := 26) rfl sub_nil)))))))))))))))))))
        clear f33
        refine C.region ?_
        refine L.val f34 wantedN rfl (by decide) (E.add f34 rfl rfl (IntWalk.i64_in _ (by omega))) fun a35 f35 => ?_
        clear f34 a31
        refine L.val f35 wantedN rfl (by decide) (E.move f35 rfl) fun a36 f36 => ?_
        clear f35 a35
        refine wpList_nil (hKL4 _ _ (gk5 - 1) ?_ ?_)
        · omega
        · exact ⟨k + 1, Ao, co, ss, by omega, HK, by rw [hq, hst, if_pos hme], by omega, RW, f36.sub (sub_cons rfl (sub_cons rfl (sub_cons rfl (sub_cons rfl (sub_cons rfl (sub_cons rfl (sub_cons rfl sub_nil)))))))⟩
      · clear f32
        have hnm := h1
        refine C.condF f33 rfl ?_
        refine wp_skip (hK9 _ _ ?_)
        try clear hK9 K9
        have f34 := f33.sub (sub_cons (i := 0) rfl (sub_cons (i := 1) rfl (sub_cons (i := 2) rfl (sub_cons (i := 8) rfl (sub_cons (i := 9) rfl (sub_cons (i := 10) rfl (sub_cons (i := 14) rfl (sub_cons (i := 15) rfl (sub_cons (i := 16) rfl (sub_cons (i := 17) rfl (sub_cons (i := 18) rfl (sub_cons (i := 19) rfl (sub_cons (i := 20) rfl (sub_cons (i := 21) rfl (sub_cons (i := 22) rfl (sub_cons (i := 23) rfl (sub_cons (i := 24) rfl (sub_cons (i := 25) rfl (sub_cons (i := 26) rfl sub_nil)))))))))))))))))))
        clear f33
        refine wp_seq_k fun K11 hK11 => ?_
        refine wp_seq_k fun K12 hK12 => ?_
        refine C.region ?_
        refine L.val f34 wantedN rfl (by decide) (E.fieldAddr f34 Try.underlying73 rfl rfl wsz3_p) fun a35 f35 => ?_
        clear f34 a31
        refine L.val f35 wantedN rfl (by decide) (by first | exact E.load f35 Try.underlying3 rfl rfl ((Bm).cl rfl) | exact E.load f35 Try.underlying3 rfl rfl ((Bg1).cl rfl)) fun a36 f36 => ?_
        clear f35 a35
        refine L.val f36 wantedN rfl (by decide) (E.eql f36 rfl rfl) fun a37 f37 => ?_
        clear f36 a36
        refine L.val f37 wantedN rfl (by decide) (E.move f37 rfl) fun a38 f38 => ?_
        clear f37 a37
        first | refine f38.splitD 30 rfl (fun h2 f39 => ?_) (fun h2 f39 => ?_) | refine f38.splitN 30 rfl (fun h2 f39 => ?_) (fun h2 f39 => ?_) | refine f38.splitNB 30 rfl (fun h2 f39 => ?_) (fun h2 f39 => ?_) | refine f38.split 30 rfl (fun h2 f39 => ?_) (fun h2 f39 => ?_)
        · clear f38
          refine L.skip f39 (f39.noF rfl rfl) rfl (by decide) fun a40 f40 => ?_
          clear f39 a38
          refine L.skip f40 (f40.noF rfl rfl) rfl (by decide) fun a41 f41 => ?_
          clear f40 a40
          refine L.skip f41 (f41.noF rfl rfl) rfl (by decide) fun a42 f42 => ?_
          clear f41 a41
          refine L.skip f42 (f42.noF rfl rfl) rfl (by decide) fun a43 f43 => ?_
          clear f42 a42
          refine L.val f43 wantedN rfl (by decide) (E.pickT f43 rfl rfl) fun a44 f44 => ?_
          clear f43 a43
          refine L.val f44 wantedN rfl (by decide) (E.move f44 rfl) fun a45 f45 => ?_
          clear f44 a44
          refine L.skip f45 (f45.noF rfl rfl) rfl (by decide) fun a46 f46 => ?_
          clear f45 a45
          refine L.skip f46 (f46.noF rfl rfl) rfl (by decide) fun a47 f47 => ?_
          clear f46 a46
          refine L.skip f47 (f47.noF rfl rfl) rfl (by decide) fun a48 f48 => ?_
          clear f47 a47
          refine L.skip f48 (f48.noF rfl rfl) rfl (by decide) fun a49 f49 => ?_
          clear f48 a48
          refine L.skip f49 (f49.noF rfl rfl) rfl (by decide) fun a50 f50 => ?_
          clear f49 a49
          refine L.val f50 wantedN rfl (by decide) (E.pickT f50 rfl rfl) fun a51 f51 => ?_
          clear f50 a50
          refine wpList_nil (hK12 _ _ ?_)
          try clear hK12 K12
          have f52 := f51.sub (sub_cons (i := 0) rfl (sub_cons (i := 1) rfl (sub_cons (i := 2) rfl (sub_cons (i := 8) rfl (sub_cons (i := 9) rfl (sub_cons (i := 10) rfl (sub_cons (i := 14) rfl (sub_cons (i := 15) rfl (sub_cons (i := 16) rfl (sub_cons (i := 17) rfl (sub_cons (i := 18) rfl (sub_cons (i := 19) rfl (sub_cons (i := 20) rfl (sub_cons (i := 21) rfl (sub_cons (i := 22) rfl (sub_cons (i := 23) rfl (sub_cons (i := 24) rfl (sub_cons (i := 25) rfl (sub_cons (i := 26) rfl (sub_cons (i := 27) rfl (sub_cons (i := 28) rfl (sub_cons (i := 29) rfl (sub_cons (i := 30) rfl (sub_cons (i := 31) rfl (sub_cons (i := 32) rfl (sub_cons (i := 33) rfl (sub_cons (i := 34) rfl (sub_cons (i := 35) rfl (sub_cons (i := 36) rfl (sub_cons (i := 37) rfl (sub_cons (i := 38) rfl (sub_cons (i := 39) rfl (sub_cons (i := 40) rfl (sub_cons (i := 41) rfl (sub_cons (i := 42) rfl sub_nil)))))))))))))))))))))))))))))))))))
          clear f51
          refine C.condT f52 rfl ?_
          refine wp_seq_k fun K13 hK13 => ?_
          have hbad : bad own tm e.abs = true := by simp [bad, Ent.abs, *]
          refine C.region ?_
          refine L.val f52 wantedN rfl (by decide) (E.assign f52 rfl) fun a53 f53 => ?_
          clear f52 a51
          refine L.val f53 wantedN rfl (by decide) (E.assign f53 rfl) fun a54 f54 => ?_
          clear f53 a53
          refine wpList_nil (hK13 _ _ ?_)
          try clear hK13 K13
          have f55 := f54.sub (sub_cons (i := 0) rfl (sub_cons (i := 1) rfl (sub_cons (i := 2) rfl (sub_cons (i := 6) rfl (sub_cons (i := 7) rfl (sub_cons (i := 8) rfl (sub_cons (i := 9) rfl (sub_cons (i := 10) rfl (sub_cons (i := 14) rfl (sub_cons (i := 15) rfl (sub_cons (i := 16) rfl (sub_cons (i := 17) rfl (sub_cons (i := 18) rfl (sub_cons (i := 19) rfl (sub_cons (i := 20) rfl (sub_cons (i := 21) rfl (sub_cons (i := 22) rfl (sub_cons (i := 23) rfl (sub_cons (i := 24) rfl (sub_cons (i := 25) rfl (sub_cons (i := 26) rfl (sub_cons (i := 27) rfl (sub_cons (i := 28) rfl (sub_cons (i := 29) rfl (sub_cons (i := 30) rfl (sub_cons (i := 31) rfl (sub_cons (i := 32) rfl (sub_cons (i := 33) rfl (sub_cons (i := 34) rfl (sub_cons (i := 35) rfl (sub_cons (i := 36) rfl (sub_cons (i := 37) rfl (sub_cons (i := 38) rfl (sub_cons (i := 39) rfl (sub_cons (i := 40) rfl (sub_cons (i := 41) rfl (sub_cons (i := 42) rfl sub_nil)))))))))))))))))))))))))))))))))))))
          clear f54
          refine wp_ret ?_
          try simp only [Exit.inBlock, Exit.then]
          refine C.ret2 (P := Try.prog) (fn := Try.f32) f55 rfl rfl rfl ?_
          exact cut_none (by rw [hq, hst, if_neg hnm, if_pos hbad]; rfl) HK
        · clear f38
          refine L.val f39 (f39.yes rfl rfl) rfl (by decide) (E.fieldAddr f39 Try.underlying73 rfl rfl wsz3_p) fun a40 f40 => ?_
          clear f39 a38
          refine L.val f40 (f40.yes rfl rfl) rfl (by decide) (by first | exact E.load f40 Try.underlying3 rfl rfl ((Bm).cl rfl) | exact E.load f40 Try.underlying3 rfl rfl ((Bg1).cl rfl)) fun a41 f41 => ?_
          clear f40 a40
          refine L.val f41 (f41.yes rfl rfl) rfl (by decide) (E.move f41 rfl) fun a42 f42 => ?_
          clear f41 a41
          refine L.val f42 (f42.yes rfl rfl) rfl (by decide) (E.neq f42 rfl rfl) fun a43 f43 => ?_
          clear f42 a42
          refine L.val f43 wantedN rfl (by decide) (E.pickF f43 rfl rfl) fun a44 f44 => ?_
          clear f43 a43
          refine L.val f44 wantedN rfl (by decide) (E.move f44 rfl) fun a45 f45 => ?_
          clear f44 a44
          first | refine f45.splitD 36 rfl (fun h3 f46 => ?_) (fun h3 f46 => ?_) | refine f45.splitN 36 rfl (fun h3 f46 => ?_) (fun h3 f46 => ?_) | refine f45.splitNB 36 rfl (fun h3 f46 => ?_) (fun h3 f46 => ?_) | refine f45.split 36 rfl (fun h3 f46 => ?_) (fun h3 f46 => ?_)
          · clear f45
            refine L.skip f46 (f46.noF rfl rfl) rfl (by decide) fun a47 f47 => ?_
            clear f46 a45
            refine L.skip f47 (f47.noF rfl rfl) rfl (by decide) fun a48 f48 => ?_
            clear f47 a47
            refine L.skip f48 (f48.noF rfl rfl) rfl (by decide) fun a49 f49 => ?_
            clear f48 a48
            refine L.skip f49 (f49.noF rfl rfl) rfl (by decide) fun a50 f50 => ?_
            clear f49 a49
            refine L.skip f50 (f50.noF rfl rfl) rfl (by decide) fun a51 f51 => ?_
            clear f50 a50
            refine L.val f51 wantedN rfl (by decide) (E.pickT f51 rfl rfl) fun a52 f52 => ?_
            clear f51 a51
            refine wpList_nil (hK12 _ _ ?_)
            try clear hK12 K12
            have f53 := f52.sub (sub_cons (i := 0) rfl (sub_cons (i := 1) rfl (sub_cons (i := 2) rfl (sub_cons (i := 8) rfl (sub_cons (i := 9) rfl (sub_cons (i := 10) rfl (sub_cons (i := 14) rfl (sub_cons (i := 15) rfl (sub_cons (i := 16) rfl (sub_cons (i := 17) rfl (sub_cons (i := 18) rfl (sub_cons (i := 19) rfl (sub_cons (i := 20) rfl (sub_cons (i := 21) rfl (sub_cons (i := 22) rfl (sub_cons (i := 23) rfl (sub_cons (i := 24) rfl (sub_cons (i := 25) rfl (sub_cons (i := 26) rfl (sub_cons (i := 27) rfl (sub_cons (i := 28) rfl (sub_cons (i := 29) rfl (sub_cons (i := 30) rfl (sub_cons (i := 31) rfl (sub_cons (i := 32) rfl (sub_cons (i := 33) rfl (sub_cons (i := 34) rfl (sub_cons (i := 35) rfl (sub_cons (i := 36) rfl (sub_cons (i := 37) rfl (sub_cons (i := 38) rfl (sub_cons (i := 39) rfl (sub_cons (i := 40) rfl (sub_cons (i := 41) rfl (sub_cons (i := 42) rfl sub_nil)))))))))))))))))))))))))))))))))))
            clear f52
            refine C.condT f53 rfl ?_
            refine wp_seq_k fun K14 hK14 => ?_
            have hbad : bad own tm e.abs = true := by simp [bad, Ent.abs, *]
            refine C.region ?_
            refine L.val f53 wantedN rfl (by decide) (E.assign f53 rfl) fun a54 f54 => ?_
            clear f53 a52
            refine L.val f54 wantedN rfl (by decide) (E.assign f54 rfl) fun a55 f55 => ?_
            clear f54 a54
            refine wpList_nil (hK14 _ _ ?_)
            try clear hK14 K14
            have f56 := f55.sub (sub_cons (i := 0) rfl (sub_cons (i := 1) rfl (sub_cons (i := 2) rfl (sub_cons (i := 6) rfl (sub_cons (i := 7) rfl (sub_cons (i := 8) rfl (sub_cons (i := 9) rfl (sub_cons (i := 10) rfl (sub_cons (i := 14) rfl (sub_cons (i := 15) rfl (sub_cons (i := 16) rfl (sub_cons (i := 17) rfl (sub_cons (i := 18) rfl (sub_cons (i := 19) rfl (sub_cons (i := 20) rfl (sub_cons (i := 21) rfl (sub_cons (i := 22) rfl (sub_cons (i := 23) rfl (sub_cons (i := 24) rfl (sub_cons (i := 25) rfl (sub_cons (i := 26) rfl (sub_cons (i := 27) rfl (sub_cons (i := 28) rfl (sub_cons (i := 29) rfl (sub_cons (i := 30) rfl (sub_cons (i := 31) rfl (sub_cons (i := 32) rfl (sub_cons (i := 33) rfl (sub_cons (i := 34) rfl (sub_cons (i := 35) rfl (sub_cons (i := 36) rfl (sub_cons (i := 37) rfl (sub_cons (i := 38) rfl (sub_cons (i := 39) rfl (sub_cons (i := 40) rfl (sub_cons (i := 41) rfl (sub_cons (i := 42) rfl sub_nil)))))))))))))))))))))))))))))))))))))
            clear f55
            refine wp_ret ?_
            try simp only [Exit.inBlock, Exit.then]
            refine C.ret2 (P := Try.prog) (fn := Try.f32) f56 rfl rfl rfl ?_
            exact cut_none (by rw [hq, hst, if_neg hnm, if_pos hbad]; rfl) HK
          · clear f45
            refine L.val f46 (f46.yes rfl rfl) rfl (by decide) (E.fieldAddr f46 Try.underlying73 rfl rfl wsz24_p) fun a47 f47 => ?_
            clear f46 a45
            refine L.val f47 (f47.yes rfl rfl) rfl (by decide) (by first | exact E.load f47 Try.underlying24 rfl rfl ((Bm).cl rfl) | exact E.load f47 Try.underlying24 rfl rfl ((Bg1).cl rfl)) fun a48 f48 => ?_
            clear f47 a47
            refine L.val f48 (f48.yes rfl rfl) rfl (by decide) (E.move f48 rfl) fun a49 f49 => ?_
            clear f48 a48
            refine L.call f49 (f49.yes rfl rfl) rfl (by decide) (run_call Try.call15 (args2 f49 rfl rfl)) (Within_any e.seen own _ _ _ _ _ (hok.ds.kept HK) (A1.kept HK) hok.len hm) ?_
            rintro e w4 ⟨kc4, rfl⟩
            refine ⟨_, rfl, fun a50 f50 => ?_⟩
            clear f49 a49
            have szw4 := kc4.size
            replace HK := HK.trans kc4 (by simp)
            replace KL := KL.trans kc4 (by simp)
            replace Bm := Bm.kept kc4 (by simp)
            replace RW := RW.kept0 kc4
            replace Bg1 := Bg1.kept kc4 (by simp)
            clear kc4
            refine L.val f50 (f50.yes rfl rfl) rfl (by decide) (E.not f50 rfl) fun a51 f51 => ?_
            clear f50 a50
            refine L.val f51 wantedN rfl (by decide) (E.pickF f51 rfl rfl) fun a52 f52 => ?_
            clear f51 a51
            refine wpList_nil (hK12 _ _ ?_)
            try clear hK12 K12
            have f53 := f52.sub (sub_cons (i := 0) rfl (sub_cons (i := 1) rfl (sub_cons (i := 2) rfl (sub_cons (i := 8) rfl (sub_cons (i := 9) rfl (sub_cons (i := 10) rfl (sub_cons (i := 14) rfl (sub_cons (i := 15) rfl (sub_cons (i := 16) rfl (sub_cons (i := 17) rfl (sub_cons (i := 18) rfl (sub_cons (i := 19) rfl (sub_cons (i := 20) rfl (sub_cons (i := 21) rfl (sub_cons (i := 22) rfl (sub_cons (i := 23) rfl (sub_cons (i := 24) rfl (sub_cons (i := 25) rfl (sub_cons (i := 26) rfl (sub_cons (i := 27) rfl (sub_cons (i := 28) rfl (sub_cons (i := 29) rfl (sub_cons (i := 30) rfl (sub_cons (i := 31) rfl (sub_cons (i := 32) rfl (sub_cons (i := 33) rfl (sub_cons (i := 34) rfl (sub_cons (i := 35) rfl (sub_cons (i := 36) rfl (sub_cons (i := 37) rfl (sub_cons (i := 38) rfl (sub_cons (i := 39) rfl (sub_cons (i := 40) rfl (sub_cons (i := 41) rfl (sub_cons (i := 42) rfl sub_nil)))))))))))))))))))))))))))))))))))
            clear f52
            first | refine f53.splitD 42 rfl (fun h4 f54 => ?_) (fun h4 f54 => ?_) | refine f53.splitN 42 rfl (fun h4 f54 => ?_) (fun h4 f54 => ?_) | refine f53.splitNB 42 rfl (fun h4 f54 => ?_) (fun h4 f54 => ?_) | refine f53.split 42 rfl (fun h4 f54 => ?_) (fun h4 f54 => ?_)
            · clear f53
              refine C.condT f54 rfl ?_
              refine wp_seq_k fun K15 hK15 => ?_
              have hbad : bad own tm e.abs = true := by simp [bad, Ent.abs, *]
              refine C.region ?_
              refine L.val f54 wantedN rfl (by decide) (E.assign f54 rfl) fun a55 f55 => ?_
              clear f54 a52
              refine L.val f55 wantedN rfl (by decide) (E.assign f55 rfl) fun a56 f56 => ?_
              clear f55 a55
              refine wpList_nil (hK15 _ _ ?_)
              try clear hK15 K15
              have f57 := f56.sub (sub_cons (i := 0) rfl (sub_cons (i := 1) rfl (sub_cons (i := 2) rfl (sub_cons (i := 6) rfl (sub_cons (i := 7) rfl (sub_cons (i := 8) rfl (sub_cons (i := 9) rfl (sub_cons (i := 10) rfl (sub_cons (i := 14) rfl (sub_cons (i := 15) rfl (sub_cons (i := 16) rfl (sub_cons (i := 17) rfl (sub_cons (i := 18) rfl (sub_cons (i := 19) rfl (sub_cons (i := 20) rfl (sub_cons (i := 21) rfl (sub_cons (i := 22) rfl (sub_cons (i := 23) rfl (sub_cons (i := 24) rfl (sub_cons (i := 25) rfl (sub_cons (i := 26) rfl (sub_cons (i := 27) rfl (sub_cons (i := 28) rfl (sub_cons (i := 29) rfl (sub_cons (i := 30) rfl (sub_cons (i := 31) rfl (sub_cons (i := 32) rfl (sub_cons (i := 33) rfl (sub_cons (i := 34) rfl (sub_cons (i := 35) rfl (sub_cons (i := 36) rfl (sub_cons (i := 37) rfl (sub_cons (i := 38) rfl (sub_cons (i := 39) rfl (sub_cons (i := 40) rfl (sub_cons (i := 41) rfl (sub_cons (i := 42) rfl sub_nil)))))))))))))))))))))))))))))))))))))
              clear f56
              refine wp_ret ?_
              try simp only [Exit.inBlock, Exit.then]
              refine C.ret2 (P := Try.prog) (fn := Try.f32) f57 rfl rfl rfl ?_
              exact cut_none (by rw [hq, hst, if_neg hnm, if_pos hbad]; rfl) HK
            · clear f53
              refine C.condF f54 rfl ?_
              refine wp_skip (hK11 _ _ ?_)
              try clear hK11 K11
              have f55 := f54.sub (sub_cons (i := 0) rfl (sub_cons (i := 1) rfl (sub_cons (i := 2) rfl (sub_cons (i := 8) rfl (sub_cons (i := 9) rfl (sub_cons (i := 10) rfl (sub_cons (i := 14) rfl (sub_cons (i := 15) rfl (sub_cons (i := 16) rfl (sub_cons (i := 17) rfl (sub_cons (i := 18) rfl (sub_cons (i := 19) rfl (sub_cons (i := 20) rfl (sub_cons (i := 21) rfl (sub_cons (i := 22) rfl (sub_cons (i := 23) rfl (sub_cons (i := 24) rfl (sub_cons (i := 25) rfl (sub_cons (i := 26) rfl (sub_cons (i := 27) rfl (sub_cons (i := 28) rfl (sub_cons (i := 29) rfl (sub_cons (i := 30) rfl (sub_cons (i := 31) rfl (sub_cons (i := 32) rfl (sub_cons (i := 33) rfl (sub_cons (i := 34) rfl (sub_cons (i := 35) rfl (sub_cons (i := 36) rfl (sub_cons (i := 37) rfl (sub_cons (i := 38) rfl (sub_cons (i := 39) rfl (sub_cons (i := 40) rfl (sub_cons (i := 41) rfl (sub_cons (i := 42) rfl sub_nil)))))))))))))))))))))))))))))))))))
              clear f54
              have hbad : bad own tm e.abs = false := by simp [bad, Ent.abs, *]
              refine C.region ?_
              refine L.val f55 wantedN rfl (by decide) (E.move f55 rfl) fun a56 f56 => ?_
              clear f55 a52
              refine L.val f56 wantedN rfl (by decide) (E.fieldAddr f56 Try.underlying73 rfl rfl wsz24_p) fun a57 f57 => ?_
              clear f56 a56
              refine L.val f57 wantedN rfl (by decide) (by first | exact E.load f57 Try.underlying24 rfl rfl ((Bm).cl rfl) | exact E.load f57 Try.underlying24 rfl rfl ((Bg1).cl rfl)) fun a58 f58 => ?_
              clear f57 a57
              refine L.call f58 wantedN rfl (by decide) (run_call Try.call39 (args1 f58 rfl)) (clone_any e.seen _ _ _ (hok.ds.kept HK) hok.len) ?_
              rintro e w5 ⟨kc5, Ac, cc, rfl, FC⟩
              have hne := RW.far FC
              refine ⟨_, rfl, fun a59 f59 => ?_⟩
              clear f58 a58
              have szw5 := kc5.size
              replace HK := HK.trans kc5 (by simp)
              replace KL := KL.trans kc5 (by simp)
              replace Bm := Bm.kept kc5 (by simp)
              replace RW := RW.kept0 kc5
              replace Bg1 := Bg1.kept kc5 (by simp)
              clear kc5
              refine L.buildSlice f59 wantedN (by decide) (parts1 f59 rfl) Try.underlying46 wzi24_p rfl rfl (wbs46_1_p _ _ _) fun a60 w6 g5 N5 f60 => ?_
              have Bg5 := N5.blk
              have kg5 := N5.kept
              have log5 := N5.lo
              have ltg5 := Bg5.lt
              have szw6 := kg5.size
              have frg5 : w.heap.size ≤ g5 := Nat.le_trans HK.size log5
              have nem_g5 : m ≠ g5 := by have := Bm.lt; omega
              have neg1_g5 : g1 ≠ g5 := by have := Bg1.lt; omega
              replace HK := HK.trans kg5 (by simp)
              replace KL := KL.trans kg5 (by simp)
              replace Bm := Bm.kept kg5 (by simp)
              replace RW := RW.kept0 kg5
              replace Bg1 := Bg1.kept kg5 (by simp)
              replace FC := FC.kept0 kg5
              clear N5 kg5
              clear f59 a59
              refine L.append f60 wantedN (by decide) Try.underlying46 wzib24_p rfl rfl rfl rfl (RW.fr.own) (sl_s Bg5) (by simp [Value.oneCell']) (by unfold maxLen; omega) (by omega) fun a61 w7 Ax cx AP7 f61 => ?_
              clear f60 a60
              have RX := RW.push (s := (Ac, cc, e.seen)) AP7 (Nat.le_trans HK.size (Nat.le_refl _)) FC.sl (fresh_low FC) hne hok.len
              skip
              replace HK := AP7.grow RW.fr HK
              have kap7 := AP7.kept
              have szw7 := kap7.size
              clear kap7
              refine L.val f61 wantedN rfl (by decide) (E.assign f61 rfl) fun a62 f62 => ?_
              clear f61 a61
              refine wpList_nil (hK7 _ _ ?_)
              try clear hK7 K7
              have f63 := f62.sub (sub_cons (i := 0) rfl (sub_cons (i := 1) rfl (sub_cons (i := 2) rfl (sub_cons (i := 8) rfl (sub_cons (i := 9) rfl (sub_cons (i := 10) rfl (sub_cons (i := 14) rfl (sub_cons (i := 15) rfl (sub_cons (i := 16) rfl (sub_cons (i := 17) rfl (sub_cons (i := 18) rfl (sub_cons (i := 19) rfl (sub_cons (i := 20) rfl (sub_cons (i := 21) rfl (sub_cons (i := 22) rfl (sub_cons (i := 23) rfl (sub_cons (i := 24) rfl (sub_cons (i := 25) rfl (sub_cons (i := 26) rfl (sub_cons (i := 27) rfl (sub_cons (i := 28) rfl (sub_cons (i := 29) rfl (sub_cons (i := 30) rfl (sub_cons (i := 31) rfl (sub_cons (i := 32) rfl (sub_cons (i := 33) rfl (sub_cons (i := 34) rfl (sub_cons (i := 35) rfl (sub_cons (i := 36) rfl (sub_cons (i := 37) rfl (sub_cons (i := 38) rfl (sub_cons (i := 39) rfl (sub_cons (i := 40) rfl (sub_cons (i := 41) rfl (sub_cons (i := 42) rfl (sub_cons (i := 43) rfl (sub_cons (i := 44) rfl (sub_cons (i := 45) rfl (sub_cons (i := 46) rfl (sub_cons (i := 47) rfl (sub_cons (i := 48) rfl sub_nil)))))))))))))))))))))))))))))))))))))))))
              clear f62
              refine C.region ?_
              refine L.val f63 wantedN rfl (by decide) (E.add f63 rfl rfl (IntWalk.i64_in _ (by omega))) fun a64 f64 => ?_
              clear f63 a62
              refine L.val f64 wantedN rfl (by decide) (E.move f64 rfl) fun a65 f65 => ?_
              clear f64 a64
              refine wpList_nil (hKL4 _ _ (gk5 - 1) ?_ ?_)
              · omega
              · exact ⟨k + 1, Ax, cx, ss ++ [(Ac, cc, e.seen)], by omega, HK, by rw [hq, hst, if_neg hnm, if_neg (by simp [hbad])]; exact cut_next _ ss ((Ac, cc, e.seen)), by simp; omega, RX, by simpa using f65.sub (sub_cons rfl (sub_cons rfl (sub_cons rfl (sub_cons rfl (sub_cons rfl (sub_cons rfl (sub_cons rfl sub_nil)))))))⟩
    · clear f16
      refine C.condF f17 rfl ?_
      refine wp_exit (hK2 _ _ ?_)
      try clear hK2 K2
      have f18 := f17.sub (sub_cons (i := 8) rfl sub_nil)
      clear f17
      refine wp_seq_k fun K16 hK16 => ?_
      refine C.region ?_
      refine L.val f18 wantedN rfl (by decide) (E.move f18 rfl) fun a19 f19 => ?_
      clear f18 a15
      refine L.val f19 wantedN rfl (by decide) (E.assign f19 rfl) fun a20 f20 => ?_
      clear f19 a19
      refine L.val f20 wantedN rfl (by decide) (E.assign f20 rfl) fun a21 f21 => ?_
      clear f20 a20
      refine wpList_nil (hK16 _ _ ?_)
      try clear hK16 K16
      have f22 := f21.sub (sub_cons (i := 6) rfl (sub_cons (i := 7) rfl sub_nil))
      clear f21
      refine wp_ret ?_
      try simp only [Exit.inBlock, Exit.then]
      refine C.ret2 (P := Try.prog) (fn := Try.f32) f22 rfl rfl rfl ?_
      exact cut_done (by rw [hq, List.drop_eq_nil_of_le (by first | omega | (simp; omega))]; simp [cutFrom]) (by omega) RW HK

set_option maxHeartbeats 1000000 in
theorem cutR_any (m n : Nat) (fp : List Nat) (ents : List Ent) (me tm : Int) (own : List Dt) (A : Option Addr) (c : Nat) (rows : Rows15) (hrows : (ents.take n).map Ent.abs = rows) (hn : rows.length = n) (w : World) (M : MatB 77 w m fp n ents me) (A1 : Ds w A own) (hm : own.length ≤ 1000000) : Calls Try.prog 38 #[.pointer (some ⟨m, 0, none⟩), .int .i64 tm, .slice A own.length c] w (CutPost rows me own tm w) := by
  have HK : Kept [] w w := Kept.refl [] w
  have hmo := M.most
  have Bm := M.top
  refine C.enter Try.func38 rfl Try.ntmps38 rfl ?_
  intro a0 f0
  have f1 : Fr 62 a0 [(0, .pointer (some ⟨m, 0, none⟩)), (1, .int .i64 tm), (2, .slice A own.length c)] := f0
  clear f0
  refine wp_seq_k fun K0 hK0 => ?_
  refine C.region ?_
  refine L.val f1 wantedN rfl (by decide) (E.assign f1 rfl) fun a2 f2 => ?_
  clear f1 a0
  refine L.val f2 wantedN rfl (by decide) (E.assign f2 rfl) fun a3 f3 => ?_
  clear f2 a2
  refine wpList_nil (hK0 _ _ ?_)
  try clear hK0 K0
  have f4 := f3.sub (sub_cons (i := 0) rfl (sub_cons (i := 1) rfl (sub_cons (i := 2) rfl (sub_cons (i := 6) rfl (sub_cons (i := 7) rfl sub_nil)))))
  clear f3
  refine wp_seq_k fun K1 hK1 => ?_
  refine C.region ?_
  refine L.val f4 wantedN rfl (by decide) (E.assign f4 rfl) fun a5 f5 => ?_
  clear f4 a3
  refine wpList_nil (hK1 _ _ ?_)
  try clear hK1 K1
  have f6 := f5.sub (sub_cons (i := 0) rfl (sub_cons (i := 1) rfl (sub_cons (i := 2) rfl (sub_cons (i := 6) rfl (sub_cons (i := 7) rfl (sub_cons (i := 8) rfl sub_nil))))))
  clear f5
  refine wp_seq_k fun K2 hK2 => ?_
  refine wp_seq_k fun K3 hK3 => ?_
  refine C.region ?_
  refine L.val f6 wantedN rfl (by decide) (E.assign f6 rfl) fun a7 f7 => ?_
  clear f6 a5
  refine wpList_nil (hK3 _ _ ?_)
  try clear hK3 K3
  have f8 := f7.sub (sub_cons (i := 0) rfl (sub_cons (i := 1) rfl (sub_cons (i := 2) rfl (sub_cons (i := 6) rfl (sub_cons (i := 7) rfl (sub_cons (i := 8) rfl (sub_cons (i := 9) rfl sub_nil)))))))
  clear f7
  refine wp_block ?_
  refine C.loop (fun gk a W => ∃ (k : Nat) (Ao : Option Addr) (co : Nat) (ss : List SD), k + gk = n ∧ Kept [] w W ∧ cutFrom me own tm 0 (rows) = (cutFrom me own tm k ((rows).drop k)).map (ss.map (·.2.2) ++ ·) ∧ ss.length ≤ k ∧ Outs w W Ao co ss ∧ Fr 62 a [(0, .pointer (some ⟨m, 0, none⟩)), (1, .int .i64 tm), (2, .slice A own.length c), (8, .slice Ao ss.length co), (9, .int .i64 k)]) (n) ?_ ?_
  · exact ⟨0, none, 0, [], by omega, HK, by simp, by simp, Outs.nil _ _, f8.sub (sub_cons rfl (sub_cons rfl (sub_cons rfl (sub_cons rfl (sub_cons rfl sub_nil)))))⟩
  · intro gk5 a9 w1 hI KL4 hKL4
    obtain ⟨k, Ao, co, ss, hk, HK, hq, hss, RW, f9⟩ := hI
    try clear f8
    have Bm := M.top.kept HK (by simp)
    refine wp_seq_k fun K5 hK5 => ?_
    refine wp_seq_k fun K6 hK6 => ?_
    refine C.region ?_
    refine L.val f9 wantedN rfl (by decide) (E.move f9 rfl) fun a10 f10 => ?_
    clear f9 a9
    refine L.val f10 wantedN rfl (by decide) (E.move f10 rfl) fun a11 f11 => ?_
    clear f10 a10
    refine L.val f11 wantedN rfl (by decide) (E.nilCheck f11 rfl) fun a12 f12 => ?_
    clear f11 a11
    refine L.val f12 wantedN rfl (by decide) (E.fieldAddr f12 Try.underlying77 rfl rfl wsz3_p) fun a13 f13 => ?_
    clear f12 a12
    refine L.val f13 wantedN rfl (by decide) (by first | exact E.load f13 Try.underlying3 rfl rfl ((Bm).cl rfl) | exact E.load f13 Try.underlying3 rfl rfl ((M.kept HK (by simp)).ce he) | exact E.load f13 Try.underlying3 rfl rfl ((M.kept HK (by simp)).ca he) | exact E.load f13 Try.underlying3 rfl rfl ((M.kept HK (by simp)).cs he)) fun a14 f14 => ?_
    clear f13 a13
    refine L.val f14 wantedN rfl (by decide) (E.lss f14 rfl rfl) fun a15 f15 => ?_
    clear f14 a14
    refine wpList_nil (hK6 _ _ ?_)
    try clear hK6 K6
    have f16 := f15.sub (sub_cons (i := 0) rfl (sub_cons (i := 1) rfl (sub_cons (i := 2) rfl (sub_cons (i := 8) rfl (sub_cons (i := 9) rfl (sub_cons (i := 10) rfl (sub_cons (i := 11) rfl (sub_cons (i := 12) rfl (sub_cons (i := 13) rfl (sub_cons (i := 14) rfl (sub_cons (i := 15) rfl sub_nil)))))))))))
    clear f15
    first | refine f16.splitD 15 rfl (fun h0 f17 => ?_) (fun h0 f17 => ?_) | refine f16.splitN 15 rfl (fun h0 f17 => ?_) (fun h0 f17 => ?_) | refine f16.splitNB 15 rfl (fun h0 f17 => ?_) (fun h0 f17 => ?_) | refine f16.split 15 rfl (fun h0 f17 => ?_) (fun h0 f17 => ?_)
    · clear f16
      obtain ⟨e, he⟩ : ∃ e, ents[k]? = some e := ⟨ents[k]'(by have := M.len; omega), List.getElem?_eq_getElem _⟩
      have hst := cut_step (me := me) (own := own) (tm := tm) (rows := rows) (k := k) (e := e.abs) (by rw [← hrows, List.getElem?_map, List.getElem?_take, if_pos (by omega), he]; rfl)
      have hok := M.ok e (List.mem_of_getElem? he)
      refine C.condT f17 rfl ?_
      refine wp_skip (hK5 _ _ ?_)
      try clear hK5 K5
      have f18 := f17.sub (sub_cons (i := 0) rfl (sub_cons (i := 1) rfl (sub_cons (i := 2) rfl (sub_cons (i := 8) rfl (sub_cons (i := 9) rfl (sub_cons (i := 10) rfl (sub_cons (i := 11) rfl (sub_cons (i := 12) rfl (sub_cons (i := 13) rfl (sub_cons (i := 14) rfl (sub_cons (i := 15) rfl sub_nil)))))))))))
      clear f17
      refine wp_seq_k fun K7 hK7 => ?_
      refine wp_block ?_
      refine wp_seq_k fun K8 hK8 => ?_
      refine wp_seq_k fun K9 hK9 => ?_
      refine C.region ?_
      refine L.val f18 wantedN rfl (by decide) (E.move f18 rfl) fun a19 f19 => ?_
      clear f18 a15
      refine L.val f19 wantedN rfl (by decide) (E.move f19 rfl) fun a20 f20 => ?_
      clear f19 a19
      refine L.val f20 wantedN rfl (by decide) (E.nilCheck f20 rfl) fun a21 f21 => ?_
      clear f20 a20
      refine L.val f21 wantedN rfl (by decide) (E.fieldAddr f21 Try.underlying77 rfl rfl wsz3_p) fun a22 f22 => ?_
      clear f21 a21
      refine L.val f22 wantedN rfl (by decide) (by first | exact E.load f22 Try.underlying3 rfl rfl ((Bm).cl rfl) | exact E.load f22 Try.underlying3 rfl rfl ((M.kept HK (by simp)).ce he) | exact E.load f22 Try.underlying3 rfl rfl ((M.kept HK (by simp)).ca he) | exact E.load f22 Try.underlying3 rfl rfl ((M.kept HK (by simp)).cs he)) fun a23 f23 => ?_
      clear f22 a22
      refine L.val f23 wantedN rfl (by decide) (E.eql f23 rfl rfl) fun a24 f24 => ?_
      clear f23 a23
      refine wpList_nil (hK9 _ _ ?_)
      try clear hK9 K9
      have f25 := f24.sub (sub_cons (i := 0) rfl (sub_cons (i := 1) rfl (sub_cons (i := 2) rfl (sub_cons (i := 8) rfl (sub_cons (i := 9) rfl (sub_cons (i := 10) rfl (sub_cons (i := 11) rfl (sub_cons (i := 12) rfl (sub_cons (i := 13) rfl (sub_cons (i := 14) rfl (sub_cons (i := 15) rfl (sub_cons (i := 18) rfl (sub_cons (i := 19) rfl (sub_cons (i := 20) rfl (sub_cons (i := 21) rfl (sub_cons (i := 22) rfl (sub_cons (i := 23) rfl sub_nil)))))))))))))))))
      clear f24
      first | refine f25.splitD 23 rfl (fun h1 f26 => ?_) (fun h1 f26 => ?_) | refine f25.splitN 23 rfl (fun h1 f26 => ?_) (fun h1 f26 => ?_) | refine f25.splitNB 23 rfl (fun h1 f26 => ?_) (fun h1 f26 => ?_) | refine f25.split 23 rfl (fun h1 f26 => ?_) (fun h1 f26 => ?_)
      · clear f25
        have hme := h1
        refine C.condT f26 rfl ?_
        refine wp_exit (hK7 _ _ ?_)
        try clear hK7 K7
        have f27 := f26.sub (sub_cons (i := 0) rfl (sub_cons (i := 1) rfl (sub_cons (i := 2) rfl (sub_cons (i := 8) rfl (sub_cons (i := 9) rfl (sub_cons (i := 10) rfl (sub_cons (i := 11) rfl (sub_cons (i := 12) rfl (sub_cons (i := 13) rfl (sub_cons (i := 14) rfl (sub_cons (i := 15) rfl (sub_cons (i := 18) rfl (sub_cons (i := 19) rfl (sub_cons (i := 20) rfl (sub_cons (i := 21) rfl (sub_cons (i := 22) rfl (sub_cons (i := 23) rfl sub_nil)))))))))))))))))
        clear f26
        refine C.region ?_
        refine L.val f27 wantedN rfl (by decide) (E.move f27 rfl) fun a28 f28 => ?_
        clear f27 a24
        refine L.val f28 wantedN rfl (by decide) (E.add f28 rfl rfl (IntWalk.i64_in _ (by omega))) fun a29 f29 => ?_
        clear f28 a28
        refine L.val f29 wantedN rfl (by decide) (E.assign f29 rfl) fun a30 f30 => ?_
        clear f29 a29
        refine wpList_nil (hKL4 _ _ (gk5 - 1) ?_ ?_)
        · omega
        · exact ⟨k + 1, Ao, co, ss, by omega, HK, by rw [hq, hst, if_pos hme], by omega, RW, f30.sub (sub_cons rfl (sub_cons rfl (sub_cons rfl (sub_cons rfl (sub_cons rfl sub_nil)))))⟩
      · clear f25
        have hnm := h1
        refine C.condF f26 rfl ?_
        refine wp_skip (hK8 _ _ ?_)
        try clear hK8 K8
        have f27 := f26.sub (sub_cons (i := 0) rfl (sub_cons (i := 1) rfl (sub_cons (i := 2) rfl (sub_cons (i := 8) rfl (sub_cons (i := 9) rfl (sub_cons (i := 10) rfl (sub_cons (i := 11) rfl (sub_cons (i := 12) rfl (sub_cons (i := 13) rfl (sub_cons (i := 14) rfl (sub_cons (i := 15) rfl (sub_cons (i := 18) rfl (sub_cons (i := 19) rfl (sub_cons (i := 20) rfl (sub_cons (i := 21) rfl (sub_cons (i := 22) rfl (sub_cons (i := 23) rfl sub_nil)))))))))))))))))
        clear f26
        refine wp_seq_k fun K10 hK10 => ?_
        refine wp_seq_k fun K11 hK11 => ?_
        refine C.region ?_
        refine L.val f27 wantedN rfl (by decide) (E.move f27 rfl) fun a28 f28 => ?_
        clear f27 a24
        refine L.val f28 wantedN rfl (by decide) (E.move f28 rfl) fun a29 f29 => ?_
        clear f28 a28
        refine L.val f29 wantedN rfl (by decide) (E.nilCheck f29 rfl) fun a30 f30 => ?_
        clear f29 a29
        refine L.val f30 wantedN rfl (by decide) (E.fieldAddr f30 Try.underlying77 rfl rfl wsz74_p) fun a31 f31 => ?_
        clear f30 a30
        refine L.val f31 wantedN rfl (by decide) (E.indexArr f31 Try.underlying74 wsz3_p rfl rfl (by omega) (by omega)) fun a32 f32 => ?_
        clear f31 a31
        refine L.val f32 wantedN rfl (by decide) (by first | exact E.load f32 Try.underlying3 rfl rfl ((Bm).cl rfl) | exact E.load f32 Try.underlying3 rfl rfl ((M.kept HK (by simp)).ce he) | exact E.load f32 Try.underlying3 rfl rfl ((M.kept HK (by simp)).ca he) | exact E.load f32 Try.underlying3 rfl rfl ((M.kept HK (by simp)).cs he)) fun a33 f33 => ?_
        clear f32 a32
        refine L.val f33 wantedN rfl (by decide) (E.eql f33 rfl rfl) fun a34 f34 => ?_
        clear f33 a33
        refine L.val f34 wantedN rfl (by decide) (E.move f34 rfl) fun a35 f35 => ?_
        clear f34 a34
        first | refine f35.splitD 31 rfl (fun h2 f36 => ?_) (fun h2 f36 => ?_) | refine f35.splitN 31 rfl (fun h2 f36 => ?_) (fun h2 f36 => ?_) | refine f35.splitNB 31 rfl (fun h2 f36 => ?_) (fun h2 f36 => ?_) | refine f35.split 31 rfl (fun h2 f36 => ?_) (fun h2 f36 => ?_)
        · clear f35
          refine L.skip f36 (f36.noF rfl rfl) rfl (by decide) fun a37 f37 => ?_
          clear f36 a35
          refine L.skip f37 (f37.noF rfl rfl) rfl (by decide) fun a38 f38 => ?_
          clear f37 a37
          refine L.skip f38 (f38.noF rfl rfl) rfl (by decide) fun a39 f39 => ?_
          clear f38 a38
          refine L.skip f39 (f39.noF rfl rfl) rfl (by decide) fun a40 f40 => ?_
          clear f39 a39
          refine L.skip f40 (f40.noF rfl rfl) rfl (by decide) fun a41 f41 => ?_
          clear f40 a40
          refine L.skip f41 (f41.noF rfl rfl) rfl (by decide) fun a42 f42 => ?_
          clear f41 a41
          refine L.skip f42 (f42.noF rfl rfl) rfl (by decide) fun a43 f43 => ?_
          clear f42 a42
          refine L.skip f43 (f43.noF rfl rfl) rfl (by decide) fun a44 f44 => ?_
          clear f43 a43
          refine L.val f44 wantedN rfl (by decide) (E.pickT f44 rfl rfl) fun a45 f45 => ?_
          clear f44 a44
          refine L.val f45 wantedN rfl (by decide) (E.move f45 rfl) fun a46 f46 => ?_
          clear f45 a45
          refine L.skip f46 (f46.noF rfl rfl) rfl (by decide) fun a47 f47 => ?_
          clear f46 a46
          refine L.skip f47 (f47.noF rfl rfl) rfl (by decide) fun a48 f48 => ?_
          clear f47 a47
          refine L.skip f48 (f48.noF rfl rfl) rfl (by decide) fun a49 f49 => ?_
          clear f48 a48
          refine L.skip f49 (f49.noF rfl rfl) rfl (by decide) fun a50 f50 => ?_
          clear f49 a49
          refine L.skip f50 (f50.noF rfl rfl) rfl (by decide) fun a51 f51 => ?_
          clear f50 a50
          refine L.skip f51 (f51.noF rfl rfl) rfl (by decide) fun a52 f52 => ?_
          clear f51 a51
          refine L.skip f52 (f52.noF rfl rfl) rfl (by decide) fun a53 f53 => ?_
          clear f52 a52
          refine L.skip f53 (f53.noF rfl rfl) rfl (by decide) fun a54 f54 => ?_
          clear f53 a53
          refine L.skip f54 (f54.noF rfl rfl) rfl (by decide) fun a55 f55 => ?_
          clear f54 a54
          refine L.val f55 wantedN rfl (by decide) (E.pickT f55 rfl rfl) fun a56 f56 => ?_
          clear f55 a55
          refine wpList_nil (hK11 _ _ ?_)
          try clear hK11 K11
          have f57 := f56.sub (sub_cons (i := 0) rfl (sub_cons (i := 1) rfl (sub_cons (i := 2) rfl (sub_cons (i := 8) rfl (sub_cons (i := 9) rfl (sub_cons (i := 10) rfl (sub_cons (i := 11) rfl (sub_cons (i := 12) rfl (sub_cons (i := 13) rfl (sub_cons (i := 14) rfl (sub_cons (i := 15) rfl (sub_cons (i := 18) rfl (sub_cons (i := 19) rfl (sub_cons (i := 20) rfl (sub_cons (i := 21) rfl (sub_cons (i := 22) rfl (sub_cons (i := 23) rfl (sub_cons (i := 24) rfl (sub_cons (i := 25) rfl (sub_cons (i := 26) rfl (sub_cons (i := 27) rfl (sub_cons (i := 28) rfl (sub_cons (i := 29) rfl (sub_cons (i := 30) rfl (sub_cons (i := 31) rfl (sub_cons (i := 32) rfl (sub_cons (i := 33) rfl (sub_cons (i := 34) rfl (sub_cons (i := 35) rfl (sub_cons (i := 36) rfl (sub_cons (i := 37) rfl (sub_cons (i := 38) rfl (sub_cons (i := 39) rfl (sub_cons (i := 40) rfl (sub_cons (i := 41) rfl (sub_cons (i := 42) rfl (sub_cons (i := 43) rfl (sub_cons (i := 44) rfl (sub_cons (i := 45) rfl (sub_cons (i := 46) rfl (sub_cons (i := 47) rfl (sub_cons (i := 48) rfl (sub_cons (i := 49) rfl (sub_cons (i := 50) rfl (sub_cons (i := 51) rfl sub_nil)))))))))))))))))))))))))))))))))))))))))))))
          clear f56
          refine C.condT f57 rfl ?_
          refine wp_seq_k fun K12 hK12 => ?_
          have hbad : bad own tm e.abs = true := by simp [bad, Ent.abs, *]
          refine C.region ?_
          refine L.val f57 wantedN rfl (by decide) (E.assign f57 rfl) fun a58 f58 => ?_
          clear f57 a56
          refine L.val f58 wantedN rfl (by decide) (E.assign f58 rfl) fun a59 f59 => ?_
          clear f58 a58
          refine wpList_nil (hK12 _ _ ?_)
          try clear hK12 K12
          have f60 := f59.sub (sub_cons (i := 0) rfl (sub_cons (i := 1) rfl (sub_cons (i := 2) rfl (sub_cons (i := 6) rfl (sub_cons (i := 7) rfl (sub_cons (i := 8) rfl (sub_cons (i := 9) rfl (sub_cons (i := 10) rfl (sub_cons (i := 11) rfl (sub_cons (i := 12) rfl (sub_cons (i := 13) rfl (sub_cons (i := 14) rfl (sub_cons (i := 15) rfl (sub_cons (i := 18) rfl (sub_cons (i := 19) rfl (sub_cons (i := 20) rfl (sub_cons (i := 21) rfl (sub_cons (i := 22) rfl (sub_cons (i := 23) rfl (sub_cons (i := 24) rfl (sub_cons (i := 25) rfl (sub_cons (i := 26) rfl (sub_cons (i := 27) rfl (sub_cons (i := 28) rfl (sub_cons (i := 29) rfl (sub_cons (i := 30) rfl (sub_cons (i := 31) rfl (sub_cons (i := 32) rfl (sub_cons (i := 33) rfl (sub_cons (i := 34) rfl (sub_cons (i := 35) rfl (sub_cons (i := 36) rfl (sub_cons (i := 37) rfl (sub_cons (i := 38) rfl (sub_cons (i := 39) rfl (sub_cons (i := 40) rfl (sub_cons (i := 41) rfl (sub_cons (i := 42) rfl (sub_cons (i := 43) rfl (sub_cons (i := 44) rfl (sub_cons (i := 45) rfl (sub_cons (i := 46) rfl (sub_cons (i := 47) rfl (sub_cons (i := 48) rfl (sub_cons (i := 49) rfl (sub_cons (i := 50) rfl (sub_cons (i := 51) rfl sub_nil)))))))))))))))))))))))))))))))))))))))))))))))
          clear f59
          refine wp_ret ?_
          try simp only [Exit.inBlock, Exit.then]
          refine C.ret2 (P := Try.prog) (fn := Try.f38) f60 rfl rfl rfl ?_
          exact cut_none (by rw [hq, hst, if_neg hnm, if_pos hbad]; rfl) HK
        · clear f35
          refine L.val f36 (f36.yes rfl rfl) rfl (by decide) (E.move f36 rfl) fun a37 f37 => ?_
          clear f36 a35
          refine L.val f37 (f37.yes rfl rfl) rfl (by decide) (E.move f37 rfl) fun a38 f38 => ?_
          clear f37 a37
          refine L.val f38 (f38.yes rfl rfl) rfl (by decide) (E.nilCheck f38 rfl) fun a39 f39 => ?_
          clear f38 a38
          refine L.val f39 (f39.yes rfl rfl) rfl (by decide) (E.fieldAddr f39 Try.underlying77 rfl rfl wsz74_p) fun a40 f40 => ?_
          clear f39 a39
          refine L.val f40 (f40.yes rfl rfl) rfl (by decide) (E.indexArr f40 Try.underlying74 wsz3_p rfl rfl (by omega) (by omega)) fun a41 f41 => ?_
          clear f40 a40
          refine L.val f41 (f41.yes rfl rfl) rfl (by decide) (by first | exact E.load f41 Try.underlying3 rfl rfl ((Bm).cl rfl) | exact E.load f41 Try.underlying3 rfl rfl ((M.kept HK (by simp)).ce he) | exact E.load f41 Try.underlying3 rfl rfl ((M.kept HK (by simp)).ca he) | exact E.load f41 Try.underlying3 rfl rfl ((M.kept HK (by simp)).cs he)) fun a42 f42 => ?_
          clear f41 a41
          refine L.val f42 (f42.yes rfl rfl) rfl (by decide) (E.move f42 rfl) fun a43 f43 => ?_
          clear f42 a42
          refine L.val f43 (f43.yes rfl rfl) rfl (by decide) (E.neq f43 rfl rfl) fun a44 f44 => ?_
          clear f43 a43
          refine L.val f44 wantedN rfl (by decide) (E.pickF f44 rfl rfl) fun a45 f45 => ?_
          clear f44 a44
          refine L.val f45 wantedN rfl (by decide) (E.move f45 rfl) fun a46 f46 => ?_
          clear f45 a45
          first | refine f46.splitD 41 rfl (fun h3 f47 => ?_) (fun h3 f47 => ?_) | refine f46.splitN 41 rfl (fun h3 f47 => ?_) (fun h3 f47 => ?_) | refine f46.splitNB 41 rfl (fun h3 f47 => ?_) (fun h3 f47 => ?_) | refine f46.split 41 rfl (fun h3 f47 => ?_) (fun h3 f47 => ?_)
          · clear f46
            refine L.skip f47 (f47.noF rfl rfl) rfl (by decide) fun a48 f48 => ?_
            clear f47 a46
            refine L.skip f48 (f48.noF rfl rfl) rfl (by decide) fun a49 f49 => ?_
            clear f48 a48
            refine L.skip f49 (f49.noF rfl rfl) rfl (by decide) fun a50 f50 => ?_
            clear f49 a49
            refine L.skip f50 (f50.noF rfl rfl) rfl (by decide) fun a51 f51 => ?_
            clear f50 a50
            refine L.skip f51 (f51.noF rfl rfl) rfl (by decide) fun a52 f52 => ?_
            clear f51 a51
            refine L.skip f52 (f52.noF rfl rfl) rfl (by decide) fun a53 f53 => ?_
            clear f52 a52
            refine L.skip f53 (f53.noF rfl rfl) rfl (by decide) fun a54 f54 => ?_
            clear f53 a53
            refine L.skip f54 (f54.noF rfl rfl) rfl (by decide) fun a55 f55 => ?_
            clear f54 a54
            refine L.skip f55 (f55.noF rfl rfl) rfl (by decide) fun a56 f56 => ?_
            clear f55 a55
            refine L.val f56 wantedN rfl (by decide) (E.pickT f56 rfl rfl) fun a57 f57 => ?_
            clear f56 a56
            refine wpList_nil (hK11 _ _ ?_)
            try clear hK11 K11
            have f58 := f57.sub (sub_cons (i := 0) rfl (sub_cons (i := 1) rfl (sub_cons (i := 2) rfl (sub_cons (i := 8) rfl (sub_cons (i := 9) rfl (sub_cons (i := 10) rfl (sub_cons (i := 11) rfl (sub_cons (i := 12) rfl (sub_cons (i := 13) rfl (sub_cons (i := 14) rfl (sub_cons (i := 15) rfl (sub_cons (i := 18) rfl (sub_cons (i := 19) rfl (sub_cons (i := 20) rfl (sub_cons (i := 21) rfl (sub_cons (i := 22) rfl (sub_cons (i := 23) rfl (sub_cons (i := 24) rfl (sub_cons (i := 25) rfl (sub_cons (i := 26) rfl (sub_cons (i := 27) rfl (sub_cons (i := 28) rfl (sub_cons (i := 29) rfl (sub_cons (i := 30) rfl (sub_cons (i := 31) rfl (sub_cons (i := 32) rfl (sub_cons (i := 33) rfl (sub_cons (i := 34) rfl (sub_cons (i := 35) rfl (sub_cons (i := 36) rfl (sub_cons (i := 37) rfl (sub_cons (i := 38) rfl (sub_cons (i := 39) rfl (sub_cons (i := 40) rfl (sub_cons (i := 41) rfl (sub_cons (i := 42) rfl (sub_cons (i := 43) rfl (sub_cons (i := 44) rfl (sub_cons (i := 45) rfl (sub_cons (i := 46) rfl (sub_cons (i := 47) rfl (sub_cons (i := 48) rfl (sub_cons (i := 49) rfl (sub_cons (i := 50) rfl (sub_cons (i := 51) rfl sub_nil)))))))))))))))))))))))))))))))))))))))))))))
            clear f57
            refine C.condT f58 rfl ?_
            refine wp_seq_k fun K13 hK13 => ?_
            have hbad : bad own tm e.abs = true := by simp [bad, Ent.abs, *]
            refine C.region ?_
            refine L.val f58 wantedN rfl (by decide) (E.assign f58 rfl) fun a59 f59 => ?_
            clear f58 a57
            refine L.val f59 wantedN rfl (by decide) (E.assign f59 rfl) fun a60 f60 => ?_
            clear f59 a59
            refine wpList_nil (hK13 _ _ ?_)
            try clear hK13 K13
            have f61 := f60.sub (sub_cons (i := 0) rfl (sub_cons (i := 1) rfl (sub_cons (i := 2) rfl (sub_cons (i := 6) rfl (sub_cons (i := 7) rfl (sub_cons (i := 8) rfl (sub_cons (i := 9) rfl (sub_cons (i := 10) rfl (sub_cons (i := 11) rfl (sub_cons (i := 12) rfl (sub_cons (i := 13) rfl (sub_cons (i := 14) rfl (sub_cons (i := 15) rfl (sub_cons (i := 18) rfl (sub_cons (i := 19) rfl (sub_cons (i := 20) rfl (sub_cons (i := 21) rfl (sub_cons (i := 22) rfl (sub_cons (i := 23) rfl (sub_cons (i := 24) rfl (sub_cons (i := 25) rfl (sub_cons (i := 26) rfl (sub_cons (i := 27) rfl (sub_cons (i := 28) rfl (sub_cons (i := 29) rfl (sub_cons (i := 30) rfl (sub_cons (i := 31) rfl (sub_cons (i := 32) rfl (sub_cons (i := 33) rfl (sub_cons (i := 34) rfl (sub_cons (i := 35) rfl (sub_cons (i := 36) rfl (sub_cons (i := 37) rfl (sub_cons (i := 38) rfl (sub_cons (i := 39) rfl (sub_cons (i := 40) rfl (sub_cons (i := 41) rfl (sub_cons (i := 42) rfl (sub_cons (i := 43) rfl (sub_cons (i := 44) rfl (sub_cons (i := 45) rfl (sub_cons (i := 46) rfl (sub_cons (i := 47) rfl (sub_cons (i := 48) rfl (sub_cons (i := 49) rfl (sub_cons (i := 50) rfl (sub_cons (i := 51) rfl sub_nil)))))))))))))))))))))))))))))))))))))))))))))))
            clear f60
            refine wp_ret ?_
            try simp only [Exit.inBlock, Exit.then]
            refine C.ret2 (P := Try.prog) (fn := Try.f38) f61 rfl rfl rfl ?_
            exact cut_none (by rw [hq, hst, if_neg hnm, if_pos hbad]; rfl) HK
          · clear f46
            refine L.val f47 (f47.yes rfl rfl) rfl (by decide) (E.move f47 rfl) fun a48 f48 => ?_
            clear f47 a46
            refine L.val f48 (f48.yes rfl rfl) rfl (by decide) (E.move f48 rfl) fun a49 f49 => ?_
            clear f48 a48
            refine L.val f49 (f49.yes rfl rfl) rfl (by decide) (E.nilCheck f49 rfl) fun a50 f50 => ?_
            clear f49 a49
            refine L.val f50 (f50.yes rfl rfl) rfl (by decide) (E.fieldAddr f50 Try.underlying77 rfl rfl wsz75_p) fun a51 f51 => ?_
            clear f50 a50
            refine L.val f51 (f51.yes rfl rfl) rfl (by decide) (E.indexArr f51 Try.underlying75 wsz24_p rfl rfl (by omega) (by omega)) fun a52 f52 => ?_
            clear f51 a51
            refine L.val f52 (f52.yes rfl rfl) rfl (by decide) (by first | exact E.load f52 Try.underlying24 rfl rfl ((Bm).cl rfl) | exact E.load f52 Try.underlying24 rfl rfl ((M.kept HK (by simp)).ce he) | exact E.load f52 Try.underlying24 rfl rfl ((M.kept HK (by simp)).ca he) | exact E.load f52 Try.underlying24 rfl rfl ((M.kept HK (by simp)).cs he)) fun a53 f53 => ?_
            clear f52 a52
            refine L.val f53 (f53.yes rfl rfl) rfl (by decide) (E.move f53 rfl) fun a54 f54 => ?_
            clear f53 a53
            refine L.call f54 (f54.yes rfl rfl) rfl (by decide) (run_call Try.call23 (args2 f54 rfl rfl)) (WithinR_any e.seen own _ _ _ _ _ (hok.ds.kept HK) (A1.kept HK) hok.len hm) ?_
            rintro e w2 ⟨kc2, rfl⟩
            refine ⟨_, rfl, fun a55 f55 => ?_⟩
            clear f54 a54
            have szw2 := kc2.size
            replace HK := HK.trans kc2 (by simp)
            replace Bm := Bm.kept kc2 (by simp)
            replace RW := RW.kept0 kc2
            clear kc2
            refine L.val f55 (f55.yes rfl rfl) rfl (by decide) (E.not f55 rfl) fun a56 f56 => ?_
            clear f55 a55
            refine L.val f56 wantedN rfl (by decide) (E.pickF f56 rfl rfl) fun a57 f57 => ?_
            clear f56 a56
            refine wpList_nil (hK11 _ _ ?_)
            try clear hK11 K11
            have f58 := f57.sub (sub_cons (i := 0) rfl (sub_cons (i := 1) rfl (sub_cons (i := 2) rfl (sub_cons (i := 8) rfl (sub_cons (i := 9) rfl (sub_cons (i := 10) rfl (sub_cons (i := 11) rfl (sub_cons (i := 12) rfl (sub_cons (i := 13) rfl (sub_cons (i := 14) rfl (sub_cons (i := 15) rfl (sub_cons (i := 18) rfl (sub_cons (i := 19) rfl (sub_cons (i := 20) rfl (sub_cons (i := 21) rfl (sub_cons (i := 22) rfl (sub_cons (i := 23) rfl (sub_cons (i := 24) rfl (sub_cons (i := 25) rfl (sub_cons (i := 26) rfl (sub_cons (i := 27) rfl (sub_cons (i := 28) rfl (sub_cons (i := 29) rfl (sub_cons (i := 30) rfl (sub_cons (i := 31) rfl (sub_cons (i := 32) rfl (sub_cons (i := 33) rfl (sub_cons (i := 34) rfl (sub_cons (i := 35) rfl (sub_cons (i := 36) rfl (sub_cons (i := 37) rfl (sub_cons (i := 38) rfl (sub_cons (i := 39) rfl (sub_cons (i := 40) rfl (sub_cons (i := 41) rfl (sub_cons (i := 42) rfl (sub_cons (i := 43) rfl (sub_cons (i := 44) rfl (sub_cons (i := 45) rfl (sub_cons (i := 46) rfl (sub_cons (i := 47) rfl (sub_cons (i := 48) rfl (sub_cons (i := 49) rfl (sub_cons (i := 50) rfl (sub_cons (i := 51) rfl sub_nil)))))))))))))))))))))))))))))))))))))))))))))
            clear f57
            first | refine f58.splitD 51 rfl (fun h4 f59 => ?_) (fun h4 f59 => ?_) | refine f58.splitN 51 rfl (fun h4 f59 => ?_) (fun h4 f59 => ?_) | refine f58.splitNB 51 rfl (fun h4 f59 => ?_) (fun h4 f59 => ?_) | refine f58.split 51 rfl (fun h4 f59 => ?_) (fun h4 f59 => ?_)
            · clear f58
              refine C.condT f59 rfl ?_
              refine wp_seq_k fun K14 hK14 => ?_
              have hbad : bad own tm e.abs = true := by simp [bad, Ent.abs, *]
              refine C.region ?_
              refine L.val f59 wantedN rfl (by decide) (E.assign f59 rfl) fun a60 f60 => ?_
              clear f59 a57
              refine L.val f60 wantedN rfl (by decide) (E.assign f60 rfl) fun a61 f61 => ?_
              clear f60 a60
              refine wpList_nil (hK14 _ _ ?_)
              try clear hK14 K14
              have f62 := f61.sub (sub_cons (i := 0) rfl (sub_cons (i := 1) rfl (sub_cons (i := 2) rfl (sub_cons (i := 6) rfl (sub_cons (i := 7) rfl (sub_cons (i := 8) rfl (sub_cons (i := 9) rfl (sub_cons (i := 10) rfl (sub_cons (i := 11) rfl (sub_cons (i := 12) rfl (sub_cons (i := 13) rfl (sub_cons (i := 14) rfl (sub_cons (i := 15) rfl (sub_cons (i := 18) rfl (sub_cons (i := 19) rfl (sub_cons (i := 20) rfl (sub_cons (i := 21) rfl (sub_cons (i := 22) rfl (sub_cons (i := 23) rfl (sub_cons (i := 24) rfl (sub_cons (i := 25) rfl (sub_cons (i := 26) rfl (sub_cons (i := 27) rfl (sub_cons (i := 28) rfl (sub_cons (i := 29) rfl (sub_cons (i := 30) rfl (sub_cons (i := 31) rfl (sub_cons (i := 32) rfl (sub_cons (i := 33) rfl (sub_cons (i := 34) rfl (sub_cons (i := 35) rfl (sub_cons (i := 36) rfl (sub_cons (i := 37) rfl (sub_cons (i := 38) rfl (sub_cons (i := 39) rfl (sub_cons (i := 40) rfl (sub_cons (i := 41) rfl (sub_cons (i := 42) rfl (sub_cons (i := 43) rfl (sub_cons (i := 44) rfl (sub_cons (i := 45) rfl (sub_cons (i := 46) rfl (sub_cons (i := 47) rfl (sub_cons (i := 48) rfl (sub_cons (i := 49) rfl (sub_cons (i := 50) rfl (sub_cons (i := 51) rfl sub_nil)))))))))))))))))))))))))))))))))))))))))))))))
              clear f61
              refine wp_ret ?_
              try simp only [Exit.inBlock, Exit.then]
              refine C.ret2 (P := Try.prog) (fn := Try.f38) f62 rfl rfl rfl ?_
              exact cut_none (by rw [hq, hst, if_neg hnm, if_pos hbad]; rfl) HK
            · clear f58
              refine C.condF f59 rfl ?_
              refine wp_skip (hK10 _ _ ?_)
              try clear hK10 K10
              have f60 := f59.sub (sub_cons (i := 0) rfl (sub_cons (i := 1) rfl (sub_cons (i := 2) rfl (sub_cons (i := 8) rfl (sub_cons (i := 9) rfl (sub_cons (i := 10) rfl (sub_cons (i := 11) rfl (sub_cons (i := 12) rfl (sub_cons (i := 13) rfl (sub_cons (i := 14) rfl (sub_cons (i := 15) rfl (sub_cons (i := 18) rfl (sub_cons (i := 19) rfl (sub_cons (i := 20) rfl (sub_cons (i := 21) rfl (sub_cons (i := 22) rfl (sub_cons (i := 23) rfl (sub_cons (i := 24) rfl (sub_cons (i := 25) rfl (sub_cons (i := 26) rfl (sub_cons (i := 27) rfl (sub_cons (i := 28) rfl (sub_cons (i := 29) rfl (sub_cons (i := 30) rfl (sub_cons (i := 31) rfl (sub_cons (i := 32) rfl (sub_cons (i := 33) rfl (sub_cons (i := 34) rfl (sub_cons (i := 35) rfl (sub_cons (i := 36) rfl (sub_cons (i := 37) rfl (sub_cons (i := 38) rfl (sub_cons (i := 39) rfl (sub_cons (i := 40) rfl (sub_cons (i := 41) rfl (sub_cons (i := 42) rfl (sub_cons (i := 43) rfl (sub_cons (i := 44) rfl (sub_cons (i := 45) rfl (sub_cons (i := 46) rfl (sub_cons (i := 47) rfl (sub_cons (i := 48) rfl (sub_cons (i := 49) rfl (sub_cons (i := 50) rfl (sub_cons (i := 51) rfl sub_nil)))))))))))))))))))))))))))))))))))))))))))))
              clear f59
              have hbad : bad own tm e.abs = false := by simp [bad, Ent.abs, *]
              refine C.region ?_
              refine L.val f60 wantedN rfl (by decide) (E.move f60 rfl) fun a61 f61 => ?_
              clear f60 a57
              refine L.val f61 wantedN rfl (by decide) (E.move f61 rfl) fun a62 f62 => ?_
              clear f61 a61
              refine L.val f62 wantedN rfl (by decide) (E.move f62 rfl) fun a63 f63 => ?_
              clear f62 a62
              refine L.val f63 wantedN rfl (by decide) (E.nilCheck f63 rfl) fun a64 f64 => ?_
              clear f63 a63
              refine L.val f64 wantedN rfl (by decide) (E.fieldAddr f64 Try.underlying77 rfl rfl wsz75_p) fun a65 f65 => ?_
              clear f64 a64
              refine L.val f65 wantedN rfl (by decide) (E.indexArr f65 Try.underlying75 wsz24_p rfl rfl (by omega) (by omega)) fun a66 f66 => ?_
              clear f65 a65
              refine L.val f66 wantedN rfl (by decide) (by first | exact E.load f66 Try.underlying24 rfl rfl ((Bm).cl rfl) | exact E.load f66 Try.underlying24 rfl rfl ((M.kept HK (by simp)).ce he) | exact E.load f66 Try.underlying24 rfl rfl ((M.kept HK (by simp)).ca he) | exact E.load f66 Try.underlying24 rfl rfl ((M.kept HK (by simp)).cs he)) fun a67 f67 => ?_
              clear f66 a66
              refine L.buildSlice f67 wantedN (by decide) (parts1 f67 rfl) Try.underlying46 wzi24_p rfl rfl (wbs46_1_p _ _ _) fun a68 w3 g2 N2 f68 => ?_
              have Bg2 := N2.blk
              have kg2 := N2.kept
              have log2 := N2.lo
              have ltg2 := Bg2.lt
              have szw3 := kg2.size
              have frg2 : w.heap.size ≤ g2 := Nat.le_trans HK.size log2
              have nem_g2 : m ≠ g2 := by have := Bm.lt; omega
              replace HK := HK.trans kg2 (by simp)
              replace Bm := Bm.kept kg2 (by simp)
              replace RW := RW.kept0 kg2
              clear N2 kg2
              clear f67 a67
              refine L.append f68 wantedN (by decide) Try.underlying46 wzib24_p rfl rfl rfl rfl (RW.fr.own) (sl_s Bg2) (by simp [Value.oneCell']) (by unfold maxLen; omega) (by omega) fun a69 w4 Ax cx AP4 f69 => ?_
              clear f68 a68
              have RX := RW.push (s := (e.A, e.c, e.seen)) AP4 (Nat.le_trans HK.size (Nat.le_refl _)) (hok.ds.kept HK) (fun a ha => Nat.lt_of_lt_of_le (M.lt _ (hok.fp a ha).1) HK.size) (RW.old fun a ha => M.lt _ (hok.fp a ha).1) hok.len
              skip
              replace HK := AP4.grow RW.fr HK
              have kap4 := AP4.kept
              have szw4 := kap4.size
              clear kap4
              refine L.val f69 wantedN rfl (by decide) (E.assign f69 rfl) fun a70 f70 => ?_
              clear f69 a69
              refine wpList_nil (hK7 _ _ ?_)
              try clear hK7 K7
              have f71 := f70.sub (sub_cons (i := 0) rfl (sub_cons (i := 1) rfl (sub_cons (i := 2) rfl (sub_cons (i := 8) rfl (sub_cons (i := 9) rfl (sub_cons (i := 10) rfl (sub_cons (i := 11) rfl (sub_cons (i := 12) rfl (sub_cons (i := 13) rfl (sub_cons (i := 14) rfl (sub_cons (i := 15) rfl (sub_cons (i := 18) rfl (sub_cons (i := 19) rfl (sub_cons (i := 20) rfl (sub_cons (i := 21) rfl (sub_cons (i := 22) rfl (sub_cons (i := 23) rfl (sub_cons (i := 24) rfl (sub_cons (i := 25) rfl (sub_cons (i := 26) rfl (sub_cons (i := 27) rfl (sub_cons (i := 28) rfl (sub_cons (i := 29) rfl (sub_cons (i := 30) rfl (sub_cons (i := 31) rfl (sub_cons (i := 32) rfl (sub_cons (i := 33) rfl (sub_cons (i := 34) rfl (sub_cons (i := 35) rfl (sub_cons (i := 36) rfl (sub_cons (i := 37) rfl (sub_cons (i := 38) rfl (sub_cons (i := 39) rfl (sub_cons (i := 40) rfl (sub_cons (i := 41) rfl (sub_cons (i := 42) rfl (sub_cons (i := 43) rfl (sub_cons (i := 44) rfl (sub_cons (i := 45) rfl (sub_cons (i := 46) rfl (sub_cons (i := 47) rfl (sub_cons (i := 48) rfl (sub_cons (i := 49) rfl (sub_cons (i := 50) rfl (sub_cons (i := 51) rfl (sub_cons (i := 52) rfl (sub_cons (i := 53) rfl (sub_cons (i := 54) rfl (sub_cons (i := 55) rfl (sub_cons (i := 56) rfl (sub_cons (i := 57) rfl (sub_cons (i := 58) rfl (sub_cons (i := 59) rfl (sub_cons (i := 60) rfl sub_nil))))))))))))))))))))))))))))))))))))))))))))))))))))))
              clear f70
              refine C.region ?_
              refine L.val f71 wantedN rfl (by decide) (E.move f71 rfl) fun a72 f72 => ?_
              clear f71 a70
              refine L.val f72 wantedN rfl (by decide) (E.add f72 rfl rfl (IntWalk.i64_in _ (by omega))) fun a73 f73 => ?_
              clear f72 a72
              refine L.val f73 wantedN rfl (by decide) (E.assign f73 rfl) fun a74 f74 => ?_
              clear f73 a73
              refine wpList_nil (hKL4 _ _ (gk5 - 1) ?_ ?_)
              · omega
              · exact ⟨k + 1, Ax, cx, ss ++ [(e.A, e.c, e.seen)], by omega, HK, by rw [hq, hst, if_neg hnm, if_neg (by simp [hbad])]; exact cut_next _ ss ((e.A, e.c, e.seen)), by simp; omega, RX, by simpa using f74.sub (sub_cons rfl (sub_cons rfl (sub_cons rfl (sub_cons rfl (sub_cons rfl sub_nil)))))⟩
    · clear f16
      refine C.condF f17 rfl ?_
      refine wp_exit (hK2 _ _ ?_)
      try clear hK2 K2
      have f18 := f17.sub (sub_cons (i := 8) rfl sub_nil)
      clear f17
      refine wp_seq_k fun K15 hK15 => ?_
      refine C.region ?_
      refine L.val f18 wantedN rfl (by decide) (E.move f18 rfl) fun a19 f19 => ?_
      clear f18 a15
      refine L.val f19 wantedN rfl (by decide) (E.assign f19 rfl) fun a20 f20 => ?_
      clear f19 a19
      refine L.val f20 wantedN rfl (by decide) (E.assign f20 rfl) fun a21 f21 => ?_
      clear f20 a20
      refine wpList_nil (hK15 _ _ ?_)
      try clear hK15 K15
      have f22 := f21.sub (sub_cons (i := 6) rfl (sub_cons (i := 7) rfl sub_nil))
      clear f21
      refine wp_ret ?_
      try simp only [Exit.inBlock, Exit.then]
      refine C.ret2 (P := Try.prog) (fn := Try.f38) f22 rfl rfl rfl ?_
      exact cut_done (by rw [hq, List.drop_eq_nil_of_le (by first | omega | (simp; omega))]; simp [cutFrom]) (by omega) RW HK

end Go.Proofs.Ytahmlcjgcdajbaa
