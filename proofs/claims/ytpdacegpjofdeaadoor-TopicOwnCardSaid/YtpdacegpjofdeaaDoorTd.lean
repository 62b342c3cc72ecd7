/- Contracts: texts that may be. -/
import Derived.Test.YtpdacegpjofdeaaDoorTc
import Derived.Test.YtpdacegpjofdeaaDoorC
import Derived.Test.YtpdacegpjofdeaaDoorConv
set_option linter.all false
namespace Go.Proofs.YtpdacegpjofdeaaDoor
open Go.RowKit Go.Hub Go.Lib


theorem toList_len (s : ByteArray) : s.toList.length = s.size := by rw [ByteArray.toList_eq]; rfl
theorem pos_of {s : ByteArray} (h : ¬ s = ⟨#[]⟩) : 0 < s.size := by
  have : s.size ≠ 0 := fun e => h (ByteArray.ext (Array.eq_empty_of_size_eq_zero e))
  omega
theorem pos_not {s : ByteArray} (h : s = ⟨#[]⟩) : s.size = 0 := by subst h; rfl
def textB (s : ByteArray) : Bool := decide (0 < s.size) && (decide (s.size ≤ 65535) && decide (chk s.toList < 0))
theorem text_t {s : ByteArray} (h1 : 0 < s.size) (h2 : s.size ≤ 65535) : textB s = decide (chk s.toList < 0) := by simp [textB, h1, h2]
theorem text_f {s : ByteArray} (h : ¬ (0 < s.size ∧ s.size ≤ 65535)) : textB s = false := by
  unfold textB
  by_cases h1 : 0 < s.size
  · rw [decide_eq_false (p := s.size ≤ 65535) (by omega)]; simp
  · rw [decide_eq_false h1]; rfl
section
variable {P : Program} {ops : Array Oper} {rest : List Oper} {a : Act} {w : World} {Q : Exit → Act → World → Prop} {n d : Nat} {l : FL} {ty : TypeId} {ps : String} {af : Array Edge} {gd : Option (Nat × Bool)} {x : Operand} {src dst u8t : TypeId}
theorem L.convSB (f : Fr n a l) (hw : Region.wanted ⟨some d, .convert src dst x, ty, ps, af, gd⟩ (yielded ops a.tmps) = true) (hn : d < n) (hs : P.underlying src = some .string) (hd : P.underlying dst = some (.slice 5)) (he : P.underlying 5 = some (.int .u8)) {s : ByteArray} (hx : evl l x = some (.string s))
    (hm : s.size ≤ 1000000) (hK : ∀ a' w' c, Fr n a' ((d, .slice (some ⟨w.heap.size, 0, none⟩) s.toList.length c) :: l) → (s.toList.length ≤ c ∧ c ≤ maxLen) → Bs [5] w'.heap.size w' (some ⟨w.heap.size, 0, none⟩) s.toList.length s.toList → Kept [] w w' → wpList P ops Q rest a' w') : wpList P ops Q (⟨some d, .convert src dst x, ty, ps, af, gd⟩ :: rest) a w := by
  have h := run_bytes_of_string (P := P) w src dst 5 s hs hd he
  refine L.val (v := .slice (some ⟨w.heap.size, 0, none⟩) s.size (grownCap w s.size 0 5)) (w' := w.drew.alloc (.cells (bytesRow s (grownCap w s.size 0 5)) 5 ((bytesRow s (grownCap w s.size 0 5)).size, (bytesRow s (grownCap w s.size 0 5)).size + 1))) f hw rfl hn (by simp only [execOp, f.ev hx, Sem.run_bind, h, Result.andThen, Sem.run_pure]) fun a' f' => hK a' _ (grownCap w s.size 0 5) (by rw [toList_len]; exact f') ?_ ?_ ?_
  · rw [toList_len]
    exact ⟨grownCap_ge _ _ _ _, grownCap_le_maxLen _ _ _ _ (by unfold maxLen; omega)⟩
  · rw [ByteArray.toList_eq]
    exact bs_conv [5] _ w s 5 (by simp) _ _
  · exact ((Kept.refl [] w).drewN 1).alloc _
end

set_option maxHeartbeats 1000000 in
theorem text_any (s : ByteArray) (w : World) (hT : Tabs w) (hs : s.size ≤ 1000000) : Calls Tryd.prog 24 #[.string s] w (fun e w' => Kept [] w w' ∧ e = .returned (.bool (textB s))) := by
  have HK : Kept [] w w := Kept.refl [] w
  refine C.enter Tryd.func24 rfl Tryd.ntmps24 rfl ?_
  intro a0 f0
  have f1 : Fr 16 a0 [(0, .string s)] := f0
  clear f0
  refine wp_seq_k fun K0 hK0 => ?_
  refine C.region ?_
  refine L.val f1 wantedN rfl (by decide) (E.assign f1 rfl) fun a2 f2 => ?_
  clear f1 a0
  refine wpList_nil (hK0 _ _ ?_)
  try clear hK0 K0
  have f3 := f2.sub (sub_cons (i := 0) rfl (sub_cons (i := 2) rfl sub_nil))
  clear f2
  refine wp_seq_k fun K1 hK1 => ?_
  refine C.region ?_
  refine L.val f3 wantedN rfl (by decide) (E.move f3 rfl) fun a4 f4 => ?_
  clear f3 a2
  refine L.val f4 wantedN rfl (by decide) (E.neqS f4 rfl rfl) fun a5 f5 => ?_
  clear f4 a4
  refine L.val f5 wantedN rfl (by decide) (E.move f5 rfl) fun a6 f6 => ?_
  clear f5 a5
  first | refine f6.splitD 5 rfl (fun h0 f7 => ?_) (fun h0 f7 => ?_) | refine f6.splitN 5 rfl (fun h0 f7 => ?_) (fun h0 f7 => ?_) | refine f6.splitNB 5 rfl (fun h0 f7 => ?_) (fun h0 f7 => ?_) | refine f6.split 5 rfl (fun h0 f7 => ?_) (fun h0 f7 => ?_)
  · clear f6
    have h5 := h0
    refine L.val f7 (f7.yes rfl rfl) rfl (by decide) (E.move f7 rfl) fun a8 f8 => ?_
    clear f7 a6
    refine L.val f8 (f8.yes rfl rfl) rfl (by decide) (E.lenS f8 Tryd.underlying9 rfl) fun a9 f9 => ?_
    clear f8 a8
    refine L.val f9 (f9.yes rfl rfl) rfl (by decide) (E.leq f9 rfl rfl) fun a10 f10 => ?_
    clear f9 a9
    refine L.val f10 wantedN rfl (by decide) (E.pickT f10 rfl rfl) fun a11 f11 => ?_
    clear f10 a10
    refine L.val f11 wantedN rfl (by decide) (E.move f11 rfl) fun a12 f12 => ?_
    clear f11 a11
    first | refine f12.splitD 10 rfl (fun h1 f13 => ?_) (fun h1 f13 => ?_) | refine f12.splitN 10 rfl (fun h1 f13 => ?_) (fun h1 f13 => ?_) | refine f12.splitNB 10 rfl (fun h1 f13 => ?_) (fun h1 f13 => ?_) | refine f12.split 10 rfl (fun h1 f13 => ?_) (fun h1 f13 => ?_)
    · clear f12
      have h10 := h1
      refine L.val f13 (f13.yes rfl rfl) rfl (by decide) (E.move f13 rfl) fun a14 f14 => ?_
      clear f13 a12
      refine L.convSB f14 (f14.yes rfl rfl) (by decide) Tryd.underlying9 Tryd.underlying22 Tryd.underlying5 rfl (by omega) fun a15 w1 cb f15 hcb BS kcv => ?_
      clear f14 a14
      have szw1 := kcv.size
      replace HK := HK.trans kcv (by simp)
      clear kcv
      refine L.call f15 (f15.yes rfl rfl) rfl (by decide) (run_call Tryd.call34 (args1 f15 rfl)) (chk_any [5] w1.heap.size _ cb s.toList w1 (hT.old (HK.below (by simp) (Nat.le_refl _))) BS hcb.1 hcb.2) ?_
      rintro e w2 ⟨rfl, kb⟩
      have kc2 := Kept.of_below kb []
      refine ⟨_, rfl, fun a16 f16 => ?_⟩
      clear f15 a15
      have szw2 := kc2.size
      replace HK := HK.trans kc2 (by simp)
      clear kc2
      refine L.val f16 (f16.yes rfl rfl) rfl (by decide) (E.lss f16 rfl rfl) fun a17 f17 => ?_
      clear f16 a16
      refine L.val f17 wantedN rfl (by decide) (E.pickT f17 rfl rfl) fun a18 f18 => ?_
      clear f17 a17
      refine L.val f18 wantedN rfl (by decide) (E.assign f18 rfl) fun a19 f19 => ?_
      clear f18 a18
      refine wpList_nil (hK1 _ _ ?_)
      try clear hK1 K1
      have f20 := f19.sub (sub_cons (i := 2) rfl sub_nil)
      clear f19
      refine wp_ret ?_
      try simp only [Exit.inBlock, Exit.then]
      refine C.ret (P := Tryd.prog) (fn := Tryd.f24) f20 rfl rfl ?_
      exact ⟨HK, by rw [text_t (pos_of h5) (by omega)]⟩
    · clear f12
      have h10 := h1
      refine L.skip f13 (f13.noT rfl rfl) rfl (by decide) fun a14 f14 => ?_
      clear f13 a12
      refine L.skip f14 (f14.noT rfl rfl) rfl (by decide) fun a15 f15 => ?_
      clear f14 a14
      refine L.skip f15 (f15.noT rfl rfl) rfl (by decide) fun a16 f16 => ?_
      clear f15 a15
      refine L.skip f16 (f16.noT rfl rfl) rfl (by decide) fun a17 f17 => ?_
      clear f16 a16
      refine L.val f17 wantedN rfl (by decide) (E.pickF f17 rfl rfl) fun a18 f18 => ?_
      clear f17 a17
      refine L.val f18 wantedN rfl (by decide) (E.assign f18 rfl) fun a19 f19 => ?_
      clear f18 a18
      refine wpList_nil (hK1 _ _ ?_)
      try clear hK1 K1
      have f20 := f19.sub (sub_cons (i := 2) rfl sub_nil)
      clear f19
      refine wp_ret ?_
      try simp only [Exit.inBlock, Exit.then]
      refine C.ret (P := Tryd.prog) (fn := Tryd.f24) f20 rfl rfl ?_
      exact ⟨HK, by rw [text_f (by omega)]⟩
  · clear f6
    have h5 := h0
    refine L.skip f7 (f7.noT rfl rfl) rfl (by decide) fun a8 f8 => ?_
    clear f7 a6
    refine L.skip f8 (f8.noT rfl rfl) rfl (by decide) fun a9 f9 => ?_
    clear f8 a8
    refine L.skip f9 (f9.noT rfl rfl) rfl (by decide) fun a10 f10 => ?_
    clear f9 a9
    refine L.val f10 wantedN rfl (by decide) (E.pickF f10 rfl rfl) fun a11 f11 => ?_
    clear f10 a10
    refine L.val f11 wantedN rfl (by decide) (E.move f11 rfl) fun a12 f12 => ?_
    clear f11 a11
    refine L.skip f12 (f12.noT rfl rfl) rfl (by decide) fun a13 f13 => ?_
    clear f12 a12
    refine L.skip f13 (f13.noT rfl rfl) rfl (by decide) fun a14 f14 => ?_
    clear f13 a13
    refine L.skip f14 (f14.noT rfl rfl) rfl (by decide) fun a15 f15 => ?_
    clear f14 a14
    refine L.skip f15 (f15.noT rfl rfl) rfl (by decide) fun a16 f16 => ?_
    clear f15 a15
    refine L.val f16 wantedN rfl (by decide) (E.pickF f16 rfl rfl) fun a17 f17 => ?_
    clear f16 a16
    refine L.val f17 wantedN rfl (by decide) (E.assign f17 rfl) fun a18 f18 => ?_
    clear f17 a17
    refine wpList_nil (hK1 _ _ ?_)
    try clear hK1 K1
    have f19 := f18.sub (sub_cons (i := 2) rfl sub_nil)
    clear f18
    refine wp_ret ?_
    try simp only [Exit.inBlock, Exit.then]
    refine C.ret (P := Tryd.prog) (fn := Tryd.f24) f19 rfl rfl ?_
    exact ⟨HK, by rw [text_f (by rw [pos_not h5]; omega)]⟩

set_option maxHeartbeats 1000000 in
theorem textR_any (s : ByteArray) (w : World) (hT : Tabs w) (hs : s.size ≤ 1000000) : Calls Tryd.prog 25 #[.string s] w (fun e w' => Kept [] w w' ∧ e = .returned (.bool (textB s))) := by
  have HK : Kept [] w w := Kept.refl [] w
  refine C.enter Tryd.func25 rfl Tryd.ntmps25 rfl ?_
  intro a0 f0
  have f1 : Fr 17 a0 [(0, .string s)] := f0
  clear f0
  refine wp_seq_k fun K0 hK0 => ?_
  refine C.region ?_
  refine L.val f1 wantedN rfl (by decide) (E.assign f1 rfl) fun a2 f2 => ?_
  clear f1 a0
  refine wpList_nil (hK0 _ _ ?_)
  try clear hK0 K0
  have f3 := f2.sub (sub_cons (i := 0) rfl (sub_cons (i := 2) rfl sub_nil))
  clear f2
  refine wp_seq_k fun K1 hK1 => ?_
  refine C.region ?_
  refine L.val f3 wantedN rfl (by decide) (E.move f3 rfl) fun a4 f4 => ?_
  clear f3 a2
  refine L.val f4 wantedN rfl (by decide) (E.lenS f4 Tryd.underlying9 rfl) fun a5 f5 => ?_
  clear f4 a4
  refine L.val f5 wantedN rfl (by decide) (E.geq f5 rfl rfl) fun a6 f6 => ?_
  clear f5 a5
  refine L.val f6 wantedN rfl (by decide) (E.move f6 rfl) fun a7 f7 => ?_
  clear f6 a6
  first | refine f7.splitD 6 rfl (fun h0 f8 => ?_) (fun h0 f8 => ?_) | refine f7.splitN 6 rfl (fun h0 f8 => ?_) (fun h0 f8 => ?_) | refine f7.splitNB 6 rfl (fun h0 f8 => ?_) (fun h0 f8 => ?_) | refine f7.split 6 rfl (fun h0 f8 => ?_) (fun h0 f8 => ?_)
  · clear f7
    have h6 := h0
    refine L.val f8 (f8.yes rfl rfl) rfl (by decide) (E.move f8 rfl) fun a9 f9 => ?_
    clear f8 a7
    refine L.val f9 (f9.yes rfl rfl) rfl (by decide) (E.lenS f9 Tryd.underlying9 rfl) fun a10 f10 => ?_
    clear f9 a9
    refine L.val f10 (f10.yes rfl rfl) rfl (by decide) (E.leq f10 rfl rfl) fun a11 f11 => ?_
    clear f10 a10
    refine L.val f11 wantedN rfl (by decide) (E.pickT f11 rfl rfl) fun a12 f12 => ?_
    clear f11 a11
    refine L.val f12 wantedN rfl (by decide) (E.move f12 rfl) fun a13 f13 => ?_
    clear f12 a12
    first | refine f13.splitD 11 rfl (fun h1 f14 => ?_) (fun h1 f14 => ?_) | refine f13.splitN 11 rfl (fun h1 f14 => ?_) (fun h1 f14 => ?_) | refine f13.splitNB 11 rfl (fun h1 f14 => ?_) (fun h1 f14 => ?_) | refine f13.split 11 rfl (fun h1 f14 => ?_) (fun h1 f14 => ?_)
    · clear f13
      have h11 := h1
      refine L.val f14 (f14.yes rfl rfl) rfl (by decide) (E.move f14 rfl) fun a15 f15 => ?_
      clear f14 a13
      refine L.convSB f15 (f15.yes rfl rfl) (by decide) Tryd.underlying9 Tryd.underlying22 Tryd.underlying5 rfl (by omega) fun a16 w1 cb f16 hcb BS kcv => ?_
      clear f15 a15
      have szw1 := kcv.size
      replace HK := HK.trans kcv (by simp)
      clear kcv
      refine L.call f16 (f16.yes rfl rfl) rfl (by decide) (run_call Tryd.call35 (args1 f16 rfl)) (chkR_any [5] w1.heap.size _ cb s.toList w1 BS hcb.1 hcb.2) ?_
      rintro e w1x ⟨rfl, rfl⟩
      refine ⟨_, rfl, fun a17 f17 => ?_⟩
      clear f16 a16
      refine L.val f17 (f17.yes rfl rfl) rfl (by decide) (E.lss f17 rfl rfl) fun a18 f18 => ?_
      clear f17 a17
      refine L.val f18 wantedN rfl (by decide) (E.pickT f18 rfl rfl) fun a19 f19 => ?_
      clear f18 a18
      refine L.val f19 wantedN rfl (by decide) (E.assign f19 rfl) fun a20 f20 => ?_
      clear f19 a19
      refine wpList_nil (hK1 _ _ ?_)
      try clear hK1 K1
      have f21 := f20.sub (sub_cons (i := 2) rfl sub_nil)
      clear f20
      refine wp_ret ?_
      try simp only [Exit.inBlock, Exit.then]
      refine C.ret (P := Tryd.prog) (fn := Tryd.f25) f21 rfl rfl ?_
      exact ⟨HK, by rw [text_t (by omega) (by omega)]⟩
    · clear f13
      have h11 := h1
      refine L.skip f14 (f14.noT rfl rfl) rfl (by decide) fun a15 f15 => ?_
      clear f14 a13
      refine L.skip f15 (f15.noT rfl rfl) rfl (by decide) fun a16 f16 => ?_
      clear f15 a15
      refine L.skip f16 (f16.noT rfl rfl) rfl (by decide) fun a17 f17 => ?_
      clear f16 a16
      refine L.skip f17 (f17.noT rfl rfl) rfl (by decide) fun a18 f18 => ?_
      clear f17 a17
      refine L.val f18 wantedN rfl (by decide) (E.pickF f18 rfl rfl) fun a19 f19 => ?_
      clear f18 a18
      refine L.val f19 wantedN rfl (by decide) (E.assign f19 rfl) fun a20 f20 => ?_
      clear f19 a19
      refine wpList_nil (hK1 _ _ ?_)
      try clear hK1 K1
      have f21 := f20.sub (sub_cons (i := 2) rfl sub_nil)
      clear f20
      refine wp_ret ?_
      try simp only [Exit.inBlock, Exit.then]
      refine C.ret (P := Tryd.prog) (fn := Tryd.f25) f21 rfl rfl ?_
      exact ⟨HK, by rw [text_f (by omega)]⟩
  · clear f7
    have h6 := h0
    refine L.skip f8 (f8.noT rfl rfl) rfl (by decide) fun a9 f9 => ?_
    clear f8 a7
    refine L.skip f9 (f9.noT rfl rfl) rfl (by decide) fun a10 f10 => ?_
    clear f9 a9
    refine L.skip f10 (f10.noT rfl rfl) rfl (by decide) fun a11 f11 => ?_
    clear f10 a10
    refine L.val f11 wantedN rfl (by decide) (E.pickF f11 rfl rfl) fun a12 f12 => ?_
    clear f11 a11
    refine L.val f12 wantedN rfl (by decide) (E.move f12 rfl) fun a13 f13 => ?_
    clear f12 a12
    refine L.skip f13 (f13.noT rfl rfl) rfl (by decide) fun a14 f14 => ?_
    clear f13 a13
    refine L.skip f14 (f14.noT rfl rfl) rfl (by decide) fun a15 f15 => ?_
    clear f14 a14
    refine L.skip f15 (f15.noT rfl rfl) rfl (by decide) fun a16 f16 => ?_
    clear f15 a15
    refine L.skip f16 (f16.noT rfl rfl) rfl (by decide) fun a17 f17 => ?_
    clear f16 a16
    refine L.val f17 wantedN rfl (by decide) (E.pickF f17 rfl rfl) fun a18 f18 => ?_
    clear f17 a17
    refine L.val f18 wantedN rfl (by decide) (E.assign f18 rfl) fun a19 f19 => ?_
    clear f18 a18
    refine wpList_nil (hK1 _ _ ?_)
    try clear hK1 K1
    have f20 := f19.sub (sub_cons (i := 2) rfl sub_nil)
    clear f19
    refine wp_ret ?_
    try simp only [Exit.inBlock, Exit.then]
    refine C.ret (P := Tryd.prog) (fn := Tryd.f25) f20 rfl rfl ?_
    exact ⟨HK, by rw [text_f (by omega)]⟩

end Go.Proofs.YtpdacegpjofdeaaDoor
