/- Contracts: the document's words on dots. -/
import Derived.Test.YtahmlcjgcdajbaaDc
set_option linter.all false
namespace Go.Proofs.Ytahmlcjgcdajbaa
open Go.RowKit Go.Hub
theorem wzib32_d : (Try.prog.info? 32).map (fun i => (i.zero, i.size, i.bytes)) = some (some (.agg #[(.int .i64 0), (.int .i64 0), (.int .i64 0)]), 3, 24) := by kernel_rfl
theorem wsz32_d : (Try.prog.info? 32).map (·.size) = some 3 := by kernel_rfl
theorem wsz3_d : (Try.prog.info? 3).map (·.size) = some 1 := by kernel_rfl

def DotsPost (l : List Dt) (w : World) (e : Ending) (w' : World) : Prop := Kept [] w w' ∧ ∃ A c, e = .returned (.slice A l.length c) ∧ Fresh w w' 32 3 A l.length c (dcells l)
theorem fields32 : (Try.prog.fieldsOf 32).toList = [{ name := "Node", type := 3, offset := 0, embedded := false, tag := "", pkgPath := "", byteOffset := 0 }, { name := "Epoch", type := 3, offset := 1, embedded := false, tag := "", pkgPath := "", byteOffset := 8 }, { name := "N", type := 3, offset := 2, embedded := false, tag := "", pkgPath := "", byteOffset := 16 }] := by kernel_rfl
theorem neqDot (x y : Operand) (d d' : Dt) (w : World) : (do eqGuard .neq 32 x y (.agg (dcell d).toArray) (.agg (dcell d').toArray); binOp .neq 32 (.agg (dcell d).toArray) (.agg (dcell d').toArray) : Sem Value).run Try.prog w = .ok (.bool (!decide (d = d'))) w := by
  rw [Sem.run_bind, run_eqGuard_agg w .neq 32 x y _ _ (by kernel_rfl)]
  simp only [Result.andThen_ok]
  rw [run_neq_struct, run_equalIn_struct w 9999 32 _ _ (by kernel_rfl) (by kernel_rfl)]
  rw [fields32]
  simp [go_sem]
  obtain ⟨a, b, c⟩ := d
  obtain ⟨a', b', c'⟩ := d'
  by_cases h1 : a = a' <;> by_cases h2 : b = b' <;> by_cases h3 : c = c' <;> simp [h1, h2, h3]
theorem within_no {a b : List Dt} (ha : rightB a = true) (hb : rightB b = true) {d : Dt} (hd : d ∈ a) (hn : hasB b d = false) : withinB a b = false := by
  unfold withinB
  rw [ha, hb, any_has ha hb]
  simp only [Bool.true_and, Bool.not_not]
  rw [List.all_eq_false]
  refine ⟨d, hd, ?_⟩
  unfold hasB topR at hn
  simp only [hn]
  simp
theorem within_yes {a b : List Dt} (ha : rightB a = true) (hb : rightB b = true) (hn : ∀ d ∈ a, hasB b d = true) : withinB a b = true := by
  unfold withinB
  rw [ha, hb, any_has ha hb]
  simp only [Bool.true_and, Bool.not_not]
  rw [List.all_eq_true]
  intro d hd
  exact hn d hd

set_option maxHeartbeats 1000000 in
theorem clone_any (l : List Dt) (A : Option Addr) (c : Nat) (w : World) (A1 : Ds w A l) (hm : l.length ≤ 1000000) : Calls Try.prog 39 #[.slice A l.length c] w (DotsPost l w) := by
  have HK : Kept [] w w := Kept.refl [] w
  refine C.enter Try.func39 rfl Try.ntmps39 rfl ?_
  intro a0 f0
  have f1 : Fr 8 a0 [(0, .slice A l.length c)] := f0
  clear f0
  refine wp_seq_k fun K0 hK0 => ?_
  refine C.region ?_
  refine L.val f1 wantedN rfl (by decide) (E.assign f1 rfl) fun a2 f2 => ?_
  clear f1 a0
  refine wpList_nil (hK0 _ _ ?_)
  try clear hK0 K0
  have f3 := f2.sub (sub_cons (i := 0) rfl (sub_cons (i := 2) rfl sub_nil))
  clear f2
  refine wp_seq_k fun K1 hK1 => ?_
  refine wp_seq_k fun K2 hK2 => ?_
  refine C.region ?_
  refine L.val f3 wantedN rfl (by decide) (E.move f3 rfl) fun a4 f4 => ?_
  clear f3 a2
  refine L.val f4 wantedN rfl (by decide) (E.eqlNil f4 Try.underlying24 rfl rfl) fun a5 f5 => ?_
  clear f4 a4
  refine wpList_nil (hK2 _ _ ?_)
  try clear hK2 K2
  have f6 := f5.sub (sub_cons (i := 0) rfl (sub_cons (i := 2) rfl (sub_cons (i := 4) rfl sub_nil)))
  clear f5
  first | refine f6.splitD 4 rfl (fun h0 f7 => ?_) (fun h0 f7 => ?_) | refine f6.splitN 4 rfl (fun h0 f7 => ?_) (fun h0 f7 => ?_) | refine f6.splitNB 4 rfl (fun h0 f7 => ?_) (fun h0 f7 => ?_) | refine f6.split 4 rfl (fun h0 f7 => ?_) (fun h0 f7 => ?_)
  · clear f6
    have hA0 : A = none := by simpa using h0
    have hl0 : l = [] := by
      rcases l with _ | ⟨d, r⟩
      · rfl
      · obtain ⟨b, off, e⟩ := A1.addr (i := 0) (by simp)
        rw [hA0] at e
        cases e
    refine C.condT f7 rfl ?_
    refine wp_seq_k fun K3 hK3 => ?_
    refine C.region ?_
    refine L.val f7 wantedN rfl (by decide) (E.assign f7 rfl) fun a8 f8 => ?_
    clear f7 a5
    refine wpList_nil (hK3 _ _ ?_)
    try clear hK3 K3
    have f9 := f8.sub (sub_cons (i := 0) rfl (sub_cons (i := 2) rfl sub_nil))
    clear f8
    refine wp_ret ?_
    try simp only [Exit.inBlock, Exit.then]
    refine C.ret (P := Try.prog) (fn := Try.f39) f9 rfl rfl ?_
    subst hl0
    exact ⟨HK, none, 0, rfl, Fresh.nil _ _ _ _⟩
  · clear f6
    refine C.condF f7 rfl ?_
    refine wp_skip (hK1 _ _ ?_)
    try clear hK1 K1
    have f8 := f7.sub (sub_cons (i := 0) rfl (sub_cons (i := 2) rfl sub_nil))
    clear f7
    refine wp_seq_k fun K4 hK4 => ?_
    refine C.region ?_
    refine L.buildNone f8 wantedN (by decide) Try.underlying24 wsz32_d fun a9 w1 g0 N0 f9 => ?_
    have OW := N0.own (k := 0) (size := 3) rfl (by decide)
    have Bg0 := N0.blk
    have kg0 := N0.kept
    have log0 := N0.lo
    have ltg0 := Bg0.lt
    have szw1 := kg0.size
    have frg0 : w.heap.size ≤ g0 := Nat.le_trans HK.size log0
    replace HK := HK.trans kg0 (by simp)
    clear N0 kg0
    clear f8 a5
    refine L.val f9 wantedN rfl (by decide) (E.move f9 rfl) fun a10 f10 => ?_
    clear f9 a9
    refine L.append f10 wantedN (by decide) Try.underlying24 wzib32_d rfl rfl rfl rfl (OW) (A1.kept HK) (dcells_one l) (by unfold maxLen; omega) (by omega) fun a11 w2 A2 c2 AP2 f11 => ?_
    clear f10 a10
    have kap2 : Kept [g0] w1 w2 := by simpa [Value.ownBlock] using AP2.kept
    have FR := AP2.next (⟨OW, fun b hb => by simp at hb; omega⟩ : Fresh w w1 32 3 (some ⟨g0, 0, none⟩) 0 0 _) HK.size
    have szw2 := kap2.size
    replace HK := HK.trans kap2 (by intro x hx hlt; simp at hx; subst hx; first | (exfalso; omega) | simp)
    clear kap2
    refine L.val f11 wantedN rfl (by decide) (E.assign f11 rfl) fun a12 f12 => ?_
    clear f11 a11
    refine wpList_nil (hK4 _ _ ?_)
    try clear hK4 K4
    have f13 := f12.sub (sub_cons (i := 2) rfl sub_nil)
    clear f12
    refine wp_ret ?_
    try simp only [Exit.inBlock, Exit.then]
    refine C.ret (P := Try.prog) (fn := Try.f39) f13 rfl rfl ?_
    simp only [Nat.zero_add] at FR f13 ⊢
    exact ⟨HK, _, _, rfl, by simpa using FR⟩

set_option maxHeartbeats 1000000 in
theorem pair_any (x y : Int) (w : World) : Calls Try.prog 46 #[.int .i64 x, .int .i64 y] w (fun e w' => w = w' ∧ e = .returned (.bool (pairB x y))) := by
  refine C.enter Try.func46 rfl Try.ntmps46 rfl ?_
  intro a0 f0
  have f1 : Fr 15 a0 [(0, .int .i64 x), (1, .int .i64 y)] := f0
  clear f0
  refine wp_seq_k fun K0 hK0 => ?_
  refine C.region ?_
  refine L.val f1 wantedN rfl (by decide) (E.assign f1 rfl) fun a2 f2 => ?_
  clear f1 a0
  refine wpList_nil (hK0 _ _ ?_)
  try clear hK0 K0
  have f3 := f2.sub (sub_cons (i := 0) rfl (sub_cons (i := 1) rfl (sub_cons (i := 4) rfl sub_nil)))
  clear f2
  refine wp_seq_k fun K1 hK1 => ?_
  refine C.region ?_
  refine L.val f3 wantedN rfl (by decide) (E.move f3 rfl) fun a4 f4 => ?_
  clear f3 a2
  refine L.val f4 wantedN rfl (by decide) (E.geq f4 rfl rfl) fun a5 f5 => ?_
  clear f4 a4
  refine L.val f5 wantedN rfl (by decide) (E.move f5 rfl) fun a6 f6 => ?_
  clear f5 a5
  first | refine f6.splitD 7 rfl (fun h0 f7 => ?_) (fun h0 f7 => ?_) | refine f6.splitN 7 rfl (fun h0 f7 => ?_) (fun h0 f7 => ?_) | refine f6.splitNB 7 rfl (fun h0 f7 => ?_) (fun h0 f7 => ?_) | refine f6.split 7 rfl (fun h0 f7 => ?_) (fun h0 f7 => ?_)
  · clear f6
    refine L.val f7 (f7.yes rfl rfl) rfl (by decide) (E.move f7 rfl) fun a8 f8 => ?_
    clear f7 a6
    refine L.val f8 (f8.yes rfl rfl) rfl (by decide) (E.lss f8 rfl rfl) fun a9 f9 => ?_
    clear f8 a8
    refine L.val f9 wantedN rfl (by decide) (E.pickT f9 rfl rfl) fun a10 f10 => ?_
    clear f9 a9
    refine L.val f10 wantedN rfl (by decide) (E.move f10 rfl) fun a11 f11 => ?_
    clear f10 a10
    first | refine f11.splitD 11 rfl (fun h1 f12 => ?_) (fun h1 f12 => ?_) | refine f11.splitN 11 rfl (fun h1 f12 => ?_) (fun h1 f12 => ?_) | refine f11.splitNB 11 rfl (fun h1 f12 => ?_) (fun h1 f12 => ?_) | refine f11.split 11 rfl (fun h1 f12 => ?_) (fun h1 f12 => ?_)
    · clear f11
      refine L.val f12 (f12.yes rfl rfl) rfl (by decide) (E.move f12 rfl) fun a13 f13 => ?_
      clear f12 a11
      refine L.val f13 (f13.yes rfl rfl) rfl (by decide) (E.geq f13 rfl rfl) fun a14 f14 => ?_
      clear f13 a13
      refine L.val f14 wantedN rfl (by decide) (E.pickT f14 rfl rfl) fun a15 f15 => ?_
      clear f14 a14
      refine L.val f15 wantedN rfl (by decide) (E.assign f15 rfl) fun a16 f16 => ?_
      clear f15 a15
      refine wpList_nil (hK1 _ _ ?_)
      try clear hK1 K1
      have f17 := f16.sub (sub_cons (i := 4) rfl sub_nil)
      clear f16
      refine wp_ret ?_
      try simp only [Exit.inBlock, Exit.then]
      refine C.ret (P := Try.prog) (fn := Try.f46) f17 rfl rfl ?_
      exact ⟨rfl, by simp [pairB, *]⟩
    · clear f11
      refine L.skip f12 (f12.noT rfl rfl) rfl (by decide) fun a13 f13 => ?_
      clear f12 a11
      refine L.skip f13 (f13.noT rfl rfl) rfl (by decide) fun a14 f14 => ?_
      clear f13 a13
      refine L.val f14 wantedN rfl (by decide) (E.pickF f14 rfl rfl) fun a15 f15 => ?_
      clear f14 a14
      refine L.val f15 wantedN rfl (by decide) (E.assign f15 rfl) fun a16 f16 => ?_
      clear f15 a15
      refine wpList_nil (hK1 _ _ ?_)
      try clear hK1 K1
      have f17 := f16.sub (sub_cons (i := 4) rfl sub_nil)
      clear f16
      refine wp_ret ?_
      try simp only [Exit.inBlock, Exit.then]
      refine C.ret (P := Try.prog) (fn := Try.f46) f17 rfl rfl ?_
      exact ⟨rfl, by simp [pairB, *]⟩
  · clear f6
    refine L.skip f7 (f7.noT rfl rfl) rfl (by decide) fun a8 f8 => ?_
    clear f7 a6
    refine L.skip f8 (f8.noT rfl rfl) rfl (by decide) fun a9 f9 => ?_
    clear f8 a8
    refine L.val f9 wantedN rfl (by decide) (E.pickF f9 rfl rfl) fun a10 f10 => ?_
    clear f9 a9
    refine L.val f10 wantedN rfl (by decide) (E.move f10 rfl) fun a11 f11 => ?_
    clear f10 a10
    refine L.skip f11 (f11.noT rfl rfl) rfl (by decide) fun a12 f12 => ?_
    clear f11 a11
    refine L.skip f12 (f12.noT rfl rfl) rfl (by decide) fun a13 f13 => ?_
    clear f12 a12
    refine L.val f13 wantedN rfl (by decide) (E.pickF f13 rfl rfl) fun a14 f14 => ?_
    clear f13 a13
    refine L.val f14 wantedN rfl (by decide) (E.assign f14 rfl) fun a15 f15 => ?_
    clear f14 a14
    refine wpList_nil (hK1 _ _ ?_)
    try clear hK1 K1
    have f16 := f15.sub (sub_cons (i := 4) rfl sub_nil)
    clear f15
    refine wp_ret ?_
    try simp only [Exit.inBlock, Exit.then]
    refine C.ret (P := Try.prog) (fn := Try.f46) f16 rfl rfl ?_
    exact ⟨rfl, by simp [pairB, *]⟩

set_option maxHeartbeats 1000000 in
theorem ahead_any (p q : Dt) (w : World) : Calls Try.prog 47 #[.agg (dcell p).toArray, .agg (dcell q).toArray] w (fun e w' => Kept [] w w' ∧ e = .returned (.bool (decide (lt2 p q)))) := by
  have HK : Kept [] w w := Kept.refl [] w
  refine C.enter Try.func47 rfl Try.ntmps47 rfl ?_
  intro a0 f0
  have f1 : Fr 24 a0 [(0, .agg (dcell p).toArray), (1, .agg (dcell q).toArray)] := f0
  clear f0
  refine wp_seq_k fun K0 hK0 => ?_
  refine C.region ?_
  refine L.box f1 wantedN (by decide) rfl rfl fun a2 w1 g0 N0 f2 => ?_
  have Bg0 := N0.blk
  have kg0 := N0.kept
  have log0 := N0.lo
  have ltg0 := Bg0.lt
  have szw1 := kg0.size
  have frg0 : w.heap.size ≤ g0 := Nat.le_trans HK.size log0
  replace HK := HK.trans kg0 (by simp)
  clear N0 kg0
  clear f1 a0
  refine L.box f2 wantedN (by decide) rfl rfl fun a3 w2 g1 N1 f3 => ?_
  have Bg1 := N1.blk
  have kg1 := N1.kept
  have log1 := N1.lo
  have ltg1 := Bg1.lt
  have szw2 := kg1.size
  have frg1 : w.heap.size ≤ g1 := Nat.le_trans HK.size log1
  have neg0_g1 : g0 ≠ g1 := by have := Bg0.lt; omega
  replace HK := HK.trans kg1 (by simp)
  replace Bg0 := Bg0.kept kg1 (by simp)
  clear N1 kg1
  clear f2 a2
  refine L.val f3 wantedN rfl (by decide) (E.assign f3 rfl) fun a4 f4 => ?_
  clear f3 a3
  refine wpList_nil (hK0 _ _ ?_)
  try clear hK0 K0
  have f5 := f4.sub (sub_cons (i := 2) rfl (sub_cons (i := 3) rfl (sub_cons (i := 4) rfl sub_nil)))
  clear f4
  refine wp_seq_k fun K1 hK1 => ?_
  refine C.region ?_
  refine L.val f5 wantedN rfl (by decide) (E.fieldAddr f5 Try.underlying32 rfl rfl wsz3_d) fun a6 f6 => ?_
  clear f5 a4
  refine L.val f6 wantedN rfl (by decide) (by first | exact E.load f6 Try.underlying3 rfl rfl ((Bg0).cl rfl) | exact E.load f6 Try.underlying3 rfl rfl ((Bg1).cl rfl)) fun a7 f7 => ?_
  clear f6 a6
  refine L.val f7 wantedN rfl (by decide) (E.fieldAddr f7 Try.underlying32 rfl rfl wsz3_d) fun a8 f8 => ?_
  clear f7 a7
  refine L.val f8 wantedN rfl (by decide) (by first | exact E.load f8 Try.underlying3 rfl rfl ((Bg0).cl rfl) | exact E.load f8 Try.underlying3 rfl rfl ((Bg1).cl rfl)) fun a9 f9 => ?_
  clear f8 a8
  refine L.val f9 wantedN rfl (by decide) (E.lss f9 rfl rfl) fun a10 f10 => ?_
  clear f9 a9
  refine L.val f10 wantedN rfl (by decide) (E.move f10 rfl) fun a11 f11 => ?_
  clear f10 a10
  first | refine f11.splitD 10 rfl (fun h0 f12 => ?_) (fun h0 f12 => ?_) | refine f11.splitN 10 rfl (fun h0 f12 => ?_) (fun h0 f12 => ?_) | refine f11.splitNB 10 rfl (fun h0 f12 => ?_) (fun h0 f12 => ?_) | refine f11.split 10 rfl (fun h0 f12 => ?_) (fun h0 f12 => ?_)
  · clear f11
    refine L.skip f12 (f12.noF rfl rfl) rfl (by decide) fun a13 f13 => ?_
    clear f12 a11
    refine L.skip f13 (f13.noF rfl rfl) rfl (by decide) fun a14 f14 => ?_
    clear f13 a13
    refine L.skip f14 (f14.noF rfl rfl) rfl (by decide) fun a15 f15 => ?_
    clear f14 a14
    refine L.skip f15 (f15.noF rfl rfl) rfl (by decide) fun a16 f16 => ?_
    clear f15 a15
    refine L.skip f16 (f16.noF rfl rfl) rfl (by decide) fun a17 f17 => ?_
    clear f16 a16
    refine L.skip f17 (f17.noF rfl rfl) rfl (by decide) fun a18 f18 => ?_
    clear f17 a17
    refine L.skip f18 (f18.noU rfl rfl) rfl (by decide) fun a19 f19 => ?_
    clear f18 a18
    refine L.skip f19 (f19.noU rfl rfl) rfl (by decide) fun a20 f20 => ?_
    clear f19 a19
    refine L.skip f20 (f20.noU rfl rfl) rfl (by decide) fun a21 f21 => ?_
    clear f20 a20
    refine L.skip f21 (f21.noU rfl rfl) rfl (by decide) fun a22 f22 => ?_
    clear f21 a21
    refine L.skip f22 (f22.noU rfl rfl) rfl (by decide) fun a23 f23 => ?_
    clear f22 a22
    refine L.skip f23 (f23.noF rfl rfl) rfl (by decide) fun a24 f24 => ?_
    clear f23 a23
    refine L.val f24 wantedN rfl (by decide) (E.pickT f24 rfl rfl) fun a25 f25 => ?_
    clear f24 a24
    refine L.val f25 wantedN rfl (by decide) (E.assign f25 rfl) fun a26 f26 => ?_
    clear f25 a25
    refine wpList_nil (hK1 _ _ ?_)
    try clear hK1 K1
    have f27 := f26.sub (sub_cons (i := 4) rfl sub_nil)
    clear f26
    refine wp_ret ?_
    try simp only [Exit.inBlock, Exit.then]
    refine C.ret (P := Try.prog) (fn := Try.f47) f27 rfl rfl ?_
    exact ⟨HK, by simp [lt2, *] <;> omega⟩
  · clear f11
    refine L.val f12 (f12.yes rfl rfl) rfl (by decide) (E.fieldAddr f12 Try.underlying32 rfl rfl wsz3_d) fun a13 f13 => ?_
    clear f12 a11
    refine L.val f13 (f13.yes rfl rfl) rfl (by decide) (by first | exact E.load f13 Try.underlying3 rfl rfl ((Bg0).cl rfl) | exact E.load f13 Try.underlying3 rfl rfl ((Bg1).cl rfl)) fun a14 f14 => ?_
    clear f13 a13
    refine L.val f14 (f14.yes rfl rfl) rfl (by decide) (E.fieldAddr f14 Try.underlying32 rfl rfl wsz3_d) fun a15 f15 => ?_
    clear f14 a14
    refine L.val f15 (f15.yes rfl rfl) rfl (by decide) (by first | exact E.load f15 Try.underlying3 rfl rfl ((Bg0).cl rfl) | exact E.load f15 Try.underlying3 rfl rfl ((Bg1).cl rfl)) fun a16 f16 => ?_
    clear f15 a15
    refine L.val f16 (f16.yes rfl rfl) rfl (by decide) (E.eql f16 rfl rfl) fun a17 f17 => ?_
    clear f16 a16
    refine L.val f17 (f17.yes rfl rfl) rfl (by decide) (E.move f17 rfl) fun a18 f18 => ?_
    clear f17 a17
    first | refine f18.splitD 16 rfl (fun h1 f19 => ?_) (fun h1 f19 => ?_) | refine f18.splitN 16 rfl (fun h1 f19 => ?_) (fun h1 f19 => ?_) | refine f18.splitNB 16 rfl (fun h1 f19 => ?_) (fun h1 f19 => ?_) | refine f18.split 16 rfl (fun h1 f19 => ?_) (fun h1 f19 => ?_)
    · clear f18
      refine L.val f19 (f19.yes rfl rfl) rfl (by decide) (E.fieldAddr f19 Try.underlying32 rfl rfl wsz3_d) fun a20 f20 => ?_
      clear f19 a18
      refine L.val f20 (f20.yes rfl rfl) rfl (by decide) (by first | exact E.load f20 Try.underlying3 rfl rfl ((Bg0).cl rfl) | exact E.load f20 Try.underlying3 rfl rfl ((Bg1).cl rfl)) fun a21 f21 => ?_
      clear f20 a20
      refine L.val f21 (f21.yes rfl rfl) rfl (by decide) (E.fieldAddr f21 Try.underlying32 rfl rfl wsz3_d) fun a22 f22 => ?_
      clear f21 a21
      refine L.val f22 (f22.yes rfl rfl) rfl (by decide) (by first | exact E.load f22 Try.underlying3 rfl rfl ((Bg0).cl rfl) | exact E.load f22 Try.underlying3 rfl rfl ((Bg1).cl rfl)) fun a23 f23 => ?_
      clear f22 a22
      refine L.val f23 (f23.yes rfl rfl) rfl (by decide) (E.lss f23 rfl rfl) fun a24 f24 => ?_
      clear f23 a23
      refine L.val f24 (f24.yes rfl rfl) rfl (by decide) (E.pickT f24 rfl rfl) fun a25 f25 => ?_
      clear f24 a24
      refine L.val f25 wantedN rfl (by decide) (E.pickF f25 rfl rfl) fun a26 f26 => ?_
      clear f25 a25
      refine L.val f26 wantedN rfl (by decide) (E.assign f26 rfl) fun a27 f27 => ?_
      clear f26 a26
      refine wpList_nil (hK1 _ _ ?_)
      try clear hK1 K1
      have f28 := f27.sub (sub_cons (i := 4) rfl sub_nil)
      clear f27
      refine wp_ret ?_
      try simp only [Exit.inBlock, Exit.then]
      refine C.ret (P := Try.prog) (fn := Try.f47) f28 rfl rfl ?_
      exact ⟨HK, by simp [lt2, *] <;> omega⟩
    · clear f18
      refine L.skip f19 (f19.noT rfl rfl) rfl (by decide) fun a20 f20 => ?_
      clear f19 a18
      refine L.skip f20 (f20.noT rfl rfl) rfl (by decide) fun a21 f21 => ?_
      clear f20 a20
      refine L.skip f21 (f21.noT rfl rfl) rfl (by decide) fun a22 f22 => ?_
      clear f21 a21
      refine L.skip f22 (f22.noT rfl rfl) rfl (by decide) fun a23 f23 => ?_
      clear f22 a22
      refine L.skip f23 (f23.noT rfl rfl) rfl (by decide) fun a24 f24 => ?_
      clear f23 a23
      refine L.val f24 (f24.yes rfl rfl) rfl (by decide) (E.pickF f24 rfl rfl) fun a25 f25 => ?_
      clear f24 a24
      refine L.val f25 wantedN rfl (by decide) (E.pickF f25 rfl rfl) fun a26 f26 => ?_
      clear f25 a25
      refine L.val f26 wantedN rfl (by decide) (E.assign f26 rfl) fun a27 f27 => ?_
      clear f26 a26
      refine wpList_nil (hK1 _ _ ?_)
      try clear hK1 K1
      have f28 := f27.sub (sub_cons (i := 4) rfl sub_nil)
      clear f27
      refine wp_ret ?_
      try simp only [Exit.inBlock, Exit.then]
      refine C.ret (P := Try.prog) (fn := Try.f47) f28 rfl rfl ?_
      exact ⟨HK, by simp [lt2, *] <;> omega⟩

set_option maxHeartbeats 1000000 in
theorem rightR_any (l : List Dt) (A : Option Addr) (c : Nat) (w : World) (A1 : Ds w A l) (hm : l.length ≤ maxLen) : Calls Try.prog 21 #[.slice A l.length c] w (fun e w' => Kept [] w w' ∧ e = .returned (.bool (rightB l))) := by
  have HK : Kept [] w w := Kept.refl [] w
  unfold maxLen at hm
  refine C.enter Try.func21 rfl Try.ntmps21 rfl ?_
  intro a0 f0
  have f1 : Fr 47 a0 [(0, .slice A l.length c)] := f0
  clear f0
  refine wp_seq_k fun K0 hK0 => ?_
  refine C.region ?_
  refine L.val f1 wantedN rfl (by decide) (E.assign f1 rfl) fun a2 f2 => ?_
  clear f1 a0
  refine wpList_nil (hK0 _ _ ?_)
  try clear hK0 K0
  have f3 := f2.sub (sub_cons (i := 0) rfl (sub_cons (i := 2) rfl sub_nil))
  clear f2
  refine wp_seq_k fun K1 hK1 => ?_
  refine wp_seq_k fun K2 hK2 => ?_
  refine C.region ?_
  refine L.val f3 wantedN rfl (by decide) (E.assign f3 rfl) fun a4 f4 => ?_
  clear f3 a2
  refine wpList_nil (hK2 _ _ ?_)
  try clear hK2 K2
  have f5 := f4.sub (sub_cons (i := 0) rfl (sub_cons (i := 2) rfl (sub_cons (i := 3) rfl sub_nil)))
  clear f4
  refine wp_block ?_
  refine C.loop (fun gk a W => ∃ k : Nat, k + gk = l.length ∧ Kept [] w W ∧ rightFrom none l = rightFrom (prevD l k) (l.drop k) ∧ Fr 47 a [(0, .slice A l.length c), (3, .int .i64 k)]) (l.length) ?_ ?_
  · exact ⟨0, by omega, HK, rfl, f5.sub (sub_cons rfl (sub_cons rfl sub_nil))⟩
  · intro gk4 a6 w1 hI KL3 hKL3
    obtain ⟨k, hk, HK, hr, f6⟩ := hI
    try clear f5
    refine wp_seq_k fun K4 hK4 => ?_
    refine wp_seq_k fun K5 hK5 => ?_
    refine C.region ?_
    refine L.val f6 wantedN rfl (by decide) (E.move f6 rfl) fun a7 f7 => ?_
    clear f6 a6
    refine L.val f7 wantedN rfl (by decide) (E.move f7 rfl) fun a8 f8 => ?_
    clear f7 a7
    refine L.val f8 wantedN rfl (by decide) (E.lenL f8 Try.underlying24 rfl) fun a9 f9 => ?_
    clear f8 a8
    refine L.val f9 wantedN rfl (by decide) (E.lss f9 rfl rfl) fun a10 f10 => ?_
    clear f9 a9
    refine wpList_nil (hK5 _ _ ?_)
    try clear hK5 K5
    have f11 := f10.sub (sub_cons (i := 0) rfl (sub_cons (i := 3) rfl (sub_cons (i := 4) rfl (sub_cons (i := 5) rfl (sub_cons (i := 6) rfl (sub_cons (i := 7) rfl sub_nil))))))
    clear f10
    first | refine f11.splitD 7 rfl (fun h0 f12 => ?_) (fun h0 f12 => ?_) | refine f11.splitN 7 rfl (fun h0 f12 => ?_) (fun h0 f12 => ?_) | refine f11.splitNB 7 rfl (fun h0 f12 => ?_) (fun h0 f12 => ?_) | refine f11.split 7 rfl (fun h0 f12 => ?_) (fun h0 f12 => ?_)
    · clear f11
      obtain ⟨d, hd⟩ : ∃ d, l[k]? = some d := ⟨l[k]'(by omega), List.getElem?_eq_getElem _⟩
      obtain ⟨bk, off, hA⟩ := A1.addr (i := k) (by omega)
      have hst := right_step l k d hd
      refine C.condT f12 rfl ?_
      refine wp_skip (hK4 _ _ ?_)
      try clear hK4 K4
      have f13 := f12.sub (sub_cons (i := 0) rfl (sub_cons (i := 3) rfl (sub_cons (i := 4) rfl (sub_cons (i := 5) rfl (sub_cons (i := 6) rfl (sub_cons (i := 7) rfl sub_nil))))))
      clear f12
      refine wp_seq_k fun K6 hK6 => ?_
      refine wp_block ?_
      refine wp_seq_k fun K7 hK7 => ?_
      refine R.begin (S := fun W => Kept [] w1 W) (by kernel_rfl) (by exact (Kept.refl _ _).drewN 1) ?_
      have hS4 : Kept [] w1 (w1.drewN 1) := (Kept.refl _ _).drewN 1
      obtain ⟨w2, hww2⟩ : ∃ W, W = w1.drewN 1 := ⟨_, rfl⟩
      rw [← hww2] at hS4 ⊢
      clear hww2
      refine R.take 0 f13 rfl rfl (by decide) (by kernel_rfl) (by kernel_rfl) (by kernel_rfl) (fun _ _ _ _ h => h) wantedN hS4 (fun W hW => (E.move f13 rfl)) fun a14 f14 => ?_
      clear f13 a10
      refine R.take 1 f14 rfl rfl (by decide) (by kernel_rfl) (by kernel_rfl) (by kernel_rfl) (fun _ _ _ _ h => h) wantedN hS4 (fun W hW => (E.move f14 rfl)) fun a15 f15 => ?_
      clear f14 a14
      refine R.take 2 f15 rfl rfl (by decide) (by kernel_rfl) (by kernel_rfl) (by kernel_rfl) (fun _ _ _ _ h => h) wantedN hS4 (fun W hW => (E.indexA f15 (by first | rfl | assumption) Try.underlying24 wsz32_d rfl rfl (by omega) (by omega))) fun a16 f16 => ?_
      clear f15 a15
      refine R.take 3 f16 rfl rfl (by decide) (by kernel_rfl) (by kernel_rfl) (by kernel_rfl) (fun _ _ _ _ h => h) wantedN hS4 (fun W hW => (E.fieldAddr f16 Try.underlying32 rfl rfl wsz3_d)) fun a17 f17 => ?_
      clear f16 a16
      refine R.take 4 f17 rfl rfl (by decide) (by kernel_rfl) (by kernel_rfl) (by kernel_rfl) (fun _ _ _ _ h => h) wantedN hS4 (fun W hW => (by first | exact E.load f17 Try.underlying3 rfl rfl ((A1.kept (HK.trans hW (by simp))).row hA hd 0 _ rfl) | exact E.load f17 Try.underlying3 rfl rfl ((A1.kept (HK.trans hW (by simp))).row hA hd 1 _ rfl) | exact E.load f17 Try.underlying3 rfl rfl ((A1.kept (HK.trans hW (by simp))).row hA hd 2 _ rfl))) fun a18 f18 => ?_
      clear f17 a17
      refine R.take 5 f18 rfl rfl (by decide) (by kernel_rfl) (by kernel_rfl) (by kernel_rfl) (fun _ _ _ _ h => h) wantedN hS4 (fun W hW => (E.move f18 rfl)) fun a19 f19 => ?_
      clear f18 a18
      refine R.take 6 f19 rfl rfl (by decide) (by kernel_rfl) (by kernel_rfl) (by kernel_rfl) (fun _ _ _ _ h => h) wantedN hS4 (fun W hW => (E.move f19 rfl)) fun a20 f20 => ?_
      clear f19 a19
      refine R.take 7 f20 rfl rfl (by decide) (by kernel_rfl) (by kernel_rfl) (by kernel_rfl) (fun _ _ _ _ h => h) wantedN hS4 (fun W hW => (E.indexA f20 (by first | rfl | assumption) Try.underlying24 wsz32_d rfl rfl (by omega) (by omega))) fun a21 f21 => ?_
      clear f20 a20
      refine R.take 8 f21 rfl rfl (by decide) (by kernel_rfl) (by kernel_rfl) (by kernel_rfl) (fun _ _ _ _ h => h) wantedN hS4 (fun W hW => (E.fieldAddr f21 Try.underlying32 rfl rfl wsz3_d)) fun a22 f22 => ?_
      clear f21 a21
      refine R.take 9 f22 rfl rfl (by decide) (by kernel_rfl) (by kernel_rfl) (by kernel_rfl) (fun _ _ _ _ h => h) wantedN hS4 (fun W hW => (by first | exact E.load f22 Try.underlying3 rfl rfl ((A1.kept (HK.trans hW (by simp))).row hA hd 0 _ rfl) | exact E.load f22 Try.underlying3 rfl rfl ((A1.kept (HK.trans hW (by simp))).row hA hd 1 _ rfl) | exact E.load f22 Try.underlying3 rfl rfl ((A1.kept (HK.trans hW (by simp))).row hA hd 2 _ rfl))) fun a23 f23 => ?_
      clear f22 a22
      refine R.call 10 f23 rfl rfl (by decide) (by kernel_rfl) wantedN (run_call Try.call46 (args2 f23 rfl rfl)) (pair_any _ _ _) ?_
      rintro e w2x ⟨rfl, rfl⟩
      refine ⟨_, rfl, hS4, fun a24 f24 => ?_⟩
      clear f23 a23
      refine R.take 11 f24 rfl rfl (by decide) (by kernel_rfl) (by kernel_rfl) (by kernel_rfl) (fun _ _ _ _ h => h) wantedN hS4 (fun W hW => (E.not f24 rfl)) fun a25 f25 => ?_
      clear f24 a24
      refine R.take 12 f25 rfl rfl (by decide) (by kernel_rfl) (by kernel_rfl) (by kernel_rfl) (fun _ _ _ _ h => h) wantedN hS4 (fun W hW => (E.move f25 rfl)) fun a26 f26 => ?_
      clear f25 a25
      first | refine f26.splitD 22 rfl (fun h1 f27 => ?_) (fun h1 f27 => ?_) | refine f26.splitN 22 rfl (fun h1 f27 => ?_) (fun h1 f27 => ?_) | refine f26.splitNB 22 rfl (fun h1 f27 => ?_) (fun h1 f27 => ?_) | refine f26.split 22 rfl (fun h1 f27 => ?_) (fun h1 f27 => ?_)
      · clear f26
        refine R.takeSkip 13 f27 rfl rfl (by decide) (by kernel_rfl) (by kernel_rfl) (by kernel_rfl) (fun _ _ _ _ h => h) (f27.noF rfl rfl) hS4 fun a28 f28 => ?_
        clear f27 a26
        refine R.takeSkip 14 f28 rfl rfl (by decide) (by kernel_rfl) (by kernel_rfl) (by kernel_rfl) (fun _ _ _ _ h => h) (f28.noF rfl rfl) hS4 fun a29 f29 => ?_
        clear f28 a28
        refine R.takeSkip 15 f29 rfl rfl (by decide) (by kernel_rfl) (by kernel_rfl) (by kernel_rfl) (fun _ _ _ _ h => h) (f29.noF rfl rfl) hS4 fun a30 f30 => ?_
        clear f29 a29
        refine R.takeSkip 16 f30 rfl rfl (by decide) (by kernel_rfl) (by kernel_rfl) (by kernel_rfl) (fun _ _ _ _ h => h) (f30.noF rfl rfl) hS4 fun a31 f31 => ?_
        clear f30 a30
        refine R.takeSkip 17 f31 rfl rfl (by decide) (by kernel_rfl) (by kernel_rfl) (by kernel_rfl) (fun _ _ _ _ h => h) (f31.noF rfl rfl) hS4 fun a32 f32 => ?_
        clear f31 a31
        refine R.takeSkip 18 f32 rfl rfl (by decide) (by kernel_rfl) (by kernel_rfl) (by kernel_rfl) (fun _ _ _ _ h => h) (f32.noF rfl rfl) hS4 fun a33 f33 => ?_
        clear f32 a32
        refine R.take 19 f33 rfl rfl (by decide) (by kernel_rfl) (by kernel_rfl) (by kernel_rfl) (fun _ _ _ _ h => h) wantedN hS4 (fun W hW => (E.pickT f33 rfl rfl)) fun a34 f34 => ?_
        clear f33 a33
        refine R.take 20 f34 rfl rfl (by decide) (by kernel_rfl) (by kernel_rfl) (by kernel_rfl) (fun _ _ _ _ h => h) wantedN hS4 (fun W hW => (E.move f34 rfl)) fun a35 f35 => ?_
        clear f34 a34
        refine R.takeSkip 21 f35 rfl rfl (by decide) (by kernel_rfl) (by kernel_rfl) (by kernel_rfl) (fun _ _ _ _ h => h) (f35.noF rfl rfl) hS4 fun a36 f36 => ?_
        clear f35 a35
        refine R.takeSkip 22 f36 rfl rfl (by decide) (by kernel_rfl) (by kernel_rfl) (by kernel_rfl) (fun _ _ _ _ h => h) (f36.noF rfl rfl) hS4 fun a37 f37 => ?_
        clear f36 a36
        refine R.takeSkip 23 f37 rfl rfl (by decide) (by kernel_rfl) (by kernel_rfl) (by kernel_rfl) (fun _ _ _ _ h => h) (f37.noF rfl rfl) hS4 fun a38 f38 => ?_
        clear f37 a37
        refine R.takeSkip 24 f38 rfl rfl (by decide) (by kernel_rfl) (by kernel_rfl) (by kernel_rfl) (fun _ _ _ _ h => h) (f38.noU rfl rfl) hS4 fun a39 f39 => ?_
        clear f38 a38
        refine R.takeSkip 25 f39 rfl rfl (by decide) (by kernel_rfl) (by kernel_rfl) (by kernel_rfl) (fun _ _ _ _ h => h) (f39.noU rfl rfl) hS4 fun a40 f40 => ?_
        clear f39 a39
        refine R.takeSkip 26 f40 rfl rfl (by decide) (by kernel_rfl) (by kernel_rfl) (by kernel_rfl) (fun _ _ _ _ h => h) (f40.noU rfl rfl) hS4 fun a41 f41 => ?_
        clear f40 a40
        refine R.takeSkip 27 f41 rfl rfl (by decide) (by kernel_rfl) (by kernel_rfl) (by kernel_rfl) (fun _ _ _ _ h => h) (f41.noU rfl rfl) hS4 fun a42 f42 => ?_
        clear f41 a41
        refine R.takeSkip 28 f42 rfl rfl (by decide) (by kernel_rfl) (by kernel_rfl) (by kernel_rfl) (fun _ _ _ _ h => h) (f42.noU rfl rfl) hS4 fun a43 f43 => ?_
        clear f42 a42
        refine R.takeSkip 29 f43 rfl rfl (by decide) (by kernel_rfl) (by kernel_rfl) (by kernel_rfl) (fun _ _ _ _ h => h) (f43.noU rfl rfl) hS4 fun a44 f44 => ?_
        clear f43 a43
        refine R.takeSkip 30 f44 rfl rfl (by decide) (by kernel_rfl) (by kernel_rfl) (by kernel_rfl) (fun _ _ _ _ h => h) (f44.noU rfl rfl) hS4 fun a45 f45 => ?_
        clear f44 a44
        refine R.takeSkip 31 f45 rfl rfl (by decide) (by kernel_rfl) (by kernel_rfl) (by kernel_rfl) (fun _ _ _ _ h => h) (f45.noU rfl rfl) hS4 fun a46 f46 => ?_
        clear f45 a45
        refine R.takeSkip 32 f46 rfl rfl (by decide) (by kernel_rfl) (by kernel_rfl) (by kernel_rfl) (fun _ _ _ _ h => h) (f46.noU rfl rfl) hS4 fun a47 f47 => ?_
        clear f46 a46
        refine R.takeSkip 33 f47 rfl rfl (by decide) (by kernel_rfl) (by kernel_rfl) (by kernel_rfl) (fun _ _ _ _ h => h) (f47.noU rfl rfl) hS4 fun a48 f48 => ?_
        clear f47 a47
        refine R.takeSkip 34 f48 rfl rfl (by decide) (by kernel_rfl) (by kernel_rfl) (by kernel_rfl) (fun _ _ _ _ h => h) (f48.noU rfl rfl) hS4 fun a49 f49 => ?_
        clear f48 a48
        refine R.takeSkip 35 f49 rfl rfl (by decide) (by kernel_rfl) (by kernel_rfl) (by kernel_rfl) (fun _ _ _ _ h => h) (f49.noF rfl rfl) hS4 fun a50 f50 => ?_
        clear f49 a49
        refine R.take 36 f50 rfl rfl (by decide) (by kernel_rfl) (by kernel_rfl) (by kernel_rfl) (fun _ _ _ _ h => h) wantedN hS4 (fun W hW => (E.pickT f50 rfl rfl)) fun a51 f51 => ?_
        clear f50 a50
        have szw2r := hS4.size
        replace HK := HK.trans hS4 (by simp)
        clear hS4
        refine R.done (by kernel_rfl) (hK7 _ _ ?_)
        try clear hK7 K7
        have f52 := f51.sub (sub_cons (i := 0) rfl (sub_cons (i := 3) rfl (sub_cons (i := 4) rfl (sub_cons (i := 5) rfl (sub_cons (i := 6) rfl (sub_cons (i := 7) rfl (sub_cons (i := 10) rfl (sub_cons (i := 11) rfl (sub_cons (i := 12) rfl (sub_cons (i := 13) rfl (sub_cons (i := 14) rfl (sub_cons (i := 15) rfl (sub_cons (i := 16) rfl (sub_cons (i := 17) rfl (sub_cons (i := 18) rfl (sub_cons (i := 19) rfl (sub_cons (i := 20) rfl (sub_cons (i := 21) rfl (sub_cons (i := 22) rfl (sub_cons (i := 23) rfl (sub_cons (i := 24) rfl (sub_cons (i := 25) rfl (sub_cons (i := 26) rfl (sub_cons (i := 27) rfl (sub_cons (i := 28) rfl (sub_cons (i := 29) rfl (sub_cons (i := 30) rfl (sub_cons (i := 31) rfl (sub_cons (i := 32) rfl (sub_cons (i := 33) rfl (sub_cons (i := 34) rfl (sub_cons (i := 35) rfl (sub_cons (i := 36) rfl (sub_cons (i := 37) rfl (sub_cons (i := 38) rfl (sub_cons (i := 39) rfl (sub_cons (i := 40) rfl (sub_cons (i := 41) rfl (sub_cons (i := 42) rfl (sub_cons (i := 43) rfl (sub_cons (i := 44) rfl (sub_cons (i := 45) rfl (sub_cons (i := 46) rfl sub_nil)))))))))))))))))))))))))))))))))))))))))))
        clear f51
        refine C.condT f52 rfl ?_
        refine wp_seq_k fun K8 hK8 => ?_
        refine C.region ?_
        refine L.val f52 wantedN rfl (by decide) (E.assign f52 rfl) fun a53 f53 => ?_
        clear f52 a51
        refine wpList_nil (hK8 _ _ ?_)
        try clear hK8 K8
        have f54 := f53.sub (sub_cons (i := 0) rfl (sub_cons (i := 2) rfl (sub_cons (i := 3) rfl (sub_cons (i := 4) rfl (sub_cons (i := 5) rfl (sub_cons (i := 6) rfl (sub_cons (i := 7) rfl (sub_cons (i := 10) rfl (sub_cons (i := 11) rfl (sub_cons (i := 12) rfl (sub_cons (i := 13) rfl (sub_cons (i := 14) rfl (sub_cons (i := 15) rfl (sub_cons (i := 16) rfl (sub_cons (i := 17) rfl (sub_cons (i := 18) rfl (sub_cons (i := 19) rfl (sub_cons (i := 20) rfl (sub_cons (i := 21) rfl (sub_cons (i := 22) rfl (sub_cons (i := 23) rfl (sub_cons (i := 24) rfl (sub_cons (i := 25) rfl (sub_cons (i := 26) rfl (sub_cons (i := 27) rfl (sub_cons (i := 28) rfl (sub_cons (i := 29) rfl (sub_cons (i := 30) rfl (sub_cons (i := 31) rfl (sub_cons (i := 32) rfl (sub_cons (i := 33) rfl (sub_cons (i := 34) rfl (sub_cons (i := 35) rfl (sub_cons (i := 36) rfl (sub_cons (i := 37) rfl (sub_cons (i := 38) rfl (sub_cons (i := 39) rfl (sub_cons (i := 40) rfl (sub_cons (i := 41) rfl (sub_cons (i := 42) rfl (sub_cons (i := 43) rfl (sub_cons (i := 44) rfl (sub_cons (i := 45) rfl (sub_cons (i := 46) rfl sub_nil))))))))))))))))))))))))))))))))))))))))))))
        clear f53
        refine wp_ret ?_
        try simp only [Exit.inBlock, Exit.then]
        refine C.ret (P := Try.prog) (fn := Try.f21) f54 rfl rfl ?_
        exact ⟨HK, by unfold rightB; rw [hr, hst, mayB_pair]; simp [*] <;> (intros; omega)⟩
      · clear f26
        refine R.take 13 f27 rfl rfl (by decide) (by kernel_rfl) (by kernel_rfl) (by kernel_rfl) (fun _ _ _ _ h => h) (f27.yes rfl rfl) hS4 (fun W hW => (E.move f27 rfl)) fun a28 f28 => ?_
        clear f27 a26
        refine R.take 14 f28 rfl rfl (by decide) (by kernel_rfl) (by kernel_rfl) (by kernel_rfl) (fun _ _ _ _ h => h) (f28.yes rfl rfl) hS4 (fun W hW => (E.move f28 rfl)) fun a29 f29 => ?_
        clear f28 a28
        refine R.take 15 f29 rfl rfl (by decide) (by kernel_rfl) (by kernel_rfl) (by kernel_rfl) (fun _ _ _ _ h => h) (f29.yes rfl rfl) hS4 (fun W hW => (E.indexA f29 (by first | rfl | assumption) Try.underlying24 wsz32_d rfl rfl (by omega) (by omega))) fun a30 f30 => ?_
        clear f29 a29
        refine R.take 16 f30 rfl rfl (by decide) (by kernel_rfl) (by kernel_rfl) (by kernel_rfl) (fun _ _ _ _ h => h) (f30.yes rfl rfl) hS4 (fun W hW => (E.fieldAddr f30 Try.underlying32 rfl rfl wsz3_d)) fun a31 f31 => ?_
        clear f30 a30
        refine R.take 17 f31 rfl rfl (by decide) (by kernel_rfl) (by kernel_rfl) (by kernel_rfl) (fun _ _ _ _ h => h) (f31.yes rfl rfl) hS4 (fun W hW => (by first | exact E.load f31 Try.underlying3 rfl rfl ((A1.kept (HK.trans hW (by simp))).row hA hd 0 _ rfl) | exact E.load f31 Try.underlying3 rfl rfl ((A1.kept (HK.trans hW (by simp))).row hA hd 1 _ rfl) | exact E.load f31 Try.underlying3 rfl rfl ((A1.kept (HK.trans hW (by simp))).row hA hd 2 _ rfl))) fun a32 f32 => ?_
        clear f31 a31
        refine R.take 18 f32 rfl rfl (by decide) (by kernel_rfl) (by kernel_rfl) (by kernel_rfl) (fun _ _ _ _ h => h) (f32.yes rfl rfl) hS4 (fun W hW => (E.lss f32 rfl rfl)) fun a33 f33 => ?_
        clear f32 a32
        refine R.take 19 f33 rfl rfl (by decide) (by kernel_rfl) (by kernel_rfl) (by kernel_rfl) (fun _ _ _ _ h => h) wantedN hS4 (fun W hW => (E.pickF f33 rfl rfl)) fun a34 f34 => ?_
        clear f33 a33
        refine R.take 20 f34 rfl rfl (by decide) (by kernel_rfl) (by kernel_rfl) (by kernel_rfl) (fun _ _ _ _ h => h) wantedN hS4 (fun W hW => (E.move f34 rfl)) fun a35 f35 => ?_
        clear f34 a34
        first | refine f35.splitD 30 rfl (fun h2 f36 => ?_) (fun h2 f36 => ?_) | refine f35.splitN 30 rfl (fun h2 f36 => ?_) (fun h2 f36 => ?_) | refine f35.splitNB 30 rfl (fun h2 f36 => ?_) (fun h2 f36 => ?_) | refine f35.split 30 rfl (fun h2 f36 => ?_) (fun h2 f36 => ?_)
        · clear f35
          refine R.takeSkip 21 f36 rfl rfl (by decide) (by kernel_rfl) (by kernel_rfl) (by kernel_rfl) (fun _ _ _ _ h => h) (f36.noF rfl rfl) hS4 fun a37 f37 => ?_
          clear f36 a35
          refine R.takeSkip 22 f37 rfl rfl (by decide) (by kernel_rfl) (by kernel_rfl) (by kernel_rfl) (fun _ _ _ _ h => h) (f37.noF rfl rfl) hS4 fun a38 f38 => ?_
          clear f37 a37
          refine R.takeSkip 23 f38 rfl rfl (by decide) (by kernel_rfl) (by kernel_rfl) (by kernel_rfl) (fun _ _ _ _ h => h) (f38.noF rfl rfl) hS4 fun a39 f39 => ?_
          clear f38 a38
          refine R.takeSkip 24 f39 rfl rfl (by decide) (by kernel_rfl) (by kernel_rfl) (by kernel_rfl) (fun _ _ _ _ h => h) (f39.noU rfl rfl) hS4 fun a40 f40 => ?_
          clear f39 a39
          refine R.takeSkip 25 f40 rfl rfl (by decide) (by kernel_rfl) (by kernel_rfl) (by kernel_rfl) (fun _ _ _ _ h => h) (f40.noU rfl rfl) hS4 fun a41 f41 => ?_
          clear f40 a40
          refine R.takeSkip 26 f41 rfl rfl (by decide) (by kernel_rfl) (by kernel_rfl) (by kernel_rfl) (fun _ _ _ _ h => h) (f41.noU rfl rfl) hS4 fun a42 f42 => ?_
          clear f41 a41
          refine R.takeSkip 27 f42 rfl rfl (by decide) (by kernel_rfl) (by kernel_rfl) (by kernel_rfl) (fun _ _ _ _ h => h) (f42.noU rfl rfl) hS4 fun a43 f43 => ?_
          clear f42 a42
          refine R.takeSkip 28 f43 rfl rfl (by decide) (by kernel_rfl) (by kernel_rfl) (by kernel_rfl) (fun _ _ _ _ h => h) (f43.noU rfl rfl) hS4 fun a44 f44 => ?_
          clear f43 a43
          refine R.takeSkip 29 f44 rfl rfl (by decide) (by kernel_rfl) (by kernel_rfl) (by kernel_rfl) (fun _ _ _ _ h => h) (f44.noU rfl rfl) hS4 fun a45 f45 => ?_
          clear f44 a44
          refine R.takeSkip 30 f45 rfl rfl (by decide) (by kernel_rfl) (by kernel_rfl) (by kernel_rfl) (fun _ _ _ _ h => h) (f45.noU rfl rfl) hS4 fun a46 f46 => ?_
          clear f45 a45
          refine R.takeSkip 31 f46 rfl rfl (by decide) (by kernel_rfl) (by kernel_rfl) (by kernel_rfl) (fun _ _ _ _ h => h) (f46.noU rfl rfl) hS4 fun a47 f47 => ?_
          clear f46 a46
          refine R.takeSkip 32 f47 rfl rfl (by decide) (by kernel_rfl) (by kernel_rfl) (by kernel_rfl) (fun _ _ _ _ h => h) (f47.noU rfl rfl) hS4 fun a48 f48 => ?_
          clear f47 a47
          refine R.takeSkip 33 f48 rfl rfl (by decide) (by kernel_rfl) (by kernel_rfl) (by kernel_rfl) (fun _ _ _ _ h => h) (f48.noU rfl rfl) hS4 fun a49 f49 => ?_
          clear f48 a48
          refine R.takeSkip 34 f49 rfl rfl (by decide) (by kernel_rfl) (by kernel_rfl) (by kernel_rfl) (fun _ _ _ _ h => h) (f49.noU rfl rfl) hS4 fun a50 f50 => ?_
          clear f49 a49
          refine R.takeSkip 35 f50 rfl rfl (by decide) (by kernel_rfl) (by kernel_rfl) (by kernel_rfl) (fun _ _ _ _ h => h) (f50.noF rfl rfl) hS4 fun a51 f51 => ?_
          clear f50 a50
          refine R.take 36 f51 rfl rfl (by decide) (by kernel_rfl) (by kernel_rfl) (by kernel_rfl) (fun _ _ _ _ h => h) wantedN hS4 (fun W hW => (E.pickT f51 rfl rfl)) fun a52 f52 => ?_
          clear f51 a51
          have szw2r := hS4.size
          replace HK := HK.trans hS4 (by simp)
          clear hS4
          refine R.done (by kernel_rfl) (hK7 _ _ ?_)
          try clear hK7 K7
          have f53 := f52.sub (sub_cons (i := 0) rfl (sub_cons (i := 3) rfl (sub_cons (i := 4) rfl (sub_cons (i := 5) rfl (sub_cons (i := 6) rfl (sub_cons (i := 7) rfl (sub_cons (i := 10) rfl (sub_cons (i := 11) rfl (sub_cons (i := 12) rfl (sub_cons (i := 13) rfl (sub_cons (i := 14) rfl (sub_cons (i := 15) rfl (sub_cons (i := 16) rfl (sub_cons (i := 17) rfl (sub_cons (i := 18) rfl (sub_cons (i := 19) rfl (sub_cons (i := 20) rfl (sub_cons (i := 21) rfl (sub_cons (i := 22) rfl (sub_cons (i := 23) rfl (sub_cons (i := 24) rfl (sub_cons (i := 25) rfl (sub_cons (i := 26) rfl (sub_cons (i := 27) rfl (sub_cons (i := 28) rfl (sub_cons (i := 29) rfl (sub_cons (i := 30) rfl (sub_cons (i := 31) rfl (sub_cons (i := 32) rfl (sub_cons (i := 33) rfl (sub_cons (i := 34) rfl (sub_cons (i := 35) rfl (sub_cons (i := 36) rfl (sub_cons (i := 37) rfl (sub_cons (i := 38) rfl (sub_cons (i := 39) rfl (sub_cons (i := 40) rfl (sub_cons (i := 41) rfl (sub_cons (i := 42) rfl (sub_cons (i := 43) rfl (sub_cons (i := 44) rfl (sub_cons (i := 45) rfl (sub_cons (i := 46) rfl sub_nil)))))))))))))))))))))))))))))))))))))))))))
          clear f52
          refine C.condT f53 rfl ?_
          refine wp_seq_k fun K9 hK9 => ?_
          refine C.region ?_
          refine L.val f53 wantedN rfl (by decide) (E.assign f53 rfl) fun a54 f54 => ?_
          clear f53 a52
          refine wpList_nil (hK9 _ _ ?_)
          try clear hK9 K9
          have f55 := f54.sub (sub_cons (i := 0) rfl (sub_cons (i := 2) rfl (sub_cons (i := 3) rfl (sub_cons (i := 4) rfl (sub_cons (i := 5) rfl (sub_cons (i := 6) rfl (sub_cons (i := 7) rfl (sub_cons (i := 10) rfl (sub_cons (i := 11) rfl (sub_cons (i := 12) rfl (sub_cons (i := 13) rfl (sub_cons (i := 14) rfl (sub_cons (i := 15) rfl (sub_cons (i := 16) rfl (sub_cons (i := 17) rfl (sub_cons (i := 18) rfl (sub_cons (i := 19) rfl (sub_cons (i := 20) rfl (sub_cons (i := 21) rfl (sub_cons (i := 22) rfl (sub_cons (i := 23) rfl (sub_cons (i := 24) rfl (sub_cons (i := 25) rfl (sub_cons (i := 26) rfl (sub_cons (i := 27) rfl (sub_cons (i := 28) rfl (sub_cons (i := 29) rfl (sub_cons (i := 30) rfl (sub_cons (i := 31) rfl (sub_cons (i := 32) rfl (sub_cons (i := 33) rfl (sub_cons (i := 34) rfl (sub_cons (i := 35) rfl (sub_cons (i := 36) rfl (sub_cons (i := 37) rfl (sub_cons (i := 38) rfl (sub_cons (i := 39) rfl (sub_cons (i := 40) rfl (sub_cons (i := 41) rfl (sub_cons (i := 42) rfl (sub_cons (i := 43) rfl (sub_cons (i := 44) rfl (sub_cons (i := 45) rfl (sub_cons (i := 46) rfl sub_nil))))))))))))))))))))))))))))))))))))))))))))
          clear f54
          refine wp_ret ?_
          try simp only [Exit.inBlock, Exit.then]
          refine C.ret (P := Try.prog) (fn := Try.f21) f55 rfl rfl ?_
          exact ⟨HK, by unfold rightB; rw [hr, hst, mayB_pair]; simp [*] <;> (intros; omega)⟩
        · clear f35
          refine R.take 21 f36 rfl rfl (by decide) (by kernel_rfl) (by kernel_rfl) (by kernel_rfl) (fun _ _ _ _ h => h) (f36.yes rfl rfl) hS4 (fun W hW => (E.move f36 rfl)) fun a37 f37 => ?_
          clear f36 a35
          refine R.take 22 f37 rfl rfl (by decide) (by kernel_rfl) (by kernel_rfl) (by kernel_rfl) (fun _ _ _ _ h => h) (f37.yes rfl rfl) hS4 (fun W hW => (E.gtr f37 rfl rfl)) fun a38 f38 => ?_
          clear f37 a37
          refine R.take 23 f38 rfl rfl (by decide) (by kernel_rfl) (by kernel_rfl) (by kernel_rfl) (fun _ _ _ _ h => h) (f38.yes rfl rfl) hS4 (fun W hW => (E.move f38 rfl)) fun a39 f39 => ?_
          clear f38 a38
          first | refine f39.splitD 33 rfl (fun h3 f40 => ?_) (fun h3 f40 => ?_) | refine f39.splitN 33 rfl (fun h3 f40 => ?_) (fun h3 f40 => ?_) | refine f39.splitNB 33 rfl (fun h3 f40 => ?_) (fun h3 f40 => ?_) | refine f39.split 33 rfl (fun h3 f40 => ?_) (fun h3 f40 => ?_)
          · clear f39
            obtain ⟨q, hq⟩ : ∃ q, l[Int.toNat ((k : Int) - 1)]? = some q := ⟨l[Int.toNat ((k : Int) - 1)]'(by omega), List.getElem?_eq_getElem _⟩
            rw [prev_some2 d (by omega) hq] at hst
            refine R.take 24 f40 rfl rfl (by decide) (by kernel_rfl) (by kernel_rfl) (by kernel_rfl) (fun _ _ _ _ h => h) (f40.yes rfl rfl) hS4 (fun W hW => (E.move f40 rfl)) fun a41 f41 => ?_
            clear f40 a39
            refine R.take 25 f41 rfl rfl (by decide) (by kernel_rfl) (by kernel_rfl) (by kernel_rfl) (fun _ _ _ _ h => h) (f41.yes rfl rfl) hS4 (fun W hW => (E.move f41 rfl)) fun a42 f42 => ?_
            clear f41 a41
            refine R.take 26 f42 rfl rfl (by decide) (by kernel_rfl) (by kernel_rfl) (by kernel_rfl) (fun _ _ _ _ h => h) (f42.yes rfl rfl) hS4 (fun W hW => (E.sub f42 rfl rfl (IntWalk.i64_in _ (by omega)))) fun a43 f43 => ?_
            clear f42 a42
            refine R.take 27 f43 rfl rfl (by decide) (by kernel_rfl) (by kernel_rfl) (by kernel_rfl) (fun _ _ _ _ h => h) (f43.yes rfl rfl) hS4 (fun W hW => (E.indexA f43 (by first | rfl | assumption) Try.underlying24 wsz32_d rfl rfl (by omega) (by omega))) fun a44 f44 => ?_
            clear f43 a43
            refine R.take 28 f44 rfl rfl (by decide) (by kernel_rfl) (by kernel_rfl) (by kernel_rfl) (fun _ _ _ _ h => h) (f44.yes rfl rfl) hS4 (fun W hW => (by first | exact E.loadR f44 Try.underlying32 rfl wsz32_d rfl ((A1.kept (HK.trans hW (by simp))).row hA hd) rfl | exact E.loadR f44 Try.underlying32 rfl wsz32_d rfl ((A1.kept (HK.trans hW (by simp))).row hA hq) rfl)) fun a45 f45 => ?_
            clear f44 a44
            refine R.take 29 f45 rfl rfl (by decide) (by kernel_rfl) (by kernel_rfl) (by kernel_rfl) (fun _ _ _ _ h => h) (f45.yes rfl rfl) hS4 (fun W hW => (E.move f45 rfl)) fun a46 f46 => ?_
            clear f45 a45
            refine R.take 30 f46 rfl rfl (by decide) (by kernel_rfl) (by kernel_rfl) (by kernel_rfl) (fun _ _ _ _ h => h) (f46.yes rfl rfl) hS4 (fun W hW => (E.move f46 rfl)) fun a47 f47 => ?_
            clear f46 a46
            refine R.take 31 f47 rfl rfl (by decide) (by kernel_rfl) (by kernel_rfl) (by kernel_rfl) (fun _ _ _ _ h => h) (f47.yes rfl rfl) hS4 (fun W hW => (E.indexA f47 (by first | rfl | assumption) Try.underlying24 wsz32_d rfl rfl (by omega) (by omega))) fun a48 f48 => ?_
            clear f47 a47
            refine R.take 32 f48 rfl rfl (by decide) (by kernel_rfl) (by kernel_rfl) (by kernel_rfl) (fun _ _ _ _ h => h) (f48.yes rfl rfl) hS4 (fun W hW => (by first | exact E.loadR f48 Try.underlying32 rfl wsz32_d rfl ((A1.kept (HK.trans hW (by simp))).row hA hd) rfl | exact E.loadR f48 Try.underlying32 rfl wsz32_d rfl ((A1.kept (HK.trans hW (by simp))).row hA hq) rfl)) fun a49 f49 => ?_
            clear f48 a48
            refine R.call 33 f49 rfl rfl (by decide) (by kernel_rfl) (f49.yes rfl rfl) (run_call Try.call47 (args2 f49 rfl rfl)) (ahead_any _ _ _) ?_
            rintro e w3 ⟨kc3, rfl⟩
            replace hS4 := hS4.trans kc3 (by simp)
            refine ⟨_, rfl, hS4, fun a50 f50 => ?_⟩
            clear f49 a49
            have szw3 := kc3.size
            clear kc3
            refine R.take 34 f50 rfl rfl (by decide) (by kernel_rfl) (by kernel_rfl) (by kernel_rfl) (fun _ _ _ _ h => h) (f50.yes rfl rfl) hS4 (fun W hW => (E.not f50 rfl)) fun a51 f51 => ?_
            clear f50 a50
            refine R.take 35 f51 rfl rfl (by decide) (by kernel_rfl) (by kernel_rfl) (by kernel_rfl) (fun _ _ _ _ h => h) (f51.yes rfl rfl) hS4 (fun W hW => (E.pickT f51 rfl rfl)) fun a52 f52 => ?_
            clear f51 a51
            refine R.take 36 f52 rfl rfl (by decide) (by kernel_rfl) (by kernel_rfl) (by kernel_rfl) (fun _ _ _ _ h => h) wantedN hS4 (fun W hW => (E.pickF f52 rfl rfl)) fun a53 f53 => ?_
            clear f52 a52
            have szw3r := hS4.size
            replace HK := HK.trans hS4 (by simp)
            clear hS4
            refine R.done (by kernel_rfl) (hK7 _ _ ?_)
            try clear hK7 K7
            have f54 := f53.sub (sub_cons (i := 0) rfl (sub_cons (i := 3) rfl (sub_cons (i := 4) rfl (sub_cons (i := 5) rfl (sub_cons (i := 6) rfl (sub_cons (i := 7) rfl (sub_cons (i := 10) rfl (sub_cons (i := 11) rfl (sub_cons (i := 12) rfl (sub_cons (i := 13) rfl (sub_cons (i := 14) rfl (sub_cons (i := 15) rfl (sub_cons (i := 16) rfl (sub_cons (i := 17) rfl (sub_cons (i := 18) rfl (sub_cons (i := 19) rfl (sub_cons (i := 20) rfl (sub_cons (i := 21) rfl (sub_cons (i := 22) rfl (sub_cons (i := 23) rfl (sub_cons (i := 24) rfl (sub_cons (i := 25) rfl (sub_cons (i := 26) rfl (sub_cons (i := 27) rfl (sub_cons (i := 28) rfl (sub_cons (i := 29) rfl (sub_cons (i := 30) rfl (sub_cons (i := 31) rfl (sub_cons (i := 32) rfl (sub_cons (i := 33) rfl (sub_cons (i := 34) rfl (sub_cons (i := 35) rfl (sub_cons (i := 36) rfl (sub_cons (i := 37) rfl (sub_cons (i := 38) rfl (sub_cons (i := 39) rfl (sub_cons (i := 40) rfl (sub_cons (i := 41) rfl (sub_cons (i := 42) rfl (sub_cons (i := 43) rfl (sub_cons (i := 44) rfl (sub_cons (i := 45) rfl (sub_cons (i := 46) rfl sub_nil)))))))))))))))))))))))))))))))))))))))))))
            clear f53
            first | refine f54.splitD 46 rfl (fun h4 f55 => ?_) (fun h4 f55 => ?_) | refine f54.splitN 46 rfl (fun h4 f55 => ?_) (fun h4 f55 => ?_) | refine f54.splitNB 46 rfl (fun h4 f55 => ?_) (fun h4 f55 => ?_) | refine f54.split 46 rfl (fun h4 f55 => ?_) (fun h4 f55 => ?_)
            · clear f54
              refine C.condT f55 rfl ?_
              refine wp_seq_k fun K10 hK10 => ?_
              refine C.region ?_
              refine L.val f55 wantedN rfl (by decide) (E.assign f55 rfl) fun a56 f56 => ?_
              clear f55 a53
              refine wpList_nil (hK10 _ _ ?_)
              try clear hK10 K10
              have f57 := f56.sub (sub_cons (i := 0) rfl (sub_cons (i := 2) rfl (sub_cons (i := 3) rfl (sub_cons (i := 4) rfl (sub_cons (i := 5) rfl (sub_cons (i := 6) rfl (sub_cons (i := 7) rfl (sub_cons (i := 10) rfl (sub_cons (i := 11) rfl (sub_cons (i := 12) rfl (sub_cons (i := 13) rfl (sub_cons (i := 14) rfl (sub_cons (i := 15) rfl (sub_cons (i := 16) rfl (sub_cons (i := 17) rfl (sub_cons (i := 18) rfl (sub_cons (i := 19) rfl (sub_cons (i := 20) rfl (sub_cons (i := 21) rfl (sub_cons (i := 22) rfl (sub_cons (i := 23) rfl (sub_cons (i := 24) rfl (sub_cons (i := 25) rfl (sub_cons (i := 26) rfl (sub_cons (i := 27) rfl (sub_cons (i := 28) rfl (sub_cons (i := 29) rfl (sub_cons (i := 30) rfl (sub_cons (i := 31) rfl (sub_cons (i := 32) rfl (sub_cons (i := 33) rfl (sub_cons (i := 34) rfl (sub_cons (i := 35) rfl (sub_cons (i := 36) rfl (sub_cons (i := 37) rfl (sub_cons (i := 38) rfl (sub_cons (i := 39) rfl (sub_cons (i := 40) rfl (sub_cons (i := 41) rfl (sub_cons (i := 42) rfl (sub_cons (i := 43) rfl (sub_cons (i := 44) rfl (sub_cons (i := 45) rfl (sub_cons (i := 46) rfl sub_nil))))))))))))))))))))))))))))))))))))))))))))
              clear f56
              refine wp_ret ?_
              try simp only [Exit.inBlock, Exit.then]
              refine C.ret (P := Try.prog) (fn := Try.f21) f57 rfl rfl ?_
              exact ⟨HK, by unfold rightB; rw [hr, hst, mayB_pair]; simp [*] <;> (intros; omega)⟩
            · clear f54
              refine C.condF f55 rfl ?_
              refine wp_skip (hK6 _ _ ?_)
              try clear hK6 K6
              have f56 := f55.sub (sub_cons (i := 0) rfl (sub_cons (i := 3) rfl (sub_cons (i := 4) rfl (sub_cons (i := 5) rfl (sub_cons (i := 6) rfl (sub_cons (i := 7) rfl (sub_cons (i := 10) rfl (sub_cons (i := 11) rfl (sub_cons (i := 12) rfl (sub_cons (i := 13) rfl (sub_cons (i := 14) rfl (sub_cons (i := 15) rfl (sub_cons (i := 16) rfl (sub_cons (i := 17) rfl (sub_cons (i := 18) rfl (sub_cons (i := 19) rfl (sub_cons (i := 20) rfl (sub_cons (i := 21) rfl (sub_cons (i := 22) rfl (sub_cons (i := 23) rfl (sub_cons (i := 24) rfl (sub_cons (i := 25) rfl (sub_cons (i := 26) rfl (sub_cons (i := 27) rfl (sub_cons (i := 28) rfl (sub_cons (i := 29) rfl (sub_cons (i := 30) rfl (sub_cons (i := 31) rfl (sub_cons (i := 32) rfl (sub_cons (i := 33) rfl (sub_cons (i := 34) rfl (sub_cons (i := 35) rfl (sub_cons (i := 36) rfl (sub_cons (i := 37) rfl (sub_cons (i := 38) rfl (sub_cons (i := 39) rfl (sub_cons (i := 40) rfl (sub_cons (i := 41) rfl (sub_cons (i := 42) rfl (sub_cons (i := 43) rfl (sub_cons (i := 44) rfl (sub_cons (i := 45) rfl (sub_cons (i := 46) rfl sub_nil)))))))))))))))))))))))))))))))))))))))))))
              clear f55
              refine C.region ?_
              refine L.val f56 wantedN rfl (by decide) (E.move f56 rfl) fun a57 f57 => ?_
              clear f56 a53
              refine L.val f57 wantedN rfl (by decide) (E.add f57 rfl rfl (IntWalk.i64_in _ (by omega))) fun a58 f58 => ?_
              clear f57 a57
              refine L.val f58 wantedN rfl (by decide) (E.assign f58 rfl) fun a59 f59 => ?_
              clear f58 a58
              refine wpList_nil (hKL3 _ _ (gk4 - 1) ?_ ?_)
              · omega
              · exact ⟨k + 1, by omega, HK, by rw [hr, hst, mayB_pair]; simp [*] <;> (intros; omega), f59.sub (sub_cons rfl (sub_cons rfl sub_nil))⟩
          · clear f39
            rw [prev_none d (by omega)] at hst
            refine R.takeSkip 24 f40 rfl rfl (by decide) (by kernel_rfl) (by kernel_rfl) (by kernel_rfl) (fun _ _ _ _ h => h) (f40.noT rfl rfl) hS4 fun a41 f41 => ?_
            clear f40 a39
            refine R.takeSkip 25 f41 rfl rfl (by decide) (by kernel_rfl) (by kernel_rfl) (by kernel_rfl) (fun _ _ _ _ h => h) (f41.noT rfl rfl) hS4 fun a42 f42 => ?_
            clear f41 a41
            refine R.takeSkip 26 f42 rfl rfl (by decide) (by kernel_rfl) (by kernel_rfl) (by kernel_rfl) (fun _ _ _ _ h => h) (f42.noT rfl rfl) hS4 fun a43 f43 => ?_
            clear f42 a42
            refine R.takeSkip 27 f43 rfl rfl (by decide) (by kernel_rfl) (by kernel_rfl) (by kernel_rfl) (fun _ _ _ _ h => h) (f43.noT rfl rfl) hS4 fun a44 f44 => ?_
            clear f43 a43
            refine R.takeSkip 28 f44 rfl rfl (by decide) (by kernel_rfl) (by kernel_rfl) (by kernel_rfl) (fun _ _ _ _ h => h) (f44.noT rfl rfl) hS4 fun a45 f45 => ?_
            clear f44 a44
            refine R.takeSkip 29 f45 rfl rfl (by decide) (by kernel_rfl) (by kernel_rfl) (by kernel_rfl) (fun _ _ _ _ h => h) (f45.noT rfl rfl) hS4 fun a46 f46 => ?_
            clear f45 a45
            refine R.takeSkip 30 f46 rfl rfl (by decide) (by kernel_rfl) (by kernel_rfl) (by kernel_rfl) (fun _ _ _ _ h => h) (f46.noT rfl rfl) hS4 fun a47 f47 => ?_
            clear f46 a46
            refine R.takeSkip 31 f47 rfl rfl (by decide) (by kernel_rfl) (by kernel_rfl) (by kernel_rfl) (fun _ _ _ _ h => h) (f47.noT rfl rfl) hS4 fun a48 f48 => ?_
            clear f47 a47
            refine R.takeSkip 32 f48 rfl rfl (by decide) (by kernel_rfl) (by kernel_rfl) (by kernel_rfl) (fun _ _ _ _ h => h) (f48.noT rfl rfl) hS4 fun a49 f49 => ?_
            clear f48 a48
            refine R.takeSkip 33 f49 rfl rfl (by decide) (by kernel_rfl) (by kernel_rfl) (by kernel_rfl) (fun _ _ _ _ h => h) (f49.noT rfl rfl) hS4 fun a50 f50 => ?_
            clear f49 a49
            refine R.takeSkip 34 f50 rfl rfl (by decide) (by kernel_rfl) (by kernel_rfl) (by kernel_rfl) (fun _ _ _ _ h => h) (f50.noT rfl rfl) hS4 fun a51 f51 => ?_
            clear f50 a50
            refine R.take 35 f51 rfl rfl (by decide) (by kernel_rfl) (by kernel_rfl) (by kernel_rfl) (fun _ _ _ _ h => h) (f51.yes rfl rfl) hS4 (fun W hW => (E.pickF f51 rfl rfl)) fun a52 f52 => ?_
            clear f51 a51
            refine R.take 36 f52 rfl rfl (by decide) (by kernel_rfl) (by kernel_rfl) (by kernel_rfl) (fun _ _ _ _ h => h) wantedN hS4 (fun W hW => (E.pickF f52 rfl rfl)) fun a53 f53 => ?_
            clear f52 a52
            have szw2r := hS4.size
            replace HK := HK.trans hS4 (by simp)
            clear hS4
            refine R.done (by kernel_rfl) (hK7 _ _ ?_)
            try clear hK7 K7
            have f54 := f53.sub (sub_cons (i := 0) rfl (sub_cons (i := 3) rfl (sub_cons (i := 4) rfl (sub_cons (i := 5) rfl (sub_cons (i := 6) rfl (sub_cons (i := 7) rfl (sub_cons (i := 10) rfl (sub_cons (i := 11) rfl (sub_cons (i := 12) rfl (sub_cons (i := 13) rfl (sub_cons (i := 14) rfl (sub_cons (i := 15) rfl (sub_cons (i := 16) rfl (sub_cons (i := 17) rfl (sub_cons (i := 18) rfl (sub_cons (i := 19) rfl (sub_cons (i := 20) rfl (sub_cons (i := 21) rfl (sub_cons (i := 22) rfl (sub_cons (i := 23) rfl (sub_cons (i := 24) rfl (sub_cons (i := 25) rfl (sub_cons (i := 26) rfl (sub_cons (i := 27) rfl (sub_cons (i := 28) rfl (sub_cons (i := 29) rfl (sub_cons (i := 30) rfl (sub_cons (i := 31) rfl (sub_cons (i := 32) rfl (sub_cons (i := 33) rfl (sub_cons (i := 34) rfl (sub_cons (i := 35) rfl (sub_cons (i := 36) rfl (sub_cons (i := 37) rfl (sub_cons (i := 38) rfl (sub_cons (i := 39) rfl (sub_cons (i := 40) rfl (sub_cons (i := 41) rfl (sub_cons (i := 42) rfl (sub_cons (i := 43) rfl (sub_cons (i := 44) rfl (sub_cons (i := 45) rfl (sub_cons (i := 46) rfl sub_nil)))))))))))))))))))))))))))))))))))))))))))
            clear f53
            refine C.condF f54 rfl ?_
            refine wp_skip (hK6 _ _ ?_)
            try clear hK6 K6
            have f55 := f54.sub (sub_cons (i := 0) rfl (sub_cons (i := 3) rfl (sub_cons (i := 4) rfl (sub_cons (i := 5) rfl (sub_cons (i := 6) rfl (sub_cons (i := 7) rfl (sub_cons (i := 10) rfl (sub_cons (i := 11) rfl (sub_cons (i := 12) rfl (sub_cons (i := 13) rfl (sub_cons (i := 14) rfl (sub_cons (i := 15) rfl (sub_cons (i := 16) rfl (sub_cons (i := 17) rfl (sub_cons (i := 18) rfl (sub_cons (i := 19) rfl (sub_cons (i := 20) rfl (sub_cons (i := 21) rfl (sub_cons (i := 22) rfl (sub_cons (i := 23) rfl (sub_cons (i := 24) rfl (sub_cons (i := 25) rfl (sub_cons (i := 26) rfl (sub_cons (i := 27) rfl (sub_cons (i := 28) rfl (sub_cons (i := 29) rfl (sub_cons (i := 30) rfl (sub_cons (i := 31) rfl (sub_cons (i := 32) rfl (sub_cons (i := 33) rfl (sub_cons (i := 34) rfl (sub_cons (i := 35) rfl (sub_cons (i := 36) rfl (sub_cons (i := 37) rfl (sub_cons (i := 38) rfl (sub_cons (i := 39) rfl (sub_cons (i := 40) rfl (sub_cons (i := 41) rfl (sub_cons (i := 42) rfl (sub_cons (i := 43) rfl (sub_cons (i := 44) rfl (sub_cons (i := 45) rfl (sub_cons (i := 46) rfl sub_nil)))))))))))))))))))))))))))))))))))))))))))
            clear f54
            refine C.region ?_
            refine L.val f55 wantedN rfl (by decide) (E.move f55 rfl) fun a56 f56 => ?_
            clear f55 a53
            refine L.val f56 wantedN rfl (by decide) (E.add f56 rfl rfl (IntWalk.i64_in _ (by omega))) fun a57 f57 => ?_
            clear f56 a56
            refine L.val f57 wantedN rfl (by decide) (E.assign f57 rfl) fun a58 f58 => ?_
            clear f57 a57
            refine wpList_nil (hKL3 _ _ (gk4 - 1) ?_ ?_)
            · omega
            · exact ⟨k + 1, by omega, HK, by rw [hr, hst, mayB_pair]; simp [*] <;> (intros; omega), f58.sub (sub_cons rfl (sub_cons rfl sub_nil))⟩
    · clear f11
      refine C.condF f12 rfl ?_
      refine wp_exit (hK1 _ _ ?_)
      try clear hK1 K1
      have f13 := f12.sub sub_nil
      clear f12
      refine wp_seq_k fun K11 hK11 => ?_
      refine C.region ?_
      refine L.val f13 wantedN rfl (by decide) (E.assign f13 rfl) fun a14 f14 => ?_
      clear f13 a10
      refine wpList_nil (hK11 _ _ ?_)
      try clear hK11 K11
      have f15 := f14.sub (sub_cons (i := 2) rfl sub_nil)
      clear f14
      refine wp_ret ?_
      try simp only [Exit.inBlock, Exit.then]
      refine C.ret (P := Try.prog) (fn := Try.f21) f15 rfl rfl ?_
      exact ⟨HK, by unfold rightB; rw [hr, List.drop_eq_nil_of_le (by omega)]; rfl⟩

set_option maxHeartbeats 1000000 in
theorem TopR_any (l : List Dt) (A : Option Addr) (c : Nat) (x y : Int) (w : World) (A1 : Ds w A l) (hm : l.length ≤ 1000000) : Calls Try.prog 20 #[.slice A l.length c, .int .i64 x, .int .i64 y] w (fun e w' => Kept [] w w' ∧ e = .returned (.int .i64 (topR l x y))) := by
  have HK : Kept [] w w := Kept.refl [] w
  refine C.enter Try.func20 rfl Try.ntmps20 rfl ?_
  intro a0 f0
  have f1 : Fr 38 a0 [(0, .slice A l.length c), (1, .int .i64 x), (2, .int .i64 y)] := f0
  clear f0
  refine wp_seq_k fun K0 hK0 => ?_
  refine C.region ?_
  refine L.val f1 wantedN rfl (by decide) (E.assign f1 rfl) fun a2 f2 => ?_
  clear f1 a0
  refine wpList_nil (hK0 _ _ ?_)
  try clear hK0 K0
  have f3 := f2.sub (sub_cons (i := 0) rfl (sub_cons (i := 1) rfl (sub_cons (i := 2) rfl (sub_cons (i := 6) rfl sub_nil))))
  clear f2
  refine wp_seq_k fun K1 hK1 => ?_
  refine wp_seq_k fun K2 hK2 => ?_
  refine C.region ?_
  refine L.val f3 wantedN rfl (by decide) (E.move f3 rfl) fun a4 f4 => ?_
  clear f3 a2
  refine L.call f4 wantedN rfl (by decide) (run_call Try.call21 (args1 f4 rfl)) (rightR_any l _ _ _ (A1.kept HK) (by unfold maxLen; omega)) ?_
  rintro e w1 ⟨kc1, rfl⟩
  refine ⟨_, rfl, fun a5 f5 => ?_⟩
  clear f4 a4
  have szw1 := kc1.size
  replace HK := HK.trans kc1 (by simp)
  clear kc1
  refine L.val f5 wantedN rfl (by decide) (E.not f5 rfl) fun a6 f6 => ?_
  clear f5 a5
  refine wpList_nil (hK2 _ _ ?_)
  try clear hK2 K2
  have f7 := f6.sub (sub_cons (i := 0) rfl (sub_cons (i := 1) rfl (sub_cons (i := 2) rfl (sub_cons (i := 6) rfl (sub_cons (i := 10) rfl sub_nil)))))
  clear f6
  first | refine f7.splitD 10 rfl (fun h0 f8 => ?_) (fun h0 f8 => ?_) | refine f7.splitN 10 rfl (fun h0 f8 => ?_) (fun h0 f8 => ?_) | refine f7.splitNB 10 rfl (fun h0 f8 => ?_) (fun h0 f8 => ?_) | refine f7.split 10 rfl (fun h0 f8 => ?_) (fun h0 f8 => ?_)
  · clear f7
    refine C.condT f8 rfl ?_
    refine wp_seq_k fun K3 hK3 => ?_
    refine C.region ?_
    refine L.val f8 wantedN rfl (by decide) (E.assign f8 rfl) fun a9 f9 => ?_
    clear f8 a6
    refine wpList_nil (hK3 _ _ ?_)
    try clear hK3 K3
    have f10 := f9.sub (sub_cons (i := 0) rfl (sub_cons (i := 1) rfl (sub_cons (i := 2) rfl (sub_cons (i := 6) rfl sub_nil))))
    clear f9
    refine wp_ret ?_
    try simp only [Exit.inBlock, Exit.then]
    refine C.ret (P := Try.prog) (fn := Try.f20) f10 rfl rfl ?_
    exact ⟨HK, by simp [topR, *]⟩
  · clear f7
    have hrb := h0
    refine C.condF f8 rfl ?_
    refine wp_skip (hK1 _ _ ?_)
    try clear hK1 K1
    have f9 := f8.sub (sub_cons (i := 0) rfl (sub_cons (i := 1) rfl (sub_cons (i := 2) rfl (sub_cons (i := 6) rfl sub_nil))))
    clear f8
    refine wp_seq_k fun K4 hK4 => ?_
    refine wp_seq_k fun K5 hK5 => ?_
    refine C.region ?_
    refine L.val f9 wantedN rfl (by decide) (E.assign f9 rfl) fun a10 f10 => ?_
    clear f9 a6
    refine wpList_nil (hK5 _ _ ?_)
    try clear hK5 K5
    have f11 := f10.sub (sub_cons (i := 0) rfl (sub_cons (i := 1) rfl (sub_cons (i := 2) rfl (sub_cons (i := 6) rfl (sub_cons (i := 7) rfl sub_nil)))))
    clear f10
    refine wp_block ?_
    refine C.loop (fun gk a W => ∃ k : Nat, k + gk = l.length ∧ Kept [] w W ∧ (∀ a ∈ l.take k, ¬ (a.node = x ∧ a.epoch = y)) ∧ Fr 38 a [(0, .slice A l.length c), (1, .int .i64 x), (2, .int .i64 y), (7, .int .i64 k)]) (l.length) ?_ ?_
    · exact ⟨0, by omega, HK, by simp, f11.sub (sub_cons rfl (sub_cons rfl (sub_cons rfl (sub_cons rfl sub_nil))))⟩
    · intro gk7 a12 w2 hI KL6 hKL6
      obtain ⟨k, hk, HK, hq, f12⟩ := hI
      try clear f11
      refine wp_seq_k fun K7 hK7 => ?_
      refine wp_seq_k fun K8 hK8 => ?_
      refine C.region ?_
      refine L.val f12 wantedN rfl (by decide) (E.move f12 rfl) fun a13 f13 => ?_
      clear f12 a12
      refine L.val f13 wantedN rfl (by decide) (E.move f13 rfl) fun a14 f14 => ?_
      clear f13 a13
      refine L.val f14 wantedN rfl (by decide) (E.lenL f14 Try.underlying24 rfl) fun a15 f15 => ?_
      clear f14 a14
      refine L.val f15 wantedN rfl (by decide) (E.lss f15 rfl rfl) fun a16 f16 => ?_
      clear f15 a15
      refine wpList_nil (hK8 _ _ ?_)
      try clear hK8 K8
      have f17 := f16.sub (sub_cons (i := 0) rfl (sub_cons (i := 1) rfl (sub_cons (i := 2) rfl (sub_cons (i := 7) rfl (sub_cons (i := 11) rfl (sub_cons (i := 12) rfl (sub_cons (i := 13) rfl (sub_cons (i := 14) rfl sub_nil))))))))
      clear f16
      first | refine f17.splitD 14 rfl (fun h1 f18 => ?_) (fun h1 f18 => ?_) | refine f17.splitN 14 rfl (fun h1 f18 => ?_) (fun h1 f18 => ?_) | refine f17.splitNB 14 rfl (fun h1 f18 => ?_) (fun h1 f18 => ?_) | refine f17.split 14 rfl (fun h1 f18 => ?_) (fun h1 f18 => ?_)
      · clear f17
        obtain ⟨d, hd⟩ : ∃ d, l[k]? = some d := ⟨l[k]'(by omega), List.getElem?_eq_getElem _⟩
        obtain ⟨bk, off, hA⟩ := A1.addr (i := k) (by omega)
        refine C.condT f18 rfl ?_
        refine wp_skip (hK7 _ _ ?_)
        try clear hK7 K7
        have f19 := f18.sub (sub_cons (i := 0) rfl (sub_cons (i := 1) rfl (sub_cons (i := 2) rfl (sub_cons (i := 7) rfl (sub_cons (i := 11) rfl (sub_cons (i := 12) rfl (sub_cons (i := 13) rfl (sub_cons (i := 14) rfl sub_nil))))))))
        clear f18
        refine wp_seq_k fun K9 hK9 => ?_
        refine wp_block ?_
        refine wp_seq_k fun K10 hK10 => ?_
        refine C.region ?_
        refine L.val f19 wantedN rfl (by decide) (E.move f19 rfl) fun a20 f20 => ?_
        clear f19 a16
        refine L.val f20 wantedN rfl (by decide) (E.move f20 rfl) fun a21 f21 => ?_
        clear f20 a20
        refine L.val f21 wantedN rfl (by decide) (E.indexA f21 (by first | rfl | assumption) Try.underlying24 wsz32_d rfl rfl (by omega) (by omega)) fun a22 f22 => ?_
        clear f21 a21
        refine L.val f22 wantedN rfl (by decide) (E.fieldAddr f22 Try.underlying32 rfl rfl wsz3_d) fun a23 f23 => ?_
        clear f22 a22
        refine L.val f23 wantedN rfl (by decide) (by first | exact E.load f23 Try.underlying3 rfl rfl ((A1.kept HK).row hA hd 0 _ rfl) | exact E.load f23 Try.underlying3 rfl rfl ((A1.kept HK).row hA hd 1 _ rfl) | exact E.load f23 Try.underlying3 rfl rfl ((A1.kept HK).row hA hd 2 _ rfl)) fun a24 f24 => ?_
        clear f23 a23
        refine L.val f24 wantedN rfl (by decide) (E.move f24 rfl) fun a25 f25 => ?_
        clear f24 a24
        refine L.val f25 wantedN rfl (by decide) (E.eql f25 rfl rfl) fun a26 f26 => ?_
        clear f25 a25
        refine L.val f26 wantedN rfl (by decide) (E.move f26 rfl) fun a27 f27 => ?_
        clear f26 a26
        first | refine f27.splitD 24 rfl (fun h2 f28 => ?_) (fun h2 f28 => ?_) | refine f27.splitN 24 rfl (fun h2 f28 => ?_) (fun h2 f28 => ?_) | refine f27.splitNB 24 rfl (fun h2 f28 => ?_) (fun h2 f28 => ?_) | refine f27.split 24 rfl (fun h2 f28 => ?_) (fun h2 f28 => ?_)
        · clear f27
          have hx1 := h2
          refine L.val f28 (f28.yes rfl rfl) rfl (by decide) (E.move f28 rfl) fun a29 f29 => ?_
          clear f28 a27
          refine L.val f29 (f29.yes rfl rfl) rfl (by decide) (E.move f29 rfl) fun a30 f30 => ?_
          clear f29 a29
          refine L.val f30 (f30.yes rfl rfl) rfl (by decide) (E.indexA f30 (by first | rfl | assumption) Try.underlying24 wsz32_d rfl rfl (by omega) (by omega)) fun a31 f31 => ?_
          clear f30 a30
          refine L.val f31 (f31.yes rfl rfl) rfl (by decide) (E.fieldAddr f31 Try.underlying32 rfl rfl wsz3_d) fun a32 f32 => ?_
          clear f31 a31
          refine L.val f32 (f32.yes rfl rfl) rfl (by decide) (by first | exact E.load f32 Try.underlying3 rfl rfl ((A1.kept HK).row hA hd 0 _ rfl) | exact E.load f32 Try.underlying3 rfl rfl ((A1.kept HK).row hA hd 1 _ rfl) | exact E.load f32 Try.underlying3 rfl rfl ((A1.kept HK).row hA hd 2 _ rfl)) fun a33 f33 => ?_
          clear f32 a32
          refine L.val f33 (f33.yes rfl rfl) rfl (by decide) (E.move f33 rfl) fun a34 f34 => ?_
          clear f33 a33
          refine L.val f34 (f34.yes rfl rfl) rfl (by decide) (E.eql f34 rfl rfl) fun a35 f35 => ?_
          clear f34 a34
          refine L.val f35 wantedN rfl (by decide) (E.pickT f35 rfl rfl) fun a36 f36 => ?_
          clear f35 a35
          refine wpList_nil (hK10 _ _ ?_)
          try clear hK10 K10
          have f37 := f36.sub (sub_cons (i := 0) rfl (sub_cons (i := 1) rfl (sub_cons (i := 2) rfl (sub_cons (i := 7) rfl (sub_cons (i := 11) rfl (sub_cons (i := 12) rfl (sub_cons (i := 13) rfl (sub_cons (i := 14) rfl (sub_cons (i := 17) rfl (sub_cons (i := 18) rfl (sub_cons (i := 19) rfl (sub_cons (i := 20) rfl (sub_cons (i := 21) rfl (sub_cons (i := 22) rfl (sub_cons (i := 23) rfl (sub_cons (i := 24) rfl (sub_cons (i := 25) rfl (sub_cons (i := 26) rfl (sub_cons (i := 27) rfl (sub_cons (i := 28) rfl (sub_cons (i := 29) rfl (sub_cons (i := 30) rfl (sub_cons (i := 31) rfl (sub_cons (i := 32) rfl sub_nil))))))))))))))))))))))))
          clear f36
          first | refine f37.splitD 32 rfl (fun h3 f38 => ?_) (fun h3 f38 => ?_) | refine f37.splitN 32 rfl (fun h3 f38 => ?_) (fun h3 f38 => ?_) | refine f37.splitNB 32 rfl (fun h3 f38 => ?_) (fun h3 f38 => ?_) | refine f37.split 32 rfl (fun h3 f38 => ?_) (fun h3 f38 => ?_)
          · clear f37
            have hy1 := h3
            refine C.condT f38 rfl ?_
            refine wp_seq_k fun K11 hK11 => ?_
            refine C.region ?_
            refine L.val f38 wantedN rfl (by decide) (E.move f38 rfl) fun a39 f39 => ?_
            clear f38 a36
            refine L.val f39 wantedN rfl (by decide) (E.move f39 rfl) fun a40 f40 => ?_
            clear f39 a39
            refine L.val f40 wantedN rfl (by decide) (E.indexA f40 (by first | rfl | assumption) Try.underlying24 wsz32_d rfl rfl (by omega) (by omega)) fun a41 f41 => ?_
            clear f40 a40
            refine L.val f41 wantedN rfl (by decide) (E.fieldAddr f41 Try.underlying32 rfl rfl wsz3_d) fun a42 f42 => ?_
            clear f41 a41
            refine L.val f42 wantedN rfl (by decide) (by first | exact E.load f42 Try.underlying3 rfl rfl ((A1.kept HK).row hA hd 0 _ rfl) | exact E.load f42 Try.underlying3 rfl rfl ((A1.kept HK).row hA hd 1 _ rfl) | exact E.load f42 Try.underlying3 rfl rfl ((A1.kept HK).row hA hd 2 _ rfl)) fun a43 f43 => ?_
            clear f42 a42
            refine L.val f43 wantedN rfl (by decide) (E.assign f43 rfl) fun a44 f44 => ?_
            clear f43 a43
            refine wpList_nil (hK11 _ _ ?_)
            try clear hK11 K11
            have f45 := f44.sub (sub_cons (i := 0) rfl (sub_cons (i := 1) rfl (sub_cons (i := 2) rfl (sub_cons (i := 6) rfl (sub_cons (i := 7) rfl (sub_cons (i := 11) rfl (sub_cons (i := 12) rfl (sub_cons (i := 13) rfl (sub_cons (i := 14) rfl (sub_cons (i := 17) rfl (sub_cons (i := 18) rfl (sub_cons (i := 19) rfl (sub_cons (i := 20) rfl (sub_cons (i := 21) rfl (sub_cons (i := 22) rfl (sub_cons (i := 23) rfl (sub_cons (i := 24) rfl (sub_cons (i := 25) rfl (sub_cons (i := 26) rfl (sub_cons (i := 27) rfl (sub_cons (i := 28) rfl (sub_cons (i := 29) rfl (sub_cons (i := 30) rfl (sub_cons (i := 31) rfl (sub_cons (i := 32) rfl (sub_cons (i := 33) rfl (sub_cons (i := 34) rfl (sub_cons (i := 35) rfl (sub_cons (i := 36) rfl (sub_cons (i := 37) rfl sub_nil))))))))))))))))))))))))))))))
            clear f44
            refine wp_ret ?_
            try simp only [Exit.inBlock, Exit.then]
            refine C.ret (P := Try.prog) (fn := Try.f20) f45 rfl rfl ?_
            exact ⟨HK, by rw [topR, if_pos hrb, topI_at hrb hd hx1 hy1]⟩
          · clear f37
            have hn1 : ¬ (d.node = x ∧ d.epoch = y) := fun h => h3 h.2
            refine C.condF f38 rfl ?_
            refine wp_skip (hK9 _ _ ?_)
            try clear hK9 K9
            have f39 := f38.sub (sub_cons (i := 0) rfl (sub_cons (i := 1) rfl (sub_cons (i := 2) rfl (sub_cons (i := 7) rfl (sub_cons (i := 11) rfl (sub_cons (i := 12) rfl (sub_cons (i := 13) rfl (sub_cons (i := 14) rfl (sub_cons (i := 17) rfl (sub_cons (i := 18) rfl (sub_cons (i := 19) rfl (sub_cons (i := 20) rfl (sub_cons (i := 21) rfl (sub_cons (i := 22) rfl (sub_cons (i := 23) rfl (sub_cons (i := 24) rfl (sub_cons (i := 25) rfl (sub_cons (i := 26) rfl (sub_cons (i := 27) rfl (sub_cons (i := 28) rfl (sub_cons (i := 29) rfl (sub_cons (i := 30) rfl (sub_cons (i := 31) rfl (sub_cons (i := 32) rfl sub_nil))))))))))))))))))))))))
            clear f38
            refine C.region ?_
            refine L.val f39 wantedN rfl (by decide) (E.move f39 rfl) fun a40 f40 => ?_
            clear f39 a36
            refine L.val f40 wantedN rfl (by decide) (E.add f40 rfl rfl (IntWalk.i64_in _ (by omega))) fun a41 f41 => ?_
            clear f40 a40
            refine L.val f41 wantedN rfl (by decide) (E.assign f41 rfl) fun a42 f42 => ?_
            clear f41 a41
            refine wpList_nil (hKL6 _ _ (gk7 - 1) ?_ ?_)
            · omega
            · exact ⟨k + 1, by omega, HK, in_take hq hd hn1, f42.sub (sub_cons rfl (sub_cons rfl (sub_cons rfl (sub_cons rfl sub_nil))))⟩
        · clear f27
          have hn1 : ¬ (d.node = x ∧ d.epoch = y) := fun h => h2 h.1
          refine L.skip f28 (f28.noT rfl rfl) rfl (by decide) fun a29 f29 => ?_
          clear f28 a27
          refine L.skip f29 (f29.noT rfl rfl) rfl (by decide) fun a30 f30 => ?_
          clear f29 a29
          refine L.skip f30 (f30.noT rfl rfl) rfl (by decide) fun a31 f31 => ?_
          clear f30 a30
          refine L.skip f31 (f31.noT rfl rfl) rfl (by decide) fun a32 f32 => ?_
          clear f31 a31
          refine L.skip f32 (f32.noT rfl rfl) rfl (by decide) fun a33 f33 => ?_
          clear f32 a32
          refine L.skip f33 (f33.noT rfl rfl) rfl (by decide) fun a34 f34 => ?_
          clear f33 a33
          refine L.skip f34 (f34.noT rfl rfl) rfl (by decide) fun a35 f35 => ?_
          clear f34 a34
          refine L.val f35 wantedN rfl (by decide) (E.pickF f35 rfl rfl) fun a36 f36 => ?_
          clear f35 a35
          refine wpList_nil (hK10 _ _ ?_)
          try clear hK10 K10
          have f37 := f36.sub (sub_cons (i := 0) rfl (sub_cons (i := 1) rfl (sub_cons (i := 2) rfl (sub_cons (i := 7) rfl (sub_cons (i := 11) rfl (sub_cons (i := 12) rfl (sub_cons (i := 13) rfl (sub_cons (i := 14) rfl (sub_cons (i := 17) rfl (sub_cons (i := 18) rfl (sub_cons (i := 19) rfl (sub_cons (i := 20) rfl (sub_cons (i := 21) rfl (sub_cons (i := 22) rfl (sub_cons (i := 23) rfl (sub_cons (i := 24) rfl (sub_cons (i := 25) rfl (sub_cons (i := 26) rfl (sub_cons (i := 27) rfl (sub_cons (i := 28) rfl (sub_cons (i := 29) rfl (sub_cons (i := 30) rfl (sub_cons (i := 31) rfl (sub_cons (i := 32) rfl sub_nil))))))))))))))))))))))))
          clear f36
          refine C.condF f37 rfl ?_
          refine wp_skip (hK9 _ _ ?_)
          try clear hK9 K9
          have f38 := f37.sub (sub_cons (i := 0) rfl (sub_cons (i := 1) rfl (sub_cons (i := 2) rfl (sub_cons (i := 7) rfl (sub_cons (i := 11) rfl (sub_cons (i := 12) rfl (sub_cons (i := 13) rfl (sub_cons (i := 14) rfl (sub_cons (i := 17) rfl (sub_cons (i := 18) rfl (sub_cons (i := 19) rfl (sub_cons (i := 20) rfl (sub_cons (i := 21) rfl (sub_cons (i := 22) rfl (sub_cons (i := 23) rfl (sub_cons (i := 24) rfl (sub_cons (i := 25) rfl (sub_cons (i := 26) rfl (sub_cons (i := 27) rfl (sub_cons (i := 28) rfl (sub_cons (i := 29) rfl (sub_cons (i := 30) rfl (sub_cons (i := 31) rfl (sub_cons (i := 32) rfl sub_nil))))))))))))))))))))))))
          clear f37
          refine C.region ?_
          refine L.val f38 wantedN rfl (by decide) (E.move f38 rfl) fun a39 f39 => ?_
          clear f38 a36
          refine L.val f39 wantedN rfl (by decide) (E.add f39 rfl rfl (IntWalk.i64_in _ (by omega))) fun a40 f40 => ?_
          clear f39 a39
          refine L.val f40 wantedN rfl (by decide) (E.assign f40 rfl) fun a41 f41 => ?_
          clear f40 a40
          refine wpList_nil (hKL6 _ _ (gk7 - 1) ?_ ?_)
          · omega
          · exact ⟨k + 1, by omega, HK, in_take hq hd hn1, f41.sub (sub_cons rfl (sub_cons rfl (sub_cons rfl (sub_cons rfl sub_nil))))⟩
      · clear f17
        refine C.condF f18 rfl ?_
        refine wp_exit (hK4 _ _ ?_)
        try clear hK4 K4
        have f19 := f18.sub sub_nil
        clear f18
        refine wp_seq_k fun K12 hK12 => ?_
        refine C.region ?_
        refine L.val f19 wantedN rfl (by decide) (E.assign f19 rfl) fun a20 f20 => ?_
        clear f19 a16
        refine wpList_nil (hK12 _ _ ?_)
        try clear hK12 K12
        have f21 := f20.sub (sub_cons (i := 6) rfl sub_nil)
        clear f20
        refine wp_ret ?_
        try simp only [Exit.inBlock, Exit.then]
        refine C.ret (P := Try.prog) (fn := Try.f20) f21 rfl rfl ?_
        exact ⟨HK, by rw [topR, if_pos hrb, topI_none (all_take hq (by omega))]⟩

set_option maxHeartbeats 1000000 in
theorem HasR_any (l : List Dt) (A : Option Addr) (c : Nat) (d : Dt) (w : World) (A1 : Ds w A l) (hm : l.length ≤ 1000000) : Calls Try.prog 24 #[.slice A l.length c, .agg (dcell d).toArray] w (fun e w' => Kept [] w w' ∧ e = .returned (.bool (hasB l d))) := by
  have HK : Kept [] w w := Kept.refl [] w
  refine C.enter Try.func24 rfl Try.ntmps24 rfl ?_
  intro a0 f0
  have f1 : Fr 19 a0 [(0, .slice A l.length c), (1, .agg (dcell d).toArray)] := f0
  clear f0
  refine wp_seq_k fun K0 hK0 => ?_
  refine C.region ?_
  refine L.box f1 wantedN (by decide) rfl rfl fun a2 w1 g0 N0 f2 => ?_
  have Bg0 := N0.blk
  have kg0 := N0.kept
  have log0 := N0.lo
  have ltg0 := Bg0.lt
  have szw1 := kg0.size
  have frg0 : w.heap.size ≤ g0 := Nat.le_trans HK.size log0
  replace HK := HK.trans kg0 (by simp)
  clear N0 kg0
  clear f1 a0
  refine L.val f2 wantedN rfl (by decide) (E.assign f2 rfl) fun a3 f3 => ?_
  clear f2 a2
  refine wpList_nil (hK0 _ _ ?_)
  try clear hK0 K0
  have f4 := f3.sub (sub_cons (i := 0) rfl (sub_cons (i := 3) rfl (sub_cons (i := 4) rfl sub_nil)))
  clear f3
  refine wp_seq_k fun K1 hK1 => ?_
  refine R.begin (S := fun W => Kept [] w1 W) (by kernel_rfl) (by exact (Kept.refl _ _).drewN 1) ?_
  have hS1 : Kept [] w1 (w1.drewN 1) := (Kept.refl _ _).drewN 1
  obtain ⟨w2, hww2⟩ : ∃ W, W = w1.drewN 1 := ⟨_, rfl⟩
  rw [← hww2] at hS1 ⊢
  clear hww2
  refine R.take 0 f4 rfl rfl (by decide) (by kernel_rfl) (by kernel_rfl) (by kernel_rfl) (fun _ _ _ _ h => h) wantedN hS1 (fun W hW => (E.fieldAddr f4 Try.underlying32 rfl rfl wsz3_d)) fun a5 f5 => ?_
  clear f4 a3
  refine R.take 1 f5 rfl rfl (by decide) (by kernel_rfl) (by kernel_rfl) (by kernel_rfl) (fun _ _ _ _ h => h) wantedN hS1 (fun W hW => (by exact E.load f5 Try.underlying3 rfl rfl ((Bg0.kept hW (by simp)).cl rfl))) fun a6 f6 => ?_
  clear f5 a5
  refine R.take 2 f6 rfl rfl (by decide) (by kernel_rfl) (by kernel_rfl) (by kernel_rfl) (fun _ _ _ _ h => h) wantedN hS1 (fun W hW => (E.geq f6 rfl rfl)) fun a7 f7 => ?_
  clear f6 a6
  refine R.take 3 f7 rfl rfl (by decide) (by kernel_rfl) (by kernel_rfl) (by kernel_rfl) (fun _ _ _ _ h => h) wantedN hS1 (fun W hW => (E.move f7 rfl)) fun a8 f8 => ?_
  clear f7 a7
  first | refine f8.splitD 8 rfl (fun h0 f9 => ?_) (fun h0 f9 => ?_) | refine f8.splitN 8 rfl (fun h0 f9 => ?_) (fun h0 f9 => ?_) | refine f8.splitNB 8 rfl (fun h0 f9 => ?_) (fun h0 f9 => ?_) | refine f8.split 8 rfl (fun h0 f9 => ?_) (fun h0 f9 => ?_)
  · clear f8
    refine R.take 4 f9 rfl rfl (by decide) (by kernel_rfl) (by kernel_rfl) (by kernel_rfl) (fun _ _ _ _ h => h) (f9.yes rfl rfl) hS1 (fun W hW => (E.fieldAddr f9 Try.underlying32 rfl rfl wsz3_d)) fun a10 f10 => ?_
    clear f9 a8
    refine R.take 5 f10 rfl rfl (by decide) (by kernel_rfl) (by kernel_rfl) (by kernel_rfl) (fun _ _ _ _ h => h) (f10.yes rfl rfl) hS1 (fun W hW => (by exact E.load f10 Try.underlying3 rfl rfl ((Bg0.kept hW (by simp)).cl rfl))) fun a11 f11 => ?_
    clear f10 a10
    refine R.take 6 f11 rfl rfl (by decide) (by kernel_rfl) (by kernel_rfl) (by kernel_rfl) (fun _ _ _ _ h => h) (f11.yes rfl rfl) hS1 (fun W hW => (E.move f11 rfl)) fun a12 f12 => ?_
    clear f11 a11
    refine R.take 7 f12 rfl rfl (by decide) (by kernel_rfl) (by kernel_rfl) (by kernel_rfl) (fun _ _ _ _ h => h) (f12.yes rfl rfl) hS1 (fun W hW => (E.fieldAddr f12 Try.underlying32 rfl rfl wsz3_d)) fun a13 f13 => ?_
    clear f12 a12
    refine R.take 8 f13 rfl rfl (by decide) (by kernel_rfl) (by kernel_rfl) (by kernel_rfl) (fun _ _ _ _ h => h) (f13.yes rfl rfl) hS1 (fun W hW => (by exact E.load f13 Try.underlying3 rfl rfl ((Bg0.kept hW (by simp)).cl rfl))) fun a14 f14 => ?_
    clear f13 a13
    refine R.take 9 f14 rfl rfl (by decide) (by kernel_rfl) (by kernel_rfl) (by kernel_rfl) (fun _ _ _ _ h => h) (f14.yes rfl rfl) hS1 (fun W hW => (E.fieldAddr f14 Try.underlying32 rfl rfl wsz3_d)) fun a15 f15 => ?_
    clear f14 a14
    refine R.take 10 f15 rfl rfl (by decide) (by kernel_rfl) (by kernel_rfl) (by kernel_rfl) (fun _ _ _ _ h => h) (f15.yes rfl rfl) hS1 (fun W hW => (by exact E.load f15 Try.underlying3 rfl rfl ((Bg0.kept hW (by simp)).cl rfl))) fun a16 f16 => ?_
    clear f15 a15
    refine R.call 11 f16 rfl rfl (by decide) (by kernel_rfl) (f16.yes rfl rfl) (run_call Try.call20 (args3 f16 rfl rfl rfl)) (TopR_any l _ _ _ _ _ ((A1.kept HK).kept hS1) hm) ?_
    rintro e w3 ⟨kc3, rfl⟩
    replace hS1 := hS1.trans kc3 (by simp)
    refine ⟨_, rfl, hS1, fun a17 f17 => ?_⟩
    clear f16 a16
    have szw3 := kc3.size
    clear kc3
    refine R.take 12 f17 rfl rfl (by decide) (by kernel_rfl) (by kernel_rfl) (by kernel_rfl) (fun _ _ _ _ h => h) (f17.yes rfl rfl) hS1 (fun W hW => (E.leq f17 rfl rfl)) fun a18 f18 => ?_
    clear f17 a17
    refine R.take 13 f18 rfl rfl (by decide) (by kernel_rfl) (by kernel_rfl) (by kernel_rfl) (fun _ _ _ _ h => h) wantedN hS1 (fun W hW => (E.pickT f18 rfl rfl)) fun a19 f19 => ?_
    clear f18 a18
    refine R.take 14 f19 rfl rfl (by decide) (by kernel_rfl) (by kernel_rfl) (by kernel_rfl) (fun _ _ _ _ h => h) wantedN hS1 (fun W hW => (E.assign f19 rfl)) fun a20 f20 => ?_
    clear f19 a19
    have szw3r := hS1.size
    replace HK := HK.trans hS1 (by simp)
    replace Bg0 := Bg0.kept hS1 (by simp)
    clear hS1
    refine R.done (by kernel_rfl) (hK1 _ _ ?_)
    try clear hK1 K1
    have f21 := f20.sub (sub_cons (i := 4) rfl sub_nil)
    clear f20
    refine wp_ret ?_
    try simp only [Exit.inBlock, Exit.then]
    refine C.ret (P := Try.prog) (fn := Try.f24) f21 rfl rfl ?_
    exact ⟨HK, by simp [hasB, *]⟩
  · clear f8
    refine R.takeSkip 4 f9 rfl rfl (by decide) (by kernel_rfl) (by kernel_rfl) (by kernel_rfl) (fun _ _ _ _ h => h) (f9.noT rfl rfl) hS1 fun a10 f10 => ?_
    clear f9 a8
    refine R.takeSkip 5 f10 rfl rfl (by decide) (by kernel_rfl) (by kernel_rfl) (by kernel_rfl) (fun _ _ _ _ h => h) (f10.noT rfl rfl) hS1 fun a11 f11 => ?_
    clear f10 a10
    refine R.takeSkip 6 f11 rfl rfl (by decide) (by kernel_rfl) (by kernel_rfl) (by kernel_rfl) (fun _ _ _ _ h => h) (f11.noT rfl rfl) hS1 fun a12 f12 => ?_
    clear f11 a11
    refine R.takeSkip 7 f12 rfl rfl (by decide) (by kernel_rfl) (by kernel_rfl) (by kernel_rfl) (fun _ _ _ _ h => h) (f12.noT rfl rfl) hS1 fun a13 f13 => ?_
    clear f12 a12
    refine R.takeSkip 8 f13 rfl rfl (by decide) (by kernel_rfl) (by kernel_rfl) (by kernel_rfl) (fun _ _ _ _ h => h) (f13.noT rfl rfl) hS1 fun a14 f14 => ?_
    clear f13 a13
    refine R.takeSkip 9 f14 rfl rfl (by decide) (by kernel_rfl) (by kernel_rfl) (by kernel_rfl) (fun _ _ _ _ h => h) (f14.noT rfl rfl) hS1 fun a15 f15 => ?_
    clear f14 a14
    refine R.takeSkip 10 f15 rfl rfl (by decide) (by kernel_rfl) (by kernel_rfl) (by kernel_rfl) (fun _ _ _ _ h => h) (f15.noT rfl rfl) hS1 fun a16 f16 => ?_
    clear f15 a15
    refine R.takeSkip 11 f16 rfl rfl (by decide) (by kernel_rfl) (by kernel_rfl) (by kernel_rfl) (fun _ _ _ _ h => h) (f16.noT rfl rfl) hS1 fun a17 f17 => ?_
    clear f16 a16
    refine R.takeSkip 12 f17 rfl rfl (by decide) (by kernel_rfl) (by kernel_rfl) (by kernel_rfl) (fun _ _ _ _ h => h) (f17.noT rfl rfl) hS1 fun a18 f18 => ?_
    clear f17 a17
    refine R.take 13 f18 rfl rfl (by decide) (by kernel_rfl) (by kernel_rfl) (by kernel_rfl) (fun _ _ _ _ h => h) wantedN hS1 (fun W hW => (E.pickF f18 rfl rfl)) fun a19 f19 => ?_
    clear f18 a18
    refine R.take 14 f19 rfl rfl (by decide) (by kernel_rfl) (by kernel_rfl) (by kernel_rfl) (fun _ _ _ _ h => h) wantedN hS1 (fun W hW => (E.assign f19 rfl)) fun a20 f20 => ?_
    clear f19 a19
    have szw2r := hS1.size
    replace HK := HK.trans hS1 (by simp)
    replace Bg0 := Bg0.kept hS1 (by simp)
    clear hS1
    refine R.done (by kernel_rfl) (hK1 _ _ ?_)
    try clear hK1 K1
    have f21 := f20.sub (sub_cons (i := 4) rfl sub_nil)
    clear f20
    refine wp_ret ?_
    try simp only [Exit.inBlock, Exit.then]
    refine C.ret (P := Try.prog) (fn := Try.f24) f21 rfl rfl ?_
    exact ⟨HK, by simp [hasB, *]⟩

set_option maxHeartbeats 1000000 in
theorem WithinR_any (l b : List Dt) (A A' : Option Addr) (c c' : Nat) (w : World) (A1 : Ds w A l) (A2 : Ds w A' b) (hm : l.length ≤ 1000000) (hm' : b.length ≤ 1000000) : Calls Try.prog 23 #[.slice A l.length c, .slice A' b.length c'] w (fun e w' => Kept [] w w' ∧ e = .returned (.bool (withinB l b))) := by
  have HK : Kept [] w w := Kept.refl [] w
  refine C.enter Try.func23 rfl Try.ntmps23 rfl ?_
  intro a0 f0
  have f1 : Fr 27 a0 [(0, .slice A l.length c), (1, .slice A' b.length c')] := f0
  clear f0
  refine wp_seq_k fun K0 hK0 => ?_
  refine C.region ?_
  refine L.val f1 wantedN rfl (by decide) (E.assign f1 rfl) fun a2 f2 => ?_
  clear f1 a0
  refine wpList_nil (hK0 _ _ ?_)
  try clear hK0 K0
  have f3 := f2.sub (sub_cons (i := 0) rfl (sub_cons (i := 1) rfl (sub_cons (i := 4) rfl sub_nil)))
  clear f2
  refine wp_seq_k fun K1 hK1 => ?_
  refine wp_seq_k fun K2 hK2 => ?_
  refine C.region ?_
  refine L.val f3 wantedN rfl (by decide) (E.move f3 rfl) fun a4 f4 => ?_
  clear f3 a2
  refine L.call f4 wantedN rfl (by decide) (run_call Try.call21 (args1 f4 rfl)) (rightR_any l _ _ _ (A1.kept HK) (by unfold maxLen; omega)) ?_
  rintro e w1 ⟨kc1, rfl⟩
  refine ⟨_, rfl, fun a5 f5 => ?_⟩
  clear f4 a4
  have szw1 := kc1.size
  replace HK := HK.trans kc1 (by simp)
  clear kc1
  refine L.val f5 wantedN rfl (by decide) (E.not f5 rfl) fun a6 f6 => ?_
  clear f5 a5
  refine L.val f6 wantedN rfl (by decide) (E.move f6 rfl) fun a7 f7 => ?_
  clear f6 a6
  first | refine f7.splitD 9 rfl (fun h0 f8 => ?_) (fun h0 f8 => ?_) | refine f7.splitN 9 rfl (fun h0 f8 => ?_) (fun h0 f8 => ?_) | refine f7.splitNB 9 rfl (fun h0 f8 => ?_) (fun h0 f8 => ?_) | refine f7.split 9 rfl (fun h0 f8 => ?_) (fun h0 f8 => ?_)
  · clear f7
    refine L.skip f8 (f8.noF rfl rfl) rfl (by decide) fun a9 f9 => ?_
    clear f8 a7
    refine L.skip f9 (f9.noF rfl rfl) rfl (by decide) fun a10 f10 => ?_
    clear f9 a9
    refine L.skip f10 (f10.noF rfl rfl) rfl (by decide) fun a11 f11 => ?_
    clear f10 a10
    refine L.val f11 wantedN rfl (by decide) (E.pickT f11 rfl rfl) fun a12 f12 => ?_
    clear f11 a11
    refine wpList_nil (hK2 _ _ ?_)
    try clear hK2 K2
    have f13 := f12.sub (sub_cons (i := 0) rfl (sub_cons (i := 1) rfl (sub_cons (i := 4) rfl (sub_cons (i := 13) rfl sub_nil))))
    clear f12
    refine C.condT f13 rfl ?_
    refine wp_seq_k fun K3 hK3 => ?_
    refine C.region ?_
    refine L.val f13 wantedN rfl (by decide) (E.assign f13 rfl) fun a14 f14 => ?_
    clear f13 a12
    refine wpList_nil (hK3 _ _ ?_)
    try clear hK3 K3
    have f15 := f14.sub (sub_cons (i := 0) rfl (sub_cons (i := 1) rfl (sub_cons (i := 4) rfl sub_nil)))
    clear f14
    refine wp_ret ?_
    try simp only [Exit.inBlock, Exit.then]
    refine C.ret (P := Try.prog) (fn := Try.f23) f15 rfl rfl ?_
    exact ⟨HK, by simp [withinB, *]⟩
  · clear f7
    have ha := h0
    refine L.val f8 (f8.yes rfl rfl) rfl (by decide) (E.move f8 rfl) fun a9 f9 => ?_
    clear f8 a7
    refine L.call f9 (f9.yes rfl rfl) rfl (by decide) (run_call Try.call21 (args1 f9 rfl)) (rightR_any b _ _ _ (A2.kept HK) (by unfold maxLen; omega)) ?_
    rintro e w2 ⟨kc2, rfl⟩
    refine ⟨_, rfl, fun a10 f10 => ?_⟩
    clear f9 a9
    have szw2 := kc2.size
    replace HK := HK.trans kc2 (by simp)
    clear kc2
    refine L.val f10 (f10.yes rfl rfl) rfl (by decide) (E.not f10 rfl) fun a11 f11 => ?_
    clear f10 a10
    refine L.val f11 wantedN rfl (by decide) (E.pickF f11 rfl rfl) fun a12 f12 => ?_
    clear f11 a11
    refine wpList_nil (hK2 _ _ ?_)
    try clear hK2 K2
    have f13 := f12.sub (sub_cons (i := 0) rfl (sub_cons (i := 1) rfl (sub_cons (i := 4) rfl (sub_cons (i := 13) rfl sub_nil))))
    clear f12
    first | refine f13.splitD 13 rfl (fun h1 f14 => ?_) (fun h1 f14 => ?_) | refine f13.splitN 13 rfl (fun h1 f14 => ?_) (fun h1 f14 => ?_) | refine f13.splitNB 13 rfl (fun h1 f14 => ?_) (fun h1 f14 => ?_) | refine f13.split 13 rfl (fun h1 f14 => ?_) (fun h1 f14 => ?_)
    · clear f13
      refine C.condT f14 rfl ?_
      refine wp_seq_k fun K4 hK4 => ?_
      refine C.region ?_
      refine L.val f14 wantedN rfl (by decide) (E.assign f14 rfl) fun a15 f15 => ?_
      clear f14 a12
      refine wpList_nil (hK4 _ _ ?_)
      try clear hK4 K4
      have f16 := f15.sub (sub_cons (i := 0) rfl (sub_cons (i := 1) rfl (sub_cons (i := 4) rfl sub_nil)))
      clear f15
      refine wp_ret ?_
      try simp only [Exit.inBlock, Exit.then]
      refine C.ret (P := Try.prog) (fn := Try.f23) f16 rfl rfl ?_
      exact ⟨HK, by simp [withinB, *]⟩
    · clear f13
      have hb := h1
      refine C.condF f14 rfl ?_
      refine wp_skip (hK1 _ _ ?_)
      try clear hK1 K1
      have f15 := f14.sub (sub_cons (i := 0) rfl (sub_cons (i := 1) rfl (sub_cons (i := 4) rfl sub_nil)))
      clear f14
      refine wp_seq_k fun K5 hK5 => ?_
      refine wp_seq_k fun K6 hK6 => ?_
      refine C.region ?_
      refine L.val f15 wantedN rfl (by decide) (E.assign f15 rfl) fun a16 f16 => ?_
      clear f15 a12
      refine wpList_nil (hK6 _ _ ?_)
      try clear hK6 K6
      have f17 := f16.sub (sub_cons (i := 0) rfl (sub_cons (i := 1) rfl (sub_cons (i := 4) rfl (sub_cons (i := 5) rfl sub_nil))))
      clear f16
      refine wp_block ?_
      refine C.loop (fun gk a W => ∃ k : Nat, k + gk = l.length ∧ Kept [] w W ∧ (∀ a ∈ l.take k, hasB b a = true) ∧ Fr 27 a [(0, .slice A l.length c), (1, .slice A' b.length c'), (5, .int .i64 k)]) (l.length) ?_ ?_
      · exact ⟨0, by omega, HK, by simp, f17.sub (sub_cons rfl (sub_cons rfl (sub_cons rfl sub_nil)))⟩
      · intro gk8 a18 w3 hI KL7 hKL7
        obtain ⟨k, hk, HK, hq, f18⟩ := hI
        try clear f17
        refine wp_seq_k fun K8 hK8 => ?_
        refine wp_seq_k fun K9 hK9 => ?_
        refine C.region ?_
        refine L.val f18 wantedN rfl (by decide) (E.move f18 rfl) fun a19 f19 => ?_
        clear f18 a18
        refine L.val f19 wantedN rfl (by decide) (E.move f19 rfl) fun a20 f20 => ?_
        clear f19 a19
        refine L.val f20 wantedN rfl (by decide) (E.lenL f20 Try.underlying24 rfl) fun a21 f21 => ?_
        clear f20 a20
        refine L.val f21 wantedN rfl (by decide) (E.lss f21 rfl rfl) fun a22 f22 => ?_
        clear f21 a21
        refine wpList_nil (hK9 _ _ ?_)
        try clear hK9 K9
        have f23 := f22.sub (sub_cons (i := 0) rfl (sub_cons (i := 1) rfl (sub_cons (i := 5) rfl (sub_cons (i := 14) rfl (sub_cons (i := 15) rfl (sub_cons (i := 16) rfl (sub_cons (i := 17) rfl sub_nil)))))))
        clear f22
        first | refine f23.splitD 17 rfl (fun h2 f24 => ?_) (fun h2 f24 => ?_) | refine f23.splitN 17 rfl (fun h2 f24 => ?_) (fun h2 f24 => ?_) | refine f23.splitNB 17 rfl (fun h2 f24 => ?_) (fun h2 f24 => ?_) | refine f23.split 17 rfl (fun h2 f24 => ?_) (fun h2 f24 => ?_)
        · clear f23
          obtain ⟨d, hd⟩ : ∃ d, l[k]? = some d := ⟨l[k]'(by omega), List.getElem?_eq_getElem _⟩
          obtain ⟨bk, off, hA⟩ := A1.addr (i := k) (by omega)
          refine C.condT f24 rfl ?_
          refine wp_skip (hK8 _ _ ?_)
          try clear hK8 K8
          have f25 := f24.sub (sub_cons (i := 0) rfl (sub_cons (i := 1) rfl (sub_cons (i := 5) rfl (sub_cons (i := 14) rfl (sub_cons (i := 15) rfl (sub_cons (i := 16) rfl (sub_cons (i := 17) rfl sub_nil)))))))
          clear f24
          refine wp_seq_k fun K10 hK10 => ?_
          refine wp_block ?_
          refine wp_seq_k fun K11 hK11 => ?_
          refine C.region ?_
          refine L.val f25 wantedN rfl (by decide) (E.move f25 rfl) fun a26 f26 => ?_
          clear f25 a22
          refine L.val f26 wantedN rfl (by decide) (E.move f26 rfl) fun a27 f27 => ?_
          clear f26 a26
          refine L.val f27 wantedN rfl (by decide) (E.move f27 rfl) fun a28 f28 => ?_
          clear f27 a27
          refine L.val f28 wantedN rfl (by decide) (E.indexA f28 (by first | rfl | assumption) Try.underlying24 wsz32_d rfl rfl (by omega) (by omega)) fun a29 f29 => ?_
          clear f28 a28
          refine L.val f29 wantedN rfl (by decide) (by exact E.loadR f29 Try.underlying32 rfl wsz32_d rfl ((A1.kept HK).row hA hd) rfl) fun a30 f30 => ?_
          clear f29 a29
          refine L.call f30 wantedN rfl (by decide) (run_call Try.call24 (args2 f30 rfl rfl)) (HasR_any b _ _ _ _ (A2.kept HK) hm') ?_
          rintro e w4 ⟨kc4, rfl⟩
          refine ⟨_, rfl, fun a31 f31 => ?_⟩
          clear f30 a30
          have szw4 := kc4.size
          replace HK := HK.trans kc4 (by simp)
          clear kc4
          refine L.val f31 wantedN rfl (by decide) (E.not f31 rfl) fun a32 f32 => ?_
          clear f31 a31
          refine wpList_nil (hK11 _ _ ?_)
          try clear hK11 K11
          have f33 := f32.sub (sub_cons (i := 0) rfl (sub_cons (i := 1) rfl (sub_cons (i := 5) rfl (sub_cons (i := 14) rfl (sub_cons (i := 15) rfl (sub_cons (i := 16) rfl (sub_cons (i := 17) rfl (sub_cons (i := 20) rfl (sub_cons (i := 21) rfl (sub_cons (i := 22) rfl (sub_cons (i := 23) rfl (sub_cons (i := 24) rfl (sub_cons (i := 25) rfl (sub_cons (i := 26) rfl sub_nil))))))))))))))
          clear f32
          first | refine f33.splitD 26 rfl (fun h3 f34 => ?_) (fun h3 f34 => ?_) | refine f33.splitN 26 rfl (fun h3 f34 => ?_) (fun h3 f34 => ?_) | refine f33.splitNB 26 rfl (fun h3 f34 => ?_) (fun h3 f34 => ?_) | refine f33.split 26 rfl (fun h3 f34 => ?_) (fun h3 f34 => ?_)
          · clear f33
            have hn1 := h3
            refine C.condT f34 rfl ?_
            refine wp_seq_k fun K12 hK12 => ?_
            refine C.region ?_
            refine L.val f34 wantedN rfl (by decide) (E.assign f34 rfl) fun a35 f35 => ?_
            clear f34 a32
            refine wpList_nil (hK12 _ _ ?_)
            try clear hK12 K12
            have f36 := f35.sub (sub_cons (i := 0) rfl (sub_cons (i := 1) rfl (sub_cons (i := 4) rfl (sub_cons (i := 5) rfl (sub_cons (i := 14) rfl (sub_cons (i := 15) rfl (sub_cons (i := 16) rfl (sub_cons (i := 17) rfl (sub_cons (i := 20) rfl (sub_cons (i := 21) rfl (sub_cons (i := 22) rfl (sub_cons (i := 23) rfl (sub_cons (i := 24) rfl (sub_cons (i := 25) rfl (sub_cons (i := 26) rfl sub_nil)))))))))))))))
            clear f35
            refine wp_ret ?_
            try simp only [Exit.inBlock, Exit.then]
            refine C.ret (P := Try.prog) (fn := Try.f23) f36 rfl rfl ?_
            exact ⟨HK, by rw [within_no ha hb (List.mem_of_getElem? hd) hn1]⟩
          · clear f33
            have hn1 := h3
            refine C.condF f34 rfl ?_
            refine wp_skip (hK10 _ _ ?_)
            try clear hK10 K10
            have f35 := f34.sub (sub_cons (i := 0) rfl (sub_cons (i := 1) rfl (sub_cons (i := 5) rfl (sub_cons (i := 14) rfl (sub_cons (i := 15) rfl (sub_cons (i := 16) rfl (sub_cons (i := 17) rfl (sub_cons (i := 20) rfl (sub_cons (i := 21) rfl (sub_cons (i := 22) rfl (sub_cons (i := 23) rfl (sub_cons (i := 24) rfl (sub_cons (i := 25) rfl (sub_cons (i := 26) rfl sub_nil))))))))))))))
            clear f34
            refine C.region ?_
            refine L.val f35 wantedN rfl (by decide) (E.move f35 rfl) fun a36 f36 => ?_
            clear f35 a32
            refine L.val f36 wantedN rfl (by decide) (E.add f36 rfl rfl (IntWalk.i64_in _ (by omega))) fun a37 f37 => ?_
            clear f36 a36
            refine L.val f37 wantedN rfl (by decide) (E.assign f37 rfl) fun a38 f38 => ?_
            clear f37 a37
            refine wpList_nil (hKL7 _ _ (gk8 - 1) ?_ ?_)
            · omega
            · exact ⟨k + 1, by omega, HK, in_take hq hd hn1, f38.sub (sub_cons rfl (sub_cons rfl (sub_cons rfl sub_nil)))⟩
        · clear f23
          refine C.condF f24 rfl ?_
          refine wp_exit (hK5 _ _ ?_)
          try clear hK5 K5
          have f25 := f24.sub sub_nil
          clear f24
          refine wp_seq_k fun K13 hK13 => ?_
          refine C.region ?_
          refine L.val f25 wantedN rfl (by decide) (E.assign f25 rfl) fun a26 f26 => ?_
          clear f25 a22
          refine wpList_nil (hK13 _ _ ?_)
          try clear hK13 K13
          have f27 := f26.sub (sub_cons (i := 4) rfl sub_nil)
          clear f26
          refine wp_ret ?_
          try simp only [Exit.inBlock, Exit.then]
          refine C.ret (P := Try.prog) (fn := Try.f23) f27 rfl rfl ?_
          exact ⟨HK, by rw [within_yes ha hb (all_take hq (by omega))]⟩

set_option maxHeartbeats 1000000 in
theorem dotsEq_any (l b : List Dt) (A A' : Option Addr) (c c' : Nat) (w : World) (A1 : Ds w A l) (A2 : Ds w A' b) (hm : l.length ≤ maxLen) (hm' : b.length ≤ maxLen) : Calls Try.prog 14 #[.slice A l.length c, .slice A' b.length c'] w (fun e w' => Kept [] w w' ∧ e = .returned (.bool (decide (l = b)))) := by
  have HK : Kept [] w w := Kept.refl [] w
  unfold maxLen at hm hm'
  refine C.enter Try.func14 rfl Try.ntmps14 rfl ?_
  intro a0 f0
  have f1 : Fr 26 a0 [(0, .slice A l.length c), (1, .slice A' b.length c')] := f0
  clear f0
  refine wp_seq_k fun K0 hK0 => ?_
  refine C.region ?_
  refine L.val f1 wantedN rfl (by decide) (E.assign f1 rfl) fun a2 f2 => ?_
  clear f1 a0
  refine wpList_nil (hK0 _ _ ?_)
  try clear hK0 K0
  have f3 := f2.sub (sub_cons (i := 0) rfl (sub_cons (i := 1) rfl (sub_cons (i := 4) rfl sub_nil)))
  clear f2
  refine wp_seq_k fun K1 hK1 => ?_
  refine wp_seq_k fun K2 hK2 => ?_
  refine C.region ?_
  refine L.val f3 wantedN rfl (by decide) (E.move f3 rfl) fun a4 f4 => ?_
  clear f3 a2
  refine L.val f4 wantedN rfl (by decide) (E.lenL f4 Try.underlying24 rfl) fun a5 f5 => ?_
  clear f4 a4
  refine L.val f5 wantedN rfl (by decide) (E.move f5 rfl) fun a6 f6 => ?_
  clear f5 a5
  refine L.val f6 wantedN rfl (by decide) (E.lenL f6 Try.underlying24 rfl) fun a7 f7 => ?_
  clear f6 a6
  refine L.val f7 wantedN rfl (by decide) (E.neq f7 rfl rfl) fun a8 f8 => ?_
  clear f7 a7
  refine wpList_nil (hK2 _ _ ?_)
  try clear hK2 K2
  have f9 := f8.sub (sub_cons (i := 0) rfl (sub_cons (i := 1) rfl (sub_cons (i := 4) rfl (sub_cons (i := 10) rfl sub_nil))))
  clear f8
  first | refine f9.splitD 10 rfl (fun h0 f10 => ?_) (fun h0 f10 => ?_) | refine f9.splitN 10 rfl (fun h0 f10 => ?_) (fun h0 f10 => ?_) | refine f9.splitNB 10 rfl (fun h0 f10 => ?_) (fun h0 f10 => ?_) | refine f9.split 10 rfl (fun h0 f10 => ?_) (fun h0 f10 => ?_)
  · clear f9
    refine C.condT f10 rfl ?_
    refine wp_seq_k fun K3 hK3 => ?_
    refine C.region ?_
    refine L.val f10 wantedN rfl (by decide) (E.assign f10 rfl) fun a11 f11 => ?_
    clear f10 a8
    refine wpList_nil (hK3 _ _ ?_)
    try clear hK3 K3
    have f12 := f11.sub (sub_cons (i := 0) rfl (sub_cons (i := 1) rfl (sub_cons (i := 4) rfl sub_nil)))
    clear f11
    refine wp_ret ?_
    try simp only [Exit.inBlock, Exit.then]
    refine C.ret (P := Try.prog) (fn := Try.f14) f12 rfl rfl ?_
    exact ⟨HK, by rw [decide_eq_false]; intro e; subst e; omega⟩
  · clear f9
    have hlen := h0
    refine C.condF f10 rfl ?_
    refine wp_skip (hK1 _ _ ?_)
    try clear hK1 K1
    have f11 := f10.sub (sub_cons (i := 0) rfl (sub_cons (i := 1) rfl (sub_cons (i := 4) rfl sub_nil)))
    clear f10
    refine wp_seq_k fun K4 hK4 => ?_
    refine wp_seq_k fun K5 hK5 => ?_
    refine C.region ?_
    refine L.val f11 wantedN rfl (by decide) (E.assign f11 rfl) fun a12 f12 => ?_
    clear f11 a8
    refine wpList_nil (hK5 _ _ ?_)
    try clear hK5 K5
    have f13 := f12.sub (sub_cons (i := 0) rfl (sub_cons (i := 1) rfl (sub_cons (i := 4) rfl (sub_cons (i := 5) rfl sub_nil))))
    clear f12
    refine wp_block ?_
    refine C.loop (fun gk a W => ∃ k : Nat, k + gk = l.length ∧ Kept [] w W ∧ l.take k = b.take k ∧ Fr 26 a [(0, .slice A l.length c), (1, .slice A' b.length c'), (5, .int .i64 k)]) (l.length) ?_ ?_
    · exact ⟨0, by omega, HK, rfl, f13.sub (sub_cons rfl (sub_cons rfl (sub_cons rfl sub_nil)))⟩
    · intro gk7 a14 w1 hI KL6 hKL6
      obtain ⟨k, hk, HK, hq, f14⟩ := hI
      try clear f13
      refine wp_seq_k fun K7 hK7 => ?_
      refine wp_seq_k fun K8 hK8 => ?_
      refine C.region ?_
      refine L.val f14 wantedN rfl (by decide) (E.move f14 rfl) fun a15 f15 => ?_
      clear f14 a14
      refine L.val f15 wantedN rfl (by decide) (E.move f15 rfl) fun a16 f16 => ?_
      clear f15 a15
      refine L.val f16 wantedN rfl (by decide) (E.lenL f16 Try.underlying24 rfl) fun a17 f17 => ?_
      clear f16 a16
      refine L.val f17 wantedN rfl (by decide) (E.lss f17 rfl rfl) fun a18 f18 => ?_
      clear f17 a17
      refine wpList_nil (hK8 _ _ ?_)
      try clear hK8 K8
      have f19 := f18.sub (sub_cons (i := 0) rfl (sub_cons (i := 1) rfl (sub_cons (i := 5) rfl (sub_cons (i := 11) rfl (sub_cons (i := 12) rfl (sub_cons (i := 13) rfl (sub_cons (i := 14) rfl sub_nil)))))))
      clear f18
      first | refine f19.splitD 14 rfl (fun h1 f20 => ?_) (fun h1 f20 => ?_) | refine f19.splitN 14 rfl (fun h1 f20 => ?_) (fun h1 f20 => ?_) | refine f19.splitNB 14 rfl (fun h1 f20 => ?_) (fun h1 f20 => ?_) | refine f19.split 14 rfl (fun h1 f20 => ?_) (fun h1 f20 => ?_)
      · clear f19
        obtain ⟨d, hd⟩ : ∃ d, l[k]? = some d := ⟨l[k]'(by omega), List.getElem?_eq_getElem _⟩
        obtain ⟨bk, off, hA⟩ := A1.addr (i := k) (by omega)
        obtain ⟨d', hd'⟩ : ∃ d, b[k]? = some d := ⟨b[k]'(by omega), List.getElem?_eq_getElem _⟩
        obtain ⟨bk', off', hA'⟩ := A2.addr (i := k) (by omega)
        refine C.condT f20 rfl ?_
        refine wp_skip (hK7 _ _ ?_)
        try clear hK7 K7
        have f21 := f20.sub (sub_cons (i := 0) rfl (sub_cons (i := 1) rfl (sub_cons (i := 5) rfl (sub_cons (i := 11) rfl (sub_cons (i := 12) rfl (sub_cons (i := 13) rfl (sub_cons (i := 14) rfl sub_nil)))))))
        clear f20
        refine wp_seq_k fun K9 hK9 => ?_
        refine wp_block ?_
        refine wp_seq_k fun K10 hK10 => ?_
        refine R.begin (S := fun W => Kept [] w1 W) (by kernel_rfl) (by exact (Kept.refl _ _).drewN 1) ?_
        have hS6 : Kept [] w1 (w1.drewN 1) := (Kept.refl _ _).drewN 1
        obtain ⟨w2, hww2⟩ : ∃ W, W = w1.drewN 1 := ⟨_, rfl⟩
        rw [← hww2] at hS6 ⊢
        clear hww2
        refine R.take 0 f21 rfl rfl (by decide) (by kernel_rfl) (by kernel_rfl) (by kernel_rfl) (fun _ _ _ _ h => h) wantedN hS6 (fun W hW => (E.move f21 rfl)) fun a22 f22 => ?_
        clear f21 a18
        refine R.take 1 f22 rfl rfl (by decide) (by kernel_rfl) (by kernel_rfl) (by kernel_rfl) (fun _ _ _ _ h => h) wantedN hS6 (fun W hW => (E.move f22 rfl)) fun a23 f23 => ?_
        clear f22 a22
        refine R.take 2 f23 rfl rfl (by decide) (by kernel_rfl) (by kernel_rfl) (by kernel_rfl) (fun _ _ _ _ h => h) wantedN hS6 (fun W hW => (E.indexA f23 (by first | rfl | assumption) Try.underlying24 wsz32_d rfl rfl (by omega) (by omega))) fun a24 f24 => ?_
        clear f23 a23
        refine R.take 3 f24 rfl rfl (by decide) (by kernel_rfl) (by kernel_rfl) (by kernel_rfl) (fun _ _ _ _ h => h) wantedN hS6 (fun W hW => (by first | exact E.loadR f24 Try.underlying32 rfl wsz32_d rfl ((A1.kept (HK.trans hW (by simp))).row hA hd) rfl | exact E.loadR f24 Try.underlying32 rfl wsz32_d rfl ((A2.kept (HK.trans hW (by simp))).row hA' hd') rfl)) fun a25 f25 => ?_
        clear f24 a24
        refine R.take 4 f25 rfl rfl (by decide) (by kernel_rfl) (by kernel_rfl) (by kernel_rfl) (fun _ _ _ _ h => h) wantedN hS6 (fun W hW => (E.move f25 rfl)) fun a26 f26 => ?_
        clear f25 a25
        refine R.take 5 f26 rfl rfl (by decide) (by kernel_rfl) (by kernel_rfl) (by kernel_rfl) (fun _ _ _ _ h => h) wantedN hS6 (fun W hW => (E.move f26 rfl)) fun a27 f27 => ?_
        clear f26 a26
        refine R.take 6 f27 rfl rfl (by decide) (by kernel_rfl) (by kernel_rfl) (by kernel_rfl) (fun _ _ _ _ h => h) wantedN hS6 (fun W hW => (E.indexA f27 (by first | rfl | assumption) Try.underlying24 wsz32_d rfl rfl (by omega) (by omega))) fun a28 f28 => ?_
        clear f27 a27
        refine R.take 7 f28 rfl rfl (by decide) (by kernel_rfl) (by kernel_rfl) (by kernel_rfl) (fun _ _ _ _ h => h) wantedN hS6 (fun W hW => (by first | exact E.loadR f28 Try.underlying32 rfl wsz32_d rfl ((A1.kept (HK.trans hW (by simp))).row hA hd) rfl | exact E.loadR f28 Try.underlying32 rfl wsz32_d rfl ((A2.kept (HK.trans hW (by simp))).row hA' hd') rfl)) fun a29 f29 => ?_
        clear f28 a28
        refine R.take 8 f29 rfl rfl (by decide) (by kernel_rfl) (by kernel_rfl) (by kernel_rfl) (fun _ _ _ _ h => h) wantedN hS6 (fun W hW => (E.neqV f29 rfl rfl (neqDot _ _ _ _))) fun a30 f30 => ?_
        clear f29 a29
        have szw2r := hS6.size
        replace HK := HK.trans hS6 (by simp)
        clear hS6
        refine R.done (by kernel_rfl) (hK10 _ _ ?_)
        try clear hK10 K10
        have f31 := f30.sub (sub_cons (i := 0) rfl (sub_cons (i := 1) rfl (sub_cons (i := 5) rfl (sub_cons (i := 11) rfl (sub_cons (i := 12) rfl (sub_cons (i := 13) rfl (sub_cons (i := 14) rfl (sub_cons (i := 17) rfl (sub_cons (i := 18) rfl (sub_cons (i := 19) rfl (sub_cons (i := 20) rfl (sub_cons (i := 21) rfl (sub_cons (i := 22) rfl (sub_cons (i := 23) rfl (sub_cons (i := 24) rfl (sub_cons (i := 25) rfl sub_nil))))))))))))))))
        clear f30
        first | refine f31.splitD 25 rfl (fun h2 f32 => ?_) (fun h2 f32 => ?_) | refine f31.splitN 25 rfl (fun h2 f32 => ?_) (fun h2 f32 => ?_) | refine f31.splitNB 25 rfl (fun h2 f32 => ?_) (fun h2 f32 => ?_) | refine f31.split 25 rfl (fun h2 f32 => ?_) (fun h2 f32 => ?_)
        · clear f31
          refine C.condT f32 rfl ?_
          refine wp_seq_k fun K11 hK11 => ?_
          refine C.region ?_
          refine L.val f32 wantedN rfl (by decide) (E.assign f32 rfl) fun a33 f33 => ?_
          clear f32 a30
          refine wpList_nil (hK11 _ _ ?_)
          try clear hK11 K11
          have f34 := f33.sub (sub_cons (i := 0) rfl (sub_cons (i := 1) rfl (sub_cons (i := 4) rfl (sub_cons (i := 5) rfl (sub_cons (i := 11) rfl (sub_cons (i := 12) rfl (sub_cons (i := 13) rfl (sub_cons (i := 14) rfl (sub_cons (i := 17) rfl (sub_cons (i := 18) rfl (sub_cons (i := 19) rfl (sub_cons (i := 20) rfl (sub_cons (i := 21) rfl (sub_cons (i := 22) rfl (sub_cons (i := 23) rfl (sub_cons (i := 24) rfl (sub_cons (i := 25) rfl sub_nil)))))))))))))))))
          clear f33
          refine wp_ret ?_
          try simp only [Exit.inBlock, Exit.then]
          refine C.ret (P := Try.prog) (fn := Try.f14) f34 rfl rfl ?_
          exact ⟨HK, by rw [decide_eq_false]; intro e; subst e; rw [hd] at hd'; cases hd'; contradiction⟩
        · clear f31
          refine C.condF f32 rfl ?_
          refine wp_skip (hK9 _ _ ?_)
          try clear hK9 K9
          have f33 := f32.sub (sub_cons (i := 0) rfl (sub_cons (i := 1) rfl (sub_cons (i := 5) rfl (sub_cons (i := 11) rfl (sub_cons (i := 12) rfl (sub_cons (i := 13) rfl (sub_cons (i := 14) rfl (sub_cons (i := 17) rfl (sub_cons (i := 18) rfl (sub_cons (i := 19) rfl (sub_cons (i := 20) rfl (sub_cons (i := 21) rfl (sub_cons (i := 22) rfl (sub_cons (i := 23) rfl (sub_cons (i := 24) rfl (sub_cons (i := 25) rfl sub_nil))))))))))))))))
          clear f32
          refine C.region ?_
          refine L.val f33 wantedN rfl (by decide) (E.move f33 rfl) fun a34 f34 => ?_
          clear f33 a30
          refine L.val f34 wantedN rfl (by decide) (E.add f34 rfl rfl (IntWalk.i64_in _ (by omega))) fun a35 f35 => ?_
          clear f34 a34
          refine L.val f35 wantedN rfl (by decide) (E.assign f35 rfl) fun a36 f36 => ?_
          clear f35 a35
          refine wpList_nil (hKL6 _ _ (gk7 - 1) ?_ ?_)
          · omega
          · exact ⟨k + 1, by omega, HK, eq_take hq hd hd' (by assumption), f36.sub (sub_cons rfl (sub_cons rfl (sub_cons rfl sub_nil)))⟩
      · clear f19
        refine C.condF f20 rfl ?_
        refine wp_exit (hK4 _ _ ?_)
        try clear hK4 K4
        have f21 := f20.sub sub_nil
        clear f20
        refine wp_seq_k fun K12 hK12 => ?_
        refine C.region ?_
        refine L.val f21 wantedN rfl (by decide) (E.assign f21 rfl) fun a22 f22 => ?_
        clear f21 a18
        refine wpList_nil (hK12 _ _ ?_)
        try clear hK12 K12
        have f23 := f22.sub (sub_cons (i := 4) rfl sub_nil)
        clear f22
        refine wp_ret ?_
        try simp only [Exit.inBlock, Exit.then]
        refine C.ret (P := Try.prog) (fn := Try.f14) f23 rfl rfl ?_
        exact ⟨HK, by rw [decide_eq_true]; rw [List.take_of_length_le (by omega), List.take_of_length_le (by omega)] at hq; exact hq⟩

end Go.Proofs.Ytahmlcjgcdajbaa
