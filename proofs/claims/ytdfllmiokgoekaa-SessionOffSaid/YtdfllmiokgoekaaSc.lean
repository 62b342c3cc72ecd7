/- Contracts: bytes.Clone, copied. -/
import Derived.Test.YtdfllmiokgoekaaSb
import Derived.Test.YtdfllmiokgoekaaRc
set_option linter.all false
namespace Go.Proofs.Ytdfllmiokgoekaa
open Go.RowKit Go.Hub
theorem wzib5_c : (Try.prog.info? 5).map (fun i => (i.zero, i.size, i.bytes)) = some (some (.int .u8 0), 1, 1) := by kernel_rfl
theorem wsz5_c : (Try.prog.info? 5).map (·.size) = some 1 := by kernel_rfl
theorem wsz22_c : (Try.prog.info? 22).map (·.size) = some 1 := by kernel_rfl
theorem wsz43_c : (Try.prog.info? 43).map (·.size) = some 4 := by kernel_rfl

def BytesPost (n : Nat) (xs : List Value) (w : World) (e : Ending) (w' : World) : Prop := Kept [] w w' ∧ ∃ A c, e = .returned (.slice A n c) ∧ Fresh w w' 5 1 A n c xs
def CopyPost (tp : ByteArray) (n : Nat) (xs : List Value) (qos : Int) (ret : Bool) (w : World) (e : Ending) (w' : World) : Prop := Kept [] w w' ∧ ∃ A c, e = .returned (.agg #[.string tp, .slice A n c, .int .i64 qos, .bool ret]) ∧ Fresh w w' 5 1 A n c xs

set_option maxHeartbeats 1000000 in
theorem clone_any (A : Option Addr) (n c : Nat) (xs : List Value) (w : World) (A1 : Sl w A n 1 xs) (h1 : ∀ u ∈ xs, u.oneCell' = true) (hm : n ≤ 1000000000) : Calls Try.prog 37 #[.slice A n c] w (BytesPost n xs w) := by
  have HK : Kept [] w w := Kept.refl [] w
  refine C.enter Try.func37 rfl Try.ntmps37 rfl ?_
  intro a0 f0
  have f1 : Fr 8 a0 [(0, .slice A n c)] := f0
  clear f0
  refine wp_seq_k fun K0 hK0 => ?_
  refine C.region ?_
  refine L.val f1 wantedN rfl (by decide) (E.assign f1 rfl) fun a2 f2 => ?_
  clear f1 a0
  refine wpList_nil (hK0 _ _ ?_)
  try clear hK0 K0
  have f3 := f2.sub (sub_cons (i := 0) rfl (sub_cons (i := 2) rfl sub_nil))
  clear f2
  refine wp_seq_k fun K1 hK1 => ?_
  refine wp_seq_k fun K2 hK2 => ?_
  refine C.region ?_
  refine L.val f3 wantedN rfl (by decide) (E.move f3 rfl) fun a4 f4 => ?_
  clear f3 a2
  refine L.val f4 wantedN rfl (by decide) (E.eqlNil f4 Try.underlying22 rfl rfl) fun a5 f5 => ?_
  clear f4 a4
  refine wpList_nil (hK2 _ _ ?_)
  try clear hK2 K2
  have f6 := f5.sub (sub_cons (i := 0) rfl (sub_cons (i := 2) rfl (sub_cons (i := 4) rfl sub_nil)))
  clear f5
  first | refine f6.splitD 4 rfl (fun h0 f7 => ?_) (fun h0 f7 => ?_) | refine f6.splitN 4 rfl (fun h0 f7 => ?_) (fun h0 f7 => ?_) | refine f6.splitNB 4 rfl (fun h0 f7 => ?_) (fun h0 f7 => ?_) | refine f6.split 4 rfl (fun h0 f7 => ?_) (fun h0 f7 => ?_)
  · clear f6
    have hA0 : A = none := by simpa using h0
    have hn0 : n = 0 := by
      rcases Nat.eq_zero_or_pos n with h | h
      · exact h
      · obtain ⟨b, off, e⟩ := A1.addr h
        rw [hA0] at e
        cases e
    have hx0 : xs = [] := by have := A1.1; rw [hn0] at this; simpa using this
    refine C.condT f7 rfl ?_
    refine wp_seq_k fun K3 hK3 => ?_
    refine C.region ?_
    refine L.val f7 wantedN rfl (by decide) (E.assign f7 rfl) fun a8 f8 => ?_
    clear f7 a5
    refine wpList_nil (hK3 _ _ ?_)
    try clear hK3 K3
    have f9 := f8.sub (sub_cons (i := 0) rfl (sub_cons (i := 2) rfl sub_nil))
    clear f8
    refine wp_ret ?_
    try simp only [Exit.inBlock, Exit.then]
    refine C.ret (P := Try.prog) (fn := Try.f37) f9 rfl rfl ?_
    subst hn0 hx0
    exact ⟨HK, none, 0, rfl, Fresh.nil _ _ _ _⟩
  · clear f6
    refine C.condF f7 rfl ?_
    refine wp_skip (hK1 _ _ ?_)
    try clear hK1 K1
    have f8 := f7.sub (sub_cons (i := 0) rfl (sub_cons (i := 2) rfl sub_nil))
    clear f7
    refine wp_seq_k fun K4 hK4 => ?_
    refine C.region ?_
    refine L.buildNone f8 wantedN (by decide) Try.underlying22 wsz5_c fun a9 w1 g0 N0 f9 => ?_
    have OW := N0.own (k := 0) (size := 1) rfl (by decide)
    have Bg0 := N0.blk
    have kg0 := N0.kept
    have log0 := N0.lo
    have ltg0 := Bg0.lt
    have szw1 := kg0.size
    have frg0 : w.heap.size ≤ g0 := Nat.le_trans HK.size log0
    replace HK := HK.trans kg0 (by simp)
    clear N0 kg0
    clear f8 a5
    refine L.val f9 wantedN rfl (by decide) (E.move f9 rfl) fun a10 f10 => ?_
    clear f9 a9
    refine L.append f10 wantedN (by decide) Try.underlying22 wzib5_c rfl rfl rfl rfl (OW) (A1.kept HK) (h1) (by unfold maxLen; omega) (by omega) fun a11 w2 A2 c2 AP2 f11 => ?_
    clear f10 a10
    have kap2 : Kept [g0] w1 w2 := by simpa [Value.ownBlock] using AP2.kept
    have FR := AP2.next (⟨OW, fun b hb => by simp at hb; omega⟩ : Fresh w w1 5 1 (some ⟨g0, 0, none⟩) 0 0 _) HK.size
    have szw2 := kap2.size
    replace HK := HK.trans kap2 (by intro x hx hlt; simp at hx; subst hx; first | (exfalso; omega) | simp)
    clear kap2
    refine L.val f11 wantedN rfl (by decide) (E.assign f11 rfl) fun a12 f12 => ?_
    clear f11 a11
    refine wpList_nil (hK4 _ _ ?_)
    try clear hK4 K4
    have f13 := f12.sub (sub_cons (i := 2) rfl sub_nil)
    clear f12
    refine wp_ret ?_
    try simp only [Exit.inBlock, Exit.then]
    refine C.ret (P := Try.prog) (fn := Try.f37) f13 rfl rfl ?_
    simp only [Nat.zero_add] at FR f13 ⊢
    exact ⟨HK, _, _, rfl, by simpa using FR⟩

set_option maxHeartbeats 1000000 in
theorem copied_any (tp : ByteArray) (A : Option Addr) (n c : Nat) (xs : List Value) (qos : Int) (ret : Bool) (w : World) (A1 : Sl w A n 1 xs) (h1 : ∀ u ∈ xs, u.oneCell' = true) (hm : n ≤ 1000000000) : Calls Try.prog 39 #[.agg #[.string tp, .slice A n c, .int .i64 qos, .bool ret]] w (CopyPost tp n xs qos ret w) := by
  have HK : Kept [] w w := Kept.refl [] w
  refine C.enter Try.func39 rfl Try.ntmps39 rfl ?_
  intro a0 f0
  have f1 : Fr 8 a0 [(0, .agg #[.string tp, .slice A n c, .int .i64 qos, .bool ret])] := f0
  clear f0
  refine wp_seq_k fun K0 hK0 => ?_
  refine C.region ?_
  refine L.box f1 wantedN (by decide) rfl rfl fun a2 w1 g0 N0 f2 => ?_
  have Bg0 := N0.blk
  have kg0 := N0.kept
  have log0 := N0.lo
  have ltg0 := Bg0.lt
  have szw1 := kg0.size
  have frg0 : w.heap.size ≤ g0 := Nat.le_trans HK.size log0
  replace HK := HK.trans kg0 (by simp)
  clear N0 kg0
  clear f1 a0
  refine L.alloc f2 wantedN (by decide) (z := (.agg #[(.string ⟨#[]⟩), (.slice none 0 0), (.int .i64 0), (.bool false)])) (fun _ => by kernel_rfl) rfl fun a3 w2 g1 N1 f3 => ?_
  have Bg1 := N1.blk
  have kg1 := N1.kept
  have log1 := N1.lo
  have ltg1 := Bg1.lt
  have szw2 := kg1.size
  have frg1 : w.heap.size ≤ g1 := Nat.le_trans HK.size log1
  have neg0_g1 : g0 ≠ g1 := by have := Bg0.lt; omega
  replace HK := HK.trans kg1 (by simp)
  replace Bg0 := Bg0.kept kg1 (by simp)
  clear N1 kg1
  clear f2 a2
  refine wpList_nil (hK0 _ _ ?_)
  try clear hK0 K0
  have f4 := f3.sub (sub_cons (i := 1) rfl (sub_cons (i := 2) rfl sub_nil))
  clear f3
  refine wp_seq_k fun K1 hK1 => ?_
  refine C.region ?_
  refine L.val f4 wantedN rfl (by decide) (E.fieldAddr f4 Try.underlying43 rfl rfl wsz22_c) fun a5 f5 => ?_
  clear f4 a3
  refine L.val f5 wantedN rfl (by decide) (by first | exact E.load f5 Try.underlying22 rfl rfl ((Bg0).cl rfl) | exact E.load f5 Try.underlying22 rfl rfl ((Bg1).cl rfl)) fun a6 f6 => ?_
  clear f5 a5
  refine L.call f6 wantedN rfl (by decide) (run_call Try.call37 (args1 f6 rfl)) (clone_any A n c xs _ (A1.kept HK) h1 hm) ?_
  rintro e w3 ⟨kc3, Ac, cc, rfl, FC⟩
  refine ⟨_, rfl, fun a7 f7 => ?_⟩
  clear f6 a6
  have szw3 := kc3.size
  replace HK := HK.trans kc3 (by simp)
  replace Bg0 := Bg0.kept kc3 (by simp)
  replace Bg1 := Bg1.kept kc3 (by simp)
  clear kc3
  refine L.val f7 wantedN rfl (by decide) (E.fieldAddr f7 Try.underlying43 rfl rfl wsz22_c) fun a8 f8 => ?_
  clear f7 a7
  refine L.store f8 wantedN wsz22_c rfl rfl rfl Bg0 (by first | decide | (simp [Value.cells]; done)) fun a9 w4 f9 NB4 ks4 => ?_
  have szw4 := ks4.size
  replace HK := HK.trans ks4 (by intro x hx hlt; simp at hx; subst hx; first | (exfalso; omega) | simp)
  replace Bg1 := Bg1.kept ks4 (by simp; omega)
  replace FC := FC.kept ks4 (fun b hb hx => by simp at hx; subst hx; have := FC.lo _ hb; omega)
  replace Bg0 := NB4
  simp only [List.setIfInBounds_toArray, List.set_cons_zero, List.set_cons_succ, Nat.reduceAdd, Nat.zero_add] at Bg0
  clear ks4 f8 a8
  refine wpList_nil (hK1 _ _ ?_)
  try clear hK1 K1
  have f10 := f9.sub (sub_cons (i := 1) rfl (sub_cons (i := 2) rfl sub_nil))
  clear f9
  refine wp_seq_k fun K2 hK2 => ?_
  refine C.region ?_
  refine L.val f10 wantedN rfl (by decide) (by first | exact E.loadB f10 Try.underlying43 rfl wsz43_c rfl (Bg1) rfl | exact E.loadB f10 Try.underlying43 rfl wsz43_c rfl (Bg0) rfl) fun a11 f11 => ?_
  clear f10 a9
  refine L.storeR f11 wantedN wsz43_c rfl rfl rfl Bg1 rfl rfl fun a12 w5 f12 NB5 ks5 => ?_
  have szw5 := ks5.size
  replace HK := HK.trans ks5 (by intro x hx hlt; simp at hx; subst hx; first | (exfalso; omega) | simp)
  replace FC := FC.kept ks5 (fun b hb hx => by simp at hx; subst hx; have := FC.lo _ hb; omega)
  replace Bg0 := Bg0.kept ks5 (by simp; omega)
  replace Bg1 := NB5
  clear ks5 f11 a11
  refine wpList_nil (hK2 _ _ ?_)
  try clear hK2 K2
  have f13 := f12.sub (sub_cons (i := 2) rfl sub_nil)
  clear f12
  refine wp_ret ?_
  try simp only [Exit.inBlock, Exit.then]
  refine C.retC (P := Try.prog) (fn := Try.f39) f13 rfl rfl Bg1 Try.underlying43 rfl wsz43_c ?_
  exact ⟨HK, Ac, cc, rfl, FC.lower (by omega)⟩

end Go.Proofs.Ytdfllmiokgoekaa
