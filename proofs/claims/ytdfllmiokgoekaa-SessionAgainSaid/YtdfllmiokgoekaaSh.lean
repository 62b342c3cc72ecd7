/- Contracts: queue.Push, Pop. -/
import Derived.Test.YtdfllmiokgoekaaSg
import Derived.Test.YtdfllmiokgoekaaBa
set_option linter.all false
namespace Go.Proofs.Ytdfllmiokgoekaa
open Go.RowKit Go.Hub
theorem wzib43_g : (Try.prog.info? 43).map (fun i => (i.zero, i.size, i.bytes)) = some (some (.agg #[(.string ⟨#[]⟩), (.slice none 0 0), (.int .i64 0), (.bool false)]), 4, 56) := by kernel_rfl
theorem wzi43_g : (Try.prog.info? 43).map (fun i => (i.zero, i.size)) = some (some (.agg #[(.string ⟨#[]⟩), (.slice none 0 0), (.int .i64 0), (.bool false)]), 4) := by kernel_rfl
theorem wbs70_1_g (x0_0 x0_1 x0_2 x0_3 : Value) : Instr.fill (fun i => some (i * 4, 4)) ((Array.range (1 * 4)).map fun j => (Value.cells (.agg #[(.string ⟨#[]⟩), (.slice none 0 0), (.int .i64 0), (.bool false)]))[j % (Value.cells (.agg #[(.string ⟨#[]⟩), (.slice none 0 0), (.int .i64 0), (.bool false)])).size]!) [(0, .agg #[x0_0, x0_1, x0_2, x0_3])] = some #[x0_0, x0_1, x0_2, x0_3] := by kernel_rfl
theorem wsz3_g : (Try.prog.info? 3).map (·.size) = some 1 := by kernel_rfl
theorem wsz43_g : (Try.prog.info? 43).map (·.size) = some 4 := by kernel_rfl
theorem wsz70_g : (Try.prog.info? 70).map (·.size) = some 1 := by kernel_rfl
theorem wbl43__g  : Try.prog.built 43 [] = some #[(.string ⟨#[]⟩), (.slice none 0 0), (.int .i64 0), (.bool false)] := by kernel_rfl

theorem sl_blk {w : World} {g T size : Nat} {cs : Array Value} (B : Blk w g T cs) (h : cs.size = size) : Sl w (some ⟨g, 0, none⟩) 1 size cs.toList :=
  ⟨by simpa using h, fun _ => ⟨g, 0, rfl, B.lt, fun j u hu => by rw [Nat.zero_add]; exact B.cell_ (by simpa using hu)⟩⟩
def PushPost (B q : Nat) (l : List Mc) (lost : Int) (m : Ms) (L : List Nat) (w : World) (e : Ending) (w' : World) : Prop :=
  Mod [72, 43] [] B w w' ∧ Kept L w w' ∧ e = .returned (.bool (decide (l.length < 8))) ∧ ∃ A' c' l', QuAt B w' q A' c' l' (if l.length < 8 then lost else lost + 1) ∧ l'.map (·.m) = if l.length < 8 then l.map (·.m) ++ [m] else l.map (·.m)
def PopPost (B q : Nat) (l : List Mc) (lost : Int) (w : World) (e : Ending) (w' : World) : Prop :=
  Mod [72] [] B w w' ∧ ∃ (x : Mc) (A' : Option Addr) (c' : Nat) (r : List Mc), e = .returned (.tuple #[.agg (mcell x).toArray, .bool (!l.isEmpty)]) ∧ QuAt B w' q A' c' r lost ∧ Pay B w' x.A x.m.pay ∧ (l = x :: r ∨ l = [] ∧ r = [])
section
variable {B q : Nat} {A Ac A2 : Option Addr} {c cc c2 : Nat} {l : List Mc} {lost : Int} {m : Ms} {w W : World}
theorem push_full (h : (8 : Int) ≤ (l.length : Nat)) (hq : QuAt B w q A c l lost) (HK : Mod [72, 43] [] B w W) {L : List Nat} (KK : Kept L w W) (h' : QuAt B W q A c l (lost + 1)) : PushPost B q l lost m L w (.returned (.bool false)) W := by
  have hn : ¬ l.length < 8 := by omega
  refine ⟨HK, KK, by rw [decide_eq_false hn], A, c, l, ?_, ?_⟩
  · rw [if_neg hn]; exact h'
  · rw [if_neg hn]
theorem push_room (h : ¬ (8 : Int) ≤ (l.length : Nat)) (hq : QuAt B w q A c l lost) (HK : Mod [72, 43] [] B w W) {L : List Nat} (KK : Kept L w W) (BP : Blk W q 72 #[.slice A2 (l.length + 1) c2, .int .i64 8, .int .i64 lost])
    (RX : Own W 43 4 (.slice A2 (l.length + 1) c2) (l.length + 1) (l.flatMap mcell ++ [.string m.tp, .slice Ac m.pay.length cc, .int .i64 m.qos, .bool m.ret])) (PY : ∀ m ∈ l, Pay B W m.A m.m.pay) (HC : Pay B W Ac m.pay) (LX : ∀ a, A2 = some a → B ≤ a.block) : PushPost B q l lost m L w (.returned (.bool true)) W := by
  have hn : l.length < 8 := by omega
  refine ⟨HK, KK, by rw [decide_eq_true hn], A2, c2, l ++ [⟨m, Ac, cc⟩], ?_, ?_⟩
  · rw [if_pos hn]
    refine ⟨by simpa using BP, ?_, ?_, hq.lo, LX, by simp; omega⟩
    · rw [List.length_append, List.flatMap_append]
      exact RX
    · intro x hx
      rcases List.mem_append.1 hx with hx | hx
      · exact PY x hx
      · obtain rfl := List.mem_singleton.1 hx
        exact HC
  · rw [if_pos hn, List.map_append]
    rfl
theorem pop_none (h : ((l.length : Nat) : Int) = 0) (hq : QuAt B w q A c l lost) (HK : Mod [72] [] B w W) (h' : QuAt B W q A c l lost) : PopPost B q l lost w (.returned (.tuple #[.agg #[.string ⟨#[]⟩, .slice none 0 0, .int .i64 0, .bool false], .bool false])) W := by
  obtain rfl : l = [] := List.eq_nil_of_length_eq_zero (by omega)
  exact ⟨HK, ⟨⟨⟨#[]⟩, [], 0, false⟩, none, 0⟩, A, c, [], rfl, h', Pay.nil _ _ _, .inr ⟨rfl, rfl⟩⟩
theorem pop_one {x : Mc} {r : List Mc} (hq : QuAt B w q A c (x :: r) lost) (HK : Mod [72] [] B w W) (BP : Blk W q 72 #[.slice (if c = (1 : Int).toNat then A else A.map (·.add ((1 : Int).toNat * 4))) ((x :: r).length - (1 : Int).toNat) (c - (1 : Int).toNat), .int .i64 8, .int .i64 lost])
    (OWN : Own W 43 4 (.slice A (x :: r).length c) (x :: r).length ((x :: r).flatMap mcell)) (PY : ∀ m ∈ x :: r, Pay B W m.A m.m.pay) : PopPost B q (x :: r) lost w (.returned (.tuple #[.agg (mcell x).toArray, .bool true])) W := by
  have hl := hq.len
  refine ⟨HK, x, _, _, r, rfl, ⟨BP, ?_, fun m hm => PY m (List.mem_cons_of_mem _ hm), hq.lo, ?_, by simp at hl; omega⟩, PY x (by simp), .inl rfl⟩
  · have := OWN.cut (k := 1) (by simp)
    simpa using this
  · intro a ha
    split at ha
    · exact hq.loA a ha
    · cases A with
      | none => simp at ha
      | some a' => simp at ha; subst ha; exact hq.loA a' rfl
end

set_option maxHeartbeats 1000000 in
theorem push_any (B q : Nat) (A : Option Addr) (c : Nat) (l : List Mc) (lost : Int) (m : Ms) (Am : Option Addr) (cm : Nat) (w : World) (hq : QuAt B w q A c l lost) (HP : Pay B w Am m.pay) (hB : B ≤ w.heap.size) (hl : 0 ≤ lost ∧ lost ≤ 1000000000) : Calls Try.prog 31 #[.pointer (some ⟨q, 0, none⟩), .agg #[.string m.tp, .slice Am m.pay.length cm, .int .i64 m.qos, .bool m.ret]] w (PushPost B q l lost m (q :: (Value.slice A l.length c).ownBlock.toList) w) := by
  have HK : Mod [72, 43] [] B w w := .refl _ _ _ _
  have BP := hq.top
  have OWN := hq.own
  have PY := hq.pay
  have hloq := hq.lo
  have hlen := hq.len
  obtain ⟨MM, hMM⟩ : ∃ MM, MM = (Value.slice A l.length c).ownBlock.toList := ⟨_, rfl⟩
  have hqM : q ∉ MM := by rw [hMM]; exact own_ne hq.own hq.top (by decide)
  have KK : Kept (q :: MM) w w := Kept.refl _ _
  refine C.enter Try.func31 rfl Try.ntmps31 rfl ?_
  intro a0 f0
  have f1 : Fr 33 a0 [(0, .pointer (some ⟨q, 0, none⟩)), (1, .agg #[.string m.tp, .slice Am m.pay.length cm, .int .i64 m.qos, .bool m.ret])] := f0
  clear f0
  refine wp_seq_k fun K0 hK0 => ?_
  refine C.region ?_
  refine L.box f1 wantedN (by decide) rfl rfl fun a2 w1 g0 N0 f2 => ?_
  have Bg0 := N0.blk
  have kg0 := N0.kept
  have log0 := N0.lo
  have ltg0 := Bg0.lt
  have szw1 := kg0.size
  have frg0 : w.heap.size ≤ g0 := Nat.le_trans HK.size log0
  have neq_g0 : q ≠ g0 := by have := BP.lt; omega
  replace HK := HK.trans (.of_kept0 kg0)
  replace KK := KK.trans kg0 (by simp)
  replace BP := BP.kept kg0 (by simp)
  replace OWN := OWN.mod (Mod.of_kept0 (T := []) (M := []) (B := B) kg0) (by decide)
  replace PY := fun m hm => (PY m hm).mod (Mod.of_kept0 (T := []) (M := []) (B := B) kg0) (by decide)
  replace HP := HP.mod (Mod.of_kept0 (T := []) (M := []) (B := B) kg0) (by decide)
  clear N0 kg0
  clear f1 a0
  refine L.val f2 wantedN rfl (by decide) (E.assign f2 rfl) fun a3 f3 => ?_
  clear f2 a2
  refine wpList_nil (hK0 _ _ ?_)
  try clear hK0 K0
  have f4 := f3.sub (sub_cons (i := 0) rfl (sub_cons (i := 3) rfl (sub_cons (i := 4) rfl sub_nil)))
  clear f3
  refine wp_seq_k fun K1 hK1 => ?_
  refine wp_seq_k fun K2 hK2 => ?_
  refine R.begin (S := fun W => Kept [] w1 W) (by kernel_rfl) (by exact (Kept.refl _ _).drewN 1) ?_
  have hS1 : Kept [] w1 (w1.drewN 1) := (Kept.refl _ _).drewN 1
  have hd1 : Kept [] w1 (w1.drewN 1) := (Kept.refl _ _).drewN 1
  obtain ⟨w2, hww2⟩ : ∃ W, W = w1.drewN 1 := ⟨_, rfl⟩
  rw [← hww2] at hS1 hd1 ⊢
  clear hww2
  have szw2 := hS1.size
  refine R.take 0 f4 rfl rfl (by decide) (by kernel_rfl) (by kernel_rfl) (by kernel_rfl) (fun _ _ _ _ h => h) wantedN hS1 (fun W hW => (E.move f4 rfl)) fun a5 f5 => ?_
  clear f4 a3
  refine R.take 1 f5 rfl rfl (by decide) (by kernel_rfl) (by kernel_rfl) (by kernel_rfl) (fun _ _ _ _ h => h) wantedN hS1 (fun W hW => (E.nilCheck f5 rfl)) fun a6 f6 => ?_
  clear f5 a5
  refine R.take 2 f6 rfl rfl (by decide) (by kernel_rfl) (by kernel_rfl) (by kernel_rfl) (fun _ _ _ _ h => h) wantedN hS1 (fun W hW => (E.fieldAddr f6 Try.underlying72 rfl rfl wsz70_g)) fun a7 f7 => ?_
  clear f6 a6
  refine R.take 3 f7 rfl rfl (by decide) (by kernel_rfl) (by kernel_rfl) (by kernel_rfl) (fun _ _ _ _ h => h) wantedN hS1 (fun W hW => (by first | exact E.load f7 Try.underlying70 rfl rfl ((BP.kept hW (by simp)).cl rfl) | exact E.load f7 Try.underlying70 rfl rfl ((Bg0.kept hW (by simp)).cl rfl))) fun a8 f8 => ?_
  clear f7 a7
  refine R.take 4 f8 rfl rfl (by decide) (by kernel_rfl) (by kernel_rfl) (by kernel_rfl) (fun _ _ _ _ h => h) wantedN hS1 (fun W hW => (E.lenL f8 Try.underlying70 rfl)) fun a9 f9 => ?_
  clear f8 a8
  refine R.take 5 f9 rfl rfl (by decide) (by kernel_rfl) (by kernel_rfl) (by kernel_rfl) (fun _ _ _ _ h => h) wantedN hS1 (fun W hW => (E.move f9 rfl)) fun a10 f10 => ?_
  clear f9 a9
  refine R.take 6 f10 rfl rfl (by decide) (by kernel_rfl) (by kernel_rfl) (by kernel_rfl) (fun _ _ _ _ h => h) wantedN hS1 (fun W hW => (E.nilCheck f10 rfl)) fun a11 f11 => ?_
  clear f10 a10
  refine R.take 7 f11 rfl rfl (by decide) (by kernel_rfl) (by kernel_rfl) (by kernel_rfl) (fun _ _ _ _ h => h) wantedN hS1 (fun W hW => (E.fieldAddr f11 Try.underlying72 rfl rfl wsz3_g)) fun a12 f12 => ?_
  clear f11 a11
  refine R.take 8 f12 rfl rfl (by decide) (by kernel_rfl) (by kernel_rfl) (by kernel_rfl) (fun _ _ _ _ h => h) wantedN hS1 (fun W hW => (by first | exact E.load f12 Try.underlying3 rfl rfl ((BP.kept hW (by simp)).cl rfl) | exact E.load f12 Try.underlying3 rfl rfl ((Bg0.kept hW (by simp)).cl rfl))) fun a13 f13 => ?_
  clear f12 a12
  refine R.take 9 f13 rfl rfl (by decide) (by kernel_rfl) (by kernel_rfl) (by kernel_rfl) (fun _ _ _ _ h => h) wantedN hS1 (fun W hW => (E.geq f13 rfl rfl)) fun a14 f14 => ?_
  clear f13 a13
  have szw2r := hS1.size
  replace HK := HK.trans (.of_kept0 hS1)
  replace KK := KK.trans hS1 (by simp)
  replace BP := BP.kept hS1 (by simp)
  replace OWN := OWN.mod (Mod.of_kept0 (T := []) (M := []) (B := B) hS1) (by decide)
  replace PY := fun m hm => (PY m hm).mod (Mod.of_kept0 (T := []) (M := []) (B := B) hS1) (by decide)
  replace HP := HP.mod (Mod.of_kept0 (T := []) (M := []) (B := B) hS1) (by decide)
  replace Bg0 := Bg0.kept hS1 (by simp)
  clear hS1
  refine R.done (by kernel_rfl) (hK2 _ _ ?_)
  try clear hK2 K2
  have f15 := f14.sub (sub_cons (i := 0) rfl (sub_cons (i := 3) rfl (sub_cons (i := 4) rfl (sub_cons (i := 14) rfl sub_nil))))
  clear f14
  first | refine f15.splitD 14 rfl (fun h0 f16 => ?_) (fun h0 f16 => ?_) | refine f15.splitN 14 rfl (fun h0 f16 => ?_) (fun h0 f16 => ?_) | refine f15.splitNB 14 rfl (fun h0 f16 => ?_) (fun h0 f16 => ?_) | refine f15.split 14 rfl (fun h0 f16 => ?_) (fun h0 f16 => ?_)
  · clear f15
    have hfull := h0
    refine C.condT f16 rfl ?_
    refine wp_seq_k fun K3 hK3 => ?_
    refine C.region ?_
    refine L.val f16 wantedN rfl (by decide) (E.move f16 rfl) fun a17 f17 => ?_
    clear f16 a14
    refine L.val f17 wantedN rfl (by decide) (E.nilCheck f17 rfl) fun a18 f18 => ?_
    clear f17 a17
    refine L.val f18 wantedN rfl (by decide) (E.fieldAddr f18 Try.underlying72 rfl rfl wsz3_g) fun a19 f19 => ?_
    clear f18 a18
    refine L.val f19 wantedN rfl (by decide) (by first | exact E.load f19 Try.underlying3 rfl rfl ((BP).cl rfl) | exact E.load f19 Try.underlying3 rfl rfl ((Bg0).cl rfl)) fun a20 f20 => ?_
    clear f19 a19
    refine L.val f20 wantedN rfl (by decide) (E.add f20 rfl rfl (IntWalk.i64_in _ (by omega))) fun a21 f21 => ?_
    clear f20 a20
    refine L.val f21 wantedN rfl (by decide) (E.nilCheck f21 rfl) fun a22 f22 => ?_
    clear f21 a21
    refine L.val f22 wantedN rfl (by decide) (E.fieldAddr f22 Try.underlying72 rfl rfl wsz3_g) fun a23 f23 => ?_
    clear f22 a22
    refine L.store f23 wantedN wsz3_g rfl rfl rfl BP (by first | decide | (simp [Value.cells]; done)) fun a24 w3 f24 NB3 ks3 => ?_
    have szw3 := ks3.size
    have KM := (Mod.of_blk (T := [72]) (M := []) (B := B) ks3 BP hq.lo (by simp))
    replace HK := HK.step KM (by decide) (by simp) (by omega)
    replace KK := KK.trans ks3 (by simp)
    replace OWN := OWN.mod KM (by decide)
    replace PY := fun m hm => (PY m hm).mod KM (by decide)
    replace HP := HP.mod KM (by decide)
    replace Bg0 := Bg0.kept ks3 (by simp; omega)
    replace BP := NB3
    simp only [Value.cells, List.setIfInBounds_toArray, List.set_cons_zero, List.set_cons_succ, Nat.reduceAdd, Nat.zero_add] at BP
    clear ks3 f23 a23
    refine wpList_nil (hK3 _ _ ?_)
    try clear hK3 K3
    have f25 := f24.sub (sub_cons (i := 0) rfl (sub_cons (i := 3) rfl (sub_cons (i := 4) rfl sub_nil)))
    clear f24
    refine wp_seq_k fun K4 hK4 => ?_
    refine C.region ?_
    refine L.val f25 wantedN rfl (by decide) (E.assign f25 rfl) fun a26 f26 => ?_
    clear f25 a24
    refine wpList_nil (hK4 _ _ ?_)
    try clear hK4 K4
    have f27 := f26.sub (sub_cons (i := 0) rfl (sub_cons (i := 3) rfl (sub_cons (i := 4) rfl sub_nil)))
    clear f26
    refine wp_ret ?_
    try simp only [Exit.inBlock, Exit.then]
    refine C.ret (P := Try.prog) (fn := Try.f31) f27 rfl rfl ?_
    exact push_full hfull hq HK (hMM ▸ KK) ⟨BP, OWN, PY, hq.lo, hq.loA, hq.len⟩
  · clear f15
    have hroom := h0
    refine C.condF f16 rfl ?_
    refine wp_skip (hK1 _ _ ?_)
    try clear hK1 K1
    have f17 := f16.sub (sub_cons (i := 0) rfl (sub_cons (i := 3) rfl (sub_cons (i := 4) rfl sub_nil)))
    clear f16
    refine wp_seq_k fun K5 hK5 => ?_
    have hg0M : g0 ∉ MM := by rw [hMM]; exact own_old hq.own frg0
    have OWN1 := OWN
    refine RB.begin (S := fun W => Kept MM w2 W) 9 (by kernel_rfl) (by exact (Kept.refl _ _).drewN 1) ?_
    have hS4 : Kept MM w2 (w2.drewN 1) := (Kept.refl _ _).drewN 1
    have hd4 : Kept [] w2 (w2.drewN 1) := (Kept.refl _ _).drewN 1
    obtain ⟨w3, hww3⟩ : ∃ W, W = w2.drewN 1 := ⟨_, rfl⟩
    rw [← hww3] at hS4 hd4 ⊢
    clear hww3
    have szw3 := hS4.size
    replace HP := HP.kept0 hd4
    replace OWN := OWN.mod (T := []) (M := []) (Mod.of_kept0 (B := B) hd4) (by simp)
    refine RB.take 0 f17 rfl rfl (by decide) (by kernel_rfl) (by kernel_rfl) (by kernel_rfl) (by kernel_rfl) (fun _ _ _ _ h => h) wantedN hS4 (fun W hW => (E.move f17 rfl)) fun a18 f18 => ?_
    clear f17 a14
    refine RB.take 1 f18 rfl rfl (by decide) (by kernel_rfl) (by kernel_rfl) (by kernel_rfl) (by kernel_rfl) (fun _ _ _ _ h => h) wantedN hS4 (fun W hW => (E.move f18 rfl)) fun a19 f19 => ?_
    clear f18 a18
    refine RB.take 2 f19 rfl rfl (by decide) (by kernel_rfl) (by kernel_rfl) (by kernel_rfl) (by kernel_rfl) (fun _ _ _ _ h => h) wantedN hS4 (fun W hW => (E.nilCheck f19 rfl)) fun a20 f20 => ?_
    clear f19 a19
    refine RB.take 3 f20 rfl rfl (by decide) (by kernel_rfl) (by kernel_rfl) (by kernel_rfl) (by kernel_rfl) (fun _ _ _ _ h => h) wantedN hS4 (fun W hW => (E.fieldAddr f20 Try.underlying72 rfl rfl wsz70_g)) fun a21 f21 => ?_
    clear f20 a20
    refine RB.take 4 f21 rfl rfl (by decide) (by kernel_rfl) (by kernel_rfl) (by kernel_rfl) (by kernel_rfl) (fun _ _ _ _ h => h) wantedN hS4 (fun W hW => (by first | exact E.load f21 Try.underlying70 rfl rfl ((BP.kept hW (by assumption)).cl rfl) | exact E.load f21 Try.underlying70 rfl rfl ((Bg0.kept hW (by assumption)).cl rfl))) fun a22 f22 => ?_
    clear f21 a21
    refine RB.take 5 f22 rfl rfl (by decide) (by kernel_rfl) (by kernel_rfl) (by kernel_rfl) (by kernel_rfl) (fun _ _ _ _ h => h) wantedN hS4 (fun W hW => (by first | exact E.loadB f22 Try.underlying43 rfl wsz43_g rfl (BP.kept hW (by assumption)) rfl | exact E.loadB f22 Try.underlying43 rfl wsz43_g rfl (Bg0.kept hW (by assumption)) rfl)) fun a23 f23 => ?_
    clear f22 a22
    refine RB.call 6 f23 rfl rfl (by decide) (by kernel_rfl) (by kernel_rfl) wantedN (run_call Try.call39 (args1 f23 rfl)) (copied_any m.tp Am m.pay.length cm _ m.qos m.ret _ HP.sl u8_one HP.2) ?_
    rintro e w4 ⟨kc4, Ac, cc, rfl, FC⟩
    have HC : Pay B w4 Ac m.pay := Pay.of_fresh FC HP.2
    replace hS4 := hS4.trans kc4 (by simp)
    refine ⟨_, rfl, hS4, fun a24 f24 => ?_⟩
    clear f23 a23
    have szw4 := kc4.size
    replace HP := HP.kept0 kc4
    replace OWN := OWN.mod (T := []) (M := []) (Mod.of_kept0 (B := B) kc4) (by simp)
    clear kc4
    refine RB.one 7 (by kernel_rfl) (by kernel_rfl) ?_
    refine O.buildSlice f24 rfl wantedN (by decide) (parts1 f24 rfl) Try.underlying70 wzi43_g rfl rfl (wbs70_1_g _ _ _ _) (fun _ hk => hS4.trans hk (by simp)) fun a25 w5 g4 N4 hSn f25 => ?_
    clear f24 a24
    have Bg4 := N4.blk
    have kg4 := N4.kept
    have log4 := N4.lo
    have ltg4 := Bg4.lt
    have szw5 := kg4.size
    have szSw5 := hS4.size
    replace HP := HP.kept0 kg4
    replace OWN := OWN.mod (T := []) (M := []) (Mod.of_kept0 (B := B) kg4) (by simp)
    replace HC := HC.kept0 kg4
    clear N4 kg4
    replace hS4 := hSn
    clear hSn
    refine RB.one 8 (by kernel_rfl) (by kernel_rfl) ?_
    refine O.append f25 rfl wantedN (by decide) Try.underlying70 wzib43_g rfl rfl rfl rfl (OWN) (sl_blk Bg4 rfl) (by simp [Value.oneCell']) (by unfold maxLen; omega) (by omega) fun a26 w6 A2 c2 AP6 => ?_
    have kap6 : Kept MM w5 w6 := by rw [hMM]; exact AP6.kept
    have KA : Mod [43] [] B w5 w6 := .of_app AP6 OWN hq.loA (by simp)
    have RX := AP6.own
    have LX := AP6.from hq.loA (B := B) (by omega)
    have hSn := hS4.trans kap6 (by exact fun x hx _ => hx)
    refine ⟨hSn, fun f26 => ?_⟩
    clear f25
    have szw6 := kap6.size
    replace HP := HP.mod KA (by decide)
    replace HC := HC.mod KA (by decide)
    clear kap6
    replace hS4 := hSn
    clear hSn
    refine RB.stop (by kernel_rfl) ?_
    have szw6r := hS4.size
    have KM := Mod.of_own (T := [43]) (M := []) (B := B) (hMM ▸ hS4) OWN1 hq.loA (by simp)
    replace HK := HK.step KM (by decide) (by simp) (by omega)
    replace KK := KK.trans hS4 (fun x hx _ => List.mem_cons_of_mem _ hx)
    replace BP := BP.kept hS4 (by assumption)
    replace PY := fun m hm => (PY m hm).mod KM (by decide)
    replace Bg0 := Bg0.kept hS4 (by assumption)
    clear hS4
    refine R.take 9 f26 rfl rfl (by decide) (by kernel_rfl) (by kernel_rfl) (by kernel_rfl) (fun _ _ _ _ h => h) wantedN trivial (fun W hW => (E.nilCheck f26 rfl)) fun a27 f27 => ?_
    clear f26 a26
    refine R.take 10 f27 rfl rfl (by decide) (by kernel_rfl) (by kernel_rfl) (by kernel_rfl) (fun _ _ _ _ h => h) wantedN trivial (fun W hW => (E.fieldAddr f27 Try.underlying72 rfl rfl wsz70_g)) fun a28 f28 => ?_
    clear f27 a27
    refine R.one 11 (by kernel_rfl) ?_
    refine OT.store f28 rfl wantedN wsz70_g rfl rfl rfl BP (by first | decide | (simp [Value.cells]; done)) fun a29 w7 f29 NB7 ks7 => ?_
    have szw7 := ks7.size
    have KM := (Mod.of_blk (T := [72]) (M := []) (B := B) ks7 BP hq.lo (by simp))
    replace HK := HK.step KM (by decide) (by simp) (by omega)
    replace KK := KK.trans ks7 (by simp)
    replace PY := fun m hm => (PY m hm).mod KM (by decide)
    replace Bg0 := Bg0.kept ks7 (by simp; omega)
    replace HP := HP.mod KM (by decide)
    replace HC := HC.mod KM (by decide)
    replace RX := RX.mod KM (by decide)
    replace BP := NB7
    simp only [Value.cells, List.setIfInBounds_toArray, List.set_cons_zero, List.set_cons_succ, Nat.reduceAdd, Nat.zero_add] at BP
    clear ks7 f28 a28
    refine R.done (by kernel_rfl) (hK5 _ _ ?_)
    try clear hK5 K5
    have f30 := f29.sub (sub_cons (i := 4) rfl sub_nil)
    clear f29
    refine wp_seq_k fun K6 hK6 => ?_
    refine C.region ?_
    refine L.val f30 wantedN rfl (by decide) (E.assign f30 rfl) fun a31 f31 => ?_
    clear f30 a29
    refine wpList_nil (hK6 _ _ ?_)
    try clear hK6 K6
    have f32 := f31.sub (sub_cons (i := 4) rfl sub_nil)
    clear f31
    refine wp_ret ?_
    try simp only [Exit.inBlock, Exit.then]
    refine C.ret (P := Try.prog) (fn := Try.f31) f32 rfl rfl ?_
    exact push_room (Ac := Ac) (cc := cc) hroom hq HK (hMM ▸ KK) BP RX PY HC LX

set_option maxHeartbeats 1000000 in
theorem pop_any (B q : Nat) (A : Option Addr) (c : Nat) (l : List Mc) (lost : Int) (w : World) (hq : QuAt B w q A c l lost) (hB : B ≤ w.heap.size) : Calls Try.prog 40 #[.pointer (some ⟨q, 0, none⟩)] w (PopPost B q l lost w) := by
  have HK : Mod [72] [] B w w := .refl _ _ _ _
  have BP := hq.top
  have OWN := hq.own
  have PY := hq.pay
  have hloq := hq.lo
  have hlen := hq.len
  refine C.enter Try.func40 rfl Try.ntmps40 rfl ?_
  intro a0 f0
  have f1 : Fr 27 a0 [(0, .pointer (some ⟨q, 0, none⟩))] := f0
  clear f0
  refine wp_seq_k fun K0 hK0 => ?_
  refine C.region ?_
  refine L.alloc f1 wantedN (by decide) (z := (.agg #[(.string ⟨#[]⟩), (.slice none 0 0), (.int .i64 0), (.bool false)])) (fun _ => by kernel_rfl) rfl fun a2 w1 g0 N0 f2 => ?_
  have Bg0 := N0.blk
  have kg0 := N0.kept
  have log0 := N0.lo
  have ltg0 := Bg0.lt
  have szw1 := kg0.size
  have frg0 : w.heap.size ≤ g0 := Nat.le_trans HK.size log0
  have neq_g0 : q ≠ g0 := by have := BP.lt; omega
  replace HK := HK.trans (.of_kept0 kg0)
  replace BP := BP.kept kg0 (by simp)
  replace OWN := OWN.mod (Mod.of_kept0 (T := []) (M := []) (B := B) kg0) (by decide)
  replace PY := fun m hm => (PY m hm).mod (Mod.of_kept0 (T := []) (M := []) (B := B) kg0) (by decide)
  clear N0 kg0
  clear f1 a0
  refine L.val f2 wantedN rfl (by decide) (E.assign f2 rfl) fun a3 f3 => ?_
  clear f2 a2
  refine wpList_nil (hK0 _ _ ?_)
  try clear hK0 K0
  have f4 := f3.sub (sub_cons (i := 0) rfl (sub_cons (i := 2) rfl (sub_cons (i := 3) rfl sub_nil)))
  clear f3
  refine wp_seq_k fun K1 hK1 => ?_
  refine wp_seq_k fun K2 hK2 => ?_
  refine C.region ?_
  refine L.val f4 wantedN rfl (by decide) (E.move f4 rfl) fun a5 f5 => ?_
  clear f4 a3
  refine L.val f5 wantedN rfl (by decide) (E.nilCheck f5 rfl) fun a6 f6 => ?_
  clear f5 a5
  refine L.val f6 wantedN rfl (by decide) (E.fieldAddr f6 Try.underlying72 rfl rfl wsz70_g) fun a7 f7 => ?_
  clear f6 a6
  refine L.val f7 wantedN rfl (by decide) (by first | exact E.load f7 Try.underlying70 rfl rfl ((BP).cl rfl) | exact E.load f7 Try.underlying70 rfl rfl ((Bg0).cl rfl)) fun a8 f8 => ?_
  clear f7 a7
  refine L.val f8 wantedN rfl (by decide) (E.lenL f8 Try.underlying70 rfl) fun a9 f9 => ?_
  clear f8 a8
  refine L.val f9 wantedN rfl (by decide) (E.eql f9 rfl rfl) fun a10 f10 => ?_
  clear f9 a9
  refine wpList_nil (hK2 _ _ ?_)
  try clear hK2 K2
  have f11 := f10.sub (sub_cons (i := 0) rfl (sub_cons (i := 2) rfl (sub_cons (i := 3) rfl (sub_cons (i := 10) rfl sub_nil))))
  clear f10
  first | refine f11.splitD 10 rfl (fun h0 f12 => ?_) (fun h0 f12 => ?_) | refine f11.splitN 10 rfl (fun h0 f12 => ?_) (fun h0 f12 => ?_) | refine f11.splitNB 10 rfl (fun h0 f12 => ?_) (fun h0 f12 => ?_) | refine f11.split 10 rfl (fun h0 f12 => ?_) (fun h0 f12 => ?_)
  · clear f11
    have hn0 := h0
    refine C.condT f12 rfl ?_
    refine wp_seq_k fun K3 hK3 => ?_
    refine C.region ?_
    refine L.val f12 wantedN rfl (by decide) (E.build f12 (parts0 f12) (wbl43__g)) fun a13 f13 => ?_
    clear f12 a10
    refine L.storeR f13 wantedN wsz43_g rfl rfl rfl Bg0 rfl rfl fun a14 w2 f14 NB2 ks2 => ?_
    have szw2 := ks2.size
    replace HK := HK.kept_new ks2 (by simp; omega)
    replace BP := BP.kept ks2 (by simp; omega)
    replace OWN := OWN.kept ks2 (fun b hb hx => by have := (hq.own.blk b hb).1; simp at hx; omega)
    replace PY := fun m hm => (PY m hm).mod (Mod.of_blk (T := [43]) (M := []) (B := B) ks2 Bg0 (by omega) (by simp)) (by decide)
    replace Bg0 := NB2
    clear ks2 f13 a13
    refine L.val f14 wantedN rfl (by decide) (E.assign f14 rfl) fun a15 f15 => ?_
    clear f14 a14
    refine wpList_nil (hK3 _ _ ?_)
    try clear hK3 K3
    have f16 := f15.sub (sub_cons (i := 0) rfl (sub_cons (i := 2) rfl (sub_cons (i := 3) rfl sub_nil)))
    clear f15
    refine wp_ret ?_
    try simp only [Exit.inBlock, Exit.then]
    refine C.retCT (P := Try.prog) (fn := Try.f40) f16 rfl rfl rfl Bg0 Try.underlying43 rfl wsz43_g ?_
    exact pop_none hn0 hq HK ⟨BP, OWN, PY, hq.lo, hq.loA, hq.len⟩
  · clear f11
    obtain ⟨x, r, rfl⟩ : ∃ x r, l = x :: r := by
        cases l with
        | nil => simp at h0
        | cons x r => exact ⟨x, r, rfl⟩
    obtain ⟨b, off, hA⟩ := (Sl.of_own OWN).addr (by simp)
    have hpos : (0 : Int) < ((x :: r).length : Nat) := by simp
    refine C.condF f12 rfl ?_
    refine wp_skip (hK1 _ _ ?_)
    try clear hK1 K1
    have f13 := f12.sub (sub_cons (i := 0) rfl (sub_cons (i := 2) rfl (sub_cons (i := 3) rfl sub_nil)))
    clear f12
    refine wp_seq_k fun K4 hK4 => ?_
    refine C.region ?_
    refine L.val f13 wantedN rfl (by decide) (E.move f13 rfl) fun a14 f14 => ?_
    clear f13 a10
    refine L.val f14 wantedN rfl (by decide) (E.nilCheck f14 rfl) fun a15 f15 => ?_
    clear f14 a14
    refine L.val f15 wantedN rfl (by decide) (E.fieldAddr f15 Try.underlying72 rfl rfl wsz70_g) fun a16 f16 => ?_
    clear f15 a15
    refine L.val f16 wantedN rfl (by decide) (by first | exact E.load f16 Try.underlying70 rfl rfl ((BP).cl rfl) | exact E.load f16 Try.underlying70 rfl rfl ((Bg0).cl rfl)) fun a17 f17 => ?_
    clear f16 a16
    refine L.val f17 wantedN rfl (by decide) (E.indexA f17 (by first | rfl | assumption) Try.underlying70 wsz43_g rfl rfl (by omega) (by omega)) fun a18 f18 => ?_
    clear f17 a17
    refine L.val f18 wantedN rfl (by decide) (by first | exact E.loadB f18 Try.underlying43 rfl wsz43_g rfl (BP) rfl | exact E.loadB f18 Try.underlying43 rfl wsz43_g rfl (Bg0) rfl | exact E.loadR f18 Try.underlying43 rfl wsz43_g rfl ((Sl.row (i := 0) (cs := mcell x) (Sl.of_own OWN) (by simp) hA (by intro j u hu; rw [Nat.zero_mul, Nat.zero_add, List.flatMap_cons, List.getElem?_append_left (List.getElem?_eq_some_iff.1 hu).1]; exact hu))) rfl) fun a19 f19 => ?_
    clear f18 a18
    refine L.alloc f19 wantedN (by decide) (z := (.agg #[(.string ⟨#[]⟩), (.slice none 0 0), (.int .i64 0), (.bool false)])) (fun _ => by kernel_rfl) rfl fun a20 w2 g1 N1 f20 => ?_
    have Bg1 := N1.blk
    have kg1 := N1.kept
    have log1 := N1.lo
    have ltg1 := Bg1.lt
    have szw2 := kg1.size
    have frg1 : w.heap.size ≤ g1 := Nat.le_trans HK.size log1
    have neq_g1 : q ≠ g1 := by have := BP.lt; omega
    have neg0_g1 : g0 ≠ g1 := by have := Bg0.lt; omega
    replace HK := HK.trans (.of_kept0 kg1)
    replace BP := BP.kept kg1 (by simp)
    replace OWN := OWN.mod (Mod.of_kept0 (T := []) (M := []) (B := B) kg1) (by decide)
    replace PY := fun m hm => (PY m hm).mod (Mod.of_kept0 (T := []) (M := []) (B := B) kg1) (by decide)
    replace Bg0 := Bg0.kept kg1 (by simp)
    clear N1 kg1
    clear f19 a19
    refine L.storeR f20 wantedN wsz43_g rfl rfl rfl Bg1 rfl rfl fun a21 w3 f21 NB3 ks3 => ?_
    have szw3 := ks3.size
    replace HK := HK.kept_new ks3 (by simp; omega)
    replace BP := BP.kept ks3 (by simp; omega)
    replace OWN := OWN.kept ks3 (fun b hb hx => by have := (hq.own.blk b hb).1; simp at hx; omega)
    replace PY := fun m hm => (PY m hm).mod (Mod.of_blk (T := [43]) (M := []) (B := B) ks3 Bg1 (by omega) (by simp)) (by decide)
    replace Bg0 := Bg0.kept ks3 (by simp; omega)
    replace Bg1 := NB3
    clear ks3 f20 a20
    refine wpList_nil (hK4 _ _ ?_)
    try clear hK4 K4
    have f22 := f21.sub (sub_cons (i := 0) rfl (sub_cons (i := 2) rfl (sub_cons (i := 3) rfl (sub_cons (i := 4) rfl sub_nil))))
    clear f21
    refine wp_seq_k fun K5 hK5 => ?_
    refine C.region ?_
    refine L.val f22 wantedN rfl (by decide) (E.move f22 rfl) fun a23 f23 => ?_
    clear f22 a21
    refine L.val f23 wantedN rfl (by decide) (E.move f23 rfl) fun a24 f24 => ?_
    clear f23 a23
    refine L.val f24 wantedN rfl (by decide) (E.nilCheck f24 rfl) fun a25 f25 => ?_
    clear f24 a24
    refine L.val f25 wantedN rfl (by decide) (E.fieldAddr f25 Try.underlying72 rfl rfl wsz70_g) fun a26 f26 => ?_
    clear f25 a25
    refine L.val f26 wantedN rfl (by decide) (by first | exact E.load f26 Try.underlying70 rfl rfl ((BP).cl rfl) | exact E.load f26 Try.underlying70 rfl rfl ((Bg0).cl rfl) | exact E.load f26 Try.underlying70 rfl rfl ((Bg1).cl rfl)) fun a27 f27 => ?_
    clear f26 a26
    refine L.val f27 wantedN rfl (by decide) (E.slLlo f27 Try.underlying70 wsz43_g rfl rfl (by omega) (by omega) ) fun a28 f28 => ?_
    clear f27 a27
    refine L.val f28 wantedN rfl (by decide) (E.nilCheck f28 rfl) fun a29 f29 => ?_
    clear f28 a28
    refine L.val f29 wantedN rfl (by decide) (E.fieldAddr f29 Try.underlying72 rfl rfl wsz70_g) fun a30 f30 => ?_
    clear f29 a29
    refine L.store f30 wantedN wsz70_g rfl rfl rfl BP (by first | decide | (simp [Value.cells]; done)) fun a31 w4 f31 NB4 ks4 => ?_
    have szw4 := ks4.size
    have KM := (Mod.of_blk (T := [72]) (M := []) (B := B) ks4 BP hq.lo (by simp))
    replace HK := HK.step KM (by decide) (by simp) (by omega)
    replace OWN := OWN.mod KM (by decide)
    replace PY := fun m hm => (PY m hm).mod KM (by decide)
    replace Bg0 := Bg0.kept ks4 (by simp; omega)
    replace Bg1 := Bg1.kept ks4 (by simp; omega)
    replace BP := NB4
    simp only [Value.cells, List.setIfInBounds_toArray, List.set_cons_zero, List.set_cons_succ, Nat.reduceAdd, Nat.zero_add] at BP
    clear ks4 f30 a30
    refine wpList_nil (hK5 _ _ ?_)
    try clear hK5 K5
    have f32 := f31.sub (sub_cons (i := 2) rfl (sub_cons (i := 3) rfl (sub_cons (i := 4) rfl sub_nil)))
    clear f31
    refine wp_seq_k fun K6 hK6 => ?_
    refine C.region ?_
    refine L.val f32 wantedN rfl (by decide) (by first | exact E.loadB f32 Try.underlying43 rfl wsz43_g rfl (Bg0) rfl | exact E.loadB f32 Try.underlying43 rfl wsz43_g rfl (Bg1) rfl | exact E.loadB f32 Try.underlying43 rfl wsz43_g rfl (BP) rfl | exact E.loadR f32 Try.underlying43 rfl wsz43_g rfl ((Sl.row (i := 0) (cs := mcell x) (Sl.of_own OWN) (by simp) hA (by intro j u hu; rw [Nat.zero_mul, Nat.zero_add, List.flatMap_cons, List.getElem?_append_left (List.getElem?_eq_some_iff.1 hu).1]; exact hu))) rfl) fun a33 f33 => ?_
    clear f32 a31
    refine L.storeR f33 wantedN wsz43_g rfl rfl rfl Bg0 rfl rfl fun a34 w5 f34 NB5 ks5 => ?_
    have szw5 := ks5.size
    replace HK := HK.kept_new ks5 (by simp; omega)
    replace OWN := OWN.kept ks5 (fun b hb hx => by have := (hq.own.blk b hb).1; simp at hx; omega)
    replace PY := fun m hm => (PY m hm).mod (Mod.of_blk (T := [43]) (M := []) (B := B) ks5 Bg0 (by omega) (by simp)) (by decide)
    replace Bg1 := Bg1.kept ks5 (by simp; omega)
    replace BP := BP.kept ks5 (by simp; omega)
    replace Bg0 := NB5
    clear ks5 f33 a33
    refine L.val f34 wantedN rfl (by decide) (E.assign f34 rfl) fun a35 f35 => ?_
    clear f34 a34
    refine wpList_nil (hK6 _ _ ?_)
    try clear hK6 K6
    have f36 := f35.sub (sub_cons (i := 2) rfl (sub_cons (i := 3) rfl sub_nil))
    clear f35
    refine wp_ret ?_
    try simp only [Exit.inBlock, Exit.then]
    refine C.retCT (P := Try.prog) (fn := Try.f40) f36 rfl rfl rfl Bg0 Try.underlying43 rfl wsz43_g ?_
    exact pop_one hq HK BP OWN PY

end Go.Proofs.Ytdfllmiokgoekaa
