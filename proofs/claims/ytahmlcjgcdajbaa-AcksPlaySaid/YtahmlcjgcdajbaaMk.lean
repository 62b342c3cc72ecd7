/- AcksPlay: the walk. -/
import Derived.Test.YtahmlcjgcdajbaaMj
set_option linter.all false
namespace Go.Proofs.Ytahmlcjgcdajbaa
open Go.RowKit Go.Hub
theorem wzi51_u : (Try.prog.info? 51).map (fun i => (i.zero, i.size)) = some (some (.agg #[(.int .i64 0), (.int .i64 0)]), 2) := by kernel_rfl
theorem wbs53_2_u (x0_0 x0_1 : Value) (x1_0 x1_1 : Value) : Instr.fill (fun i => some (i * 2, 2)) ((Array.range (2 * 2)).map fun j => (Value.cells (.agg #[(.int .i64 0), (.int .i64 0)]))[j % (Value.cells (.agg #[(.int .i64 0), (.int .i64 0)])).size]!) [(0, .agg #[x0_0, x0_1]), (1, .agg #[x1_0, x1_1])] = some #[x0_0, x0_1, x1_0, x1_1] := by kernel_rfl
theorem wsz3_u : (Try.prog.info? 3).map (·.size) = some 1 := by kernel_rfl
theorem wsz22_u : (Try.prog.info? 22).map (·.size) = some 1 := by kernel_rfl
theorem wsz24_u : (Try.prog.info? 24).map (·.size) = some 1 := by kernel_rfl
theorem wsz51_u : (Try.prog.info? 51).map (·.size) = some 2 := by kernel_rfl
theorem wsz57_u : (Try.prog.info? 57).map (·.size) = some 6 := by kernel_rfl
theorem wbl51_0_1_u (x0 : Int) (x1 : Int) : Try.prog.built 51 [(0, .int .i64 x0), (1, .int .i64 x1)] = some #[.int .i64 x0, .int .i64 x1] := by kernel_rfl

structure A15 where
  from_ : Int
  epoch : Int
  at_ : Int
  l : List Int
  A : Option Addr
  c : Nat
  raw : List Dt
  B : Option Addr
  d : Nat
  look : Bool
abbrev acell (x : A15) : List Value := [.int .i64 x.from_, .int .i64 x.epoch, .int .i64 x.at_, .slice x.A x.l.length x.c, .slice x.B x.raw.length x.d, .bool x.look]
def placeI (x m : Int) : Int := if x.tmod m < 0 then x.tmod m + m else x.tmod m
theorem place_bd (x m : Int) (hm : 0 < m) : 0 ≤ placeI x m ∧ placeI x m < m := by
  have b1 := Int.lt_tmod_of_pos x hm
  have b2 := Int.tmod_lt_of_pos x hm
  unfold placeI
  split <;> omega
theorem matI_lt {T : Nat × Nat} {w : World} {m : Nat} {fp : List Nat} {rows : Rows15} {me : Int} (h : MatI T w m fp rows me) : ∀ x ∈ fp, x < w.heap.size := by
  obtain ⟨r, en, _, M⟩ := h
  exact M.lt
theorem matR_lt {T : Nat} {w : World} {m : Nat} {fp : List Nat} {rows : Rows15} {me : Int} (h : MatR T w m fp rows me) : ∀ x ∈ fp, x < w.heap.size := by
  obtain ⟨en, _, M⟩ := h
  exact M.lt
/-- both matrices, side by side -/
structure Two (wL W : World) (m : Nat) (fp : List Nat) (A : Rows15) (mR : Nat) (fpR : List Nat) (B : Rows15) (me : Int) : Prop where
  a : MatI (71, 73) W m fp A me
  b : MatR 77 W mR fpR B me
  lo : ∀ x ∈ fp ++ fpR, wL.heap.size ≤ x
  dis : ∀ x ∈ fp, x ∉ fpR
section
variable {wL W W' : World} {m mR : Nat} {fp fpR : List Nat} {A B : Rows15} {me : Int}
theorem Two.lt (h : Two wL W m fp A mR fpR B me) : ∀ x ∈ fp ++ fpR, x < W.heap.size := fun x hx => (List.mem_append.1 hx).elim (matI_lt h.a x) (matR_lt h.b x)
theorem Two.keptG {L : List Nat} (h : Two wL W m fp A mR fpR B me) (hk : Kept L W W') (hd : ∀ x ∈ L, x ∉ fp ++ fpR) : Two wL W' m fp A mR fpR B me :=
  ⟨h.a.kept hk fun x hx hy => hd x hx (List.mem_append_left _ hy), h.b.kept hk fun x hx hy => hd x hx (List.mem_append_right _ hy), h.lo, h.dis⟩
theorem Two.kept0 (h : Two wL W m fp A mR fpR B me) (hk : Kept [] W W') : Two wL W' m fp A mR fpR B me := h.keptG hk (by simp)
theorem Two.hearA (h : Two wL W m fp A mR fpR B me) (hk : Kept fp W W') {A' : Rows15} (hP : ∃ fp', MatI (71, 73) W' m fp' A' me ∧ ∀ x ∈ fp', x ∈ fp ∨ W.heap.size ≤ x) (hL : wL.heap.size ≤ W.heap.size) :
    ∃ fp', Two wL W' m fp' A' mR fpR B me ∧ ∀ x ∈ fp', x ∈ fp ∨ W.heap.size ≤ x := by
  obtain ⟨fp', h1, h2⟩ := hP
  refine ⟨fp', ⟨h1, h.b.kept hk h.dis, fun x hx => ?_, fun x hx hy => ?_⟩, h2⟩
  · rcases List.mem_append.1 hx with hx | hx
    · rcases h2 x hx with h3 | h3
      · exact h.lo x (List.mem_append_left _ h3)
      · omega
    · exact h.lo x (List.mem_append_right _ hx)
  · rcases h2 x hx with h3 | h3
    · exact h.dis x h3 hy
    · have := matR_lt h.b x hy
      omega
theorem Two.hearB (h : Two wL W m fp A mR fpR B me) (hk : Kept fpR W W') {B' : Rows15} (hP : ∃ fp', MatR 77 W' mR fp' B' me ∧ ∀ x ∈ fp', x ∈ fpR ∨ W.heap.size ≤ x) (hL : wL.heap.size ≤ W.heap.size) :
    ∃ fp', Two wL W' m fp A mR fp' B' me ∧ ∀ x ∈ fp', x ∈ fpR ∨ W.heap.size ≤ x := by
  obtain ⟨fp', h1, h2⟩ := hP
  refine ⟨fp', ⟨h.a.kept hk fun x hx hy => h.dis x hy hx, h1, fun x hx => ?_, fun x hx hy => ?_⟩, h2⟩
  · rcases List.mem_append.1 hx with hx | hx
    · exact h.lo x (List.mem_append_left _ hx)
    · rcases h2 x hx with h3 | h3
      · exact h.lo x (List.mem_append_right _ h3)
      · omega
  · rcases h2 x hy with h3 | h3
    · exact h.dis x hx h3
    · have := matI_lt h.a x hx
      omega
end
theorem hearA_any {w : World} {m : Nat} {fp : List Nat} {rows : Rows15} {me : Int} (h : MatI (71, 73) w m fp rows me) (f e t : Int) (l : List Dt) (A : Option Addr) (c : Nat) (w0 : World) (D : Ds w A l) (hl : l.length ≤ 1000000) :
    Calls Try.prog 31 #[.pointer (some ⟨m, 0, none⟩), .int .i64 f, .int .i64 e, .int .i64 t, .slice A l.length c] w (HearPost rows me f e t l m fp w) := by
  obtain ⟨r, en, rfl, M⟩ := h
  exact hear_any m r fp en me f e t l A c w M D hl
theorem hearB_any {w : World} {m : Nat} {fp : List Nat} {rows : Rows15} {me : Int} (h : MatR 77 w m fp rows me) (f e t : Int) (l : List Dt) (A : Option Addr) (c : Nat) (w0 : World) (D : Ds w A l) (hl : l.length ≤ 1000000) :
    Calls Try.prog 35 #[.pointer (some ⟨m, 0, none⟩), .int .i64 f, .int .i64 e, .int .i64 t, .slice A l.length c] w (HearPostR rows me f e t l m fp w) := by
  obtain ⟨en, hr, M⟩ := h
  exact hearR_any m rows.length fp en me f e t l A c rows hr rfl w M D hl
theorem rowA_any {w : World} {m : Nat} {fp : List Nat} {rows : Rows15} {me : Int} (h : MatI (71, 73) w m fp rows me) (i : Int) : Calls Try.prog 36 #[.pointer (some ⟨m, 0, none⟩), .int .i64 i] w (RowPost rows i w) := by
  obtain ⟨r, en, rfl, M⟩ := h
  exact row_any m r fp en me i w M
theorem rowB_any {w : World} {m : Nat} {fp : List Nat} {rows : Rows15} {me : Int} (h : MatR 77 w m fp rows me) (i : Int) : Calls Try.prog 37 #[.pointer (some ⟨m, 0, none⟩), .int .i64 i] w (RowPostR rows i w) := by
  obtain ⟨en, hr, M⟩ := h
  exact rowR_any m rows.length fp en me i rows hr rfl w M
theorem cutA_any {w : World} {m : Nat} {fp : List Nat} {rows : Rows15} {me : Int} (h : MatI (71, 73) w m fp rows me) (tm : Int) (own : List Dt) (A : Option Addr) (c : Nat) (w0 : World) (D : Ds w A own) (hl : own.length ≤ 1000000) :
    Calls Try.prog 32 #[.pointer (some ⟨m, 0, none⟩), .int .i64 tm, .slice A own.length c] w (CutPost rows me own tm w) := by
  obtain ⟨r, en, rfl, M⟩ := h
  exact cut_any m r fp en me tm own A c w M D hl
theorem cutB_any {w : World} {m : Nat} {fp : List Nat} {rows : Rows15} {me : Int} (h : MatR 77 w m fp rows me) (tm : Int) (own : List Dt) (A : Option Addr) (c : Nat) (w0 : World) (D : Ds w A own) (hl : own.length ≤ 1000000) :
    Calls Try.prog 38 #[.pointer (some ⟨m, 0, none⟩), .int .i64 tm, .slice A own.length c] w (CutPost rows me own tm w) := by
  obtain ⟨en, hr, M⟩ := h
  exact cutR_any m rows.length fp en me tm own A c rows hr rfl w M D hl
theorem keptLow {w W W' : World} {A : Option Addr} {l : List Dt} {L : List Nat} (h : Ds w A l) (k1 : Kept [] w W) (k2 : Kept L W W') (hL : ∀ x ∈ L, w.heap.size ≤ x) : Ds W' A l := by
  refine ⟨h.1, fun hn => ?_⟩
  obtain ⟨b, off, e, hb, hc⟩ := h.2 hn
  have hb1 := Nat.lt_of_lt_of_le hb k1.size
  refine ⟨b, off, e, Nat.lt_of_lt_of_le hb1 k2.size, fun j u hu => ?_⟩
  rw [k2.cell (p := ⟨b, off + j, none⟩) hb1 (fun hx => by have := hL b hx; omega), k1.cell (p := ⟨b, off + j, none⟩) hb (by simp)]
  exact hc j u hu
theorem outs_cell {w W : World} {A : Option Addr} {c : Nat} {ss : List SD} (h : Outs w W A c ss) {b off k : Nat} {s : SD} (hA : A = some ⟨b, off, none⟩) (hs : ss[k]? = some s) : W.cell? ⟨b, off + Int.toNat (k : Int) * 1, none⟩ = some (sval s) := by
  have := (List.getElem?_eq_some_iff.1 hs).1
  simpa using Sl.cell h.fr.sl (j := k) (by omega) hA (by simp [hs])
theorem outs_eq {ss sz : List SD} {k : Nat} {s z : SD} (h : ss.map (·.2.2) = sz.map (·.2.2)) (hs : ss[k]? = some s) (hz : sz[k]? = some z) : s.2.2 = z.2.2 := by
  have := congrArg (·[k]?) h
  simpa [hs, hz] using this
theorem row2 {W : World} {g T : Nat} {x y x' y' : Int} (B : Blk W g T #[.int .i64 x, .int .i64 y, .int .i64 x', .int .i64 y']) {j : Nat} (hj : j < 2) : ∃ xn yn, ∀ W', Kept [] W W' → W'.rangeAt g (0 + Int.toNat (j : Int) * 2) [.int .i64 xn, .int .i64 yn] := by
  rcases (show j = 0 ∨ j = 1 by omega) with rfl | rfl
  · refine ⟨x, y, fun W' hk i u hu => ?_⟩
    match i, hu with
    | 0, hu => exact (B.kept hk (by simp)).cell_ hu
    | 1, hu => exact (B.kept hk (by simp)).cell_ hu
  · refine ⟨x', y', fun W' hk i u hu => ?_⟩
    match i, hu with
    | 0, hu => exact (B.kept hk (by simp)).cell_ hu
    | 1, hu => exact (B.kept hk (by simp)).cell_ hu
section
variable {P : Program} {md : Region.Mode} {ops : Array Oper} {Q : Exit → Act → World → Prop} {S : World → Prop} {a : Act} {w : World} {n d : Nat} {l : FL} {K : Act → World → Prop} {o : Oper}
theorem R.three (i j k : Nat) {fuel : Nat} {listed : Array Bool} (hr : Region.ready md ops listed = [i, j, k]) (h : wpOp P ops Q i (fun a w => S w ∧ wpAnyH P md ops Q S fuel (listed.setIfInBounds i true) a w) a w)
    (h' : wpOp P ops Q j (fun a w => S w ∧ wpAnyH P md ops Q S fuel (listed.setIfInBounds j true) a w) a w) (h'' : wpOp P ops Q k (fun a w => S w ∧ wpAnyH P md ops Q S fuel (listed.setIfInBounds k true) a w) a w) : wpAnyH P md ops Q S (fuel + 1) listed a w :=
  wpAnyH_all hr (by simp) fun q hq => by
    simp only [List.mem_cons, List.not_mem_nil, or_false] at hq
    rcases hq with rfl | rfl | rfl
    · exact h
    · exact h'
    · exact h''
theorem O.call {i : Nat} (f : Fr n a l) (hi : ops[i]? = some o) (hd : o.dst = some d) (hn : d < n) (hw : Region.wanted o (yielded ops a.tmps) = true)
    {fn : Nat} {args : Array Value} (h : (execOp a.eval o).run P w = .ok (.enter fn args) w) {R : Ending → World → Prop} (hc : Calls P fn args w R)
    (hR : ∀ e w', R e w' → ∃ v, e = .returned v ∧ S w' ∧ ∀ a', Fr n a' ((d, v) :: l) → K a' w') : wpOp P ops Q i (fun a w => S w ∧ K a w) a w := by
  unfold wpOp
  simp only [hi, hw, if_true]
  refine .inl ?_
  unfold Oper.wp
  rw [h]
  refine Calls.mono hc ?_
  intro e w' hr
  obtain ⟨v, rfl, hS, hK⟩ := hR e w' hr
  show S w' ∧ K (a.put o.dst v) w'
  rw [hd]
  exact ⟨hS, hK _ (f.put d v hn)⟩
theorem C.mono {c : Code} {J : Act → World → Prop} (h : c.wp P (fun e a w => e = .normal ∧ J a w) a w) (hJ : ∀ a w, J a w → Q .normal a w) : c.wp P Q a w := Code.wp_mono (fun e a w ⟨he, hj⟩ => by subst he; exact hJ a w hj) h
theorem E.andI {ty : TypeId} {ps : String} {af : Array Edge} {g : Option (Nat × Bool)} {x y : Operand} {t u : TypeId} {dst : Option Nat} (f : Fr n a l) {k : IntKind} {i j : Int} (hx : evl l x = some (.int k i)) (hy : evl l y = some (.int k j)) : (execOp a.eval ⟨dst, .binOp .and t x y u, ty, ps, af, g⟩).run P w = .ok (.value (.int k (bits .and k i j))) w := by
  simp [execOp, f.ev hx, f.ev hy, eqGuard, binOp, Op.intBits, bits]
end

set_option maxHeartbeats 1000000 in
theorem place_any (x m : Int) (w : World) (hm : 0 < m ∧ m ≤ 100) : Calls Try.prog 33 #[.int .i64 x, .int .i64 m] w (fun e w' => w = w' ∧ e = .returned (.int .i64 (placeI x m))) := by
  have b1 := Int.lt_tmod_of_pos x hm.1
  have b2 := Int.tmod_lt_of_pos x hm.1
  refine C.enter Try.func33 rfl Try.ntmps33 rfl ?_
  intro a0 f0
  have f1 : Fr 14 a0 [(0, .int .i64 x), (1, .int .i64 m)] := f0
  clear f0
  refine wp_seq_k fun K0 hK0 => ?_
  refine C.region ?_
  refine L.val f1 wantedN rfl (by decide) (E.assign f1 rfl) fun a2 f2 => ?_
  clear f1 a0
  refine wpList_nil (hK0 _ _ ?_)
  try clear hK0 K0
  have f3 := f2.sub (sub_cons (i := 0) rfl (sub_cons (i := 1) rfl (sub_cons (i := 4) rfl sub_nil)))
  clear f2
  refine wp_seq_k fun K1 hK1 => ?_
  refine C.region ?_
  refine L.val f3 wantedN rfl (by decide) (E.move f3 rfl) fun a4 f4 => ?_
  clear f3 a2
  refine L.val f4 wantedN rfl (by decide) (E.move f4 rfl) fun a5 f5 => ?_
  clear f4 a4
  refine L.val f5 wantedN rfl (by decide) (E.rem f5 rfl rfl (by omega) rfl) fun a6 f6 => ?_
  clear f5 a5
  refine L.val f6 wantedN rfl (by decide) (E.assign f6 rfl) fun a7 f7 => ?_
  clear f6 a6
  refine wpList_nil (hK1 _ _ ?_)
  try clear hK1 K1
  have f8 := f7.sub (sub_cons (i := 0) rfl (sub_cons (i := 1) rfl (sub_cons (i := 4) rfl sub_nil)))
  clear f7
  refine wp_seq_k fun K2 hK2 => ?_
  refine wp_seq_k fun K3 hK3 => ?_
  refine C.region ?_
  refine L.val f8 wantedN rfl (by decide) (E.move f8 rfl) fun a9 f9 => ?_
  clear f8 a7
  refine L.val f9 wantedN rfl (by decide) (E.lss f9 rfl rfl) fun a10 f10 => ?_
  clear f9 a9
  refine wpList_nil (hK3 _ _ ?_)
  try clear hK3 K3
  have f11 := f10.sub (sub_cons (i := 0) rfl (sub_cons (i := 1) rfl (sub_cons (i := 4) rfl (sub_cons (i := 9) rfl sub_nil))))
  clear f10
  first | refine f11.splitD 9 rfl (fun h0 f12 => ?_) (fun h0 f12 => ?_) | refine f11.splitN 9 rfl (fun h0 f12 => ?_) (fun h0 f12 => ?_) | refine f11.splitNB 9 rfl (fun h0 f12 => ?_) (fun h0 f12 => ?_) | refine f11.split 9 rfl (fun h0 f12 => ?_) (fun h0 f12 => ?_)
  · clear f11
    refine C.condT f12 rfl ?_
    refine C.region ?_
    refine L.val f12 wantedN rfl (by decide) (E.move f12 rfl) fun a13 f13 => ?_
    clear f12 a10
    refine L.val f13 wantedN rfl (by decide) (E.move f13 rfl) fun a14 f14 => ?_
    clear f13 a13
    refine L.val f14 wantedN rfl (by decide) (E.add f14 rfl rfl (IntWalk.i64_in _ (by omega))) fun a15 f15 => ?_
    clear f14 a14
    refine L.val f15 wantedN rfl (by decide) (E.assign f15 rfl) fun a16 f16 => ?_
    clear f15 a15
    refine wpList_nil (hK2 _ _ ?_)
    try clear hK2 K2
    have f17 := f16.sub (sub_cons (i := 0) rfl (sub_cons (i := 4) rfl sub_nil))
    clear f16
    refine wp_seq_k fun K4 hK4 => ?_
    refine C.region ?_
    refine L.val f17 wantedN rfl (by decide) (E.move f17 rfl) fun a18 f18 => ?_
    clear f17 a16
    refine L.val f18 wantedN rfl (by decide) (E.assign f18 rfl) fun a19 f19 => ?_
    clear f18 a18
    refine wpList_nil (hK4 _ _ ?_)
    try clear hK4 K4
    have f20 := f19.sub (sub_cons (i := 4) rfl sub_nil)
    clear f19
    refine wp_ret ?_
    try simp only [Exit.inBlock, Exit.then]
    refine C.ret (P := Try.prog) (fn := Try.f33) f20 rfl rfl ?_
    exact ⟨rfl, by simp [placeI, *]⟩
  · clear f11
    refine C.condF f12 rfl ?_
    refine wp_skip (hK2 _ _ ?_)
    try clear hK2 K2
    have f13 := f12.sub (sub_cons (i := 0) rfl (sub_cons (i := 4) rfl sub_nil))
    clear f12
    refine wp_seq_k fun K5 hK5 => ?_
    refine C.region ?_
    refine L.val f13 wantedN rfl (by decide) (E.move f13 rfl) fun a14 f14 => ?_
    clear f13 a10
    refine L.val f14 wantedN rfl (by decide) (E.assign f14 rfl) fun a15 f15 => ?_
    clear f14 a14
    refine wpList_nil (hK5 _ _ ?_)
    try clear hK5 K5
    have f16 := f15.sub (sub_cons (i := 4) rfl sub_nil)
    clear f15
    refine wp_ret ?_
    try simp only [Exit.inBlock, Exit.then]
    refine C.ret (P := Try.prog) (fn := Try.f33) f16 rfl rfl ?_
    exact ⟨rfl, by simp [placeI, *]⟩

set_option maxRecDepth 100000 in
set_option maxHeartbeats 8000000 in
theorem acksPlay_any (n sf : Int) (acts : List A15) (us : List Int) (Aa Au : Option Addr) (ca cu : Nat) (w : World) (hAC : Sl w Aa acts.length 6 (acts.flatMap acell)) (hact : ∀ x ∈ acts, Us w x.A x.l ∧ Ds w x.B x.raw ∧ ∀ y ∈ x.l, 0 ≤ y ∧ y ≤ 65535) (A2 : Us w Au us) (hbu : ∀ x ∈ us, 0 ≤ x ∧ x ≤ 65535) (hla : acts.length ≤ maxLen) (hlu : us.length ≤ maxLen) : Calls Try.prog 9 #[.int .i64 n, .int .i64 sf, .slice Aa acts.length ca, .slice Au us.length cu] w (fun e w' => e = .returned (.bool true) ∧ Below w.heap.size w w') := by
  have HK : Kept [] w w := Kept.refl _ _
  unfold maxLen at hla hlu
  have hp4 := place_bd n 4 (by decide)
  refine C.enter Try.func9 rfl Try.ntmps9 rfl ?_
  intro a0 f0
  have f1 : Fr 199 a0 [(0, .int .i64 n), (1, .int .i64 sf), (2, .slice Aa acts.length ca), (3, .slice Au us.length cu)] := f0
  clear f0
  refine wp_seq_k fun K0 hK0 => ?_
  refine C.region ?_
  refine L.val f1 wantedN rfl (by decide) (E.assign f1 rfl) fun a2 f2 => ?_
  clear f1 a0
  refine wpList_nil (hK0 _ _ ?_)
  try clear hK0 K0
  have f3 := f2.sub (sub_cons (i := 0) rfl (sub_cons (i := 1) rfl (sub_cons (i := 2) rfl (sub_cons (i := 3) rfl (sub_cons (i := 8) rfl sub_nil)))))
  clear f2
  refine wp_seq_k fun K1 hK1 => ?_
  refine wp_seq_k fun K2 hK2 => ?_
  refine C.region ?_
  refine L.call f3 wantedN rfl (by decide) (run_call Try.call28 (args0 f3)) (known_any _) ?_
  rintro e w1 ⟨kc1, rfl⟩
  refine ⟨_, rfl, fun a4 f4 => ?_⟩
  clear f3 a2
  have szw1 := kc1.size
  replace HK := HK.trans kc1 (by simp)
  clear kc1
  refine L.val f4 wantedN rfl (by decide) (E.not f4 rfl) fun a5 f5 => ?_
  clear f4 a4
  refine wpList_nil (hK2 _ _ ?_)
  try clear hK2 K2
  have f6 := f5.sub (sub_cons (i := 0) rfl (sub_cons (i := 1) rfl (sub_cons (i := 2) rfl (sub_cons (i := 3) rfl (sub_cons (i := 8) rfl (sub_cons (i := 29) rfl sub_nil))))))
  clear f5
  refine C.condF f6 rfl ?_
  refine wp_skip (hK1 _ _ ?_)
  try clear hK1 K1
  have f7 := f6.sub (sub_cons (i := 0) rfl (sub_cons (i := 1) rfl (sub_cons (i := 2) rfl (sub_cons (i := 3) rfl (sub_cons (i := 8) rfl sub_nil)))))
  clear f6
  refine wp_seq_k fun K3 hK3 => ?_
  refine wp_seq_k fun K4 hK4 => ?_
  refine C.region ?_
  refine L.val f7 wantedN rfl (by decide) (E.move f7 rfl) fun a8 f8 => ?_
  clear f7 a5
  refine L.val f8 wantedN rfl (by decide) (E.lenL f8 Try.underlying50 rfl) fun a9 f9 => ?_
  clear f8 a8
  refine L.val f9 wantedN rfl (by decide) (E.gtr f9 rfl rfl) fun a10 f10 => ?_
  clear f9 a9
  refine L.val f10 wantedN rfl (by decide) (E.move f10 rfl) fun a11 f11 => ?_
  clear f10 a10
  first | refine f11.splitD 33 rfl (fun h0 f12 => ?_) (fun h0 f12 => ?_) | refine f11.splitN 33 rfl (fun h0 f12 => ?_) (fun h0 f12 => ?_) | refine f11.splitNB 33 rfl (fun h0 f12 => ?_) (fun h0 f12 => ?_) | refine f11.split 33 rfl (fun h0 f12 => ?_) (fun h0 f12 => ?_)
  · clear f11
    refine L.skip f12 (f12.noF rfl rfl) rfl (by decide) fun a13 f13 => ?_
    clear f12 a11
    refine L.skip f13 (f13.noF rfl rfl) rfl (by decide) fun a14 f14 => ?_
    clear f13 a13
    refine L.skip f14 (f14.noF rfl rfl) rfl (by decide) fun a15 f15 => ?_
    clear f14 a14
    refine L.val f15 wantedN rfl (by decide) (E.pickT f15 rfl rfl) fun a16 f16 => ?_
    clear f15 a15
    refine wpList_nil (hK4 _ _ ?_)
    try clear hK4 K4
    have f17 := f16.sub (sub_cons (i := 0) rfl (sub_cons (i := 1) rfl (sub_cons (i := 2) rfl (sub_cons (i := 3) rfl (sub_cons (i := 8) rfl (sub_cons (i := 37) rfl sub_nil))))))
    clear f16
    refine C.condT f17 rfl ?_
    refine wp_seq_k fun K5 hK5 => ?_
    refine C.region ?_
    refine L.val f17 wantedN rfl (by decide) (E.assign f17 rfl) fun a18 f18 => ?_
    clear f17 a16
    refine wpList_nil (hK5 _ _ ?_)
    try clear hK5 K5
    have f19 := f18.sub (sub_cons (i := 0) rfl (sub_cons (i := 1) rfl (sub_cons (i := 2) rfl (sub_cons (i := 3) rfl (sub_cons (i := 8) rfl sub_nil)))))
    clear f18
    refine wp_ret ?_
    try simp only [Exit.inBlock, Exit.then]
    refine C.ret (P := Try.prog) (fn := Try.f9) f19 rfl rfl ?_
    exact ⟨rfl, HK.below0⟩
  · clear f11
    refine L.val f12 (f12.yes rfl rfl) rfl (by decide) (E.move f12 rfl) fun a13 f13 => ?_
    clear f12 a11
    refine L.val f13 (f13.yes rfl rfl) rfl (by decide) (E.lenL f13 Try.underlying22 rfl) fun a14 f14 => ?_
    clear f13 a13
    refine L.val f14 (f14.yes rfl rfl) rfl (by decide) (E.gtr f14 rfl rfl) fun a15 f15 => ?_
    clear f14 a14
    refine L.val f15 wantedN rfl (by decide) (E.pickF f15 rfl rfl) fun a16 f16 => ?_
    clear f15 a15
    refine wpList_nil (hK4 _ _ ?_)
    try clear hK4 K4
    have f17 := f16.sub (sub_cons (i := 0) rfl (sub_cons (i := 1) rfl (sub_cons (i := 2) rfl (sub_cons (i := 3) rfl (sub_cons (i := 8) rfl (sub_cons (i := 37) rfl sub_nil))))))
    clear f16
    first | refine f17.splitD 37 rfl (fun h1 f18 => ?_) (fun h1 f18 => ?_) | refine f17.splitN 37 rfl (fun h1 f18 => ?_) (fun h1 f18 => ?_) | refine f17.splitNB 37 rfl (fun h1 f18 => ?_) (fun h1 f18 => ?_) | refine f17.split 37 rfl (fun h1 f18 => ?_) (fun h1 f18 => ?_)
    · clear f17
      refine C.condT f18 rfl ?_
      refine wp_seq_k fun K6 hK6 => ?_
      refine C.region ?_
      refine L.val f18 wantedN rfl (by decide) (E.assign f18 rfl) fun a19 f19 => ?_
      clear f18 a16
      refine wpList_nil (hK6 _ _ ?_)
      try clear hK6 K6
      have f20 := f19.sub (sub_cons (i := 0) rfl (sub_cons (i := 1) rfl (sub_cons (i := 2) rfl (sub_cons (i := 3) rfl (sub_cons (i := 8) rfl sub_nil)))))
      clear f19
      refine wp_ret ?_
      try simp only [Exit.inBlock, Exit.then]
      refine C.ret (P := Try.prog) (fn := Try.f9) f20 rfl rfl ?_
      exact ⟨rfl, HK.below0⟩
    · clear f17
      have h12u : us.length ≤ 12 := by omega
      refine C.condF f18 rfl ?_
      refine wp_skip (hK3 _ _ ?_)
      try clear hK3 K3
      have f19 := f18.sub (sub_cons (i := 0) rfl (sub_cons (i := 1) rfl (sub_cons (i := 2) rfl (sub_cons (i := 3) rfl (sub_cons (i := 8) rfl sub_nil)))))
      clear f18
      refine wp_seq_k fun K7 hK7 => ?_
      refine wp_seq_k fun K8 hK8 => ?_
      refine C.region ?_
      refine L.val f19 wantedN rfl (by decide) (E.move f19 rfl) fun a20 f20 => ?_
      clear f19 a16
      refine L.val f20 wantedN rfl (by decide) (E.move f20 rfl) fun a21 f21 => ?_
      clear f20 a20
      refine L.val f21 wantedN rfl (by decide) (E.build f21 (parts2 f21 rfl rfl) (wbl51_0_1_u _ _)) fun a22 f22 => ?_
      clear f21 a21
      refine L.val f22 wantedN rfl (by decide) (E.move f22 rfl) fun a23 f23 => ?_
      clear f22 a22
      refine L.call f23 wantedN rfl (by decide) (run_call Try.call33 (args2 f23 rfl rfl)) (place_any _ _ _ (by decide)) ?_
      rintro e w1x ⟨rfl, rfl⟩
      refine ⟨_, rfl, fun a24 f24 => ?_⟩
      clear f23 a23
      refine L.val f24 wantedN rfl (by decide) (E.add f24 rfl rfl (IntWalk.i64_in _ (by omega))) fun a25 f25 => ?_
      clear f24 a24
      refine L.val f25 wantedN rfl (by decide) (E.move f25 rfl) fun a26 f26 => ?_
      clear f25 a25
      refine L.call f26 wantedN rfl (by decide) (run_call Try.call33 (args2 f26 rfl rfl)) (place_any _ _ _ (by decide)) ?_
      rintro e w1x ⟨rfl, rfl⟩
      refine ⟨_, rfl, fun a27 f27 => ?_⟩
      clear f26 a26
      refine L.val f27 wantedN rfl (by decide) (E.build f27 (parts2 f27 rfl rfl) (wbl51_0_1_u _ _)) fun a28 f28 => ?_
      clear f27 a27
      refine L.buildSlice f28 wantedN (by decide) (parts2 f28 rfl rfl) Try.underlying53 wzi51_u rfl rfl (wbs53_2_u _ _ _ _) fun a29 w2 g1 N1 f29 => ?_
      have Bg1 := N1.blk
      have kg1 := N1.kept
      have log1 := N1.lo
      have ltg1 := Bg1.lt
      have szw2 := kg1.size
      have frg1 : w.heap.size ≤ g1 := Nat.le_trans HK.size log1
      replace HK := HK.trans kg1 (by simp)
      clear N1 kg1
      clear f28 a28
      refine L.val f29 wantedN rfl (by decide) (E.lenL f29 Try.underlying53 rfl) fun a30 f30 => ?_
      clear f29 a29
      refine L.val f30 wantedN rfl (by decide) (E.move f30 rfl) fun a31 f31 => ?_
      clear f30 a30
      refine wpList_nil (hK8 _ _ ?_)
      try clear hK8 K8
      have f32 := f31.sub (sub_cons (i := 2) rfl (sub_cons (i := 3) rfl (sub_cons (i := 8) rfl (sub_cons (i := 47) rfl (sub_cons (i := 48) rfl (sub_cons (i := 49) rfl sub_nil))))))
      clear f31
      refine wp_block ?_
      have HK0 := HK
      have BL := Bg1
      have HK := Kept.refl [] w2
      refine C.loop (fun gk a W => ∃ j : Nat, j + gk = 2 ∧ Kept [] w2 W ∧ Fr 199 a [(2, .slice Aa acts.length ca), (3, .slice Au us.length cu), (47, .slice (some ⟨g1, 0, none⟩) 2 2), (48, .int .i64 2), (49, .int .i64 j)]) (2) ?_ ?_
      · exact ⟨0, by omega, HK, f32.sub (sub_cons rfl (sub_cons rfl (sub_cons rfl (sub_cons rfl (sub_cons rfl sub_nil)))))⟩
      · intro gk10 a33 w3 hI KL9 hKL9
        obtain ⟨j, hj, HK, f33⟩ := hI
        try clear f32
        refine wp_seq_k fun K10 hK10 => ?_
        refine C.region ?_
        refine L.val f33 wantedN rfl (by decide) (E.lss f33 rfl rfl) fun a34 f34 => ?_
        clear f33 a33
        refine wpList_nil (hK10 _ _ ?_)
        try clear hK10 K10
        have f35 := f34.sub (sub_cons (i := 2) rfl (sub_cons (i := 3) rfl (sub_cons (i := 47) rfl (sub_cons (i := 48) rfl (sub_cons (i := 49) rfl (sub_cons (i := 50) rfl sub_nil))))))
        clear f34
        refine wp_seq_k fun K11 hK11 => ?_
        first | refine f35.splitD 50 rfl (fun h2 f36 => ?_) (fun h2 f36 => ?_) | refine f35.splitN 50 rfl (fun h2 f36 => ?_) (fun h2 f36 => ?_) | refine f35.splitNB 50 rfl (fun h2 f36 => ?_) (fun h2 f36 => ?_) | refine f35.split 50 rfl (fun h2 f36 => ?_) (fun h2 f36 => ?_)
        · clear f35
          obtain ⟨xn, yn, hxy⟩ := row2 BL (j := j) (by omega)
          refine C.condT f36 rfl ?_
          refine wp_skip (hK11 _ _ ?_)
          try clear hK11 K11
          have f37 := f36.sub (sub_cons (i := 2) rfl (sub_cons (i := 3) rfl (sub_cons (i := 47) rfl (sub_cons (i := 48) rfl (sub_cons (i := 49) rfl (sub_cons (i := 50) rfl sub_nil))))))
          clear f36
          refine wp_seq_k fun K12 hK12 => ?_
          refine wp_block ?_
          refine wp_seq_k fun K13 hK13 => ?_
          refine C.region ?_
          refine L.val f37 wantedN rfl (by decide) (E.indexA f37 (by first | rfl | assumption) Try.underlying53 wsz51_u rfl rfl (by omega) (by omega)) fun a38 f38 => ?_
          clear f37 a34
          refine L.val f38 wantedN rfl (by decide) (by exact E.loadA f38 Try.underlying51 rfl wsz51_u rfl (hxy _ HK) rfl) fun a39 f39 => ?_
          clear f38 a38
          refine L.alloc f39 wantedN (by decide) (z := (.agg #[(.int .i64 0), (.int .i64 0)])) (fun _ => by kernel_rfl) rfl fun a40 w4 g3 N3 f40 => ?_
          have Bg3 := N3.blk
          have kg3 := N3.kept
          have log3 := N3.lo
          have ltg3 := Bg3.lt
          have szw4 := kg3.size
          have frg3 : w2.heap.size ≤ g3 := Nat.le_trans HK.size log3
          replace HK := HK.trans kg3 (by simp)
          clear N3 kg3
          clear f39 a39
          refine L.storeR f40 wantedN wsz51_u rfl rfl rfl Bg3 rfl rfl fun a41 w5 f41 NB5 ks5 => ?_
          have szw5 := ks5.size
          replace HK := HK.trans ks5 (by intro y hy hlt; simp at hy; subst hy; exfalso; omega)
          replace Bg3 := NB5
          clear ks5 f40 a40
          refine wpList_nil (hK13 _ _ ?_)
          try clear hK13 K13
          have f42 := f41.sub (sub_cons (i := 2) rfl (sub_cons (i := 3) rfl (sub_cons (i := 10) rfl (sub_cons (i := 47) rfl (sub_cons (i := 48) rfl (sub_cons (i := 49) rfl (sub_cons (i := 50) rfl (sub_cons (i := 51) rfl (sub_cons (i := 52) rfl sub_nil)))))))))
          clear f41
          refine wp_seq_k fun K14 hK14 => ?_
          refine R.begin (S := fun W => Kept [] w5 W) (by kernel_rfl) (by exact (Kept.refl _ _).drewN 1) ?_
          have hS8 : Kept [] w5 (w5.drewN 1) := (Kept.refl _ _).drewN 1
          have hd8 : Kept [] w5 (w5.drewN 1) := (Kept.refl _ _).drewN 1
          obtain ⟨w6, hww6⟩ : ∃ W, W = w5.drewN 1 := ⟨_, rfl⟩
          rw [← hww6] at hS8 hd8 ⊢
          clear hww6
          have szw6 := hS8.size
          refine R.take 0 f42 rfl rfl (by decide) (by kernel_rfl) (by kernel_rfl) (by kernel_rfl) (fun _ _ _ _ h => h) wantedN hS8 (fun W hW => (E.indexArr f42 Try.underlying51 wsz3_u rfl rfl (by omega) (by omega))) fun a43 f43 => ?_
          clear f42 a41
          refine R.take 1 f43 rfl rfl (by decide) (by kernel_rfl) (by kernel_rfl) (by kernel_rfl) (fun _ _ _ _ h => h) wantedN hS8 (fun W hW => (by exact E.load f43 Try.underlying3 rfl rfl ((Bg3.kept hW (by simp)).cl rfl))) fun a44 f44 => ?_
          clear f43 a43
          refine R.take 2 f44 rfl rfl (by decide) (by kernel_rfl) (by kernel_rfl) (by kernel_rfl) (fun _ _ _ _ h => h) wantedN hS8 (fun W hW => (E.indexArr f44 Try.underlying51 wsz3_u rfl rfl (by omega) (by omega))) fun a45 f45 => ?_
          clear f44 a44
          refine R.take 3 f45 rfl rfl (by decide) (by kernel_rfl) (by kernel_rfl) (by kernel_rfl) (fun _ _ _ _ h => h) wantedN hS8 (fun W hW => (by exact E.load f45 Try.underlying3 rfl rfl ((Bg3.kept hW (by simp)).cl rfl))) fun a46 f46 => ?_
          clear f45 a45
          refine R.take 5 f46 rfl rfl (by decide) (by kernel_rfl) (by kernel_rfl) (by kernel_rfl) (fun _ _ _ _ h => h) wantedN hS8 (fun W hW => (E.indexArr f46 Try.underlying51 wsz3_u rfl rfl (by omega) (by omega))) fun a47 f47 => ?_
          clear f46 a46
          refine R.take 6 f47 rfl rfl (by decide) (by kernel_rfl) (by kernel_rfl) (by kernel_rfl) (fun _ _ _ _ h => h) wantedN hS8 (fun W hW => (by exact E.load f47 Try.underlying3 rfl rfl ((Bg3.kept hW (by simp)).cl rfl))) fun a48 f48 => ?_
          clear f47 a47
          refine R.take 7 f48 rfl rfl (by decide) (by kernel_rfl) (by kernel_rfl) (by kernel_rfl) (fun _ _ _ _ h => h) wantedN hS8 (fun W hW => (E.indexArr f48 Try.underlying51 wsz3_u rfl rfl (by omega) (by omega))) fun a49 f49 => ?_
          clear f48 a48
          refine R.take 8 f49 rfl rfl (by decide) (by kernel_rfl) (by kernel_rfl) (by kernel_rfl) (fun _ _ _ _ h => h) wantedN hS8 (fun W hW => (by exact E.load f49 Try.underlying3 rfl rfl ((Bg3.kept hW (by simp)).cl rfl))) fun a50 f50 => ?_
          clear f49 a49
          refine R.call 4 f50 rfl rfl (by decide) (by kernel_rfl) wantedN (run_call Try.call29 (args2 f50 rfl rfl)) (new_any xn yn _) ?_
          rintro e w7 ⟨m, fp, rfl, hMI, kc7, lo0⟩
          have lo1 : ∀ y ∈ fp, w2.heap.size ≤ y := fun y hy => Nat.le_trans (HK.trans hS8 (by simp)).size (lo0 y hy)
          have ltA := matI_lt hMI
          replace hS8 := hS8.trans kc7 (by simp)
          refine ⟨_, rfl, hS8, fun a51 f51 => ?_⟩
          clear f50 a50
          have szw7 := kc7.size
          clear kc7
          refine R.call 9 f51 rfl rfl (by decide) (by kernel_rfl) wantedN (run_call Try.call34 (args2 f51 rfl rfl)) (newR_any xn yn _) ?_
          rintro e w8 ⟨mR, fpR, rfl, hMR, kc8, loR0⟩
          have lo2 : ∀ y ∈ fpR, w2.heap.size ≤ y := fun y hy => Nat.le_trans (HK.trans hS8 (by simp)).size (loR0 y hy)
          have dis : ∀ y ∈ fp, y ∉ fpR := fun y hy hz => by have := ltA y hy; have := loR0 y hz; omega
          replace hS8 := hS8.trans kc8 (by simp)
          refine ⟨_, rfl, hS8, fun a52 f52 => ?_⟩
          clear f51 a51
          have szw8 := kc8.size
          replace hMI := hMI.kept kc8 (by simp)
          clear kc8
          refine R.take 10 f52 rfl rfl (by decide) (by kernel_rfl) (by kernel_rfl) (by kernel_rfl) (fun _ _ _ _ h => h) wantedN hS8 (fun W hW => (E.assign f52 rfl)) fun a53 f53 => ?_
          clear f52 a52
          refine R.take 11 f53 rfl rfl (by decide) (by kernel_rfl) (by kernel_rfl) (by kernel_rfl) (fun _ _ _ _ h => h) wantedN hS8 (fun W hW => (E.assign f53 rfl)) fun a54 f54 => ?_
          clear f53 a53
          have szw8r := hS8.size
          replace HK := HK.trans hS8 (by simp)
          replace Bg3 := Bg3.kept hS8 (by simp)
          clear hS8
          refine R.done (by kernel_rfl) (hK14 _ _ ?_)
          try clear hK14 K14
          have f55 := f54.sub (sub_cons (i := 2) rfl (sub_cons (i := 3) rfl (sub_cons (i := 10) rfl (sub_cons (i := 11) rfl (sub_cons (i := 12) rfl (sub_cons (i := 47) rfl (sub_cons (i := 48) rfl (sub_cons (i := 49) rfl (sub_cons (i := 50) rfl (sub_cons (i := 51) rfl (sub_cons (i := 52) rfl (sub_cons (i := 53) rfl (sub_cons (i := 54) rfl (sub_cons (i := 55) rfl (sub_cons (i := 56) rfl (sub_cons (i := 57) rfl (sub_cons (i := 58) rfl (sub_cons (i := 59) rfl (sub_cons (i := 60) rfl (sub_cons (i := 61) rfl (sub_cons (i := 62) rfl sub_nil)))))))))))))))))))))
          clear f54
          refine wp_seq_k fun K15 hK15 => ?_
          have TW : Two w2 w8 m fp (newRows xn) mR fpR (newRows xn) (newSelf xn yn) := ⟨hMI, hMR, fun y hy => (List.mem_append.1 hy).elim (lo1 y) (lo2 y), dis⟩
          refine C.region ?_
          refine L.val f55 wantedN rfl (by decide) (E.assign f55 rfl) fun a56 f56 => ?_
          clear f55 a54
          refine wpList_nil (hK15 _ _ ?_)
          try clear hK15 K15
          have f57 := f56.sub (sub_cons (i := 2) rfl (sub_cons (i := 3) rfl (sub_cons (i := 10) rfl (sub_cons (i := 11) rfl (sub_cons (i := 12) rfl (sub_cons (i := 13) rfl (sub_cons (i := 47) rfl (sub_cons (i := 48) rfl (sub_cons (i := 49) rfl (sub_cons (i := 50) rfl (sub_cons (i := 51) rfl (sub_cons (i := 52) rfl (sub_cons (i := 53) rfl (sub_cons (i := 54) rfl (sub_cons (i := 55) rfl (sub_cons (i := 56) rfl (sub_cons (i := 57) rfl (sub_cons (i := 58) rfl (sub_cons (i := 59) rfl (sub_cons (i := 60) rfl (sub_cons (i := 61) rfl (sub_cons (i := 62) rfl sub_nil))))))))))))))))))))))
          clear f56
          refine wp_block ?_
          refine C.loop (fun gk a W => ∃ (i : Nat) (fp fpR : List Nat) (rows : Rows15), i + gk = acts.length ∧ Kept [] w2 W ∧ Two w2 W m fp rows mR fpR rows (newSelf xn yn) ∧ Fr 199 a [(2, .slice Aa acts.length ca), (3, .slice Au us.length cu), (47, .slice (some ⟨g1, 0, none⟩) 2 2), (48, .int .i64 2), (49, .int .i64 j), (11, .pointer (some ⟨m, 0, none⟩)), (12, .pointer (some ⟨mR, 0, none⟩)), (13, .int .i64 i)]) (acts.length) ?_ ?_
          · exact ⟨0, fp, fpR, newRows xn, by omega, HK, TW, f57.sub (sub_cons rfl (sub_cons rfl (sub_cons rfl (sub_cons rfl (sub_cons rfl (sub_cons rfl (sub_cons rfl (sub_cons rfl sub_nil))))))))⟩
          · intro gk17 a58 w9 hI KL16 hKL16
            obtain ⟨i, fp, fpR, rows, hi, HK, TW, f58⟩ := hI
            try clear f57
            refine wp_seq_k fun K17 hK17 => ?_
            refine wp_seq_k fun K18 hK18 => ?_
            refine C.region ?_
            refine L.val f58 wantedN rfl (by decide) (E.move f58 rfl) fun a59 f59 => ?_
            clear f58 a58
            refine L.val f59 wantedN rfl (by decide) (E.move f59 rfl) fun a60 f60 => ?_
            clear f59 a59
            refine L.val f60 wantedN rfl (by decide) (E.lenL f60 Try.underlying50 rfl) fun a61 f61 => ?_
            clear f60 a60
            refine L.val f61 wantedN rfl (by decide) (E.lss f61 rfl rfl) fun a62 f62 => ?_
            clear f61 a61
            refine wpList_nil (hK18 _ _ ?_)
            try clear hK18 K18
            have f63 := f62.sub (sub_cons (i := 2) rfl (sub_cons (i := 3) rfl (sub_cons (i := 11) rfl (sub_cons (i := 12) rfl (sub_cons (i := 13) rfl (sub_cons (i := 47) rfl (sub_cons (i := 48) rfl (sub_cons (i := 49) rfl (sub_cons (i := 63) rfl (sub_cons (i := 64) rfl (sub_cons (i := 65) rfl (sub_cons (i := 66) rfl sub_nil))))))))))))
            clear f62
            first | refine f63.splitD 66 rfl (fun h3 f64 => ?_) (fun h3 f64 => ?_) | refine f63.splitN 66 rfl (fun h3 f64 => ?_) (fun h3 f64 => ?_) | refine f63.splitNB 66 rfl (fun h3 f64 => ?_) (fun h3 f64 => ?_) | refine f63.split 66 rfl (fun h3 f64 => ?_) (fun h3 f64 => ?_)
            · clear f63
              obtain ⟨x, hx⟩ : ∃ x, acts[i]? = some x := ⟨acts[i]'(by omega), List.getElem?_eq_getElem _⟩
              have hxm := List.mem_of_getElem? hx
              obtain ⟨ba, oa, hAa⟩ := Sl.addr hAC (by omega)
              refine C.condT f64 rfl ?_
              refine wp_skip (hK17 _ _ ?_)
              try clear hK17 K17
              have f65 := f64.sub (sub_cons (i := 2) rfl (sub_cons (i := 3) rfl (sub_cons (i := 11) rfl (sub_cons (i := 12) rfl (sub_cons (i := 13) rfl (sub_cons (i := 47) rfl (sub_cons (i := 48) rfl (sub_cons (i := 49) rfl (sub_cons (i := 63) rfl (sub_cons (i := 64) rfl (sub_cons (i := 65) rfl (sub_cons (i := 66) rfl sub_nil))))))))))))
              clear f64
              refine wp_seq_k fun K19 hK19 => ?_
              refine wp_block ?_
              refine wp_seq_k fun K20 hK20 => ?_
              have hlt12 := TW.lt
              refine C.region ?_
              refine L.val f65 wantedN rfl (by decide) (E.move f65 rfl) fun a66 f66 => ?_
              clear f65 a62
              refine L.val f66 wantedN rfl (by decide) (E.move f66 rfl) fun a67 f67 => ?_
              clear f66 a66
              refine L.val f67 wantedN rfl (by decide) (E.indexA f67 (by first | rfl | assumption) Try.underlying50 wsz57_u rfl rfl (by omega) (by omega)) fun a68 f68 => ?_
              clear f67 a67
              refine L.val f68 wantedN rfl (by decide) (by exact E.loadR f68 Try.underlying57 rfl wsz57_u rfl (((hAC.kept (HK0.trans HK (by simp))).row (by omega) hAa (flat_at acell 6 (fun _ => rfl) acts i x hx))) rfl) fun a69 f69 => ?_
              clear f68 a68
              refine L.alloc f69 wantedN (by decide) (z := (.agg #[(.int .i64 0), (.int .i64 0), (.int .i64 0), (.slice none 0 0), (.slice none 0 0), (.bool false)])) (fun _ => by kernel_rfl) rfl fun a70 w10 g9 N9 f70 => ?_
              have Bg9 := N9.blk
              have kg9 := N9.kept
              have log9 := N9.lo
              have ltg9 := Bg9.lt
              have szw10 := kg9.size
              have frg9 : w2.heap.size ≤ g9 := Nat.le_trans HK.size log9
              replace HK := HK.trans kg9 (by simp)
              replace TW := TW.kept0 kg9
              clear N9 kg9
              clear f69 a69
              refine L.storeR f70 wantedN wsz57_u rfl rfl rfl Bg9 rfl rfl fun a71 w11 f71 NB11 ks11 => ?_
              have szw11 := ks11.size
              replace HK := HK.trans ks11 (by intro y hy hlt; simp at hy; subst hy; exfalso; omega)
              replace TW := TW.keptG ks11 (by intro y hy hz; simp at hy; subst hy; have := hlt12 _ hz; omega)
              replace Bg9 := NB11
              clear ks11 f70 a70
              refine wpList_nil (hK20 _ _ ?_)
              try clear hK20 K20
              have f72 := f71.sub (sub_cons (i := 2) rfl (sub_cons (i := 3) rfl (sub_cons (i := 11) rfl (sub_cons (i := 12) rfl (sub_cons (i := 13) rfl (sub_cons (i := 14) rfl (sub_cons (i := 47) rfl (sub_cons (i := 48) rfl (sub_cons (i := 49) rfl (sub_cons (i := 63) rfl (sub_cons (i := 64) rfl (sub_cons (i := 65) rfl (sub_cons (i := 66) rfl (sub_cons (i := 69) rfl (sub_cons (i := 70) rfl (sub_cons (i := 71) rfl (sub_cons (i := 72) rfl sub_nil)))))))))))))))))
              clear f71
              refine wp_seq_k fun K21 hK21 => ?_
              refine wp_seq_k fun K22 hK22 => ?_
              have hga : g9 ∉ fp ++ fpR := fun hx => by have := hlt12 _ hx; omega
              refine C.region ?_
              refine L.val f72 wantedN rfl (by decide) (E.fieldAddr f72 Try.underlying57 rfl rfl wsz22_u) fun a73 f73 => ?_
              clear f72 a71
              refine L.val f73 wantedN rfl (by decide) (by exact E.load f73 Try.underlying22 rfl rfl ((Bg9).cl rfl)) fun a74 f74 => ?_
              clear f73 a73
              refine L.val f74 wantedN rfl (by decide) (E.lenL f74 Try.underlying22 rfl) fun a75 f75 => ?_
              clear f74 a74
              refine L.val f75 wantedN rfl (by decide) (E.gtr f75 rfl rfl) fun a76 f76 => ?_
              clear f75 a75
              refine L.val f76 wantedN rfl (by decide) (E.move f76 rfl) fun a77 f77 => ?_
              clear f76 a76
              first | refine f77.splitD 77 rfl (fun h4 f78 => ?_) (fun h4 f78 => ?_) | refine f77.splitN 77 rfl (fun h4 f78 => ?_) (fun h4 f78 => ?_) | refine f77.splitNB 77 rfl (fun h4 f78 => ?_) (fun h4 f78 => ?_) | refine f77.split 77 rfl (fun h4 f78 => ?_) (fun h4 f78 => ?_)
              · clear f77
                refine L.skip f78 (f78.noF rfl rfl) rfl (by decide) fun a79 f79 => ?_
                clear f78 a77
                refine L.skip f79 (f79.noF rfl rfl) rfl (by decide) fun a80 f80 => ?_
                clear f79 a79
                refine L.skip f80 (f80.noF rfl rfl) rfl (by decide) fun a81 f81 => ?_
                clear f80 a80
                refine L.skip f81 (f81.noF rfl rfl) rfl (by decide) fun a82 f82 => ?_
                clear f81 a81
                refine L.val f82 wantedN rfl (by decide) (E.pickT f82 rfl rfl) fun a83 f83 => ?_
                clear f82 a82
                refine wpList_nil (hK22 _ _ ?_)
                try clear hK22 K22
                have f84 := f83.sub (sub_cons (i := 2) rfl (sub_cons (i := 3) rfl (sub_cons (i := 11) rfl (sub_cons (i := 12) rfl (sub_cons (i := 13) rfl (sub_cons (i := 14) rfl (sub_cons (i := 47) rfl (sub_cons (i := 48) rfl (sub_cons (i := 49) rfl (sub_cons (i := 63) rfl (sub_cons (i := 64) rfl (sub_cons (i := 65) rfl (sub_cons (i := 66) rfl (sub_cons (i := 69) rfl (sub_cons (i := 70) rfl (sub_cons (i := 71) rfl (sub_cons (i := 72) rfl (sub_cons (i := 73) rfl (sub_cons (i := 74) rfl (sub_cons (i := 75) rfl (sub_cons (i := 76) rfl (sub_cons (i := 77) rfl (sub_cons (i := 78) rfl (sub_cons (i := 79) rfl (sub_cons (i := 80) rfl (sub_cons (i := 81) rfl (sub_cons (i := 82) rfl sub_nil)))))))))))))))))))))))))))
                clear f83
                refine C.condT f84 rfl ?_
                refine wp_seq_k fun K23 hK23 => ?_
                refine C.region ?_
                refine L.val f84 wantedN rfl (by decide) (E.assign f84 rfl) fun a85 f85 => ?_
                clear f84 a83
                refine wpList_nil (hK23 _ _ ?_)
                try clear hK23 K23
                have f86 := f85.sub (sub_cons (i := 2) rfl (sub_cons (i := 3) rfl (sub_cons (i := 8) rfl (sub_cons (i := 11) rfl (sub_cons (i := 12) rfl (sub_cons (i := 13) rfl (sub_cons (i := 14) rfl (sub_cons (i := 47) rfl (sub_cons (i := 48) rfl (sub_cons (i := 49) rfl (sub_cons (i := 63) rfl (sub_cons (i := 64) rfl (sub_cons (i := 65) rfl (sub_cons (i := 66) rfl (sub_cons (i := 69) rfl (sub_cons (i := 70) rfl (sub_cons (i := 71) rfl (sub_cons (i := 72) rfl (sub_cons (i := 73) rfl (sub_cons (i := 74) rfl (sub_cons (i := 75) rfl (sub_cons (i := 76) rfl (sub_cons (i := 77) rfl (sub_cons (i := 78) rfl (sub_cons (i := 79) rfl (sub_cons (i := 80) rfl (sub_cons (i := 81) rfl (sub_cons (i := 82) rfl sub_nil))))))))))))))))))))))))))))
                clear f85
                refine wp_ret ?_
                try simp only [Exit.inBlock, Exit.then]
                refine C.ret (P := Try.prog) (fn := Try.f9) f86 rfl rfl ?_
                exact ⟨rfl, (HK0.trans HK (by simp)).below0⟩
              · clear f77
                refine L.val f78 (f78.yes rfl rfl) rfl (by decide) (E.fieldAddr f78 Try.underlying57 rfl rfl wsz24_u) fun a79 f79 => ?_
                clear f78 a77
                refine L.val f79 (f79.yes rfl rfl) rfl (by decide) (by exact E.load f79 Try.underlying24 rfl rfl ((Bg9).cl rfl)) fun a80 f80 => ?_
                clear f79 a79
                refine L.val f80 (f80.yes rfl rfl) rfl (by decide) (E.lenL f80 Try.underlying24 rfl) fun a81 f81 => ?_
                clear f80 a80
                refine L.val f81 (f81.yes rfl rfl) rfl (by decide) (E.gtr f81 rfl rfl) fun a82 f82 => ?_
                clear f81 a81
                refine L.val f82 wantedN rfl (by decide) (E.pickF f82 rfl rfl) fun a83 f83 => ?_
                clear f82 a82
                refine wpList_nil (hK22 _ _ ?_)
                try clear hK22 K22
                have f84 := f83.sub (sub_cons (i := 2) rfl (sub_cons (i := 3) rfl (sub_cons (i := 11) rfl (sub_cons (i := 12) rfl (sub_cons (i := 13) rfl (sub_cons (i := 14) rfl (sub_cons (i := 47) rfl (sub_cons (i := 48) rfl (sub_cons (i := 49) rfl (sub_cons (i := 63) rfl (sub_cons (i := 64) rfl (sub_cons (i := 65) rfl (sub_cons (i := 66) rfl (sub_cons (i := 69) rfl (sub_cons (i := 70) rfl (sub_cons (i := 71) rfl (sub_cons (i := 72) rfl (sub_cons (i := 73) rfl (sub_cons (i := 74) rfl (sub_cons (i := 75) rfl (sub_cons (i := 76) rfl (sub_cons (i := 77) rfl (sub_cons (i := 78) rfl (sub_cons (i := 79) rfl (sub_cons (i := 80) rfl (sub_cons (i := 81) rfl (sub_cons (i := 82) rfl sub_nil)))))))))))))))))))))))))))
                clear f83
                first | refine f84.splitD 82 rfl (fun h5 f85 => ?_) (fun h5 f85 => ?_) | refine f84.splitN 82 rfl (fun h5 f85 => ?_) (fun h5 f85 => ?_) | refine f84.splitNB 82 rfl (fun h5 f85 => ?_) (fun h5 f85 => ?_) | refine f84.split 82 rfl (fun h5 f85 => ?_) (fun h5 f85 => ?_)
                · clear f84
                  refine C.condT f85 rfl ?_
                  refine wp_seq_k fun K24 hK24 => ?_
                  refine C.region ?_
                  refine L.val f85 wantedN rfl (by decide) (E.assign f85 rfl) fun a86 f86 => ?_
                  clear f85 a83
                  refine wpList_nil (hK24 _ _ ?_)
                  try clear hK24 K24
                  have f87 := f86.sub (sub_cons (i := 2) rfl (sub_cons (i := 3) rfl (sub_cons (i := 8) rfl (sub_cons (i := 11) rfl (sub_cons (i := 12) rfl (sub_cons (i := 13) rfl (sub_cons (i := 14) rfl (sub_cons (i := 47) rfl (sub_cons (i := 48) rfl (sub_cons (i := 49) rfl (sub_cons (i := 63) rfl (sub_cons (i := 64) rfl (sub_cons (i := 65) rfl (sub_cons (i := 66) rfl (sub_cons (i := 69) rfl (sub_cons (i := 70) rfl (sub_cons (i := 71) rfl (sub_cons (i := 72) rfl (sub_cons (i := 73) rfl (sub_cons (i := 74) rfl (sub_cons (i := 75) rfl (sub_cons (i := 76) rfl (sub_cons (i := 77) rfl (sub_cons (i := 78) rfl (sub_cons (i := 79) rfl (sub_cons (i := 80) rfl (sub_cons (i := 81) rfl (sub_cons (i := 82) rfl sub_nil))))))))))))))))))))))))))))
                  clear f86
                  refine wp_ret ?_
                  try simp only [Exit.inBlock, Exit.then]
                  refine C.ret (P := Try.prog) (fn := Try.f9) f87 rfl rfl ?_
                  exact ⟨rfl, (HK0.trans HK (by simp)).below0⟩
                · clear f84
                  have h12 : x.l.length ≤ 12 := by omega
                  have h12r : x.raw.length ≤ 12 := by omega
                  refine C.condF f85 rfl ?_
                  refine wp_skip (hK21 _ _ ?_)
                  try clear hK21 K21
                  have f86 := f85.sub (sub_cons (i := 2) rfl (sub_cons (i := 3) rfl (sub_cons (i := 11) rfl (sub_cons (i := 12) rfl (sub_cons (i := 13) rfl (sub_cons (i := 14) rfl (sub_cons (i := 47) rfl (sub_cons (i := 48) rfl (sub_cons (i := 49) rfl (sub_cons (i := 63) rfl (sub_cons (i := 64) rfl (sub_cons (i := 65) rfl (sub_cons (i := 66) rfl (sub_cons (i := 69) rfl (sub_cons (i := 70) rfl (sub_cons (i := 71) rfl (sub_cons (i := 72) rfl (sub_cons (i := 73) rfl (sub_cons (i := 74) rfl (sub_cons (i := 75) rfl (sub_cons (i := 76) rfl (sub_cons (i := 77) rfl (sub_cons (i := 78) rfl (sub_cons (i := 79) rfl (sub_cons (i := 80) rfl (sub_cons (i := 81) rfl (sub_cons (i := 82) rfl sub_nil)))))))))))))))))))))))))))
                  clear f85
                  refine wp_seq_k fun K25 hK25 => ?_
                  refine C.region ?_
                  refine L.val f86 wantedN rfl (by decide) (E.fieldAddr f86 Try.underlying57 rfl rfl wsz22_u) fun a87 f87 => ?_
                  clear f86 a83
                  refine L.val f87 wantedN rfl (by decide) (by exact E.load f87 Try.underlying22 rfl rfl ((Bg9).cl rfl)) fun a88 f88 => ?_
                  clear f87 a87
                  refine L.call f88 wantedN rfl (by decide) (run_call Try.call30 (args1 f88 rfl)) (of_any x.l _ _ _ ((hact x hxm).1.kept (HK0.trans HK (by simp))) h12 (hact x hxm).2.2) ?_
                  rintro e w12 ⟨kc12, Aw, cw, rfl, FW⟩
                  have dW : ∀ b, Aw.map (·.block) = some b → b ∉ fp ++ fpR := fun b hb hx => by have := FW.lo b hb; have := TW.lt b hx; omega
                  have dG : ∀ b, Aw.map (·.block) = some b → b ≠ g9 := fun b hb he => by have := FW.lo b hb; omega
                  refine ⟨_, rfl, fun a89 f89 => ?_⟩
                  clear f88 a88
                  have szw12 := kc12.size
                  replace HK := HK.trans kc12 (by simp)
                  replace TW := TW.kept0 kc12
                  replace Bg9 := Bg9.kept kc12 (by simp)
                  clear kc12
                  refine L.val f89 wantedN rfl (by decide) (E.assign f89 rfl) fun a90 f90 => ?_
                  clear f89 a89
                  refine wpList_nil (hK25 _ _ ?_)
                  try clear hK25 K25
                  have f91 := f90.sub (sub_cons (i := 2) rfl (sub_cons (i := 3) rfl (sub_cons (i := 11) rfl (sub_cons (i := 12) rfl (sub_cons (i := 13) rfl (sub_cons (i := 14) rfl (sub_cons (i := 15) rfl (sub_cons (i := 47) rfl (sub_cons (i := 48) rfl (sub_cons (i := 49) rfl (sub_cons (i := 63) rfl (sub_cons (i := 64) rfl (sub_cons (i := 65) rfl (sub_cons (i := 66) rfl (sub_cons (i := 69) rfl (sub_cons (i := 70) rfl (sub_cons (i := 71) rfl (sub_cons (i := 72) rfl (sub_cons (i := 73) rfl (sub_cons (i := 74) rfl (sub_cons (i := 75) rfl (sub_cons (i := 76) rfl (sub_cons (i := 77) rfl (sub_cons (i := 78) rfl (sub_cons (i := 79) rfl (sub_cons (i := 80) rfl (sub_cons (i := 81) rfl (sub_cons (i := 82) rfl (sub_cons (i := 83) rfl (sub_cons (i := 84) rfl (sub_cons (i := 85) rfl sub_nil)))))))))))))))))))))))))))))))
                  clear f90
                  refine wp_seq_k fun K26 hK26 => ?_
                  refine wp_seq_k fun K27 hK27 => ?_
                  refine C.region ?_
                  refine L.val f91 wantedN rfl (by decide) (E.move f91 rfl) fun a92 f92 => ?_
                  clear f91 a90
                  refine L.val f92 wantedN rfl (by decide) (E.rem f92 rfl rfl (by omega) (Int.tmod_eq_emod_of_nonneg (by omega))) fun a93 f93 => ?_
                  clear f92 a92
                  refine L.val f93 wantedN rfl (by decide) (E.eql f93 rfl rfl) fun a94 f94 => ?_
                  clear f93 a93
                  refine wpList_nil (hK27 _ _ ?_)
                  try clear hK27 K27
                  have f95 := f94.sub (sub_cons (i := 2) rfl (sub_cons (i := 3) rfl (sub_cons (i := 11) rfl (sub_cons (i := 12) rfl (sub_cons (i := 13) rfl (sub_cons (i := 14) rfl (sub_cons (i := 15) rfl (sub_cons (i := 47) rfl (sub_cons (i := 48) rfl (sub_cons (i := 49) rfl (sub_cons (i := 63) rfl (sub_cons (i := 64) rfl (sub_cons (i := 65) rfl (sub_cons (i := 66) rfl (sub_cons (i := 69) rfl (sub_cons (i := 70) rfl (sub_cons (i := 71) rfl (sub_cons (i := 72) rfl (sub_cons (i := 73) rfl (sub_cons (i := 74) rfl (sub_cons (i := 75) rfl (sub_cons (i := 76) rfl (sub_cons (i := 77) rfl (sub_cons (i := 78) rfl (sub_cons (i := 79) rfl (sub_cons (i := 80) rfl (sub_cons (i := 81) rfl (sub_cons (i := 82) rfl (sub_cons (i := 83) rfl (sub_cons (i := 84) rfl (sub_cons (i := 85) rfl (sub_cons (i := 86) rfl (sub_cons (i := 87) rfl (sub_cons (i := 88) rfl sub_nil))))))))))))))))))))))))))))))))))
                  clear f94
                  first | refine f95.splitD 88 rfl (fun h6 f96 => ?_) (fun h6 f96 => ?_) | refine f95.splitN 88 rfl (fun h6 f96 => ?_) (fun h6 f96 => ?_) | refine f95.splitNB 88 rfl (fun h6 f96 => ?_) (fun h6 f96 => ?_) | refine f95.split 88 rfl (fun h6 f96 => ?_) (fun h6 f96 => ?_)
                  · clear f95
                    refine C.condT f96 rfl ?_
                    refine C.region ?_
                    refine L.val f96 wantedN rfl (by decide) (E.fieldAddr f96 Try.underlying57 rfl rfl wsz24_u) fun a97 f97 => ?_
                    clear f96 a94
                    refine L.val f97 wantedN rfl (by decide) (by exact E.load f97 Try.underlying24 rfl rfl ((Bg9).cl rfl)) fun a98 f98 => ?_
                    clear f97 a97
                    refine L.val f98 wantedN rfl (by decide) (E.assign f98 rfl) fun a99 f99 => ?_
                    clear f98 a98
                    refine wpList_nil (hK26 _ _ ?_)
                    try clear hK26 K26
                    have f100 := f99.sub (sub_cons (i := 2) rfl (sub_cons (i := 3) rfl (sub_cons (i := 11) rfl (sub_cons (i := 12) rfl (sub_cons (i := 13) rfl (sub_cons (i := 14) rfl (sub_cons (i := 15) rfl (sub_cons (i := 47) rfl (sub_cons (i := 48) rfl (sub_cons (i := 49) rfl (sub_cons (i := 63) rfl (sub_cons (i := 64) rfl (sub_cons (i := 65) rfl (sub_cons (i := 66) rfl (sub_cons (i := 69) rfl (sub_cons (i := 70) rfl (sub_cons (i := 71) rfl (sub_cons (i := 72) rfl (sub_cons (i := 73) rfl (sub_cons (i := 74) rfl (sub_cons (i := 75) rfl (sub_cons (i := 76) rfl (sub_cons (i := 77) rfl (sub_cons (i := 78) rfl (sub_cons (i := 79) rfl (sub_cons (i := 80) rfl (sub_cons (i := 81) rfl (sub_cons (i := 82) rfl (sub_cons (i := 83) rfl (sub_cons (i := 84) rfl (sub_cons (i := 85) rfl (sub_cons (i := 86) rfl (sub_cons (i := 87) rfl (sub_cons (i := 88) rfl (sub_cons (i := 89) rfl (sub_cons (i := 90) rfl sub_nil))))))))))))))))))))))))))))))))))))
                    clear f99
                    refine wp_seq_k fun K28 hK28 => ?_
                    refine wp_seq_k fun K29 hK29 => ?_
                    have KN := Kept.refl [] w12
                    have TW0 := TW
                    refine R.begin (S := fun W => Kept (fp ++ fpR) w12 W) (by kernel_rfl) (by exact (Kept.refl _ _).drewN 1) ?_
                    have hS19 : Kept (fp ++ fpR) w12 (w12.drewN 1) := (Kept.refl _ _).drewN 1
                    have hd19 : Kept [] w12 (w12.drewN 1) := (Kept.refl _ _).drewN 1
                    obtain ⟨w13, hww13⟩ : ∃ W, W = w12.drewN 1 := ⟨_, rfl⟩
                    rw [← hww13] at hS19 hd19 ⊢
                    clear hww13
                    have szw13 := hS19.size
                    replace KN := KN.trans hd19 (by simp)
                    refine R.take 0 f100 rfl rfl (by decide) (by kernel_rfl) (by kernel_rfl) (by kernel_rfl) (fun _ _ _ _ h => h) wantedN hS19 (fun W hW => (E.move f100 rfl)) fun a101 f101 => ?_
                    clear f100 a99
                    refine R.take 1 f101 rfl rfl (by decide) (by kernel_rfl) (by kernel_rfl) (by kernel_rfl) (fun _ _ _ _ h => h) wantedN hS19 (fun W hW => (E.fieldAddr f101 Try.underlying57 rfl rfl wsz3_u)) fun a102 f102 => ?_
                    clear f101 a101
                    refine R.take 2 f102 rfl rfl (by decide) (by kernel_rfl) (by kernel_rfl) (by kernel_rfl) (fun _ _ _ _ h => h) wantedN hS19 (fun W hW => (by exact E.load f102 Try.underlying3 rfl rfl ((Bg9.kept hW (by exact hga)).cl rfl))) fun a103 f103 => ?_
                    clear f102 a102
                    refine R.take 3 f103 rfl rfl (by decide) (by kernel_rfl) (by kernel_rfl) (by kernel_rfl) (fun _ _ _ _ h => h) wantedN hS19 (fun W hW => (E.fieldAddr f103 Try.underlying57 rfl rfl wsz3_u)) fun a104 f104 => ?_
                    clear f103 a103
                    refine R.take 4 f104 rfl rfl (by decide) (by kernel_rfl) (by kernel_rfl) (by kernel_rfl) (fun _ _ _ _ h => h) wantedN hS19 (fun W hW => (by exact E.load f104 Try.underlying3 rfl rfl ((Bg9.kept hW (by exact hga)).cl rfl))) fun a105 f105 => ?_
                    clear f104 a104
                    refine R.take 5 f105 rfl rfl (by decide) (by kernel_rfl) (by kernel_rfl) (by kernel_rfl) (fun _ _ _ _ h => h) wantedN hS19 (fun W hW => (E.fieldAddr f105 Try.underlying57 rfl rfl wsz3_u)) fun a106 f106 => ?_
                    clear f105 a105
                    refine R.take 6 f106 rfl rfl (by decide) (by kernel_rfl) (by kernel_rfl) (by kernel_rfl) (fun _ _ _ _ h => h) wantedN hS19 (fun W hW => (by exact E.load f106 Try.underlying3 rfl rfl ((Bg9.kept hW (by exact hga)).cl rfl))) fun a107 f107 => ?_
                    clear f106 a106
                    refine R.take 7 f107 rfl rfl (by decide) (by kernel_rfl) (by kernel_rfl) (by kernel_rfl) (fun _ _ _ _ h => h) wantedN hS19 (fun W hW => (E.move f107 rfl)) fun a108 f108 => ?_
                    clear f107 a107
                    refine R.take 9 f108 rfl rfl (by decide) (by kernel_rfl) (by kernel_rfl) (by kernel_rfl) (fun _ _ _ _ h => h) wantedN hS19 (fun W hW => (E.move f108 rfl)) fun a109 f109 => ?_
                    clear f108 a108
                    refine R.take 10 f109 rfl rfl (by decide) (by kernel_rfl) (by kernel_rfl) (by kernel_rfl) (fun _ _ _ _ h => h) wantedN hS19 (fun W hW => (E.fieldAddr f109 Try.underlying57 rfl rfl wsz3_u)) fun a110 f110 => ?_
                    clear f109 a109
                    refine R.take 11 f110 rfl rfl (by decide) (by kernel_rfl) (by kernel_rfl) (by kernel_rfl) (fun _ _ _ _ h => h) wantedN hS19 (fun W hW => (by exact E.load f110 Try.underlying3 rfl rfl ((Bg9.kept hW (by exact hga)).cl rfl))) fun a111 f111 => ?_
                    clear f110 a110
                    refine R.take 12 f111 rfl rfl (by decide) (by kernel_rfl) (by kernel_rfl) (by kernel_rfl) (fun _ _ _ _ h => h) wantedN hS19 (fun W hW => (E.fieldAddr f111 Try.underlying57 rfl rfl wsz3_u)) fun a112 f112 => ?_
                    clear f111 a111
                    refine R.take 13 f112 rfl rfl (by decide) (by kernel_rfl) (by kernel_rfl) (by kernel_rfl) (fun _ _ _ _ h => h) wantedN hS19 (fun W hW => (by exact E.load f112 Try.underlying3 rfl rfl ((Bg9.kept hW (by exact hga)).cl rfl))) fun a113 f113 => ?_
                    clear f112 a112
                    refine R.take 14 f113 rfl rfl (by decide) (by kernel_rfl) (by kernel_rfl) (by kernel_rfl) (fun _ _ _ _ h => h) wantedN hS19 (fun W hW => (E.fieldAddr f113 Try.underlying57 rfl rfl wsz3_u)) fun a114 f114 => ?_
                    clear f113 a113
                    refine R.take 15 f114 rfl rfl (by decide) (by kernel_rfl) (by kernel_rfl) (by kernel_rfl) (fun _ _ _ _ h => h) wantedN hS19 (fun W hW => (by exact E.load f114 Try.underlying3 rfl rfl ((Bg9.kept hW (by exact hga)).cl rfl))) fun a115 f115 => ?_
                    clear f114 a114
                    refine R.take 16 f115 rfl rfl (by decide) (by kernel_rfl) (by kernel_rfl) (by kernel_rfl) (fun _ _ _ _ h => h) wantedN hS19 (fun W hW => (E.move f115 rfl)) fun a116 f116 => ?_
                    clear f115 a115
                    have TK := TW0.kept0 KN
                    have DS0 := (hact x hxm).2.1.kept (((HK0.trans HK (by simp))).trans KN (by simp))
                    have hsl : x.raw.length ≤ 1000000 := by omega
                    refine R.call 8 f116 rfl rfl (by decide) (by kernel_rfl) wantedN (run_call Try.call31 (args5 f116 rfl rfl rfl rfl rfl)) (hearA_any TK.a x.from_ x.epoch x.at_ x.raw x.B x.d w13 DS0 hsl) ?_
                    rintro e w14 ⟨rfl, kc14, hP1⟩
                    obtain ⟨fp2, T1, hf1⟩ := TK.hearA kc14 hP1 (Nat.le_trans HK.size KN.size)
                    have DS1 := keptLow (hact x hxm).2.1 (((HK0.trans HK (by simp))).trans KN (by simp)) kc14 (fun y hy => Nat.le_trans HK0.size (TW0.lo y (List.mem_append_left _ hy)))
                    replace hS19 := hS19.trans kc14 (by exact fun y hy _ => List.mem_append_left _ hy)
                    refine ⟨_, rfl, hS19, fun a117 f117 => ?_⟩
                    clear f116 a116
                    have szw14 := kc14.size
                    clear kc14
                    refine R.call 17 f117 rfl rfl (by decide) (by kernel_rfl) wantedN (run_call Try.call35 (args5 f117 rfl rfl rfl rfl rfl)) (hearB_any T1.b x.from_ x.epoch x.at_ x.raw x.B x.d w14 DS1 hsl) ?_
                    rintro e w15 ⟨rfl, kc15, hP2⟩
                    obtain ⟨fpR2, T2, hf2⟩ := T1.hearB kc15 hP2 (by have := HK.size; have := KN.size; omega)
                    replace hS19 := hS19.trans kc15 (by exact fun y hy _ => List.mem_append_right _ hy)
                    refine ⟨_, rfl, hS19, fun a118 f118 => ?_⟩
                    clear f117 a117
                    have szw15 := kc15.size
                    clear kc15
                    refine R.take 18 f118 rfl rfl (by decide) (by kernel_rfl) (by kernel_rfl) (by kernel_rfl) (fun _ _ _ _ h => h) wantedN hS19 (fun W hW => (E.neqB f118 Try.underlying4 rfl rfl)) fun a119 f119 => ?_
                    clear f118 a118
                    have f120 := f119.as (i := 121) (v' := .bool false) rfl (by simp)
                    clear f119
                    have szw15r := hS19.size
                    replace HK := HK.trans hS19 (fun y hy hlt => absurd (TW0.lo y hy) (by omega))
                    replace Bg9 := Bg9.kept hS19 hga
                    clear hS19
                    refine R.done (by kernel_rfl) (hK29 _ _ ?_)
                    try clear hK29 K29
                    have f121 := f120.sub (sub_cons (i := 2) rfl (sub_cons (i := 3) rfl (sub_cons (i := 11) rfl (sub_cons (i := 12) rfl (sub_cons (i := 13) rfl (sub_cons (i := 14) rfl (sub_cons (i := 15) rfl (sub_cons (i := 47) rfl (sub_cons (i := 48) rfl (sub_cons (i := 49) rfl (sub_cons (i := 63) rfl (sub_cons (i := 64) rfl (sub_cons (i := 65) rfl (sub_cons (i := 66) rfl (sub_cons (i := 69) rfl (sub_cons (i := 70) rfl (sub_cons (i := 71) rfl (sub_cons (i := 72) rfl (sub_cons (i := 73) rfl (sub_cons (i := 74) rfl (sub_cons (i := 75) rfl (sub_cons (i := 76) rfl (sub_cons (i := 77) rfl (sub_cons (i := 78) rfl (sub_cons (i := 79) rfl (sub_cons (i := 80) rfl (sub_cons (i := 81) rfl (sub_cons (i := 82) rfl (sub_cons (i := 83) rfl (sub_cons (i := 84) rfl (sub_cons (i := 85) rfl (sub_cons (i := 86) rfl (sub_cons (i := 87) rfl (sub_cons (i := 88) rfl (sub_cons (i := 89) rfl (sub_cons (i := 90) rfl (sub_cons (i := 103) rfl (sub_cons (i := 104) rfl (sub_cons (i := 105) rfl (sub_cons (i := 106) rfl (sub_cons (i := 107) rfl (sub_cons (i := 108) rfl (sub_cons (i := 109) rfl (sub_cons (i := 110) rfl (sub_cons (i := 111) rfl (sub_cons (i := 112) rfl (sub_cons (i := 113) rfl (sub_cons (i := 114) rfl (sub_cons (i := 115) rfl (sub_cons (i := 116) rfl (sub_cons (i := 117) rfl (sub_cons (i := 118) rfl (sub_cons (i := 119) rfl (sub_cons (i := 120) rfl (sub_cons (i := 121) rfl sub_nil)))))))))))))))))))))))))))))))))))))))))))))))))))))))
                    clear f120
                    refine C.condF f121 rfl ?_
                    refine wp_skip (hK28 _ _ ?_)
                    try clear hK28 K28
                    have f122 := f121.sub (sub_cons (i := 2) rfl (sub_cons (i := 3) rfl (sub_cons (i := 11) rfl (sub_cons (i := 12) rfl (sub_cons (i := 13) rfl (sub_cons (i := 14) rfl (sub_cons (i := 15) rfl (sub_cons (i := 47) rfl (sub_cons (i := 48) rfl (sub_cons (i := 49) rfl (sub_cons (i := 63) rfl (sub_cons (i := 64) rfl (sub_cons (i := 65) rfl (sub_cons (i := 66) rfl (sub_cons (i := 69) rfl (sub_cons (i := 70) rfl (sub_cons (i := 71) rfl (sub_cons (i := 72) rfl (sub_cons (i := 73) rfl (sub_cons (i := 74) rfl (sub_cons (i := 75) rfl (sub_cons (i := 76) rfl (sub_cons (i := 77) rfl (sub_cons (i := 78) rfl (sub_cons (i := 79) rfl (sub_cons (i := 80) rfl (sub_cons (i := 81) rfl (sub_cons (i := 82) rfl (sub_cons (i := 83) rfl (sub_cons (i := 84) rfl (sub_cons (i := 85) rfl (sub_cons (i := 86) rfl (sub_cons (i := 87) rfl (sub_cons (i := 88) rfl (sub_cons (i := 89) rfl (sub_cons (i := 90) rfl (sub_cons (i := 103) rfl (sub_cons (i := 104) rfl (sub_cons (i := 105) rfl (sub_cons (i := 106) rfl (sub_cons (i := 107) rfl (sub_cons (i := 108) rfl (sub_cons (i := 109) rfl (sub_cons (i := 110) rfl (sub_cons (i := 111) rfl (sub_cons (i := 112) rfl (sub_cons (i := 113) rfl (sub_cons (i := 114) rfl (sub_cons (i := 115) rfl (sub_cons (i := 116) rfl (sub_cons (i := 117) rfl (sub_cons (i := 118) rfl (sub_cons (i := 119) rfl (sub_cons (i := 120) rfl (sub_cons (i := 121) rfl sub_nil)))))))))))))))))))))))))))))))))))))))))))))))))))))))
                    clear f121
                    refine wp_seq_k fun K30 hK30 => ?_
                    refine wp_seq_k fun K31 hK31 => ?_
                    have TW := T2
                    refine C.region ?_
                    refine L.val f122 wantedN rfl (by decide) (E.assign f122 rfl) fun a123 f123 => ?_
                    clear f122 a119
                    refine wpList_nil (hK31 _ _ ?_)
                    try clear hK31 K31
                    have f124 := f123.sub (sub_cons (i := 2) rfl (sub_cons (i := 3) rfl (sub_cons (i := 11) rfl (sub_cons (i := 12) rfl (sub_cons (i := 13) rfl (sub_cons (i := 14) rfl (sub_cons (i := 15) rfl (sub_cons (i := 16) rfl (sub_cons (i := 47) rfl (sub_cons (i := 48) rfl (sub_cons (i := 49) rfl (sub_cons (i := 63) rfl (sub_cons (i := 64) rfl (sub_cons (i := 65) rfl (sub_cons (i := 66) rfl (sub_cons (i := 69) rfl (sub_cons (i := 70) rfl (sub_cons (i := 71) rfl (sub_cons (i := 72) rfl (sub_cons (i := 73) rfl (sub_cons (i := 74) rfl (sub_cons (i := 75) rfl (sub_cons (i := 76) rfl (sub_cons (i := 77) rfl (sub_cons (i := 78) rfl (sub_cons (i := 79) rfl (sub_cons (i := 80) rfl (sub_cons (i := 81) rfl (sub_cons (i := 82) rfl (sub_cons (i := 83) rfl (sub_cons (i := 84) rfl (sub_cons (i := 85) rfl (sub_cons (i := 86) rfl (sub_cons (i := 87) rfl (sub_cons (i := 88) rfl (sub_cons (i := 89) rfl (sub_cons (i := 90) rfl (sub_cons (i := 103) rfl (sub_cons (i := 104) rfl (sub_cons (i := 105) rfl (sub_cons (i := 106) rfl (sub_cons (i := 107) rfl (sub_cons (i := 108) rfl (sub_cons (i := 109) rfl (sub_cons (i := 110) rfl (sub_cons (i := 111) rfl (sub_cons (i := 112) rfl (sub_cons (i := 113) rfl (sub_cons (i := 114) rfl (sub_cons (i := 115) rfl (sub_cons (i := 116) rfl (sub_cons (i := 117) rfl (sub_cons (i := 118) rfl (sub_cons (i := 119) rfl (sub_cons (i := 120) rfl (sub_cons (i := 121) rfl sub_nil))))))))))))))))))))))))))))))))))))))))))))))))))))))))
                    clear f123
                    refine wp_block ?_
                    have HKm := HK
                    have TWm := TW
                    have HK := Kept.refl [] w15
                    have BM := Bg9
                    refine C.loop (fun gk a W => ∃ q : Int, -1 ≤ q ∧ q + gk = 5 ∧ Kept [] w15 W ∧ Fr 199 a [(2, .slice Aa acts.length ca), (3, .slice Au us.length cu), (47, .slice (some ⟨g1, 0, none⟩) 2 2), (48, .int .i64 2), (49, .int .i64 j), (11, .pointer (some ⟨m, 0, none⟩)), (12, .pointer (some ⟨mR, 0, none⟩)), (13, .int .i64 i), (14, .pointer (some ⟨g9, 0, none⟩)), (16, .int .i64 q)]) (6) ?_ ?_
                    · exact ⟨-1, by omega, by omega, HK, f124.sub (sub_cons rfl (sub_cons rfl (sub_cons rfl (sub_cons rfl (sub_cons rfl (sub_cons rfl (sub_cons rfl (sub_cons rfl (sub_cons rfl (sub_cons rfl sub_nil))))))))))⟩
                    · intro gk33 a125 w16 hI KL32 hKL32
                      obtain ⟨q, hq1, hq2, HK, f125⟩ := hI
                      try clear f124
                      have TW := TWm.kept0 HK
                      refine wp_seq_k fun K33 hK33 => ?_
                      refine wp_seq_k fun K34 hK34 => ?_
                      refine C.region ?_
                      refine L.val f125 wantedN rfl (by decide) (E.move f125 rfl) fun a126 f126 => ?_
                      clear f125 a125
                      refine L.val f126 wantedN rfl (by decide) (E.lss f126 rfl rfl) fun a127 f127 => ?_
                      clear f126 a126
                      refine wpList_nil (hK34 _ _ ?_)
                      try clear hK34 K34
                      have f128 := f127.sub (sub_cons (i := 2) rfl (sub_cons (i := 3) rfl (sub_cons (i := 11) rfl (sub_cons (i := 12) rfl (sub_cons (i := 13) rfl (sub_cons (i := 14) rfl (sub_cons (i := 16) rfl (sub_cons (i := 47) rfl (sub_cons (i := 48) rfl (sub_cons (i := 49) rfl (sub_cons (i := 122) rfl (sub_cons (i := 123) rfl sub_nil))))))))))))
                      clear f127
                      first | refine f128.splitD 123 rfl (fun h7 f129 => ?_) (fun h7 f129 => ?_) | refine f128.splitN 123 rfl (fun h7 f129 => ?_) (fun h7 f129 => ?_) | refine f128.splitNB 123 rfl (fun h7 f129 => ?_) (fun h7 f129 => ?_) | refine f128.split 123 rfl (fun h7 f129 => ?_) (fun h7 f129 => ?_)
                      · clear f128
                        refine C.condT f129 rfl ?_
                        refine wp_skip (hK33 _ _ ?_)
                        try clear hK33 K33
                        have f130 := f129.sub (sub_cons (i := 2) rfl (sub_cons (i := 3) rfl (sub_cons (i := 11) rfl (sub_cons (i := 12) rfl (sub_cons (i := 13) rfl (sub_cons (i := 14) rfl (sub_cons (i := 16) rfl (sub_cons (i := 47) rfl (sub_cons (i := 48) rfl (sub_cons (i := 49) rfl (sub_cons (i := 122) rfl (sub_cons (i := 123) rfl sub_nil))))))))))))
                        clear f129
                        refine wp_seq_k fun K35 hK35 => ?_
                        refine wp_block ?_
                        refine wp_seq_k fun K36 hK36 => ?_
                        refine C.region ?_
                        refine L.val f130 wantedN rfl (by decide) (E.move f130 rfl) fun a131 f131 => ?_
                        clear f130 a127
                        refine L.val f131 wantedN rfl (by decide) (E.move f131 rfl) fun a132 f132 => ?_
                        clear f131 a131
                        refine L.call f132 wantedN rfl (by decide) (run_call Try.call36 (args2 f132 rfl rfl)) (rowA_any TW.a q) ?_
                        rintro e w17 ⟨kc17, Ar, cr, rfl, FR⟩
                        refine ⟨_, rfl, fun a133 f133 => ?_⟩
                        clear f132 a132
                        have szw17 := kc17.size
                        replace HK := HK.trans kc17 (by simp)
                        clear kc17
                        refine L.val f133 wantedN rfl (by decide) (E.move f133 rfl) fun a134 f134 => ?_
                        clear f133 a133
                        refine L.val f134 wantedN rfl (by decide) (E.extract f134 rfl rfl) fun a135 f135 => ?_
                        clear f134 a134
                        refine L.val f135 wantedN rfl (by decide) (E.extract f135 rfl rfl) fun a136 f136 => ?_
                        clear f135 a135
                        refine L.val f136 wantedN rfl (by decide) (E.extract f136 rfl rfl) fun a137 f137 => ?_
                        clear f136 a136
                        refine L.val f137 wantedN rfl (by decide) (E.assign f137 rfl) fun a138 f138 => ?_
                        clear f137 a137
                        refine L.val f138 wantedN rfl (by decide) (E.assign f138 rfl) fun a139 f139 => ?_
                        clear f138 a138
                        refine L.val f139 wantedN rfl (by decide) (E.assign f139 rfl) fun a140 f140 => ?_
                        clear f139 a139
                        refine wpList_nil (hK36 _ _ ?_)
                        try clear hK36 K36
                        have f141 := f140.sub (sub_cons (i := 2) rfl (sub_cons (i := 3) rfl (sub_cons (i := 11) rfl (sub_cons (i := 12) rfl (sub_cons (i := 13) rfl (sub_cons (i := 14) rfl (sub_cons (i := 16) rfl (sub_cons (i := 17) rfl (sub_cons (i := 18) rfl (sub_cons (i := 19) rfl (sub_cons (i := 47) rfl (sub_cons (i := 48) rfl (sub_cons (i := 49) rfl (sub_cons (i := 122) rfl (sub_cons (i := 123) rfl (sub_cons (i := 126) rfl (sub_cons (i := 127) rfl (sub_cons (i := 128) rfl (sub_cons (i := 129) rfl (sub_cons (i := 130) rfl (sub_cons (i := 131) rfl (sub_cons (i := 132) rfl sub_nil))))))))))))))))))))))
                        clear f140
                        refine wp_seq_k fun K37 hK37 => ?_
                        refine C.region ?_
                        refine L.val f141 wantedN rfl (by decide) (E.move f141 rfl) fun a142 f142 => ?_
                        clear f141 a140
                        refine L.val f142 wantedN rfl (by decide) (E.move f142 rfl) fun a143 f143 => ?_
                        clear f142 a142
                        refine L.call f143 wantedN rfl (by decide) (run_call Try.call37 (args2 f143 rfl rfl)) (rowB_any (TWm.kept0 HK).b q) ?_
                        rintro e w18 ⟨kc18, As, cs, rfl, DSr, hls⟩
                        refine ⟨_, rfl, fun a144 f144 => ?_⟩
                        clear f143 a143
                        have szw18 := kc18.size
                        replace HK := HK.trans kc18 (by simp)
                        replace FR := FR.kept0 kc18
                        clear kc18
                        refine L.val f144 wantedN rfl (by decide) (E.move f144 rfl) fun a145 f145 => ?_
                        clear f144 a144
                        refine L.val f145 wantedN rfl (by decide) (E.extract f145 rfl rfl) fun a146 f146 => ?_
                        clear f145 a145
                        refine L.val f146 wantedN rfl (by decide) (E.extract f146 rfl rfl) fun a147 f147 => ?_
                        clear f146 a146
                        refine L.val f147 wantedN rfl (by decide) (E.extract f147 rfl rfl) fun a148 f148 => ?_
                        clear f147 a147
                        refine L.val f148 wantedN rfl (by decide) (E.assign f148 rfl) fun a149 f149 => ?_
                        clear f148 a148
                        refine L.val f149 wantedN rfl (by decide) (E.assign f149 rfl) fun a150 f150 => ?_
                        clear f149 a149
                        refine L.val f150 wantedN rfl (by decide) (E.assign f150 rfl) fun a151 f151 => ?_
                        clear f150 a150
                        refine wpList_nil (hK37 _ _ ?_)
                        try clear hK37 K37
                        have f152 := f151.sub (sub_cons (i := 2) rfl (sub_cons (i := 3) rfl (sub_cons (i := 11) rfl (sub_cons (i := 12) rfl (sub_cons (i := 13) rfl (sub_cons (i := 14) rfl (sub_cons (i := 16) rfl (sub_cons (i := 17) rfl (sub_cons (i := 18) rfl (sub_cons (i := 19) rfl (sub_cons (i := 20) rfl (sub_cons (i := 21) rfl (sub_cons (i := 22) rfl (sub_cons (i := 47) rfl (sub_cons (i := 48) rfl (sub_cons (i := 49) rfl (sub_cons (i := 122) rfl (sub_cons (i := 123) rfl (sub_cons (i := 126) rfl (sub_cons (i := 127) rfl (sub_cons (i := 128) rfl (sub_cons (i := 129) rfl (sub_cons (i := 130) rfl (sub_cons (i := 131) rfl (sub_cons (i := 132) rfl (sub_cons (i := 133) rfl (sub_cons (i := 134) rfl (sub_cons (i := 135) rfl (sub_cons (i := 136) rfl (sub_cons (i := 137) rfl (sub_cons (i := 138) rfl (sub_cons (i := 139) rfl sub_nil))))))))))))))))))))))))))))))))
                        clear f151
                        refine wp_seq_k fun K38 hK38 => ?_
                        refine C.region ?_
                        refine L.val f152 wantedN rfl (by decide) (E.move f152 rfl) fun a153 f153 => ?_
                        clear f152 a151
                        refine L.val f153 wantedN rfl (by decide) (E.move f153 rfl) fun a154 f154 => ?_
                        clear f153 a153
                        refine L.val f154 wantedN rfl (by decide) (E.neq f154 rfl rfl) fun a155 f155 => ?_
                        clear f154 a154
                        have f156 := f155.as (i := 142) (v' := .bool false) rfl (by simp)
                        clear f155
                        refine L.val f156 wantedN rfl (by decide) (E.move f156 rfl) fun a157 f157 => ?_
                        clear f156 a155
                        refine L.val f157 (f157.yes rfl rfl) rfl (by decide) (E.move f157 rfl) fun a158 f158 => ?_
                        clear f157 a157
                        refine L.val f158 (f158.yes rfl rfl) rfl (by decide) (E.move f158 rfl) fun a159 f159 => ?_
                        clear f158 a158
                        refine L.val f159 (f159.yes rfl rfl) rfl (by decide) (E.neq f159 rfl rfl) fun a160 f160 => ?_
                        clear f159 a159
                        have f161 := f160.as (i := 146) (v' := .bool false) rfl (by simp)
                        clear f160
                        refine L.val f161 wantedN rfl (by decide) (E.pickF f161 rfl rfl) fun a162 f162 => ?_
                        clear f161 a160
                        refine L.val f162 wantedN rfl (by decide) (E.move f162 rfl) fun a163 f163 => ?_
                        clear f162 a162
                        refine L.val f163 (f163.yes rfl rfl) rfl (by decide) (E.move f163 rfl) fun a164 f164 => ?_
                        clear f163 a163
                        refine L.val f164 (f164.yes rfl rfl) rfl (by decide) (E.move f164 rfl) fun a165 f165 => ?_
                        clear f164 a164
                        refine L.call f165 (f165.yes rfl rfl) rfl (by decide) (run_call Try.call14 (args2 f165 rfl rfl)) (dotsEq_any _ _ _ _ _ _ _ FR.sl DSr (by unfold maxLen; omega) (by unfold maxLen; omega)) ?_
                        rintro e w19 ⟨kc19, rfl⟩
                        refine ⟨_, rfl, fun a166 f166 => ?_⟩
                        clear f165 a165
                        have szw19 := kc19.size
                        replace HK := HK.trans kc19 (by simp)
                        replace FR := FR.kept0 kc19
                        replace DSr := DSr.kept kc19
                        clear kc19
                        have f167 := f166.as (i := 151) (v' := .bool true) rfl (by simp)
                        clear f166
                        refine L.val f167 (f167.yes rfl rfl) rfl (by decide) (E.not f167 rfl) fun a168 f168 => ?_
                        clear f167 a166
                        refine L.val f168 wantedN rfl (by decide) (E.pickF f168 rfl rfl) fun a169 f169 => ?_
                        clear f168 a168
                        refine wpList_nil (hK38 _ _ ?_)
                        try clear hK38 K38
                        have f170 := f169.sub (sub_cons (i := 2) rfl (sub_cons (i := 3) rfl (sub_cons (i := 11) rfl (sub_cons (i := 12) rfl (sub_cons (i := 13) rfl (sub_cons (i := 14) rfl (sub_cons (i := 16) rfl (sub_cons (i := 17) rfl (sub_cons (i := 18) rfl (sub_cons (i := 19) rfl (sub_cons (i := 20) rfl (sub_cons (i := 21) rfl (sub_cons (i := 22) rfl (sub_cons (i := 47) rfl (sub_cons (i := 48) rfl (sub_cons (i := 49) rfl (sub_cons (i := 122) rfl (sub_cons (i := 123) rfl (sub_cons (i := 126) rfl (sub_cons (i := 127) rfl (sub_cons (i := 128) rfl (sub_cons (i := 129) rfl (sub_cons (i := 130) rfl (sub_cons (i := 131) rfl (sub_cons (i := 132) rfl (sub_cons (i := 133) rfl (sub_cons (i := 134) rfl (sub_cons (i := 135) rfl (sub_cons (i := 136) rfl (sub_cons (i := 137) rfl (sub_cons (i := 138) rfl (sub_cons (i := 139) rfl (sub_cons (i := 140) rfl (sub_cons (i := 141) rfl (sub_cons (i := 142) rfl (sub_cons (i := 143) rfl (sub_cons (i := 144) rfl (sub_cons (i := 145) rfl (sub_cons (i := 146) rfl (sub_cons (i := 147) rfl (sub_cons (i := 148) rfl (sub_cons (i := 149) rfl (sub_cons (i := 150) rfl (sub_cons (i := 151) rfl (sub_cons (i := 152) rfl (sub_cons (i := 153) rfl sub_nil))))))))))))))))))))))))))))))))))))))))))))))
                        clear f169
                        refine C.condF f170 rfl ?_
                        refine wp_skip (hK35 _ _ ?_)
                        try clear hK35 K35
                        have f171 := f170.sub (sub_cons (i := 2) rfl (sub_cons (i := 3) rfl (sub_cons (i := 11) rfl (sub_cons (i := 12) rfl (sub_cons (i := 13) rfl (sub_cons (i := 14) rfl (sub_cons (i := 16) rfl (sub_cons (i := 17) rfl (sub_cons (i := 18) rfl (sub_cons (i := 19) rfl (sub_cons (i := 20) rfl (sub_cons (i := 21) rfl (sub_cons (i := 22) rfl (sub_cons (i := 47) rfl (sub_cons (i := 48) rfl (sub_cons (i := 49) rfl (sub_cons (i := 122) rfl (sub_cons (i := 123) rfl (sub_cons (i := 126) rfl (sub_cons (i := 127) rfl (sub_cons (i := 128) rfl (sub_cons (i := 129) rfl (sub_cons (i := 130) rfl (sub_cons (i := 131) rfl (sub_cons (i := 132) rfl (sub_cons (i := 133) rfl (sub_cons (i := 134) rfl (sub_cons (i := 135) rfl (sub_cons (i := 136) rfl (sub_cons (i := 137) rfl (sub_cons (i := 138) rfl (sub_cons (i := 139) rfl (sub_cons (i := 140) rfl (sub_cons (i := 141) rfl (sub_cons (i := 142) rfl (sub_cons (i := 143) rfl (sub_cons (i := 144) rfl (sub_cons (i := 145) rfl (sub_cons (i := 146) rfl (sub_cons (i := 147) rfl (sub_cons (i := 148) rfl (sub_cons (i := 149) rfl (sub_cons (i := 150) rfl (sub_cons (i := 151) rfl (sub_cons (i := 152) rfl (sub_cons (i := 153) rfl sub_nil))))))))))))))))))))))))))))))))))))))))))))))
                        clear f170
                        refine C.region ?_
                        refine L.val f171 wantedN rfl (by decide) (E.move f171 rfl) fun a172 f172 => ?_
                        clear f171 a169
                        refine L.val f172 wantedN rfl (by decide) (E.add f172 rfl rfl (IntWalk.i64_in _ (by omega))) fun a173 f173 => ?_
                        clear f172 a172
                        refine L.val f173 wantedN rfl (by decide) (E.assign f173 rfl) fun a174 f174 => ?_
                        clear f173 a173
                        refine wpList_nil (hKL32 _ _ (gk33 - 1) ?_ ?_)
                        · omega
                        · exact ⟨q + 1, by omega, by omega, HK, f174.sub (sub_cons rfl (sub_cons rfl (sub_cons rfl (sub_cons rfl (sub_cons rfl (sub_cons rfl (sub_cons rfl (sub_cons rfl (sub_cons rfl (sub_cons rfl sub_nil))))))))))⟩
                      · clear f128
                        refine C.condF f129 rfl ?_
                        refine wp_exit (hK30 _ _ ?_)
                        try clear hK30 K30
                        have f130 := f129.sub (sub_cons (i := 2) rfl (sub_cons (i := 3) rfl (sub_cons (i := 11) rfl (sub_cons (i := 12) rfl (sub_cons (i := 13) rfl (sub_cons (i := 14) rfl (sub_cons (i := 16) rfl (sub_cons (i := 47) rfl (sub_cons (i := 48) rfl (sub_cons (i := 49) rfl (sub_cons (i := 122) rfl (sub_cons (i := 123) rfl sub_nil))))))))))))
                        clear f129
                        refine wp_seq_k fun K39 hK39 => ?_
                        have A2m := A2.kept ((HK0.trans HKm (by simp)).trans HK (by simp))
                        have BMx := BM.kept HK (by simp)
                        refine R.begin (S := fun W => Kept [] w16 W) (by kernel_rfl) (by exact (Kept.refl _ _).drewN 1) ?_
                        have hS28 : Kept [] w16 (w16.drewN 1) := (Kept.refl _ _).drewN 1
                        have hd28 : Kept [] w16 (w16.drewN 1) := (Kept.refl _ _).drewN 1
                        obtain ⟨w17, hww17⟩ : ∃ W, W = w16.drewN 1 := ⟨_, rfl⟩
                        rw [← hww17] at hS28 hd28 ⊢
                        clear hww17
                        have szw17 := hS28.size
                        refine R.take 0 f130 rfl rfl (by decide) (by kernel_rfl) (by kernel_rfl) (by kernel_rfl) (fun _ _ _ _ h => h) wantedN hS28 (fun W hW => (E.move f130 rfl)) fun a131 f131 => ?_
                        clear f130 a127
                        refine R.take 1 f131 rfl rfl (by decide) (by kernel_rfl) (by kernel_rfl) (by kernel_rfl) (fun _ _ _ _ h => h) wantedN hS28 (fun W hW => (E.fieldAddr f131 Try.underlying57 rfl rfl wsz3_u)) fun a132 f132 => ?_
                        clear f131 a131
                        refine R.take 2 f132 rfl rfl (by decide) (by kernel_rfl) (by kernel_rfl) (by kernel_rfl) (fun _ _ _ _ h => h) wantedN hS28 (fun W hW => (by exact E.load f132 Try.underlying3 rfl rfl ((BMx.kept hW (by simp)).cl rfl))) fun a133 f133 => ?_
                        clear f132 a132
                        refine R.take 3 f133 rfl rfl (by decide) (by kernel_rfl) (by kernel_rfl) (by kernel_rfl) (fun _ _ _ _ h => h) wantedN hS28 (fun W hW => (E.move f133 rfl)) fun a134 f134 => ?_
                        clear f133 a133
                        refine R.call 4 f134 rfl rfl (by decide) (by kernel_rfl) wantedN (run_call Try.call30 (args1 f134 rfl)) (of_any us _ _ _ (A2m.kept hS28) h12u hbu) ?_
                        rintro e w18 ⟨kc18, Ay, cy, rfl, FY⟩
                        replace hS28 := hS28.trans kc18 (by simp)
                        refine ⟨_, rfl, hS28, fun a135 f135 => ?_⟩
                        clear f134 a134
                        have szw18 := kc18.size
                        clear kc18
                        refine R.call 5 f135 rfl rfl (by decide) (by kernel_rfl) wantedN (run_call Try.call32 (args3 f135 rfl rfl rfl)) (cutA_any (TWm.kept0 (HK.trans hS28 (by simp))).a x.at_ (ofL us) _ _ w18 FY.sl (by have := ofL_len us; omega)) ?_
                        rintro e w19 ⟨kc19, AX, cX, ss, rfl, RO, hl, hq⟩
                        replace hS28 := hS28.trans kc19 (by simp)
                        refine ⟨_, rfl, hS28, fun a136 f136 => ?_⟩
                        clear f135 a135
                        have szw19 := kc19.size
                        replace FY := FY.kept0 kc19
                        clear kc19
                        refine R.take 6 f136 rfl rfl (by decide) (by kernel_rfl) (by kernel_rfl) (by kernel_rfl) (fun _ _ _ _ h => h) wantedN hS28 (fun W hW => (E.move f136 rfl)) fun a137 f137 => ?_
                        clear f136 a136
                        refine R.take 7 f137 rfl rfl (by decide) (by kernel_rfl) (by kernel_rfl) (by kernel_rfl) (fun _ _ _ _ h => h) wantedN hS28 (fun W hW => (E.extract f137 rfl rfl)) fun a138 f138 => ?_
                        clear f137 a137
                        refine R.take 8 f138 rfl rfl (by decide) (by kernel_rfl) (by kernel_rfl) (by kernel_rfl) (fun _ _ _ _ h => h) wantedN hS28 (fun W hW => (E.extract f138 rfl rfl)) fun a139 f139 => ?_
                        clear f138 a138
                        refine R.take 9 f139 rfl rfl (by decide) (by kernel_rfl) (by kernel_rfl) (by kernel_rfl) (fun _ _ _ _ h => h) wantedN hS28 (fun W hW => (E.assign f139 rfl)) fun a140 f140 => ?_
                        clear f139 a139
                        refine R.take 10 f140 rfl rfl (by decide) (by kernel_rfl) (by kernel_rfl) (by kernel_rfl) (fun _ _ _ _ h => h) wantedN hS28 (fun W hW => (E.assign f140 rfl)) fun a141 f141 => ?_
                        clear f140 a140
                        have szw19r := hS28.size
                        replace HK := HK.trans hS28 (by simp)
                        replace BMx := BMx.kept hS28 (by simp)
                        clear hS28
                        refine R.done (by kernel_rfl) (hK39 _ _ ?_)
                        try clear hK39 K39
                        have f142 := f141.sub (sub_cons (i := 2) rfl (sub_cons (i := 3) rfl (sub_cons (i := 11) rfl (sub_cons (i := 12) rfl (sub_cons (i := 13) rfl (sub_cons (i := 14) rfl (sub_cons (i := 16) rfl (sub_cons (i := 23) rfl (sub_cons (i := 24) rfl (sub_cons (i := 47) rfl (sub_cons (i := 48) rfl (sub_cons (i := 49) rfl (sub_cons (i := 122) rfl (sub_cons (i := 123) rfl (sub_cons (i := 154) rfl (sub_cons (i := 155) rfl (sub_cons (i := 156) rfl (sub_cons (i := 157) rfl (sub_cons (i := 158) rfl (sub_cons (i := 159) rfl (sub_cons (i := 160) rfl (sub_cons (i := 161) rfl (sub_cons (i := 162) rfl sub_nil)))))))))))))))))))))))
                        clear f141
                        refine wp_seq_k fun K40 hK40 => ?_
                        have A2mz := A2.kept ((HK0.trans HKm (by simp)).trans HK (by simp))
                        refine R.begin (S := fun W => Kept [] w19 W) (by kernel_rfl) (by exact (Kept.refl _ _).drewN 1) ?_
                        have hS29 : Kept [] w19 (w19.drewN 1) := (Kept.refl _ _).drewN 1
                        have hd29 : Kept [] w19 (w19.drewN 1) := (Kept.refl _ _).drewN 1
                        obtain ⟨w20, hww20⟩ : ∃ W, W = w19.drewN 1 := ⟨_, rfl⟩
                        rw [← hww20] at hS29 hd29 ⊢
                        clear hww20
                        have szw20 := hS29.size
                        refine R.take 0 f142 rfl rfl (by decide) (by kernel_rfl) (by kernel_rfl) (by kernel_rfl) (fun _ _ _ _ h => h) wantedN hS29 (fun W hW => (E.move f142 rfl)) fun a143 f143 => ?_
                        clear f142 a141
                        refine R.take 1 f143 rfl rfl (by decide) (by kernel_rfl) (by kernel_rfl) (by kernel_rfl) (fun _ _ _ _ h => h) wantedN hS29 (fun W hW => (E.fieldAddr f143 Try.underlying57 rfl rfl wsz3_u)) fun a144 f144 => ?_
                        clear f143 a143
                        refine R.take 2 f144 rfl rfl (by decide) (by kernel_rfl) (by kernel_rfl) (by kernel_rfl) (fun _ _ _ _ h => h) wantedN hS29 (fun W hW => (by exact E.load f144 Try.underlying3 rfl rfl ((BMx.kept hW (by simp)).cl rfl))) fun a145 f145 => ?_
                        clear f144 a144
                        refine R.take 3 f145 rfl rfl (by decide) (by kernel_rfl) (by kernel_rfl) (by kernel_rfl) (fun _ _ _ _ h => h) wantedN hS29 (fun W hW => (E.move f145 rfl)) fun a146 f146 => ?_
                        clear f145 a145
                        refine R.call 4 f146 rfl rfl (by decide) (by kernel_rfl) wantedN (run_call Try.call30 (args1 f146 rfl)) (of_any us _ _ _ (A2mz.kept hS29) h12u hbu) ?_
                        rintro e w21 ⟨kc21, Ayz, cyz, rfl, FYz⟩
                        replace hS29 := hS29.trans kc21 (by simp)
                        refine ⟨_, rfl, hS29, fun a147 f147 => ?_⟩
                        clear f146 a146
                        have szw21 := kc21.size
                        clear kc21
                        refine R.call 5 f147 rfl rfl (by decide) (by kernel_rfl) wantedN (run_call Try.call38 (args3 f147 rfl rfl rfl)) (cutB_any (TWm.kept0 (HK.trans hS29 (by simp))).b x.at_ (ofL us) _ _ w21 FYz.sl (by have := ofL_len us; omega)) ?_
                        rintro e w22 ⟨kc22, AXz, cXz, ssz, rfl, ROz, hlz, hqz⟩
                        replace hS29 := hS29.trans kc22 (by simp)
                        refine ⟨_, rfl, hS29, fun a148 f148 => ?_⟩
                        clear f147 a147
                        have szw22 := kc22.size
                        replace FYz := FYz.kept0 kc22
                        clear kc22
                        refine R.take 6 f148 rfl rfl (by decide) (by kernel_rfl) (by kernel_rfl) (by kernel_rfl) (fun _ _ _ _ h => h) wantedN hS29 (fun W hW => (E.move f148 rfl)) fun a149 f149 => ?_
                        clear f148 a148
                        refine R.take 7 f149 rfl rfl (by decide) (by kernel_rfl) (by kernel_rfl) (by kernel_rfl) (fun _ _ _ _ h => h) wantedN hS29 (fun W hW => (E.extract f149 rfl rfl)) fun a150 f150 => ?_
                        clear f149 a149
                        refine R.take 8 f150 rfl rfl (by decide) (by kernel_rfl) (by kernel_rfl) (by kernel_rfl) (fun _ _ _ _ h => h) wantedN hS29 (fun W hW => (E.extract f150 rfl rfl)) fun a151 f151 => ?_
                        clear f150 a150
                        refine R.take 9 f151 rfl rfl (by decide) (by kernel_rfl) (by kernel_rfl) (by kernel_rfl) (fun _ _ _ _ h => h) wantedN hS29 (fun W hW => (E.assign f151 rfl)) fun a152 f152 => ?_
                        clear f151 a151
                        refine R.take 10 f152 rfl rfl (by decide) (by kernel_rfl) (by kernel_rfl) (by kernel_rfl) (fun _ _ _ _ h => h) wantedN hS29 (fun W hW => (E.assign f152 rfl)) fun a153 f153 => ?_
                        clear f152 a152
                        have szw22r := hS29.size
                        replace HK := HK.trans hS29 (by simp)
                        replace BMx := BMx.kept hS29 (by simp)
                        replace FY := FY.kept0 hS29
                        replace RO := RO.kept0 hS29
                        clear hS29
                        refine R.done (by kernel_rfl) (hK40 _ _ ?_)
                        try clear hK40 K40
                        have f154 := f153.sub (sub_cons (i := 2) rfl (sub_cons (i := 3) rfl (sub_cons (i := 11) rfl (sub_cons (i := 12) rfl (sub_cons (i := 13) rfl (sub_cons (i := 14) rfl (sub_cons (i := 16) rfl (sub_cons (i := 23) rfl (sub_cons (i := 24) rfl (sub_cons (i := 25) rfl (sub_cons (i := 26) rfl (sub_cons (i := 47) rfl (sub_cons (i := 48) rfl (sub_cons (i := 49) rfl (sub_cons (i := 122) rfl (sub_cons (i := 123) rfl (sub_cons (i := 154) rfl (sub_cons (i := 155) rfl (sub_cons (i := 156) rfl (sub_cons (i := 157) rfl (sub_cons (i := 158) rfl (sub_cons (i := 159) rfl (sub_cons (i := 160) rfl (sub_cons (i := 161) rfl (sub_cons (i := 162) rfl (sub_cons (i := 163) rfl (sub_cons (i := 164) rfl (sub_cons (i := 165) rfl (sub_cons (i := 166) rfl (sub_cons (i := 167) rfl (sub_cons (i := 168) rfl (sub_cons (i := 169) rfl (sub_cons (i := 170) rfl (sub_cons (i := 171) rfl sub_nil))))))))))))))))))))))))))))))))))
                        clear f153
                        refine wp_seq_k fun K41 hK41 => ?_
                        refine wp_seq_k fun K42 hK42 => ?_
                        have hss : ss.map (·.2.2) = ssz.map (·.2.2) := by rw [hl, hlz]
                        have hlenE : ss.length = ssz.length := by simpa using congrArg List.length hss
                        refine C.region ?_
                        refine L.val f154 wantedN rfl (by decide) (E.move f154 rfl) fun a155 f155 => ?_
                        clear f154 a153
                        refine L.val f155 wantedN rfl (by decide) (E.move f155 rfl) fun a156 f156 => ?_
                        clear f155 a155
                        refine L.val f156 wantedN rfl (by decide) (E.neqB f156 Try.underlying4 rfl rfl) fun a157 f157 => ?_
                        clear f156 a156
                        have f158 := f157.as (i := 174) (v' := .bool false) rfl (by simp)
                        clear f157
                        refine L.val f158 wantedN rfl (by decide) (E.move f158 rfl) fun a159 f159 => ?_
                        clear f158 a157
                        refine L.val f159 (f159.yes rfl rfl) rfl (by decide) (E.move f159 rfl) fun a160 f160 => ?_
                        clear f159 a159
                        refine L.val f160 (f160.yes rfl rfl) rfl (by decide) (E.lenL f160 Try.underlying46 rfl) fun a161 f161 => ?_
                        clear f160 a160
                        refine L.val f161 (f161.yes rfl rfl) rfl (by decide) (E.move f161 rfl) fun a162 f162 => ?_
                        clear f161 a161
                        refine L.val f162 (f162.yes rfl rfl) rfl (by decide) (E.lenL f162 Try.underlying46 rfl) fun a163 f163 => ?_
                        clear f162 a162
                        refine L.val f163 (f163.yes rfl rfl) rfl (by decide) (E.neq f163 rfl rfl) fun a164 f164 => ?_
                        clear f163 a163
                        have f165 := f164.as (i := 180) (v' := .bool false) rfl (by simp [hlenE])
                        clear f164
                        refine L.val f165 wantedN rfl (by decide) (E.pickF f165 rfl rfl) fun a166 f166 => ?_
                        clear f165 a164
                        refine wpList_nil (hK42 _ _ ?_)
                        try clear hK42 K42
                        have f167 := f166.sub (sub_cons (i := 2) rfl (sub_cons (i := 3) rfl (sub_cons (i := 11) rfl (sub_cons (i := 12) rfl (sub_cons (i := 13) rfl (sub_cons (i := 14) rfl (sub_cons (i := 16) rfl (sub_cons (i := 23) rfl (sub_cons (i := 24) rfl (sub_cons (i := 25) rfl (sub_cons (i := 26) rfl (sub_cons (i := 47) rfl (sub_cons (i := 48) rfl (sub_cons (i := 49) rfl (sub_cons (i := 122) rfl (sub_cons (i := 123) rfl (sub_cons (i := 154) rfl (sub_cons (i := 155) rfl (sub_cons (i := 156) rfl (sub_cons (i := 157) rfl (sub_cons (i := 158) rfl (sub_cons (i := 159) rfl (sub_cons (i := 160) rfl (sub_cons (i := 161) rfl (sub_cons (i := 162) rfl (sub_cons (i := 163) rfl (sub_cons (i := 164) rfl (sub_cons (i := 165) rfl (sub_cons (i := 166) rfl (sub_cons (i := 167) rfl (sub_cons (i := 168) rfl (sub_cons (i := 169) rfl (sub_cons (i := 170) rfl (sub_cons (i := 171) rfl (sub_cons (i := 172) rfl (sub_cons (i := 173) rfl (sub_cons (i := 174) rfl (sub_cons (i := 175) rfl (sub_cons (i := 176) rfl (sub_cons (i := 177) rfl (sub_cons (i := 178) rfl (sub_cons (i := 179) rfl (sub_cons (i := 180) rfl (sub_cons (i := 181) rfl sub_nil))))))))))))))))))))))))))))))))))))))))))))
                        clear f166
                        refine C.condF f167 rfl ?_
                        refine wp_skip (hK41 _ _ ?_)
                        try clear hK41 K41
                        have f168 := f167.sub (sub_cons (i := 2) rfl (sub_cons (i := 3) rfl (sub_cons (i := 11) rfl (sub_cons (i := 12) rfl (sub_cons (i := 13) rfl (sub_cons (i := 14) rfl (sub_cons (i := 16) rfl (sub_cons (i := 23) rfl (sub_cons (i := 24) rfl (sub_cons (i := 25) rfl (sub_cons (i := 26) rfl (sub_cons (i := 47) rfl (sub_cons (i := 48) rfl (sub_cons (i := 49) rfl (sub_cons (i := 122) rfl (sub_cons (i := 123) rfl (sub_cons (i := 154) rfl (sub_cons (i := 155) rfl (sub_cons (i := 156) rfl (sub_cons (i := 157) rfl (sub_cons (i := 158) rfl (sub_cons (i := 159) rfl (sub_cons (i := 160) rfl (sub_cons (i := 161) rfl (sub_cons (i := 162) rfl (sub_cons (i := 163) rfl (sub_cons (i := 164) rfl (sub_cons (i := 165) rfl (sub_cons (i := 166) rfl (sub_cons (i := 167) rfl (sub_cons (i := 168) rfl (sub_cons (i := 169) rfl (sub_cons (i := 170) rfl (sub_cons (i := 171) rfl (sub_cons (i := 172) rfl (sub_cons (i := 173) rfl (sub_cons (i := 174) rfl (sub_cons (i := 175) rfl (sub_cons (i := 176) rfl (sub_cons (i := 177) rfl (sub_cons (i := 178) rfl (sub_cons (i := 179) rfl (sub_cons (i := 180) rfl (sub_cons (i := 181) rfl sub_nil))))))))))))))))))))))))))))))))))))))))))))
                        clear f167
                        refine wp_seq_k fun K43 hK43 => ?_
                        refine C.region ?_
                        refine L.val f168 wantedN rfl (by decide) (E.assign f168 rfl) fun a169 f169 => ?_
                        clear f168 a166
                        refine wpList_nil (hK43 _ _ ?_)
                        try clear hK43 K43
                        have f170 := f169.sub (sub_cons (i := 2) rfl (sub_cons (i := 3) rfl (sub_cons (i := 11) rfl (sub_cons (i := 12) rfl (sub_cons (i := 13) rfl (sub_cons (i := 14) rfl (sub_cons (i := 16) rfl (sub_cons (i := 23) rfl (sub_cons (i := 24) rfl (sub_cons (i := 25) rfl (sub_cons (i := 26) rfl (sub_cons (i := 27) rfl (sub_cons (i := 47) rfl (sub_cons (i := 48) rfl (sub_cons (i := 49) rfl (sub_cons (i := 122) rfl (sub_cons (i := 123) rfl (sub_cons (i := 154) rfl (sub_cons (i := 155) rfl (sub_cons (i := 156) rfl (sub_cons (i := 157) rfl (sub_cons (i := 158) rfl (sub_cons (i := 159) rfl (sub_cons (i := 160) rfl (sub_cons (i := 161) rfl (sub_cons (i := 162) rfl (sub_cons (i := 163) rfl (sub_cons (i := 164) rfl (sub_cons (i := 165) rfl (sub_cons (i := 166) rfl (sub_cons (i := 167) rfl (sub_cons (i := 168) rfl (sub_cons (i := 169) rfl (sub_cons (i := 170) rfl (sub_cons (i := 171) rfl (sub_cons (i := 172) rfl (sub_cons (i := 173) rfl (sub_cons (i := 174) rfl (sub_cons (i := 175) rfl (sub_cons (i := 176) rfl (sub_cons (i := 177) rfl (sub_cons (i := 178) rfl (sub_cons (i := 179) rfl (sub_cons (i := 180) rfl (sub_cons (i := 181) rfl sub_nil)))))))))))))))))))))))))))))))))))))))))))))
                        clear f169
                        refine wp_block ?_
                        have HKc := HK
                        have HK := Kept.refl [] w22
                        refine C.loop (fun gk a W => ∃ k : Nat, k + gk = ss.length ∧ Kept [] w22 W ∧ Fr 199 a [(2, .slice Aa acts.length ca), (3, .slice Au us.length cu), (47, .slice (some ⟨g1, 0, none⟩) 2 2), (48, .int .i64 2), (49, .int .i64 j), (11, .pointer (some ⟨m, 0, none⟩)), (12, .pointer (some ⟨mR, 0, none⟩)), (13, .int .i64 i), (23, .slice AX ss.length cX), (25, .slice AXz ssz.length cXz), (27, .int .i64 k)]) (ss.length) ?_ ?_
                        · exact ⟨0, by omega, HK, f170.sub (sub_cons rfl (sub_cons rfl (sub_cons rfl (sub_cons rfl (sub_cons rfl (sub_cons rfl (sub_cons rfl (sub_cons rfl (sub_cons rfl (sub_cons rfl (sub_cons rfl sub_nil)))))))))))⟩
                        · intro gk45 a171 w23 hI KL44 hKL44
                          obtain ⟨k, hk, HK, f171⟩ := hI
                          try clear f170
                          refine wp_seq_k fun K45 hK45 => ?_
                          refine wp_seq_k fun K46 hK46 => ?_
                          refine C.region ?_
                          refine L.val f171 wantedN rfl (by decide) (E.move f171 rfl) fun a172 f172 => ?_
                          clear f171 a171
                          refine L.val f172 wantedN rfl (by decide) (E.move f172 rfl) fun a173 f173 => ?_
                          clear f172 a172
                          refine L.val f173 wantedN rfl (by decide) (E.lenL f173 Try.underlying46 rfl) fun a174 f174 => ?_
                          clear f173 a173
                          refine L.val f174 wantedN rfl (by decide) (E.lss f174 rfl rfl) fun a175 f175 => ?_
                          clear f174 a174
                          refine wpList_nil (hK46 _ _ ?_)
                          try clear hK46 K46
                          have f176 := f175.sub (sub_cons (i := 2) rfl (sub_cons (i := 3) rfl (sub_cons (i := 11) rfl (sub_cons (i := 12) rfl (sub_cons (i := 13) rfl (sub_cons (i := 23) rfl (sub_cons (i := 25) rfl (sub_cons (i := 27) rfl (sub_cons (i := 47) rfl (sub_cons (i := 48) rfl (sub_cons (i := 49) rfl (sub_cons (i := 182) rfl (sub_cons (i := 183) rfl (sub_cons (i := 184) rfl (sub_cons (i := 185) rfl sub_nil)))))))))))))))
                          clear f175
                          first | refine f176.splitD 185 rfl (fun h8 f177 => ?_) (fun h8 f177 => ?_) | refine f176.splitN 185 rfl (fun h8 f177 => ?_) (fun h8 f177 => ?_) | refine f176.splitNB 185 rfl (fun h8 f177 => ?_) (fun h8 f177 => ?_) | refine f176.split 185 rfl (fun h8 f177 => ?_) (fun h8 f177 => ?_)
                          · clear f176
                            obtain ⟨s, hs⟩ : ∃ s, ss[k]? = some s := ⟨ss[k]'(by omega), List.getElem?_eq_getElem _⟩
                            obtain ⟨sz, hsz⟩ : ∃ s, ssz[k]? = some s := ⟨ssz[k]'(by omega), List.getElem?_eq_getElem _⟩
                            have hes := outs_eq hss hs hsz
                            obtain ⟨b1, o1, hAX⟩ := Sl.addr RO.fr.sl (by omega)
                            obtain ⟨b2, o2, hAXz⟩ := Sl.addr ROz.fr.sl (by omega)
                            refine C.condT f177 rfl ?_
                            refine wp_skip (hK45 _ _ ?_)
                            try clear hK45 K45
                            have f178 := f177.sub (sub_cons (i := 2) rfl (sub_cons (i := 3) rfl (sub_cons (i := 11) rfl (sub_cons (i := 12) rfl (sub_cons (i := 13) rfl (sub_cons (i := 23) rfl (sub_cons (i := 25) rfl (sub_cons (i := 27) rfl (sub_cons (i := 47) rfl (sub_cons (i := 48) rfl (sub_cons (i := 49) rfl (sub_cons (i := 182) rfl (sub_cons (i := 183) rfl (sub_cons (i := 184) rfl (sub_cons (i := 185) rfl sub_nil)))))))))))))))
                            clear f177
                            refine wp_seq_k fun K47 hK47 => ?_
                            refine wp_block ?_
                            refine wp_seq_k fun K48 hK48 => ?_
                            refine R.begin (S := fun W => Kept [] w23 W) (by kernel_rfl) (by exact (Kept.refl _ _).drewN 1) ?_
                            have hS35 : Kept [] w23 (w23.drewN 1) := (Kept.refl _ _).drewN 1
                            have hd35 : Kept [] w23 (w23.drewN 1) := (Kept.refl _ _).drewN 1
                            obtain ⟨w24, hww24⟩ : ∃ W, W = w23.drewN 1 := ⟨_, rfl⟩
                            rw [← hww24] at hS35 hd35 ⊢
                            clear hww24
                            have szw24 := hS35.size
                            refine R.take 0 f178 rfl rfl (by decide) (by kernel_rfl) (by kernel_rfl) (by kernel_rfl) (fun _ _ _ _ h => h) wantedN hS35 (fun W hW => (E.move f178 rfl)) fun a179 f179 => ?_
                            clear f178 a175
                            refine R.take 1 f179 rfl rfl (by decide) (by kernel_rfl) (by kernel_rfl) (by kernel_rfl) (fun _ _ _ _ h => h) wantedN hS35 (fun W hW => (E.move f179 rfl)) fun a180 f180 => ?_
                            clear f179 a179
                            refine R.take 2 f180 rfl rfl (by decide) (by kernel_rfl) (by kernel_rfl) (by kernel_rfl) (fun _ _ _ _ h => h) wantedN hS35 (fun W hW => (E.indexA f180 (by first | rfl | assumption) Try.underlying46 wsz24_u rfl rfl (by omega) (by omega))) fun a181 f181 => ?_
                            clear f180 a180
                            refine R.take 3 f181 rfl rfl (by decide) (by kernel_rfl) (by kernel_rfl) (by kernel_rfl) (fun _ _ _ _ h => h) wantedN hS35 (fun W hW => (by first | exact E.load f181 Try.underlying24 rfl rfl (outs_cell (RO.kept0 (HK.trans hW (by simp))) hAX hs) | exact E.load f181 Try.underlying24 rfl rfl (outs_cell (ROz.kept0 (HK.trans hW (by simp))) hAXz hsz))) fun a182 f182 => ?_
                            clear f181 a181
                            refine R.take 4 f182 rfl rfl (by decide) (by kernel_rfl) (by kernel_rfl) (by kernel_rfl) (fun _ _ _ _ h => h) wantedN hS35 (fun W hW => (E.move f182 rfl)) fun a183 f183 => ?_
                            clear f182 a182
                            refine R.take 5 f183 rfl rfl (by decide) (by kernel_rfl) (by kernel_rfl) (by kernel_rfl) (fun _ _ _ _ h => h) wantedN hS35 (fun W hW => (E.move f183 rfl)) fun a184 f184 => ?_
                            clear f183 a183
                            refine R.take 6 f184 rfl rfl (by decide) (by kernel_rfl) (by kernel_rfl) (by kernel_rfl) (fun _ _ _ _ h => h) wantedN hS35 (fun W hW => (E.indexA f184 (by first | rfl | assumption) Try.underlying46 wsz24_u rfl rfl (by omega) (by omega))) fun a185 f185 => ?_
                            clear f184 a184
                            refine R.take 7 f185 rfl rfl (by decide) (by kernel_rfl) (by kernel_rfl) (by kernel_rfl) (fun _ _ _ _ h => h) wantedN hS35 (fun W hW => (by first | exact E.load f185 Try.underlying24 rfl rfl (outs_cell (RO.kept0 (HK.trans hW (by simp))) hAX hs) | exact E.load f185 Try.underlying24 rfl rfl (outs_cell (ROz.kept0 (HK.trans hW (by simp))) hAXz hsz))) fun a186 f186 => ?_
                            clear f185 a185
                            refine R.call 8 f186 rfl rfl (by decide) (by kernel_rfl) wantedN (run_call Try.call14 (args2 f186 rfl rfl)) (dotsEq_any s.2.2 sz.2.2 _ _ _ _ _ ((RO.ok s (List.mem_of_getElem? hs)).kept (HK.trans hS35 (by simp))) ((ROz.ok sz (List.mem_of_getElem? hsz)).kept (HK.trans hS35 (by simp))) (by have := RO.len s (List.mem_of_getElem? hs); unfold maxLen; omega) (by have := ROz.len sz (List.mem_of_getElem? hsz); unfold maxLen; omega)) ?_
                            rintro e w25 ⟨kc25, rfl⟩
                            replace hS35 := hS35.trans kc25 (by simp)
                            refine ⟨_, rfl, hS35, fun a187 f187 => ?_⟩
                            clear f186 a186
                            have szw25 := kc25.size
                            clear kc25
                            have f188 := f187.as (i := 196) (v' := .bool true) rfl (by simp [hes])
                            clear f187
                            refine R.take 9 f188 rfl rfl (by decide) (by kernel_rfl) (by kernel_rfl) (by kernel_rfl) (fun _ _ _ _ h => h) wantedN hS35 (fun W hW => (E.not f188 rfl)) fun a189 f189 => ?_
                            clear f188 a187
                            have szw25r := hS35.size
                            replace HK := HK.trans hS35 (by simp)
                            clear hS35
                            refine R.done (by kernel_rfl) (hK48 _ _ ?_)
                            try clear hK48 K48
                            have f190 := f189.sub (sub_cons (i := 2) rfl (sub_cons (i := 3) rfl (sub_cons (i := 11) rfl (sub_cons (i := 12) rfl (sub_cons (i := 13) rfl (sub_cons (i := 23) rfl (sub_cons (i := 25) rfl (sub_cons (i := 27) rfl (sub_cons (i := 47) rfl (sub_cons (i := 48) rfl (sub_cons (i := 49) rfl (sub_cons (i := 182) rfl (sub_cons (i := 183) rfl (sub_cons (i := 184) rfl (sub_cons (i := 185) rfl (sub_cons (i := 188) rfl (sub_cons (i := 189) rfl (sub_cons (i := 190) rfl (sub_cons (i := 191) rfl (sub_cons (i := 192) rfl (sub_cons (i := 193) rfl (sub_cons (i := 194) rfl (sub_cons (i := 195) rfl (sub_cons (i := 196) rfl (sub_cons (i := 197) rfl sub_nil)))))))))))))))))))))))))
                            clear f189
                            refine C.condF f190 rfl ?_
                            refine wp_skip (hK47 _ _ ?_)
                            try clear hK47 K47
                            have f191 := f190.sub (sub_cons (i := 2) rfl (sub_cons (i := 3) rfl (sub_cons (i := 11) rfl (sub_cons (i := 12) rfl (sub_cons (i := 13) rfl (sub_cons (i := 23) rfl (sub_cons (i := 25) rfl (sub_cons (i := 27) rfl (sub_cons (i := 47) rfl (sub_cons (i := 48) rfl (sub_cons (i := 49) rfl (sub_cons (i := 182) rfl (sub_cons (i := 183) rfl (sub_cons (i := 184) rfl (sub_cons (i := 185) rfl (sub_cons (i := 188) rfl (sub_cons (i := 189) rfl (sub_cons (i := 190) rfl (sub_cons (i := 191) rfl (sub_cons (i := 192) rfl (sub_cons (i := 193) rfl (sub_cons (i := 194) rfl (sub_cons (i := 195) rfl (sub_cons (i := 196) rfl (sub_cons (i := 197) rfl sub_nil)))))))))))))))))))))))))
                            clear f190
                            refine C.region ?_
                            refine L.val f191 wantedN rfl (by decide) (E.move f191 rfl) fun a192 f192 => ?_
                            clear f191 a189
                            refine L.val f192 wantedN rfl (by decide) (E.add f192 rfl rfl (IntWalk.i64_in _ (by omega))) fun a193 f193 => ?_
                            clear f192 a192
                            refine L.val f193 wantedN rfl (by decide) (E.assign f193 rfl) fun a194 f194 => ?_
                            clear f193 a193
                            refine wpList_nil (hKL44 _ _ (gk45 - 1) ?_ ?_)
                            · omega
                            · exact ⟨k + 1, by omega, HK, f194.sub (sub_cons rfl (sub_cons rfl (sub_cons rfl (sub_cons rfl (sub_cons rfl (sub_cons rfl (sub_cons rfl (sub_cons rfl (sub_cons rfl (sub_cons rfl (sub_cons rfl sub_nil)))))))))))⟩
                          · clear f176
                            refine C.condF f177 rfl ?_
                            refine wp_exit (hK19 _ _ ?_)
                            try clear hK19 K19
                            have f178 := f177.sub (sub_cons (i := 2) rfl (sub_cons (i := 3) rfl (sub_cons (i := 11) rfl (sub_cons (i := 12) rfl (sub_cons (i := 13) rfl (sub_cons (i := 23) rfl (sub_cons (i := 25) rfl (sub_cons (i := 27) rfl (sub_cons (i := 47) rfl (sub_cons (i := 48) rfl (sub_cons (i := 49) rfl (sub_cons (i := 182) rfl (sub_cons (i := 183) rfl (sub_cons (i := 184) rfl (sub_cons (i := 185) rfl sub_nil)))))))))))))))
                            clear f177
                            refine C.region ?_
                            refine L.val f178 wantedN rfl (by decide) (E.move f178 rfl) fun a179 f179 => ?_
                            clear f178 a175
                            refine L.val f179 wantedN rfl (by decide) (E.add f179 rfl rfl (IntWalk.i64_in _ (by omega))) fun a180 f180 => ?_
                            clear f179 a179
                            refine L.val f180 wantedN rfl (by decide) (E.assign f180 rfl) fun a181 f181 => ?_
                            clear f180 a180
                            refine wpList_nil (hKL16 _ _ (gk17 - 1) ?_ ?_)
                            · omega
                            · exact ⟨i + 1, fp2, fpR2, _, by omega, (HKm.trans HKc (by simp)).trans HK (by simp), TWm.kept0 (HKc.trans HK (by simp)), f181.sub (sub_cons rfl (sub_cons rfl (sub_cons rfl (sub_cons rfl (sub_cons rfl (sub_cons rfl (sub_cons rfl (sub_cons rfl sub_nil))))))))⟩
                  · clear f95
                    refine C.condF f96 rfl ?_
                    refine C.mono (J := fun a W => Kept [g9] w12 W ∧ Blk W g9 57 #[.int .i64 (placeI x.from_ 5), .int .i64 (bits .and .i64 x.epoch 3), .int .i64 (bits .and .i64 x.at_ 3), .slice x.A x.l.length x.c, .slice x.B x.raw.length x.d, .bool x.look] ∧ Fr 199 a [(2, .slice Aa acts.length ca), (3, .slice Au us.length cu), (47, .slice (some ⟨g1, 0, none⟩) 2 2), (48, .int .i64 2), (49, .int .i64 j), (11, .pointer (some ⟨m, 0, none⟩)), (12, .pointer (some ⟨mR, 0, none⟩)), (13, .int .i64 i), (14, .pointer (some ⟨g9, 0, none⟩)), (15, .slice Aw (ofL x.l).length cw)]) ?_ ?_
                    · skip
                      refine R.begin (S := fun W => Kept [g9] w12 W) (by kernel_rfl) (by exact (Kept.refl _ _).drewN 1) ?_
                      have hS : Kept [g9] w12 (w12.drewN 1) := (Kept.refl _ _).drewN 1
                      have hd : Kept [] w12 (w12.drewN 1) := (Kept.refl _ _).drewN 1
                      replace Bg9 := Bg9.kept hd (by simp)
                      clear hd
                      generalize w12.drewN 1 = w13 at hS Bg9 ⊢
                      refine R.take 0 f96 rfl rfl (by decide) (by kernel_rfl) (by kernel_rfl) (by kernel_rfl) (fun _ _ _ _ h => by cases h.1) wantedN hS (fun W hW => (E.fieldAddr f96 Try.underlying57 rfl rfl wsz3_u)) fun a97 f97 => ?_
                      clear f96 a94
                      refine R.take 3 f97 rfl rfl (by decide) (by kernel_rfl) (by kernel_rfl) (by kernel_rfl) (fun _ _ _ _ h => by cases h.1) wantedN hS (fun W hW => (E.fieldAddr f97 Try.underlying57 rfl rfl wsz3_u)) fun a98 f98 => ?_
                      clear f97 a97
                      refine R.take 6 f98 rfl rfl (by decide) (by kernel_rfl) (by kernel_rfl) (by kernel_rfl) (fun _ _ _ _ h => by cases h.1) wantedN hS (fun W hW => (E.fieldAddr f98 Try.underlying57 rfl rfl wsz3_u)) fun a99 f99 => ?_
                      clear f98 a98
                      refine R.three 1 4 7 (by kernel_rfl) ?_ ?_ ?_
                      · skip
                        refine O.val f99 rfl rfl (by decide) wantedN (E.load f99 Try.underlying3 rfl rfl (Bg9.cl rfl)) hS fun a100 f100 => ?_
                        clear f99 a99
                        refine R.three 2 4 7 (by kernel_rfl) ?_ ?_ ?_
                        · skip
                          refine O.call f100 rfl rfl (by decide) wantedN (run_call Try.call33 (args2 f100 rfl rfl)) (place_any _ _ _ (by decide)) ?_
                          rintro e wx ⟨rfl, rfl⟩
                          refine ⟨_, rfl, hS, fun a101 f101 => ?_⟩
                          clear f100 a100
                          refine R.two 4 7 (by kernel_rfl) ?_ ?_
                          · skip
                            refine O.val f101 rfl rfl (by decide) wantedN (E.load f101 Try.underlying3 rfl rfl (Bg9.cl rfl)) hS fun a102 f102 => ?_
                            clear f101 a101
                            refine R.take 5 f102 rfl rfl (by decide) (by kernel_rfl) (by kernel_rfl) (by kernel_rfl) (fun _ _ _ _ h => by cases h.1) wantedN hS (fun W hW => (E.andI f102 rfl rfl)) fun a103 f103 => ?_
                            clear f102 a102
                            refine R.one 7 (by kernel_rfl) ?_
                            · skip
                              refine O.val f103 rfl rfl (by decide) wantedN (E.load f103 Try.underlying3 rfl rfl (Bg9.cl rfl)) hS fun a104 f104 => ?_
                              clear f103 a103
                              refine R.take 8 f104 rfl rfl (by decide) (by kernel_rfl) (by kernel_rfl) (by kernel_rfl) (fun _ _ _ _ h => by cases h.1) wantedN hS (fun W hW => (E.andI f104 rfl rfl)) fun a105 f105 => ?_
                              clear f104 a104
                              refine R.take 9 f105 rfl rfl (by decide) (by kernel_rfl) (by kernel_rfl) (by kernel_rfl) (fun _ _ _ _ h => by cases h.1) wantedN hS (fun W hW => (E.fieldAddr f105 Try.underlying57 rfl rfl wsz3_u)) fun a106 f106 => ?_
                              clear f105 a105
                              refine R.one 10 (by kernel_rfl) ?_
                              · skip
                                refine O.store f106 rfl wantedN wsz3_u rfl rfl rfl Bg9 (show (0 : Nat) < 6 by decide) (fun _ hk => hS.trans hk (by simp)) fun a107 w14 f107 NB ks => ?_
                                replace hS := hS.trans ks (by simp)
                                replace Bg9 := NB
                                skip
                                simp only [List.set_cons_zero, List.set_cons_succ, Nat.reduceAdd, Nat.zero_add] at Bg9
                                clear f106 a106
                                refine R.take 11 f107 rfl rfl (by decide) (by kernel_rfl) (by kernel_rfl) (by kernel_rfl) (fun _ _ _ _ h => by cases h.1) wantedN hS (fun W hW => (E.fieldAddr f107 Try.underlying57 rfl rfl wsz3_u)) fun a108 f108 => ?_
                                clear f107 a107
                                refine R.one 12 (by kernel_rfl) ?_
                                · skip
                                  refine O.store f108 rfl wantedN wsz3_u rfl rfl rfl Bg9 (show (1 : Nat) < 6 by decide) (fun _ hk => hS.trans hk (by simp)) fun a109 w15 f109 NB ks => ?_
                                  replace hS := hS.trans ks (by simp)
                                  replace Bg9 := NB
                                  skip
                                  simp only [List.set_cons_zero, List.set_cons_succ, Nat.reduceAdd, Nat.zero_add] at Bg9
                                  clear f108 a108
                                  refine R.take 13 f109 rfl rfl (by decide) (by kernel_rfl) (by kernel_rfl) (by kernel_rfl) (fun _ _ _ _ h => by cases h.1) wantedN hS (fun W hW => (E.fieldAddr f109 Try.underlying57 rfl rfl wsz3_u)) fun a110 f110 => ?_
                                  clear f109 a109
                                  refine R.one 14 (by kernel_rfl) ?_
                                  · skip
                                    refine O.store f110 rfl wantedN wsz3_u rfl rfl rfl Bg9 (show (2 : Nat) < 6 by decide) (fun _ hk => hS.trans hk (by simp)) fun a111 w16 f111 NB ks => ?_
                                    replace hS := hS.trans ks (by simp)
                                    replace Bg9 := NB
                                    skip
                                    simp only [List.set_cons_zero, List.set_cons_succ, Nat.reduceAdd, Nat.zero_add] at Bg9
                                    clear f110 a110
                                    exact R.done (by kernel_rfl) ⟨rfl, hS, Bg9, f111.sub (sub_cons rfl (sub_cons rfl (sub_cons rfl (sub_cons rfl (sub_cons rfl (sub_cons rfl (sub_cons rfl (sub_cons rfl (sub_cons rfl (sub_cons rfl sub_nil))))))))))⟩
                          · skip
                            refine O.val f101 rfl rfl (by decide) wantedN (E.load f101 Try.underlying3 rfl rfl (Bg9.cl rfl)) hS fun a102 f102 => ?_
                            clear f101 a101
                            refine R.take 8 f102 rfl rfl (by decide) (by kernel_rfl) (by kernel_rfl) (by kernel_rfl) (fun _ _ _ _ h => by cases h.1) wantedN hS (fun W hW => (E.andI f102 rfl rfl)) fun a103 f103 => ?_
                            clear f102 a102
                            refine R.one 4 (by kernel_rfl) ?_
                            · skip
                              refine O.val f103 rfl rfl (by decide) wantedN (E.load f103 Try.underlying3 rfl rfl (Bg9.cl rfl)) hS fun a104 f104 => ?_
                              clear f103 a103
                              refine R.take 5 f104 rfl rfl (by decide) (by kernel_rfl) (by kernel_rfl) (by kernel_rfl) (fun _ _ _ _ h => by cases h.1) wantedN hS (fun W hW => (E.andI f104 rfl rfl)) fun a105 f105 => ?_
                              clear f104 a104
                              refine R.take 9 f105 rfl rfl (by decide) (by kernel_rfl) (by kernel_rfl) (by kernel_rfl) (fun _ _ _ _ h => by cases h.1) wantedN hS (fun W hW => (E.fieldAddr f105 Try.underlying57 rfl rfl wsz3_u)) fun a106 f106 => ?_
                              clear f105 a105
                              refine R.one 10 (by kernel_rfl) ?_
                              · skip
                                refine O.store f106 rfl wantedN wsz3_u rfl rfl rfl Bg9 (show (0 : Nat) < 6 by decide) (fun _ hk => hS.trans hk (by simp)) fun a107 w14 f107 NB ks => ?_
                                replace hS := hS.trans ks (by simp)
                                replace Bg9 := NB
                                skip
                                simp only [List.set_cons_zero, List.set_cons_succ, Nat.reduceAdd, Nat.zero_add] at Bg9
                                clear f106 a106
                                refine R.take 11 f107 rfl rfl (by decide) (by kernel_rfl) (by kernel_rfl) (by kernel_rfl) (fun _ _ _ _ h => by cases h.1) wantedN hS (fun W hW => (E.fieldAddr f107 Try.underlying57 rfl rfl wsz3_u)) fun a108 f108 => ?_
                                clear f107 a107
                                refine R.one 12 (by kernel_rfl) ?_
                                · skip
                                  refine O.store f108 rfl wantedN wsz3_u rfl rfl rfl Bg9 (show (1 : Nat) < 6 by decide) (fun _ hk => hS.trans hk (by simp)) fun a109 w15 f109 NB ks => ?_
                                  replace hS := hS.trans ks (by simp)
                                  replace Bg9 := NB
                                  skip
                                  simp only [List.set_cons_zero, List.set_cons_succ, Nat.reduceAdd, Nat.zero_add] at Bg9
                                  clear f108 a108
                                  refine R.take 13 f109 rfl rfl (by decide) (by kernel_rfl) (by kernel_rfl) (by kernel_rfl) (fun _ _ _ _ h => by cases h.1) wantedN hS (fun W hW => (E.fieldAddr f109 Try.underlying57 rfl rfl wsz3_u)) fun a110 f110 => ?_
                                  clear f109 a109
                                  refine R.one 14 (by kernel_rfl) ?_
                                  · skip
                                    refine O.store f110 rfl wantedN wsz3_u rfl rfl rfl Bg9 (show (2 : Nat) < 6 by decide) (fun _ hk => hS.trans hk (by simp)) fun a111 w16 f111 NB ks => ?_
                                    replace hS := hS.trans ks (by simp)
                                    replace Bg9 := NB
                                    skip
                                    simp only [List.set_cons_zero, List.set_cons_succ, Nat.reduceAdd, Nat.zero_add] at Bg9
                                    clear f110 a110
                                    exact R.done (by kernel_rfl) ⟨rfl, hS, Bg9, f111.sub (sub_cons rfl (sub_cons rfl (sub_cons rfl (sub_cons rfl (sub_cons rfl (sub_cons rfl (sub_cons rfl (sub_cons rfl (sub_cons rfl (sub_cons rfl sub_nil))))))))))⟩
                        · skip
                          refine O.val f100 rfl rfl (by decide) wantedN (E.load f100 Try.underlying3 rfl rfl (Bg9.cl rfl)) hS fun a101 f101 => ?_
                          clear f100 a100
                          refine R.take 5 f101 rfl rfl (by decide) (by kernel_rfl) (by kernel_rfl) (by kernel_rfl) (fun _ _ _ _ h => by cases h.1) wantedN hS (fun W hW => (E.andI f101 rfl rfl)) fun a102 f102 => ?_
                          clear f101 a101
                          refine R.two 2 7 (by kernel_rfl) ?_ ?_
                          · skip
                            refine O.call f102 rfl rfl (by decide) wantedN (run_call Try.call33 (args2 f102 rfl rfl)) (place_any _ _ _ (by decide)) ?_
                            rintro e wx ⟨rfl, rfl⟩
                            refine ⟨_, rfl, hS, fun a103 f103 => ?_⟩
                            clear f102 a102
                            refine R.one 7 (by kernel_rfl) ?_
                            · skip
                              refine O.val f103 rfl rfl (by decide) wantedN (E.load f103 Try.underlying3 rfl rfl (Bg9.cl rfl)) hS fun a104 f104 => ?_
                              clear f103 a103
                              refine R.take 8 f104 rfl rfl (by decide) (by kernel_rfl) (by kernel_rfl) (by kernel_rfl) (fun _ _ _ _ h => by cases h.1) wantedN hS (fun W hW => (E.andI f104 rfl rfl)) fun a105 f105 => ?_
                              clear f104 a104
                              refine R.take 9 f105 rfl rfl (by decide) (by kernel_rfl) (by kernel_rfl) (by kernel_rfl) (fun _ _ _ _ h => by cases h.1) wantedN hS (fun W hW => (E.fieldAddr f105 Try.underlying57 rfl rfl wsz3_u)) fun a106 f106 => ?_
                              clear f105 a105
                              refine R.one 10 (by kernel_rfl) ?_
                              · skip
                                refine O.store f106 rfl wantedN wsz3_u rfl rfl rfl Bg9 (show (0 : Nat) < 6 by decide) (fun _ hk => hS.trans hk (by simp)) fun a107 w14 f107 NB ks => ?_
                                replace hS := hS.trans ks (by simp)
                                replace Bg9 := NB
                                skip
                                simp only [List.set_cons_zero, List.set_cons_succ, Nat.reduceAdd, Nat.zero_add] at Bg9
                                clear f106 a106
                                refine R.take 11 f107 rfl rfl (by decide) (by kernel_rfl) (by kernel_rfl) (by kernel_rfl) (fun _ _ _ _ h => by cases h.1) wantedN hS (fun W hW => (E.fieldAddr f107 Try.underlying57 rfl rfl wsz3_u)) fun a108 f108 => ?_
                                clear f107 a107
                                refine R.one 12 (by kernel_rfl) ?_
                                · skip
                                  refine O.store f108 rfl wantedN wsz3_u rfl rfl rfl Bg9 (show (1 : Nat) < 6 by decide) (fun _ hk => hS.trans hk (by simp)) fun a109 w15 f109 NB ks => ?_
                                  replace hS := hS.trans ks (by simp)
                                  replace Bg9 := NB
                                  skip
                                  simp only [List.set_cons_zero, List.set_cons_succ, Nat.reduceAdd, Nat.zero_add] at Bg9
                                  clear f108 a108
                                  refine R.take 13 f109 rfl rfl (by decide) (by kernel_rfl) (by kernel_rfl) (by kernel_rfl) (fun _ _ _ _ h => by cases h.1) wantedN hS (fun W hW => (E.fieldAddr f109 Try.underlying57 rfl rfl wsz3_u)) fun a110 f110 => ?_
                                  clear f109 a109
                                  refine R.one 14 (by kernel_rfl) ?_
                                  · skip
                                    refine O.store f110 rfl wantedN wsz3_u rfl rfl rfl Bg9 (show (2 : Nat) < 6 by decide) (fun _ hk => hS.trans hk (by simp)) fun a111 w16 f111 NB ks => ?_
                                    replace hS := hS.trans ks (by simp)
                                    replace Bg9 := NB
                                    skip
                                    simp only [List.set_cons_zero, List.set_cons_succ, Nat.reduceAdd, Nat.zero_add] at Bg9
                                    clear f110 a110
                                    exact R.done (by kernel_rfl) ⟨rfl, hS, Bg9, f111.sub (sub_cons rfl (sub_cons rfl (sub_cons rfl (sub_cons rfl (sub_cons rfl (sub_cons rfl (sub_cons rfl (sub_cons rfl (sub_cons rfl (sub_cons rfl sub_nil))))))))))⟩
                          · skip
                            refine O.val f102 rfl rfl (by decide) wantedN (E.load f102 Try.underlying3 rfl rfl (Bg9.cl rfl)) hS fun a103 f103 => ?_
                            clear f102 a102
                            refine R.take 8 f103 rfl rfl (by decide) (by kernel_rfl) (by kernel_rfl) (by kernel_rfl) (fun _ _ _ _ h => by cases h.1) wantedN hS (fun W hW => (E.andI f103 rfl rfl)) fun a104 f104 => ?_
                            clear f103 a103
                            refine R.one 2 (by kernel_rfl) ?_
                            · skip
                              refine O.call f104 rfl rfl (by decide) wantedN (run_call Try.call33 (args2 f104 rfl rfl)) (place_any _ _ _ (by decide)) ?_
                              rintro e wx ⟨rfl, rfl⟩
                              refine ⟨_, rfl, hS, fun a105 f105 => ?_⟩
                              clear f104 a104
                              refine R.take 9 f105 rfl rfl (by decide) (by kernel_rfl) (by kernel_rfl) (by kernel_rfl) (fun _ _ _ _ h => by cases h.1) wantedN hS (fun W hW => (E.fieldAddr f105 Try.underlying57 rfl rfl wsz3_u)) fun a106 f106 => ?_
                              clear f105 a105
                              refine R.one 10 (by kernel_rfl) ?_
                              · skip
                                refine O.store f106 rfl wantedN wsz3_u rfl rfl rfl Bg9 (show (0 : Nat) < 6 by decide) (fun _ hk => hS.trans hk (by simp)) fun a107 w14 f107 NB ks => ?_
                                replace hS := hS.trans ks (by simp)
                                replace Bg9 := NB
                                skip
                                simp only [List.set_cons_zero, List.set_cons_succ, Nat.reduceAdd, Nat.zero_add] at Bg9
                                clear f106 a106
                                refine R.take 11 f107 rfl rfl (by decide) (by kernel_rfl) (by kernel_rfl) (by kernel_rfl) (fun _ _ _ _ h => by cases h.1) wantedN hS (fun W hW => (E.fieldAddr f107 Try.underlying57 rfl rfl wsz3_u)) fun a108 f108 => ?_
                                clear f107 a107
                                refine R.one 12 (by kernel_rfl) ?_
                                · skip
                                  refine O.store f108 rfl wantedN wsz3_u rfl rfl rfl Bg9 (show (1 : Nat) < 6 by decide) (fun _ hk => hS.trans hk (by simp)) fun a109 w15 f109 NB ks => ?_
                                  replace hS := hS.trans ks (by simp)
                                  replace Bg9 := NB
                                  skip
                                  simp only [List.set_cons_zero, List.set_cons_succ, Nat.reduceAdd, Nat.zero_add] at Bg9
                                  clear f108 a108
                                  refine R.take 13 f109 rfl rfl (by decide) (by kernel_rfl) (by kernel_rfl) (by kernel_rfl) (fun _ _ _ _ h => by cases h.1) wantedN hS (fun W hW => (E.fieldAddr f109 Try.underlying57 rfl rfl wsz3_u)) fun a110 f110 => ?_
                                  clear f109 a109
                                  refine R.one 14 (by kernel_rfl) ?_
                                  · skip
                                    refine O.store f110 rfl wantedN wsz3_u rfl rfl rfl Bg9 (show (2 : Nat) < 6 by decide) (fun _ hk => hS.trans hk (by simp)) fun a111 w16 f111 NB ks => ?_
                                    replace hS := hS.trans ks (by simp)
                                    replace Bg9 := NB
                                    skip
                                    simp only [List.set_cons_zero, List.set_cons_succ, Nat.reduceAdd, Nat.zero_add] at Bg9
                                    clear f110 a110
                                    exact R.done (by kernel_rfl) ⟨rfl, hS, Bg9, f111.sub (sub_cons rfl (sub_cons rfl (sub_cons rfl (sub_cons rfl (sub_cons rfl (sub_cons rfl (sub_cons rfl (sub_cons rfl (sub_cons rfl (sub_cons rfl sub_nil))))))))))⟩
                        · skip
                          refine O.val f100 rfl rfl (by decide) wantedN (E.load f100 Try.underlying3 rfl rfl (Bg9.cl rfl)) hS fun a101 f101 => ?_
                          clear f100 a100
                          refine R.take 8 f101 rfl rfl (by decide) (by kernel_rfl) (by kernel_rfl) (by kernel_rfl) (fun _ _ _ _ h => by cases h.1) wantedN hS (fun W hW => (E.andI f101 rfl rfl)) fun a102 f102 => ?_
                          clear f101 a101
                          refine R.two 2 4 (by kernel_rfl) ?_ ?_
                          · skip
                            refine O.call f102 rfl rfl (by decide) wantedN (run_call Try.call33 (args2 f102 rfl rfl)) (place_any _ _ _ (by decide)) ?_
                            rintro e wx ⟨rfl, rfl⟩
                            refine ⟨_, rfl, hS, fun a103 f103 => ?_⟩
                            clear f102 a102
                            refine R.one 4 (by kernel_rfl) ?_
                            · skip
                              refine O.val f103 rfl rfl (by decide) wantedN (E.load f103 Try.underlying3 rfl rfl (Bg9.cl rfl)) hS fun a104 f104 => ?_
                              clear f103 a103
                              refine R.take 5 f104 rfl rfl (by decide) (by kernel_rfl) (by kernel_rfl) (by kernel_rfl) (fun _ _ _ _ h => by cases h.1) wantedN hS (fun W hW => (E.andI f104 rfl rfl)) fun a105 f105 => ?_
                              clear f104 a104
                              refine R.take 9 f105 rfl rfl (by decide) (by kernel_rfl) (by kernel_rfl) (by kernel_rfl) (fun _ _ _ _ h => by cases h.1) wantedN hS (fun W hW => (E.fieldAddr f105 Try.underlying57 rfl rfl wsz3_u)) fun a106 f106 => ?_
                              clear f105 a105
                              refine R.one 10 (by kernel_rfl) ?_
                              · skip
                                refine O.store f106 rfl wantedN wsz3_u rfl rfl rfl Bg9 (show (0 : Nat) < 6 by decide) (fun _ hk => hS.trans hk (by simp)) fun a107 w14 f107 NB ks => ?_
                                replace hS := hS.trans ks (by simp)
                                replace Bg9 := NB
                                skip
                                simp only [List.set_cons_zero, List.set_cons_succ, Nat.reduceAdd, Nat.zero_add] at Bg9
                                clear f106 a106
                                refine R.take 11 f107 rfl rfl (by decide) (by kernel_rfl) (by kernel_rfl) (by kernel_rfl) (fun _ _ _ _ h => by cases h.1) wantedN hS (fun W hW => (E.fieldAddr f107 Try.underlying57 rfl rfl wsz3_u)) fun a108 f108 => ?_
                                clear f107 a107
                                refine R.one 12 (by kernel_rfl) ?_
                                · skip
                                  refine O.store f108 rfl wantedN wsz3_u rfl rfl rfl Bg9 (show (1 : Nat) < 6 by decide) (fun _ hk => hS.trans hk (by simp)) fun a109 w15 f109 NB ks => ?_
                                  replace hS := hS.trans ks (by simp)
                                  replace Bg9 := NB
                                  skip
                                  simp only [List.set_cons_zero, List.set_cons_succ, Nat.reduceAdd, Nat.zero_add] at Bg9
                                  clear f108 a108
                                  refine R.take 13 f109 rfl rfl (by decide) (by kernel_rfl) (by kernel_rfl) (by kernel_rfl) (fun _ _ _ _ h => by cases h.1) wantedN hS (fun W hW => (E.fieldAddr f109 Try.underlying57 rfl rfl wsz3_u)) fun a110 f110 => ?_
                                  clear f109 a109
                                  refine R.one 14 (by kernel_rfl) ?_
                                  · skip
                                    refine O.store f110 rfl wantedN wsz3_u rfl rfl rfl Bg9 (show (2 : Nat) < 6 by decide) (fun _ hk => hS.trans hk (by simp)) fun a111 w16 f111 NB ks => ?_
                                    replace hS := hS.trans ks (by simp)
                                    replace Bg9 := NB
                                    skip
                                    simp only [List.set_cons_zero, List.set_cons_succ, Nat.reduceAdd, Nat.zero_add] at Bg9
                                    clear f110 a110
                                    exact R.done (by kernel_rfl) ⟨rfl, hS, Bg9, f111.sub (sub_cons rfl (sub_cons rfl (sub_cons rfl (sub_cons rfl (sub_cons rfl (sub_cons rfl (sub_cons rfl (sub_cons rfl (sub_cons rfl (sub_cons rfl sub_nil))))))))))⟩
                          · skip
                            refine O.val f102 rfl rfl (by decide) wantedN (E.load f102 Try.underlying3 rfl rfl (Bg9.cl rfl)) hS fun a103 f103 => ?_
                            clear f102 a102
                            refine R.take 5 f103 rfl rfl (by decide) (by kernel_rfl) (by kernel_rfl) (by kernel_rfl) (fun _ _ _ _ h => by cases h.1) wantedN hS (fun W hW => (E.andI f103 rfl rfl)) fun a104 f104 => ?_
                            clear f103 a103
                            refine R.one 2 (by kernel_rfl) ?_
                            · skip
                              refine O.call f104 rfl rfl (by decide) wantedN (run_call Try.call33 (args2 f104 rfl rfl)) (place_any _ _ _ (by decide)) ?_
                              rintro e wx ⟨rfl, rfl⟩
                              refine ⟨_, rfl, hS, fun a105 f105 => ?_⟩
                              clear f104 a104
                              refine R.take 9 f105 rfl rfl (by decide) (by kernel_rfl) (by kernel_rfl) (by kernel_rfl) (fun _ _ _ _ h => by cases h.1) wantedN hS (fun W hW => (E.fieldAddr f105 Try.underlying57 rfl rfl wsz3_u)) fun a106 f106 => ?_
                              clear f105 a105
                              refine R.one 10 (by kernel_rfl) ?_
                              · skip
                                refine O.store f106 rfl wantedN wsz3_u rfl rfl rfl Bg9 (show (0 : Nat) < 6 by decide) (fun _ hk => hS.trans hk (by simp)) fun a107 w14 f107 NB ks => ?_
                                replace hS := hS.trans ks (by simp)
                                replace Bg9 := NB
                                skip
                                simp only [List.set_cons_zero, List.set_cons_succ, Nat.reduceAdd, Nat.zero_add] at Bg9
                                clear f106 a106
                                refine R.take 11 f107 rfl rfl (by decide) (by kernel_rfl) (by kernel_rfl) (by kernel_rfl) (fun _ _ _ _ h => by cases h.1) wantedN hS (fun W hW => (E.fieldAddr f107 Try.underlying57 rfl rfl wsz3_u)) fun a108 f108 => ?_
                                clear f107 a107
                                refine R.one 12 (by kernel_rfl) ?_
                                · skip
                                  refine O.store f108 rfl wantedN wsz3_u rfl rfl rfl Bg9 (show (1 : Nat) < 6 by decide) (fun _ hk => hS.trans hk (by simp)) fun a109 w15 f109 NB ks => ?_
                                  replace hS := hS.trans ks (by simp)
                                  replace Bg9 := NB
                                  skip
                                  simp only [List.set_cons_zero, List.set_cons_succ, Nat.reduceAdd, Nat.zero_add] at Bg9
                                  clear f108 a108
                                  refine R.take 13 f109 rfl rfl (by decide) (by kernel_rfl) (by kernel_rfl) (by kernel_rfl) (fun _ _ _ _ h => by cases h.1) wantedN hS (fun W hW => (E.fieldAddr f109 Try.underlying57 rfl rfl wsz3_u)) fun a110 f110 => ?_
                                  clear f109 a109
                                  refine R.one 14 (by kernel_rfl) ?_
                                  · skip
                                    refine O.store f110 rfl wantedN wsz3_u rfl rfl rfl Bg9 (show (2 : Nat) < 6 by decide) (fun _ hk => hS.trans hk (by simp)) fun a111 w16 f111 NB ks => ?_
                                    replace hS := hS.trans ks (by simp)
                                    replace Bg9 := NB
                                    skip
                                    simp only [List.set_cons_zero, List.set_cons_succ, Nat.reduceAdd, Nat.zero_add] at Bg9
                                    clear f110 a110
                                    exact R.done (by kernel_rfl) ⟨rfl, hS, Bg9, f111.sub (sub_cons rfl (sub_cons rfl (sub_cons rfl (sub_cons rfl (sub_cons rfl (sub_cons rfl (sub_cons rfl (sub_cons rfl (sub_cons rfl (sub_cons rfl sub_nil))))))))))⟩
                      · skip
                        refine O.val f99 rfl rfl (by decide) wantedN (E.load f99 Try.underlying3 rfl rfl (Bg9.cl rfl)) hS fun a100 f100 => ?_
                        clear f99 a99
                        refine R.take 5 f100 rfl rfl (by decide) (by kernel_rfl) (by kernel_rfl) (by kernel_rfl) (fun _ _ _ _ h => by cases h.1) wantedN hS (fun W hW => (E.andI f100 rfl rfl)) fun a101 f101 => ?_
                        clear f100 a100
                        refine R.two 1 7 (by kernel_rfl) ?_ ?_
                        · skip
                          refine O.val f101 rfl rfl (by decide) wantedN (E.load f101 Try.underlying3 rfl rfl (Bg9.cl rfl)) hS fun a102 f102 => ?_
                          clear f101 a101
                          refine R.two 2 7 (by kernel_rfl) ?_ ?_
                          · skip
                            refine O.call f102 rfl rfl (by decide) wantedN (run_call Try.call33 (args2 f102 rfl rfl)) (place_any _ _ _ (by decide)) ?_
                            rintro e wx ⟨rfl, rfl⟩
                            refine ⟨_, rfl, hS, fun a103 f103 => ?_⟩
                            clear f102 a102
                            refine R.one 7 (by kernel_rfl) ?_
                            · skip
                              refine O.val f103 rfl rfl (by decide) wantedN (E.load f103 Try.underlying3 rfl rfl (Bg9.cl rfl)) hS fun a104 f104 => ?_
                              clear f103 a103
                              refine R.take 8 f104 rfl rfl (by decide) (by kernel_rfl) (by kernel_rfl) (by kernel_rfl) (fun _ _ _ _ h => by cases h.1) wantedN hS (fun W hW => (E.andI f104 rfl rfl)) fun a105 f105 => ?_
                              clear f104 a104
                              refine R.take 9 f105 rfl rfl (by decide) (by kernel_rfl) (by kernel_rfl) (by kernel_rfl) (fun _ _ _ _ h => by cases h.1) wantedN hS (fun W hW => (E.fieldAddr f105 Try.underlying57 rfl rfl wsz3_u)) fun a106 f106 => ?_
                              clear f105 a105
                              refine R.one 10 (by kernel_rfl) ?_
                              · skip
                                refine O.store f106 rfl wantedN wsz3_u rfl rfl rfl Bg9 (show (0 : Nat) < 6 by decide) (fun _ hk => hS.trans hk (by simp)) fun a107 w14 f107 NB ks => ?_
                                replace hS := hS.trans ks (by simp)
                                replace Bg9 := NB
                                skip
                                simp only [List.set_cons_zero, List.set_cons_succ, Nat.reduceAdd, Nat.zero_add] at Bg9
                                clear f106 a106
                                refine R.take 11 f107 rfl rfl (by decide) (by kernel_rfl) (by kernel_rfl) (by kernel_rfl) (fun _ _ _ _ h => by cases h.1) wantedN hS (fun W hW => (E.fieldAddr f107 Try.underlying57 rfl rfl wsz3_u)) fun a108 f108 => ?_
                                clear f107 a107
                                refine R.one 12 (by kernel_rfl) ?_
                                · skip
                                  refine O.store f108 rfl wantedN wsz3_u rfl rfl rfl Bg9 (show (1 : Nat) < 6 by decide) (fun _ hk => hS.trans hk (by simp)) fun a109 w15 f109 NB ks => ?_
                                  replace hS := hS.trans ks (by simp)
                                  replace Bg9 := NB
                                  skip
                                  simp only [List.set_cons_zero, List.set_cons_succ, Nat.reduceAdd, Nat.zero_add] at Bg9
                                  clear f108 a108
                                  refine R.take 13 f109 rfl rfl (by decide) (by kernel_rfl) (by kernel_rfl) (by kernel_rfl) (fun _ _ _ _ h => by cases h.1) wantedN hS (fun W hW => (E.fieldAddr f109 Try.underlying57 rfl rfl wsz3_u)) fun a110 f110 => ?_
                                  clear f109 a109
                                  refine R.one 14 (by kernel_rfl) ?_
                                  · skip
                                    refine O.store f110 rfl wantedN wsz3_u rfl rfl rfl Bg9 (show (2 : Nat) < 6 by decide) (fun _ hk => hS.trans hk (by simp)) fun a111 w16 f111 NB ks => ?_
                                    replace hS := hS.trans ks (by simp)
                                    replace Bg9 := NB
                                    skip
                                    simp only [List.set_cons_zero, List.set_cons_succ, Nat.reduceAdd, Nat.zero_add] at Bg9
                                    clear f110 a110
                                    exact R.done (by kernel_rfl) ⟨rfl, hS, Bg9, f111.sub (sub_cons rfl (sub_cons rfl (sub_cons rfl (sub_cons rfl (sub_cons rfl (sub_cons rfl (sub_cons rfl (sub_cons rfl (sub_cons rfl (sub_cons rfl sub_nil))))))))))⟩
                          · skip
                            refine O.val f102 rfl rfl (by decide) wantedN (E.load f102 Try.underlying3 rfl rfl (Bg9.cl rfl)) hS fun a103 f103 => ?_
                            clear f102 a102
                            refine R.take 8 f103 rfl rfl (by decide) (by kernel_rfl) (by kernel_rfl) (by kernel_rfl) (fun _ _ _ _ h => by cases h.1) wantedN hS (fun W hW => (E.andI f103 rfl rfl)) fun a104 f104 => ?_
                            clear f103 a103
                            refine R.one 2 (by kernel_rfl) ?_
                            · skip
                              refine O.call f104 rfl rfl (by decide) wantedN (run_call Try.call33 (args2 f104 rfl rfl)) (place_any _ _ _ (by decide)) ?_
                              rintro e wx ⟨rfl, rfl⟩
                              refine ⟨_, rfl, hS, fun a105 f105 => ?_⟩
                              clear f104 a104
                              refine R.take 9 f105 rfl rfl (by decide) (by kernel_rfl) (by kernel_rfl) (by kernel_rfl) (fun _ _ _ _ h => by cases h.1) wantedN hS (fun W hW => (E.fieldAddr f105 Try.underlying57 rfl rfl wsz3_u)) fun a106 f106 => ?_
                              clear f105 a105
                              refine R.one 10 (by kernel_rfl) ?_
                              · skip
                                refine O.store f106 rfl wantedN wsz3_u rfl rfl rfl Bg9 (show (0 : Nat) < 6 by decide) (fun _ hk => hS.trans hk (by simp)) fun a107 w14 f107 NB ks => ?_
                                replace hS := hS.trans ks (by simp)
                                replace Bg9 := NB
                                skip
                                simp only [List.set_cons_zero, List.set_cons_succ, Nat.reduceAdd, Nat.zero_add] at Bg9
                                clear f106 a106
                                refine R.take 11 f107 rfl rfl (by decide) (by kernel_rfl) (by kernel_rfl) (by kernel_rfl) (fun _ _ _ _ h => by cases h.1) wantedN hS (fun W hW => (E.fieldAddr f107 Try.underlying57 rfl rfl wsz3_u)) fun a108 f108 => ?_
                                clear f107 a107
                                refine R.one 12 (by kernel_rfl) ?_
                                · skip
                                  refine O.store f108 rfl wantedN wsz3_u rfl rfl rfl Bg9 (show (1 : Nat) < 6 by decide) (fun _ hk => hS.trans hk (by simp)) fun a109 w15 f109 NB ks => ?_
                                  replace hS := hS.trans ks (by simp)
                                  replace Bg9 := NB
                                  skip
                                  simp only [List.set_cons_zero, List.set_cons_succ, Nat.reduceAdd, Nat.zero_add] at Bg9
                                  clear f108 a108
                                  refine R.take 13 f109 rfl rfl (by decide) (by kernel_rfl) (by kernel_rfl) (by kernel_rfl) (fun _ _ _ _ h => by cases h.1) wantedN hS (fun W hW => (E.fieldAddr f109 Try.underlying57 rfl rfl wsz3_u)) fun a110 f110 => ?_
                                  clear f109 a109
                                  refine R.one 14 (by kernel_rfl) ?_
                                  · skip
                                    refine O.store f110 rfl wantedN wsz3_u rfl rfl rfl Bg9 (show (2 : Nat) < 6 by decide) (fun _ hk => hS.trans hk (by simp)) fun a111 w16 f111 NB ks => ?_
                                    replace hS := hS.trans ks (by simp)
                                    replace Bg9 := NB
                                    skip
                                    simp only [List.set_cons_zero, List.set_cons_succ, Nat.reduceAdd, Nat.zero_add] at Bg9
                                    clear f110 a110
                                    exact R.done (by kernel_rfl) ⟨rfl, hS, Bg9, f111.sub (sub_cons rfl (sub_cons rfl (sub_cons rfl (sub_cons rfl (sub_cons rfl (sub_cons rfl (sub_cons rfl (sub_cons rfl (sub_cons rfl (sub_cons rfl sub_nil))))))))))⟩
                        · skip
                          refine O.val f101 rfl rfl (by decide) wantedN (E.load f101 Try.underlying3 rfl rfl (Bg9.cl rfl)) hS fun a102 f102 => ?_
                          clear f101 a101
                          refine R.take 8 f102 rfl rfl (by decide) (by kernel_rfl) (by kernel_rfl) (by kernel_rfl) (fun _ _ _ _ h => by cases h.1) wantedN hS (fun W hW => (E.andI f102 rfl rfl)) fun a103 f103 => ?_
                          clear f102 a102
                          refine R.one 1 (by kernel_rfl) ?_
                          · skip
                            refine O.val f103 rfl rfl (by decide) wantedN (E.load f103 Try.underlying3 rfl rfl (Bg9.cl rfl)) hS fun a104 f104 => ?_
                            clear f103 a103
                            refine R.one 2 (by kernel_rfl) ?_
                            · skip
                              refine O.call f104 rfl rfl (by decide) wantedN (run_call Try.call33 (args2 f104 rfl rfl)) (place_any _ _ _ (by decide)) ?_
                              rintro e wx ⟨rfl, rfl⟩
                              refine ⟨_, rfl, hS, fun a105 f105 => ?_⟩
                              clear f104 a104
                              refine R.take 9 f105 rfl rfl (by decide) (by kernel_rfl) (by kernel_rfl) (by kernel_rfl) (fun _ _ _ _ h => by cases h.1) wantedN hS (fun W hW => (E.fieldAddr f105 Try.underlying57 rfl rfl wsz3_u)) fun a106 f106 => ?_
                              clear f105 a105
                              refine R.one 10 (by kernel_rfl) ?_
                              · skip
                                refine O.store f106 rfl wantedN wsz3_u rfl rfl rfl Bg9 (show (0 : Nat) < 6 by decide) (fun _ hk => hS.trans hk (by simp)) fun a107 w14 f107 NB ks => ?_
                                replace hS := hS.trans ks (by simp)
                                replace Bg9 := NB
                                skip
                                simp only [List.set_cons_zero, List.set_cons_succ, Nat.reduceAdd, Nat.zero_add] at Bg9
                                clear f106 a106
                                refine R.take 11 f107 rfl rfl (by decide) (by kernel_rfl) (by kernel_rfl) (by kernel_rfl) (fun _ _ _ _ h => by cases h.1) wantedN hS (fun W hW => (E.fieldAddr f107 Try.underlying57 rfl rfl wsz3_u)) fun a108 f108 => ?_
                                clear f107 a107
                                refine R.one 12 (by kernel_rfl) ?_
                                · skip
                                  refine O.store f108 rfl wantedN wsz3_u rfl rfl rfl Bg9 (show (1 : Nat) < 6 by decide) (fun _ hk => hS.trans hk (by simp)) fun a109 w15 f109 NB ks => ?_
                                  replace hS := hS.trans ks (by simp)
                                  replace Bg9 := NB
                                  skip
                                  simp only [List.set_cons_zero, List.set_cons_succ, Nat.reduceAdd, Nat.zero_add] at Bg9
                                  clear f108 a108
                                  refine R.take 13 f109 rfl rfl (by decide) (by kernel_rfl) (by kernel_rfl) (by kernel_rfl) (fun _ _ _ _ h => by cases h.1) wantedN hS (fun W hW => (E.fieldAddr f109 Try.underlying57 rfl rfl wsz3_u)) fun a110 f110 => ?_
                                  clear f109 a109
                                  refine R.one 14 (by kernel_rfl) ?_
                                  · skip
                                    refine O.store f110 rfl wantedN wsz3_u rfl rfl rfl Bg9 (show (2 : Nat) < 6 by decide) (fun _ hk => hS.trans hk (by simp)) fun a111 w16 f111 NB ks => ?_
                                    replace hS := hS.trans ks (by simp)
                                    replace Bg9 := NB
                                    skip
                                    simp only [List.set_cons_zero, List.set_cons_succ, Nat.reduceAdd, Nat.zero_add] at Bg9
                                    clear f110 a110
                                    exact R.done (by kernel_rfl) ⟨rfl, hS, Bg9, f111.sub (sub_cons rfl (sub_cons rfl (sub_cons rfl (sub_cons rfl (sub_cons rfl (sub_cons rfl (sub_cons rfl (sub_cons rfl (sub_cons rfl (sub_cons rfl sub_nil))))))))))⟩
                      · skip
                        refine O.val f99 rfl rfl (by decide) wantedN (E.load f99 Try.underlying3 rfl rfl (Bg9.cl rfl)) hS fun a100 f100 => ?_
                        clear f99 a99
                        refine R.take 8 f100 rfl rfl (by decide) (by kernel_rfl) (by kernel_rfl) (by kernel_rfl) (fun _ _ _ _ h => by cases h.1) wantedN hS (fun W hW => (E.andI f100 rfl rfl)) fun a101 f101 => ?_
                        clear f100 a100
                        refine R.two 1 4 (by kernel_rfl) ?_ ?_
                        · skip
                          refine O.val f101 rfl rfl (by decide) wantedN (E.load f101 Try.underlying3 rfl rfl (Bg9.cl rfl)) hS fun a102 f102 => ?_
                          clear f101 a101
                          refine R.two 2 4 (by kernel_rfl) ?_ ?_
                          · skip
                            refine O.call f102 rfl rfl (by decide) wantedN (run_call Try.call33 (args2 f102 rfl rfl)) (place_any _ _ _ (by decide)) ?_
                            rintro e wx ⟨rfl, rfl⟩
                            refine ⟨_, rfl, hS, fun a103 f103 => ?_⟩
                            clear f102 a102
                            refine R.one 4 (by kernel_rfl) ?_
                            · skip
                              refine O.val f103 rfl rfl (by decide) wantedN (E.load f103 Try.underlying3 rfl rfl (Bg9.cl rfl)) hS fun a104 f104 => ?_
                              clear f103 a103
                              refine R.take 5 f104 rfl rfl (by decide) (by kernel_rfl) (by kernel_rfl) (by kernel_rfl) (fun _ _ _ _ h => by cases h.1) wantedN hS (fun W hW => (E.andI f104 rfl rfl)) fun a105 f105 => ?_
                              clear f104 a104
                              refine R.take 9 f105 rfl rfl (by decide) (by kernel_rfl) (by kernel_rfl) (by kernel_rfl) (fun _ _ _ _ h => by cases h.1) wantedN hS (fun W hW => (E.fieldAddr f105 Try.underlying57 rfl rfl wsz3_u)) fun a106 f106 => ?_
                              clear f105 a105
                              refine R.one 10 (by kernel_rfl) ?_
                              · skip
                                refine O.store f106 rfl wantedN wsz3_u rfl rfl rfl Bg9 (show (0 : Nat) < 6 by decide) (fun _ hk => hS.trans hk (by simp)) fun a107 w14 f107 NB ks => ?_
                                replace hS := hS.trans ks (by simp)
                                replace Bg9 := NB
                                skip
                                simp only [List.set_cons_zero, List.set_cons_succ, Nat.reduceAdd, Nat.zero_add] at Bg9
                                clear f106 a106
                                refine R.take 11 f107 rfl rfl (by decide) (by kernel_rfl) (by kernel_rfl) (by kernel_rfl) (fun _ _ _ _ h => by cases h.1) wantedN hS (fun W hW => (E.fieldAddr f107 Try.underlying57 rfl rfl wsz3_u)) fun a108 f108 => ?_
                                clear f107 a107
                                refine R.one 12 (by kernel_rfl) ?_
                                · skip
                                  refine O.store f108 rfl wantedN wsz3_u rfl rfl rfl Bg9 (show (1 : Nat) < 6 by decide) (fun _ hk => hS.trans hk (by simp)) fun a109 w15 f109 NB ks => ?_
                                  replace hS := hS.trans ks (by simp)
                                  replace Bg9 := NB
                                  skip
                                  simp only [List.set_cons_zero, List.set_cons_succ, Nat.reduceAdd, Nat.zero_add] at Bg9
                                  clear f108 a108
                                  refine R.take 13 f109 rfl rfl (by decide) (by kernel_rfl) (by kernel_rfl) (by kernel_rfl) (fun _ _ _ _ h => by cases h.1) wantedN hS (fun W hW => (E.fieldAddr f109 Try.underlying57 rfl rfl wsz3_u)) fun a110 f110 => ?_
                                  clear f109 a109
                                  refine R.one 14 (by kernel_rfl) ?_
                                  · skip
                                    refine O.store f110 rfl wantedN wsz3_u rfl rfl rfl Bg9 (show (2 : Nat) < 6 by decide) (fun _ hk => hS.trans hk (by simp)) fun a111 w16 f111 NB ks => ?_
                                    replace hS := hS.trans ks (by simp)
                                    replace Bg9 := NB
                                    skip
                                    simp only [List.set_cons_zero, List.set_cons_succ, Nat.reduceAdd, Nat.zero_add] at Bg9
                                    clear f110 a110
                                    exact R.done (by kernel_rfl) ⟨rfl, hS, Bg9, f111.sub (sub_cons rfl (sub_cons rfl (sub_cons rfl (sub_cons rfl (sub_cons rfl (sub_cons rfl (sub_cons rfl (sub_cons rfl (sub_cons rfl (sub_cons rfl sub_nil))))))))))⟩
                          · skip
                            refine O.val f102 rfl rfl (by decide) wantedN (E.load f102 Try.underlying3 rfl rfl (Bg9.cl rfl)) hS fun a103 f103 => ?_
                            clear f102 a102
                            refine R.take 5 f103 rfl rfl (by decide) (by kernel_rfl) (by kernel_rfl) (by kernel_rfl) (fun _ _ _ _ h => by cases h.1) wantedN hS (fun W hW => (E.andI f103 rfl rfl)) fun a104 f104 => ?_
                            clear f103 a103
                            refine R.one 2 (by kernel_rfl) ?_
                            · skip
                              refine O.call f104 rfl rfl (by decide) wantedN (run_call Try.call33 (args2 f104 rfl rfl)) (place_any _ _ _ (by decide)) ?_
                              rintro e wx ⟨rfl, rfl⟩
                              refine ⟨_, rfl, hS, fun a105 f105 => ?_⟩
                              clear f104 a104
                              refine R.take 9 f105 rfl rfl (by decide) (by kernel_rfl) (by kernel_rfl) (by kernel_rfl) (fun _ _ _ _ h => by cases h.1) wantedN hS (fun W hW => (E.fieldAddr f105 Try.underlying57 rfl rfl wsz3_u)) fun a106 f106 => ?_
                              clear f105 a105
                              refine R.one 10 (by kernel_rfl) ?_
                              · skip
                                refine O.store f106 rfl wantedN wsz3_u rfl rfl rfl Bg9 (show (0 : Nat) < 6 by decide) (fun _ hk => hS.trans hk (by simp)) fun a107 w14 f107 NB ks => ?_
                                replace hS := hS.trans ks (by simp)
                                replace Bg9 := NB
                                skip
                                simp only [List.set_cons_zero, List.set_cons_succ, Nat.reduceAdd, Nat.zero_add] at Bg9
                                clear f106 a106
                                refine R.take 11 f107 rfl rfl (by decide) (by kernel_rfl) (by kernel_rfl) (by kernel_rfl) (fun _ _ _ _ h => by cases h.1) wantedN hS (fun W hW => (E.fieldAddr f107 Try.underlying57 rfl rfl wsz3_u)) fun a108 f108 => ?_
                                clear f107 a107
                                refine R.one 12 (by kernel_rfl) ?_
                                · skip
                                  refine O.store f108 rfl wantedN wsz3_u rfl rfl rfl Bg9 (show (1 : Nat) < 6 by decide) (fun _ hk => hS.trans hk (by simp)) fun a109 w15 f109 NB ks => ?_
                                  replace hS := hS.trans ks (by simp)
                                  replace Bg9 := NB
                                  skip
                                  simp only [List.set_cons_zero, List.set_cons_succ, Nat.reduceAdd, Nat.zero_add] at Bg9
                                  clear f108 a108
                                  refine R.take 13 f109 rfl rfl (by decide) (by kernel_rfl) (by kernel_rfl) (by kernel_rfl) (fun _ _ _ _ h => by cases h.1) wantedN hS (fun W hW => (E.fieldAddr f109 Try.underlying57 rfl rfl wsz3_u)) fun a110 f110 => ?_
                                  clear f109 a109
                                  refine R.one 14 (by kernel_rfl) ?_
                                  · skip
                                    refine O.store f110 rfl wantedN wsz3_u rfl rfl rfl Bg9 (show (2 : Nat) < 6 by decide) (fun _ hk => hS.trans hk (by simp)) fun a111 w16 f111 NB ks => ?_
                                    replace hS := hS.trans ks (by simp)
                                    replace Bg9 := NB
                                    skip
                                    simp only [List.set_cons_zero, List.set_cons_succ, Nat.reduceAdd, Nat.zero_add] at Bg9
                                    clear f110 a110
                                    exact R.done (by kernel_rfl) ⟨rfl, hS, Bg9, f111.sub (sub_cons rfl (sub_cons rfl (sub_cons rfl (sub_cons rfl (sub_cons rfl (sub_cons rfl (sub_cons rfl (sub_cons rfl (sub_cons rfl (sub_cons rfl sub_nil))))))))))⟩
                        · skip
                          refine O.val f101 rfl rfl (by decide) wantedN (E.load f101 Try.underlying3 rfl rfl (Bg9.cl rfl)) hS fun a102 f102 => ?_
                          clear f101 a101
                          refine R.take 5 f102 rfl rfl (by decide) (by kernel_rfl) (by kernel_rfl) (by kernel_rfl) (fun _ _ _ _ h => by cases h.1) wantedN hS (fun W hW => (E.andI f102 rfl rfl)) fun a103 f103 => ?_
                          clear f102 a102
                          refine R.one 1 (by kernel_rfl) ?_
                          · skip
                            refine O.val f103 rfl rfl (by decide) wantedN (E.load f103 Try.underlying3 rfl rfl (Bg9.cl rfl)) hS fun a104 f104 => ?_
                            clear f103 a103
                            refine R.one 2 (by kernel_rfl) ?_
                            · skip
                              refine O.call f104 rfl rfl (by decide) wantedN (run_call Try.call33 (args2 f104 rfl rfl)) (place_any _ _ _ (by decide)) ?_
                              rintro e wx ⟨rfl, rfl⟩
                              refine ⟨_, rfl, hS, fun a105 f105 => ?_⟩
                              clear f104 a104
                              refine R.take 9 f105 rfl rfl (by decide) (by kernel_rfl) (by kernel_rfl) (by kernel_rfl) (fun _ _ _ _ h => by cases h.1) wantedN hS (fun W hW => (E.fieldAddr f105 Try.underlying57 rfl rfl wsz3_u)) fun a106 f106 => ?_
                              clear f105 a105
                              refine R.one 10 (by kernel_rfl) ?_
                              · skip
                                refine O.store f106 rfl wantedN wsz3_u rfl rfl rfl Bg9 (show (0 : Nat) < 6 by decide) (fun _ hk => hS.trans hk (by simp)) fun a107 w14 f107 NB ks => ?_
                                replace hS := hS.trans ks (by simp)
                                replace Bg9 := NB
                                skip
                                simp only [List.set_cons_zero, List.set_cons_succ, Nat.reduceAdd, Nat.zero_add] at Bg9
                                clear f106 a106
                                refine R.take 11 f107 rfl rfl (by decide) (by kernel_rfl) (by kernel_rfl) (by kernel_rfl) (fun _ _ _ _ h => by cases h.1) wantedN hS (fun W hW => (E.fieldAddr f107 Try.underlying57 rfl rfl wsz3_u)) fun a108 f108 => ?_
                                clear f107 a107
                                refine R.one 12 (by kernel_rfl) ?_
                                · skip
                                  refine O.store f108 rfl wantedN wsz3_u rfl rfl rfl Bg9 (show (1 : Nat) < 6 by decide) (fun _ hk => hS.trans hk (by simp)) fun a109 w15 f109 NB ks => ?_
                                  replace hS := hS.trans ks (by simp)
                                  replace Bg9 := NB
                                  skip
                                  simp only [List.set_cons_zero, List.set_cons_succ, Nat.reduceAdd, Nat.zero_add] at Bg9
                                  clear f108 a108
                                  refine R.take 13 f109 rfl rfl (by decide) (by kernel_rfl) (by kernel_rfl) (by kernel_rfl) (fun _ _ _ _ h => by cases h.1) wantedN hS (fun W hW => (E.fieldAddr f109 Try.underlying57 rfl rfl wsz3_u)) fun a110 f110 => ?_
                                  clear f109 a109
                                  refine R.one 14 (by kernel_rfl) ?_
                                  · skip
                                    refine O.store f110 rfl wantedN wsz3_u rfl rfl rfl Bg9 (show (2 : Nat) < 6 by decide) (fun _ hk => hS.trans hk (by simp)) fun a111 w16 f111 NB ks => ?_
                                    replace hS := hS.trans ks (by simp)
                                    replace Bg9 := NB
                                    skip
                                    simp only [List.set_cons_zero, List.set_cons_succ, Nat.reduceAdd, Nat.zero_add] at Bg9
                                    clear f110 a110
                                    exact R.done (by kernel_rfl) ⟨rfl, hS, Bg9, f111.sub (sub_cons rfl (sub_cons rfl (sub_cons rfl (sub_cons rfl (sub_cons rfl (sub_cons rfl (sub_cons rfl (sub_cons rfl (sub_cons rfl (sub_cons rfl sub_nil))))))))))⟩
                    · clear f96
                      rintro a97 w13 ⟨kG, BG, f97⟩
                      have szw13 := kG.size
                      replace HK := HK.trans kG (by intro y hy hlt; simp at hy; subst hy; exfalso; omega)
                      replace TW := TW.keptG kG (by intro y hy hz; simp at hy; subst hy; have := hlt12 _ hz; omega)
                      replace FW := FW.kept kG (fun b hb hx => by simp at hx; exact dG b hb hx)
                      replace Bg9 := BG
                      skip
                      refine id (hK26 _ _ ?_)
                      try clear hK26 K26
                      have f98 := f97.sub (sub_cons (i := 2) rfl (sub_cons (i := 3) rfl (sub_cons (i := 11) rfl (sub_cons (i := 12) rfl (sub_cons (i := 13) rfl (sub_cons (i := 14) rfl (sub_cons (i := 15) rfl (sub_cons (i := 47) rfl (sub_cons (i := 48) rfl (sub_cons (i := 49) rfl sub_nil))))))))))
                      clear f97
                      refine wp_seq_k fun K49 hK49 => ?_
                      refine wp_seq_k fun K50 hK50 => ?_
                      have KN := Kept.refl [] w13
                      have TW0 := TW
                      refine R.begin (S := fun W => Kept (fp ++ fpR) w13 W) (by kernel_rfl) (by exact (Kept.refl _ _).drewN 1) ?_
                      have hS19 : Kept (fp ++ fpR) w13 (w13.drewN 1) := (Kept.refl _ _).drewN 1
                      have hd19 : Kept [] w13 (w13.drewN 1) := (Kept.refl _ _).drewN 1
                      obtain ⟨w14, hww14⟩ : ∃ W, W = w13.drewN 1 := ⟨_, rfl⟩
                      rw [← hww14] at hS19 hd19 ⊢
                      clear hww14
                      have szw14 := hS19.size
                      replace KN := KN.trans hd19 (by simp)
                      refine R.take 0 f98 rfl rfl (by decide) (by kernel_rfl) (by kernel_rfl) (by kernel_rfl) (fun _ _ _ _ h => h) wantedN hS19 (fun W hW => (E.move f98 rfl)) fun a99 f99 => ?_
                      clear f98 a97
                      refine R.take 1 f99 rfl rfl (by decide) (by kernel_rfl) (by kernel_rfl) (by kernel_rfl) (fun _ _ _ _ h => h) wantedN hS19 (fun W hW => (E.fieldAddr f99 Try.underlying57 rfl rfl wsz3_u)) fun a100 f100 => ?_
                      clear f99 a99
                      refine R.take 2 f100 rfl rfl (by decide) (by kernel_rfl) (by kernel_rfl) (by kernel_rfl) (fun _ _ _ _ h => h) wantedN hS19 (fun W hW => (by exact E.load f100 Try.underlying3 rfl rfl ((Bg9.kept hW (by exact hga)).cl rfl))) fun a101 f101 => ?_
                      clear f100 a100
                      refine R.take 3 f101 rfl rfl (by decide) (by kernel_rfl) (by kernel_rfl) (by kernel_rfl) (fun _ _ _ _ h => h) wantedN hS19 (fun W hW => (E.fieldAddr f101 Try.underlying57 rfl rfl wsz3_u)) fun a102 f102 => ?_
                      clear f101 a101
                      refine R.take 4 f102 rfl rfl (by decide) (by kernel_rfl) (by kernel_rfl) (by kernel_rfl) (fun _ _ _ _ h => h) wantedN hS19 (fun W hW => (by exact E.load f102 Try.underlying3 rfl rfl ((Bg9.kept hW (by exact hga)).cl rfl))) fun a103 f103 => ?_
                      clear f102 a102
                      refine R.take 5 f103 rfl rfl (by decide) (by kernel_rfl) (by kernel_rfl) (by kernel_rfl) (fun _ _ _ _ h => h) wantedN hS19 (fun W hW => (E.fieldAddr f103 Try.underlying57 rfl rfl wsz3_u)) fun a104 f104 => ?_
                      clear f103 a103
                      refine R.take 6 f104 rfl rfl (by decide) (by kernel_rfl) (by kernel_rfl) (by kernel_rfl) (fun _ _ _ _ h => h) wantedN hS19 (fun W hW => (by exact E.load f104 Try.underlying3 rfl rfl ((Bg9.kept hW (by exact hga)).cl rfl))) fun a105 f105 => ?_
                      clear f104 a104
                      refine R.take 7 f105 rfl rfl (by decide) (by kernel_rfl) (by kernel_rfl) (by kernel_rfl) (fun _ _ _ _ h => h) wantedN hS19 (fun W hW => (E.move f105 rfl)) fun a106 f106 => ?_
                      clear f105 a105
                      refine R.take 9 f106 rfl rfl (by decide) (by kernel_rfl) (by kernel_rfl) (by kernel_rfl) (fun _ _ _ _ h => h) wantedN hS19 (fun W hW => (E.move f106 rfl)) fun a107 f107 => ?_
                      clear f106 a106
                      refine R.take 10 f107 rfl rfl (by decide) (by kernel_rfl) (by kernel_rfl) (by kernel_rfl) (fun _ _ _ _ h => h) wantedN hS19 (fun W hW => (E.fieldAddr f107 Try.underlying57 rfl rfl wsz3_u)) fun a108 f108 => ?_
                      clear f107 a107
                      refine R.take 11 f108 rfl rfl (by decide) (by kernel_rfl) (by kernel_rfl) (by kernel_rfl) (fun _ _ _ _ h => h) wantedN hS19 (fun W hW => (by exact E.load f108 Try.underlying3 rfl rfl ((Bg9.kept hW (by exact hga)).cl rfl))) fun a109 f109 => ?_
                      clear f108 a108
                      refine R.take 12 f109 rfl rfl (by decide) (by kernel_rfl) (by kernel_rfl) (by kernel_rfl) (fun _ _ _ _ h => h) wantedN hS19 (fun W hW => (E.fieldAddr f109 Try.underlying57 rfl rfl wsz3_u)) fun a110 f110 => ?_
                      clear f109 a109
                      refine R.take 13 f110 rfl rfl (by decide) (by kernel_rfl) (by kernel_rfl) (by kernel_rfl) (fun _ _ _ _ h => h) wantedN hS19 (fun W hW => (by exact E.load f110 Try.underlying3 rfl rfl ((Bg9.kept hW (by exact hga)).cl rfl))) fun a111 f111 => ?_
                      clear f110 a110
                      refine R.take 14 f111 rfl rfl (by decide) (by kernel_rfl) (by kernel_rfl) (by kernel_rfl) (fun _ _ _ _ h => h) wantedN hS19 (fun W hW => (E.fieldAddr f111 Try.underlying57 rfl rfl wsz3_u)) fun a112 f112 => ?_
                      clear f111 a111
                      refine R.take 15 f112 rfl rfl (by decide) (by kernel_rfl) (by kernel_rfl) (by kernel_rfl) (fun _ _ _ _ h => h) wantedN hS19 (fun W hW => (by exact E.load f112 Try.underlying3 rfl rfl ((Bg9.kept hW (by exact hga)).cl rfl))) fun a113 f113 => ?_
                      clear f112 a112
                      refine R.take 16 f113 rfl rfl (by decide) (by kernel_rfl) (by kernel_rfl) (by kernel_rfl) (fun _ _ _ _ h => h) wantedN hS19 (fun W hW => (E.move f113 rfl)) fun a114 f114 => ?_
                      clear f113 a113
                      have TK := TW0.kept0 KN
                      have DS0 := (FW.kept0 KN).sl
                      have hsl : (ofL x.l).length ≤ 1000000 := by have := ofL_len x.l; omega
                      refine R.call 8 f114 rfl rfl (by decide) (by kernel_rfl) wantedN (run_call Try.call31 (args5 f114 rfl rfl rfl rfl rfl)) (hearA_any TK.a (placeI x.from_ 5) (bits .and .i64 x.epoch 3) (bits .and .i64 x.at_ 3) (ofL x.l) Aw cw w14 DS0 hsl) ?_
                      rintro e w15 ⟨rfl, kc15, hP1⟩
                      obtain ⟨fp2, T1, hf1⟩ := TK.hearA kc15 hP1 (Nat.le_trans HK.size KN.size)
                      have DS1 := ((FW.kept0 KN).kept kc15 (fun b hb hx => dW b hb (List.mem_append_left _ hx))).sl
                      replace hS19 := hS19.trans kc15 (by exact fun y hy _ => List.mem_append_left _ hy)
                      refine ⟨_, rfl, hS19, fun a115 f115 => ?_⟩
                      clear f114 a114
                      have szw15 := kc15.size
                      clear kc15
                      refine R.call 17 f115 rfl rfl (by decide) (by kernel_rfl) wantedN (run_call Try.call35 (args5 f115 rfl rfl rfl rfl rfl)) (hearB_any T1.b (placeI x.from_ 5) (bits .and .i64 x.epoch 3) (bits .and .i64 x.at_ 3) (ofL x.l) Aw cw w15 DS1 hsl) ?_
                      rintro e w16 ⟨rfl, kc16, hP2⟩
                      obtain ⟨fpR2, T2, hf2⟩ := T1.hearB kc16 hP2 (by have := HK.size; have := KN.size; omega)
                      replace hS19 := hS19.trans kc16 (by exact fun y hy _ => List.mem_append_right _ hy)
                      refine ⟨_, rfl, hS19, fun a116 f116 => ?_⟩
                      clear f115 a115
                      have szw16 := kc16.size
                      clear kc16
                      refine R.take 18 f116 rfl rfl (by decide) (by kernel_rfl) (by kernel_rfl) (by kernel_rfl) (fun _ _ _ _ h => h) wantedN hS19 (fun W hW => (E.neqB f116 Try.underlying4 rfl rfl)) fun a117 f117 => ?_
                      clear f116 a116
                      have f118 := f117.as (i := 121) (v' := .bool false) rfl (by simp)
                      clear f117
                      have szw16r := hS19.size
                      replace HK := HK.trans hS19 (fun y hy hlt => absurd (TW0.lo y hy) (by omega))
                      replace Bg9 := Bg9.kept hS19 hga
                      clear hS19
                      refine R.done (by kernel_rfl) (hK50 _ _ ?_)
                      try clear hK50 K50
                      have f119 := f118.sub (sub_cons (i := 2) rfl (sub_cons (i := 3) rfl (sub_cons (i := 11) rfl (sub_cons (i := 12) rfl (sub_cons (i := 13) rfl (sub_cons (i := 14) rfl (sub_cons (i := 15) rfl (sub_cons (i := 47) rfl (sub_cons (i := 48) rfl (sub_cons (i := 49) rfl (sub_cons (i := 103) rfl (sub_cons (i := 104) rfl (sub_cons (i := 105) rfl (sub_cons (i := 106) rfl (sub_cons (i := 107) rfl (sub_cons (i := 108) rfl (sub_cons (i := 109) rfl (sub_cons (i := 110) rfl (sub_cons (i := 111) rfl (sub_cons (i := 112) rfl (sub_cons (i := 113) rfl (sub_cons (i := 114) rfl (sub_cons (i := 115) rfl (sub_cons (i := 116) rfl (sub_cons (i := 117) rfl (sub_cons (i := 118) rfl (sub_cons (i := 119) rfl (sub_cons (i := 120) rfl (sub_cons (i := 121) rfl sub_nil)))))))))))))))))))))))))))))
                      clear f118
                      refine C.condF f119 rfl ?_
                      refine wp_skip (hK49 _ _ ?_)
                      try clear hK49 K49
                      have f120 := f119.sub (sub_cons (i := 2) rfl (sub_cons (i := 3) rfl (sub_cons (i := 11) rfl (sub_cons (i := 12) rfl (sub_cons (i := 13) rfl (sub_cons (i := 14) rfl (sub_cons (i := 15) rfl (sub_cons (i := 47) rfl (sub_cons (i := 48) rfl (sub_cons (i := 49) rfl (sub_cons (i := 103) rfl (sub_cons (i := 104) rfl (sub_cons (i := 105) rfl (sub_cons (i := 106) rfl (sub_cons (i := 107) rfl (sub_cons (i := 108) rfl (sub_cons (i := 109) rfl (sub_cons (i := 110) rfl (sub_cons (i := 111) rfl (sub_cons (i := 112) rfl (sub_cons (i := 113) rfl (sub_cons (i := 114) rfl (sub_cons (i := 115) rfl (sub_cons (i := 116) rfl (sub_cons (i := 117) rfl (sub_cons (i := 118) rfl (sub_cons (i := 119) rfl (sub_cons (i := 120) rfl (sub_cons (i := 121) rfl sub_nil)))))))))))))))))))))))))))))
                      clear f119
                      refine wp_seq_k fun K51 hK51 => ?_
                      refine wp_seq_k fun K52 hK52 => ?_
                      have TW := T2
                      refine C.region ?_
                      refine L.val f120 wantedN rfl (by decide) (E.assign f120 rfl) fun a121 f121 => ?_
                      clear f120 a117
                      refine wpList_nil (hK52 _ _ ?_)
                      try clear hK52 K52
                      have f122 := f121.sub (sub_cons (i := 2) rfl (sub_cons (i := 3) rfl (sub_cons (i := 11) rfl (sub_cons (i := 12) rfl (sub_cons (i := 13) rfl (sub_cons (i := 14) rfl (sub_cons (i := 15) rfl (sub_cons (i := 16) rfl (sub_cons (i := 47) rfl (sub_cons (i := 48) rfl (sub_cons (i := 49) rfl (sub_cons (i := 103) rfl (sub_cons (i := 104) rfl (sub_cons (i := 105) rfl (sub_cons (i := 106) rfl (sub_cons (i := 107) rfl (sub_cons (i := 108) rfl (sub_cons (i := 109) rfl (sub_cons (i := 110) rfl (sub_cons (i := 111) rfl (sub_cons (i := 112) rfl (sub_cons (i := 113) rfl (sub_cons (i := 114) rfl (sub_cons (i := 115) rfl (sub_cons (i := 116) rfl (sub_cons (i := 117) rfl (sub_cons (i := 118) rfl (sub_cons (i := 119) rfl (sub_cons (i := 120) rfl (sub_cons (i := 121) rfl sub_nil))))))))))))))))))))))))))))))
                      clear f121
                      refine wp_block ?_
                      have HKm := HK
                      have TWm := TW
                      have HK := Kept.refl [] w16
                      have BM := Bg9
                      refine C.loop (fun gk a W => ∃ q : Int, -1 ≤ q ∧ q + gk = 5 ∧ Kept [] w16 W ∧ Fr 199 a [(2, .slice Aa acts.length ca), (3, .slice Au us.length cu), (47, .slice (some ⟨g1, 0, none⟩) 2 2), (48, .int .i64 2), (49, .int .i64 j), (11, .pointer (some ⟨m, 0, none⟩)), (12, .pointer (some ⟨mR, 0, none⟩)), (13, .int .i64 i), (14, .pointer (some ⟨g9, 0, none⟩)), (16, .int .i64 q)]) (6) ?_ ?_
                      · exact ⟨-1, by omega, by omega, HK, f122.sub (sub_cons rfl (sub_cons rfl (sub_cons rfl (sub_cons rfl (sub_cons rfl (sub_cons rfl (sub_cons rfl (sub_cons rfl (sub_cons rfl (sub_cons rfl sub_nil))))))))))⟩
                      · intro gk54 a123 w17 hI KL53 hKL53
                        obtain ⟨q, hq1, hq2, HK, f123⟩ := hI
                        try clear f122
                        have TW := TWm.kept0 HK
                        refine wp_seq_k fun K54 hK54 => ?_
                        refine wp_seq_k fun K55 hK55 => ?_
                        refine C.region ?_
                        refine L.val f123 wantedN rfl (by decide) (E.move f123 rfl) fun a124 f124 => ?_
                        clear f123 a123
                        refine L.val f124 wantedN rfl (by decide) (E.lss f124 rfl rfl) fun a125 f125 => ?_
                        clear f124 a124
                        refine wpList_nil (hK55 _ _ ?_)
                        try clear hK55 K55
                        have f126 := f125.sub (sub_cons (i := 2) rfl (sub_cons (i := 3) rfl (sub_cons (i := 11) rfl (sub_cons (i := 12) rfl (sub_cons (i := 13) rfl (sub_cons (i := 14) rfl (sub_cons (i := 16) rfl (sub_cons (i := 47) rfl (sub_cons (i := 48) rfl (sub_cons (i := 49) rfl (sub_cons (i := 122) rfl (sub_cons (i := 123) rfl sub_nil))))))))))))
                        clear f125
                        first | refine f126.splitD 123 rfl (fun h9 f127 => ?_) (fun h9 f127 => ?_) | refine f126.splitN 123 rfl (fun h9 f127 => ?_) (fun h9 f127 => ?_) | refine f126.splitNB 123 rfl (fun h9 f127 => ?_) (fun h9 f127 => ?_) | refine f126.split 123 rfl (fun h9 f127 => ?_) (fun h9 f127 => ?_)
                        · clear f126
                          refine C.condT f127 rfl ?_
                          refine wp_skip (hK54 _ _ ?_)
                          try clear hK54 K54
                          have f128 := f127.sub (sub_cons (i := 2) rfl (sub_cons (i := 3) rfl (sub_cons (i := 11) rfl (sub_cons (i := 12) rfl (sub_cons (i := 13) rfl (sub_cons (i := 14) rfl (sub_cons (i := 16) rfl (sub_cons (i := 47) rfl (sub_cons (i := 48) rfl (sub_cons (i := 49) rfl (sub_cons (i := 122) rfl (sub_cons (i := 123) rfl sub_nil))))))))))))
                          clear f127
                          refine wp_seq_k fun K56 hK56 => ?_
                          refine wp_block ?_
                          refine wp_seq_k fun K57 hK57 => ?_
                          refine C.region ?_
                          refine L.val f128 wantedN rfl (by decide) (E.move f128 rfl) fun a129 f129 => ?_
                          clear f128 a125
                          refine L.val f129 wantedN rfl (by decide) (E.move f129 rfl) fun a130 f130 => ?_
                          clear f129 a129
                          refine L.call f130 wantedN rfl (by decide) (run_call Try.call36 (args2 f130 rfl rfl)) (rowA_any TW.a q) ?_
                          rintro e w18 ⟨kc18, Ar, cr, rfl, FR⟩
                          refine ⟨_, rfl, fun a131 f131 => ?_⟩
                          clear f130 a130
                          have szw18 := kc18.size
                          replace HK := HK.trans kc18 (by simp)
                          clear kc18
                          refine L.val f131 wantedN rfl (by decide) (E.move f131 rfl) fun a132 f132 => ?_
                          clear f131 a131
                          refine L.val f132 wantedN rfl (by decide) (E.extract f132 rfl rfl) fun a133 f133 => ?_
                          clear f132 a132
                          refine L.val f133 wantedN rfl (by decide) (E.extract f133 rfl rfl) fun a134 f134 => ?_
                          clear f133 a133
                          refine L.val f134 wantedN rfl (by decide) (E.extract f134 rfl rfl) fun a135 f135 => ?_
                          clear f134 a134
                          refine L.val f135 wantedN rfl (by decide) (E.assign f135 rfl) fun a136 f136 => ?_
                          clear f135 a135
                          refine L.val f136 wantedN rfl (by decide) (E.assign f136 rfl) fun a137 f137 => ?_
                          clear f136 a136
                          refine L.val f137 wantedN rfl (by decide) (E.assign f137 rfl) fun a138 f138 => ?_
                          clear f137 a137
                          refine wpList_nil (hK57 _ _ ?_)
                          try clear hK57 K57
                          have f139 := f138.sub (sub_cons (i := 2) rfl (sub_cons (i := 3) rfl (sub_cons (i := 11) rfl (sub_cons (i := 12) rfl (sub_cons (i := 13) rfl (sub_cons (i := 14) rfl (sub_cons (i := 16) rfl (sub_cons (i := 17) rfl (sub_cons (i := 18) rfl (sub_cons (i := 19) rfl (sub_cons (i := 47) rfl (sub_cons (i := 48) rfl (sub_cons (i := 49) rfl (sub_cons (i := 122) rfl (sub_cons (i := 123) rfl (sub_cons (i := 126) rfl (sub_cons (i := 127) rfl (sub_cons (i := 128) rfl (sub_cons (i := 129) rfl (sub_cons (i := 130) rfl (sub_cons (i := 131) rfl (sub_cons (i := 132) rfl sub_nil))))))))))))))))))))))
                          clear f138
                          refine wp_seq_k fun K58 hK58 => ?_
                          refine C.region ?_
                          refine L.val f139 wantedN rfl (by decide) (E.move f139 rfl) fun a140 f140 => ?_
                          clear f139 a138
                          refine L.val f140 wantedN rfl (by decide) (E.move f140 rfl) fun a141 f141 => ?_
                          clear f140 a140
                          refine L.call f141 wantedN rfl (by decide) (run_call Try.call37 (args2 f141 rfl rfl)) (rowB_any (TWm.kept0 HK).b q) ?_
                          rintro e w19 ⟨kc19, As, cs, rfl, DSr, hls⟩
                          refine ⟨_, rfl, fun a142 f142 => ?_⟩
                          clear f141 a141
                          have szw19 := kc19.size
                          replace HK := HK.trans kc19 (by simp)
                          replace FR := FR.kept0 kc19
                          clear kc19
                          refine L.val f142 wantedN rfl (by decide) (E.move f142 rfl) fun a143 f143 => ?_
                          clear f142 a142
                          refine L.val f143 wantedN rfl (by decide) (E.extract f143 rfl rfl) fun a144 f144 => ?_
                          clear f143 a143
                          refine L.val f144 wantedN rfl (by decide) (E.extract f144 rfl rfl) fun a145 f145 => ?_
                          clear f144 a144
                          refine L.val f145 wantedN rfl (by decide) (E.extract f145 rfl rfl) fun a146 f146 => ?_
                          clear f145 a145
                          refine L.val f146 wantedN rfl (by decide) (E.assign f146 rfl) fun a147 f147 => ?_
                          clear f146 a146
                          refine L.val f147 wantedN rfl (by decide) (E.assign f147 rfl) fun a148 f148 => ?_
                          clear f147 a147
                          refine L.val f148 wantedN rfl (by decide) (E.assign f148 rfl) fun a149 f149 => ?_
                          clear f148 a148
                          refine wpList_nil (hK58 _ _ ?_)
                          try clear hK58 K58
                          have f150 := f149.sub (sub_cons (i := 2) rfl (sub_cons (i := 3) rfl (sub_cons (i := 11) rfl (sub_cons (i := 12) rfl (sub_cons (i := 13) rfl (sub_cons (i := 14) rfl (sub_cons (i := 16) rfl (sub_cons (i := 17) rfl (sub_cons (i := 18) rfl (sub_cons (i := 19) rfl (sub_cons (i := 20) rfl (sub_cons (i := 21) rfl (sub_cons (i := 22) rfl (sub_cons (i := 47) rfl (sub_cons (i := 48) rfl (sub_cons (i := 49) rfl (sub_cons (i := 122) rfl (sub_cons (i := 123) rfl (sub_cons (i := 126) rfl (sub_cons (i := 127) rfl (sub_cons (i := 128) rfl (sub_cons (i := 129) rfl (sub_cons (i := 130) rfl (sub_cons (i := 131) rfl (sub_cons (i := 132) rfl (sub_cons (i := 133) rfl (sub_cons (i := 134) rfl (sub_cons (i := 135) rfl (sub_cons (i := 136) rfl (sub_cons (i := 137) rfl (sub_cons (i := 138) rfl (sub_cons (i := 139) rfl sub_nil))))))))))))))))))))))))))))))))
                          clear f149
                          refine wp_seq_k fun K59 hK59 => ?_
                          refine C.region ?_
                          refine L.val f150 wantedN rfl (by decide) (E.move f150 rfl) fun a151 f151 => ?_
                          clear f150 a149
                          refine L.val f151 wantedN rfl (by decide) (E.move f151 rfl) fun a152 f152 => ?_
                          clear f151 a151
                          refine L.val f152 wantedN rfl (by decide) (E.neq f152 rfl rfl) fun a153 f153 => ?_
                          clear f152 a152
                          have f154 := f153.as (i := 142) (v' := .bool false) rfl (by simp)
                          clear f153
                          refine L.val f154 wantedN rfl (by decide) (E.move f154 rfl) fun a155 f155 => ?_
                          clear f154 a153
                          refine L.val f155 (f155.yes rfl rfl) rfl (by decide) (E.move f155 rfl) fun a156 f156 => ?_
                          clear f155 a155
                          refine L.val f156 (f156.yes rfl rfl) rfl (by decide) (E.move f156 rfl) fun a157 f157 => ?_
                          clear f156 a156
                          refine L.val f157 (f157.yes rfl rfl) rfl (by decide) (E.neq f157 rfl rfl) fun a158 f158 => ?_
                          clear f157 a157
                          have f159 := f158.as (i := 146) (v' := .bool false) rfl (by simp)
                          clear f158
                          refine L.val f159 wantedN rfl (by decide) (E.pickF f159 rfl rfl) fun a160 f160 => ?_
                          clear f159 a158
                          refine L.val f160 wantedN rfl (by decide) (E.move f160 rfl) fun a161 f161 => ?_
                          clear f160 a160
                          refine L.val f161 (f161.yes rfl rfl) rfl (by decide) (E.move f161 rfl) fun a162 f162 => ?_
                          clear f161 a161
                          refine L.val f162 (f162.yes rfl rfl) rfl (by decide) (E.move f162 rfl) fun a163 f163 => ?_
                          clear f162 a162
                          refine L.call f163 (f163.yes rfl rfl) rfl (by decide) (run_call Try.call14 (args2 f163 rfl rfl)) (dotsEq_any _ _ _ _ _ _ _ FR.sl DSr (by unfold maxLen; omega) (by unfold maxLen; omega)) ?_
                          rintro e w20 ⟨kc20, rfl⟩
                          refine ⟨_, rfl, fun a164 f164 => ?_⟩
                          clear f163 a163
                          have szw20 := kc20.size
                          replace HK := HK.trans kc20 (by simp)
                          replace FR := FR.kept0 kc20
                          replace DSr := DSr.kept kc20
                          clear kc20
                          have f165 := f164.as (i := 151) (v' := .bool true) rfl (by simp)
                          clear f164
                          refine L.val f165 (f165.yes rfl rfl) rfl (by decide) (E.not f165 rfl) fun a166 f166 => ?_
                          clear f165 a164
                          refine L.val f166 wantedN rfl (by decide) (E.pickF f166 rfl rfl) fun a167 f167 => ?_
                          clear f166 a166
                          refine wpList_nil (hK59 _ _ ?_)
                          try clear hK59 K59
                          have f168 := f167.sub (sub_cons (i := 2) rfl (sub_cons (i := 3) rfl (sub_cons (i := 11) rfl (sub_cons (i := 12) rfl (sub_cons (i := 13) rfl (sub_cons (i := 14) rfl (sub_cons (i := 16) rfl (sub_cons (i := 17) rfl (sub_cons (i := 18) rfl (sub_cons (i := 19) rfl (sub_cons (i := 20) rfl (sub_cons (i := 21) rfl (sub_cons (i := 22) rfl (sub_cons (i := 47) rfl (sub_cons (i := 48) rfl (sub_cons (i := 49) rfl (sub_cons (i := 122) rfl (sub_cons (i := 123) rfl (sub_cons (i := 126) rfl (sub_cons (i := 127) rfl (sub_cons (i := 128) rfl (sub_cons (i := 129) rfl (sub_cons (i := 130) rfl (sub_cons (i := 131) rfl (sub_cons (i := 132) rfl (sub_cons (i := 133) rfl (sub_cons (i := 134) rfl (sub_cons (i := 135) rfl (sub_cons (i := 136) rfl (sub_cons (i := 137) rfl (sub_cons (i := 138) rfl (sub_cons (i := 139) rfl (sub_cons (i := 140) rfl (sub_cons (i := 141) rfl (sub_cons (i := 142) rfl (sub_cons (i := 143) rfl (sub_cons (i := 144) rfl (sub_cons (i := 145) rfl (sub_cons (i := 146) rfl (sub_cons (i := 147) rfl (sub_cons (i := 148) rfl (sub_cons (i := 149) rfl (sub_cons (i := 150) rfl (sub_cons (i := 151) rfl (sub_cons (i := 152) rfl (sub_cons (i := 153) rfl sub_nil))))))))))))))))))))))))))))))))))))))))))))))
                          clear f167
                          refine C.condF f168 rfl ?_
                          refine wp_skip (hK56 _ _ ?_)
                          try clear hK56 K56
                          have f169 := f168.sub (sub_cons (i := 2) rfl (sub_cons (i := 3) rfl (sub_cons (i := 11) rfl (sub_cons (i := 12) rfl (sub_cons (i := 13) rfl (sub_cons (i := 14) rfl (sub_cons (i := 16) rfl (sub_cons (i := 17) rfl (sub_cons (i := 18) rfl (sub_cons (i := 19) rfl (sub_cons (i := 20) rfl (sub_cons (i := 21) rfl (sub_cons (i := 22) rfl (sub_cons (i := 47) rfl (sub_cons (i := 48) rfl (sub_cons (i := 49) rfl (sub_cons (i := 122) rfl (sub_cons (i := 123) rfl (sub_cons (i := 126) rfl (sub_cons (i := 127) rfl (sub_cons (i := 128) rfl (sub_cons (i := 129) rfl (sub_cons (i := 130) rfl (sub_cons (i := 131) rfl (sub_cons (i := 132) rfl (sub_cons (i := 133) rfl (sub_cons (i := 134) rfl (sub_cons (i := 135) rfl (sub_cons (i := 136) rfl (sub_cons (i := 137) rfl (sub_cons (i := 138) rfl (sub_cons (i := 139) rfl (sub_cons (i := 140) rfl (sub_cons (i := 141) rfl (sub_cons (i := 142) rfl (sub_cons (i := 143) rfl (sub_cons (i := 144) rfl (sub_cons (i := 145) rfl (sub_cons (i := 146) rfl (sub_cons (i := 147) rfl (sub_cons (i := 148) rfl (sub_cons (i := 149) rfl (sub_cons (i := 150) rfl (sub_cons (i := 151) rfl (sub_cons (i := 152) rfl (sub_cons (i := 153) rfl sub_nil))))))))))))))))))))))))))))))))))))))))))))))
                          clear f168
                          refine C.region ?_
                          refine L.val f169 wantedN rfl (by decide) (E.move f169 rfl) fun a170 f170 => ?_
                          clear f169 a167
                          refine L.val f170 wantedN rfl (by decide) (E.add f170 rfl rfl (IntWalk.i64_in _ (by omega))) fun a171 f171 => ?_
                          clear f170 a170
                          refine L.val f171 wantedN rfl (by decide) (E.assign f171 rfl) fun a172 f172 => ?_
                          clear f171 a171
                          refine wpList_nil (hKL53 _ _ (gk54 - 1) ?_ ?_)
                          · omega
                          · exact ⟨q + 1, by omega, by omega, HK, f172.sub (sub_cons rfl (sub_cons rfl (sub_cons rfl (sub_cons rfl (sub_cons rfl (sub_cons rfl (sub_cons rfl (sub_cons rfl (sub_cons rfl (sub_cons rfl sub_nil))))))))))⟩
                        · clear f126
                          refine C.condF f127 rfl ?_
                          refine wp_exit (hK51 _ _ ?_)
                          try clear hK51 K51
                          have f128 := f127.sub (sub_cons (i := 2) rfl (sub_cons (i := 3) rfl (sub_cons (i := 11) rfl (sub_cons (i := 12) rfl (sub_cons (i := 13) rfl (sub_cons (i := 14) rfl (sub_cons (i := 16) rfl (sub_cons (i := 47) rfl (sub_cons (i := 48) rfl (sub_cons (i := 49) rfl (sub_cons (i := 122) rfl (sub_cons (i := 123) rfl sub_nil))))))))))))
                          clear f127
                          refine wp_seq_k fun K60 hK60 => ?_
                          have A2m := A2.kept ((HK0.trans HKm (by simp)).trans HK (by simp))
                          have BMx := BM.kept HK (by simp)
                          refine R.begin (S := fun W => Kept [] w17 W) (by kernel_rfl) (by exact (Kept.refl _ _).drewN 1) ?_
                          have hS28 : Kept [] w17 (w17.drewN 1) := (Kept.refl _ _).drewN 1
                          have hd28 : Kept [] w17 (w17.drewN 1) := (Kept.refl _ _).drewN 1
                          obtain ⟨w18, hww18⟩ : ∃ W, W = w17.drewN 1 := ⟨_, rfl⟩
                          rw [← hww18] at hS28 hd28 ⊢
                          clear hww18
                          have szw18 := hS28.size
                          refine R.take 0 f128 rfl rfl (by decide) (by kernel_rfl) (by kernel_rfl) (by kernel_rfl) (fun _ _ _ _ h => h) wantedN hS28 (fun W hW => (E.move f128 rfl)) fun a129 f129 => ?_
                          clear f128 a125
                          refine R.take 1 f129 rfl rfl (by decide) (by kernel_rfl) (by kernel_rfl) (by kernel_rfl) (fun _ _ _ _ h => h) wantedN hS28 (fun W hW => (E.fieldAddr f129 Try.underlying57 rfl rfl wsz3_u)) fun a130 f130 => ?_
                          clear f129 a129
                          refine R.take 2 f130 rfl rfl (by decide) (by kernel_rfl) (by kernel_rfl) (by kernel_rfl) (fun _ _ _ _ h => h) wantedN hS28 (fun W hW => (by exact E.load f130 Try.underlying3 rfl rfl ((BMx.kept hW (by simp)).cl rfl))) fun a131 f131 => ?_
                          clear f130 a130
                          refine R.take 3 f131 rfl rfl (by decide) (by kernel_rfl) (by kernel_rfl) (by kernel_rfl) (fun _ _ _ _ h => h) wantedN hS28 (fun W hW => (E.move f131 rfl)) fun a132 f132 => ?_
                          clear f131 a131
                          refine R.call 4 f132 rfl rfl (by decide) (by kernel_rfl) wantedN (run_call Try.call30 (args1 f132 rfl)) (of_any us _ _ _ (A2m.kept hS28) h12u hbu) ?_
                          rintro e w19 ⟨kc19, Ay, cy, rfl, FY⟩
                          replace hS28 := hS28.trans kc19 (by simp)
                          refine ⟨_, rfl, hS28, fun a133 f133 => ?_⟩
                          clear f132 a132
                          have szw19 := kc19.size
                          clear kc19
                          refine R.call 5 f133 rfl rfl (by decide) (by kernel_rfl) wantedN (run_call Try.call32 (args3 f133 rfl rfl rfl)) (cutA_any (TWm.kept0 (HK.trans hS28 (by simp))).a (bits .and .i64 x.at_ 3) (ofL us) _ _ w19 FY.sl (by have := ofL_len us; omega)) ?_
                          rintro e w20 ⟨kc20, AX, cX, ss, rfl, RO, hl, hq⟩
                          replace hS28 := hS28.trans kc20 (by simp)
                          refine ⟨_, rfl, hS28, fun a134 f134 => ?_⟩
                          clear f133 a133
                          have szw20 := kc20.size
                          replace FY := FY.kept0 kc20
                          clear kc20
                          refine R.take 6 f134 rfl rfl (by decide) (by kernel_rfl) (by kernel_rfl) (by kernel_rfl) (fun _ _ _ _ h => h) wantedN hS28 (fun W hW => (E.move f134 rfl)) fun a135 f135 => ?_
                          clear f134 a134
                          refine R.take 7 f135 rfl rfl (by decide) (by kernel_rfl) (by kernel_rfl) (by kernel_rfl) (fun _ _ _ _ h => h) wantedN hS28 (fun W hW => (E.extract f135 rfl rfl)) fun a136 f136 => ?_
                          clear f135 a135
                          refine R.take 8 f136 rfl rfl (by decide) (by kernel_rfl) (by kernel_rfl) (by kernel_rfl) (fun _ _ _ _ h => h) wantedN hS28 (fun W hW => (E.extract f136 rfl rfl)) fun a137 f137 => ?_
                          clear f136 a136
                          refine R.take 9 f137 rfl rfl (by decide) (by kernel_rfl) (by kernel_rfl) (by kernel_rfl) (fun _ _ _ _ h => h) wantedN hS28 (fun W hW => (E.assign f137 rfl)) fun a138 f138 => ?_
                          clear f137 a137
                          refine R.take 10 f138 rfl rfl (by decide) (by kernel_rfl) (by kernel_rfl) (by kernel_rfl) (fun _ _ _ _ h => h) wantedN hS28 (fun W hW => (E.assign f138 rfl)) fun a139 f139 => ?_
                          clear f138 a138
                          have szw20r := hS28.size
                          replace HK := HK.trans hS28 (by simp)
                          replace BMx := BMx.kept hS28 (by simp)
                          clear hS28
                          refine R.done (by kernel_rfl) (hK60 _ _ ?_)
                          try clear hK60 K60
                          have f140 := f139.sub (sub_cons (i := 2) rfl (sub_cons (i := 3) rfl (sub_cons (i := 11) rfl (sub_cons (i := 12) rfl (sub_cons (i := 13) rfl (sub_cons (i := 14) rfl (sub_cons (i := 16) rfl (sub_cons (i := 23) rfl (sub_cons (i := 24) rfl (sub_cons (i := 47) rfl (sub_cons (i := 48) rfl (sub_cons (i := 49) rfl (sub_cons (i := 122) rfl (sub_cons (i := 123) rfl (sub_cons (i := 154) rfl (sub_cons (i := 155) rfl (sub_cons (i := 156) rfl (sub_cons (i := 157) rfl (sub_cons (i := 158) rfl (sub_cons (i := 159) rfl (sub_cons (i := 160) rfl (sub_cons (i := 161) rfl (sub_cons (i := 162) rfl sub_nil)))))))))))))))))))))))
                          clear f139
                          refine wp_seq_k fun K61 hK61 => ?_
                          have A2mz := A2.kept ((HK0.trans HKm (by simp)).trans HK (by simp))
                          refine R.begin (S := fun W => Kept [] w20 W) (by kernel_rfl) (by exact (Kept.refl _ _).drewN 1) ?_
                          have hS29 : Kept [] w20 (w20.drewN 1) := (Kept.refl _ _).drewN 1
                          have hd29 : Kept [] w20 (w20.drewN 1) := (Kept.refl _ _).drewN 1
                          obtain ⟨w21, hww21⟩ : ∃ W, W = w20.drewN 1 := ⟨_, rfl⟩
                          rw [← hww21] at hS29 hd29 ⊢
                          clear hww21
                          have szw21 := hS29.size
                          refine R.take 0 f140 rfl rfl (by decide) (by kernel_rfl) (by kernel_rfl) (by kernel_rfl) (fun _ _ _ _ h => h) wantedN hS29 (fun W hW => (E.move f140 rfl)) fun a141 f141 => ?_
                          clear f140 a139
                          refine R.take 1 f141 rfl rfl (by decide) (by kernel_rfl) (by kernel_rfl) (by kernel_rfl) (fun _ _ _ _ h => h) wantedN hS29 (fun W hW => (E.fieldAddr f141 Try.underlying57 rfl rfl wsz3_u)) fun a142 f142 => ?_
                          clear f141 a141
                          refine R.take 2 f142 rfl rfl (by decide) (by kernel_rfl) (by kernel_rfl) (by kernel_rfl) (fun _ _ _ _ h => h) wantedN hS29 (fun W hW => (by exact E.load f142 Try.underlying3 rfl rfl ((BMx.kept hW (by simp)).cl rfl))) fun a143 f143 => ?_
                          clear f142 a142
                          refine R.take 3 f143 rfl rfl (by decide) (by kernel_rfl) (by kernel_rfl) (by kernel_rfl) (fun _ _ _ _ h => h) wantedN hS29 (fun W hW => (E.move f143 rfl)) fun a144 f144 => ?_
                          clear f143 a143
                          refine R.call 4 f144 rfl rfl (by decide) (by kernel_rfl) wantedN (run_call Try.call30 (args1 f144 rfl)) (of_any us _ _ _ (A2mz.kept hS29) h12u hbu) ?_
                          rintro e w22 ⟨kc22, Ayz, cyz, rfl, FYz⟩
                          replace hS29 := hS29.trans kc22 (by simp)
                          refine ⟨_, rfl, hS29, fun a145 f145 => ?_⟩
                          clear f144 a144
                          have szw22 := kc22.size
                          clear kc22
                          refine R.call 5 f145 rfl rfl (by decide) (by kernel_rfl) wantedN (run_call Try.call38 (args3 f145 rfl rfl rfl)) (cutB_any (TWm.kept0 (HK.trans hS29 (by simp))).b (bits .and .i64 x.at_ 3) (ofL us) _ _ w22 FYz.sl (by have := ofL_len us; omega)) ?_
                          rintro e w23 ⟨kc23, AXz, cXz, ssz, rfl, ROz, hlz, hqz⟩
                          replace hS29 := hS29.trans kc23 (by simp)
                          refine ⟨_, rfl, hS29, fun a146 f146 => ?_⟩
                          clear f145 a145
                          have szw23 := kc23.size
                          replace FYz := FYz.kept0 kc23
                          clear kc23
                          refine R.take 6 f146 rfl rfl (by decide) (by kernel_rfl) (by kernel_rfl) (by kernel_rfl) (fun _ _ _ _ h => h) wantedN hS29 (fun W hW => (E.move f146 rfl)) fun a147 f147 => ?_
                          clear f146 a146
                          refine R.take 7 f147 rfl rfl (by decide) (by kernel_rfl) (by kernel_rfl) (by kernel_rfl) (fun _ _ _ _ h => h) wantedN hS29 (fun W hW => (E.extract f147 rfl rfl)) fun a148 f148 => ?_
                          clear f147 a147
                          refine R.take 8 f148 rfl rfl (by decide) (by kernel_rfl) (by kernel_rfl) (by kernel_rfl) (fun _ _ _ _ h => h) wantedN hS29 (fun W hW => (E.extract f148 rfl rfl)) fun a149 f149 => ?_
                          clear f148 a148
                          refine R.take 9 f149 rfl rfl (by decide) (by kernel_rfl) (by kernel_rfl) (by kernel_rfl) (fun _ _ _ _ h => h) wantedN hS29 (fun W hW => (E.assign f149 rfl)) fun a150 f150 => ?_
                          clear f149 a149
                          refine R.take 10 f150 rfl rfl (by decide) (by kernel_rfl) (by kernel_rfl) (by kernel_rfl) (fun _ _ _ _ h => h) wantedN hS29 (fun W hW => (E.assign f150 rfl)) fun a151 f151 => ?_
                          clear f150 a150
                          have szw23r := hS29.size
                          replace HK := HK.trans hS29 (by simp)
                          replace BMx := BMx.kept hS29 (by simp)
                          replace FY := FY.kept0 hS29
                          replace RO := RO.kept0 hS29
                          clear hS29
                          refine R.done (by kernel_rfl) (hK61 _ _ ?_)
                          try clear hK61 K61
                          have f152 := f151.sub (sub_cons (i := 2) rfl (sub_cons (i := 3) rfl (sub_cons (i := 11) rfl (sub_cons (i := 12) rfl (sub_cons (i := 13) rfl (sub_cons (i := 14) rfl (sub_cons (i := 16) rfl (sub_cons (i := 23) rfl (sub_cons (i := 24) rfl (sub_cons (i := 25) rfl (sub_cons (i := 26) rfl (sub_cons (i := 47) rfl (sub_cons (i := 48) rfl (sub_cons (i := 49) rfl (sub_cons (i := 122) rfl (sub_cons (i := 123) rfl (sub_cons (i := 154) rfl (sub_cons (i := 155) rfl (sub_cons (i := 156) rfl (sub_cons (i := 157) rfl (sub_cons (i := 158) rfl (sub_cons (i := 159) rfl (sub_cons (i := 160) rfl (sub_cons (i := 161) rfl (sub_cons (i := 162) rfl (sub_cons (i := 163) rfl (sub_cons (i := 164) rfl (sub_cons (i := 165) rfl (sub_cons (i := 166) rfl (sub_cons (i := 167) rfl (sub_cons (i := 168) rfl (sub_cons (i := 169) rfl (sub_cons (i := 170) rfl (sub_cons (i := 171) rfl sub_nil))))))))))))))))))))))))))))))))))
                          clear f151
                          refine wp_seq_k fun K62 hK62 => ?_
                          refine wp_seq_k fun K63 hK63 => ?_
                          have hss : ss.map (·.2.2) = ssz.map (·.2.2) := by rw [hl, hlz]
                          have hlenE : ss.length = ssz.length := by simpa using congrArg List.length hss
                          refine C.region ?_
                          refine L.val f152 wantedN rfl (by decide) (E.move f152 rfl) fun a153 f153 => ?_
                          clear f152 a151
                          refine L.val f153 wantedN rfl (by decide) (E.move f153 rfl) fun a154 f154 => ?_
                          clear f153 a153
                          refine L.val f154 wantedN rfl (by decide) (E.neqB f154 Try.underlying4 rfl rfl) fun a155 f155 => ?_
                          clear f154 a154
                          have f156 := f155.as (i := 174) (v' := .bool false) rfl (by simp)
                          clear f155
                          refine L.val f156 wantedN rfl (by decide) (E.move f156 rfl) fun a157 f157 => ?_
                          clear f156 a155
                          refine L.val f157 (f157.yes rfl rfl) rfl (by decide) (E.move f157 rfl) fun a158 f158 => ?_
                          clear f157 a157
                          refine L.val f158 (f158.yes rfl rfl) rfl (by decide) (E.lenL f158 Try.underlying46 rfl) fun a159 f159 => ?_
                          clear f158 a158
                          refine L.val f159 (f159.yes rfl rfl) rfl (by decide) (E.move f159 rfl) fun a160 f160 => ?_
                          clear f159 a159
                          refine L.val f160 (f160.yes rfl rfl) rfl (by decide) (E.lenL f160 Try.underlying46 rfl) fun a161 f161 => ?_
                          clear f160 a160
                          refine L.val f161 (f161.yes rfl rfl) rfl (by decide) (E.neq f161 rfl rfl) fun a162 f162 => ?_
                          clear f161 a161
                          have f163 := f162.as (i := 180) (v' := .bool false) rfl (by simp [hlenE])
                          clear f162
                          refine L.val f163 wantedN rfl (by decide) (E.pickF f163 rfl rfl) fun a164 f164 => ?_
                          clear f163 a162
                          refine wpList_nil (hK63 _ _ ?_)
                          try clear hK63 K63
                          have f165 := f164.sub (sub_cons (i := 2) rfl (sub_cons (i := 3) rfl (sub_cons (i := 11) rfl (sub_cons (i := 12) rfl (sub_cons (i := 13) rfl (sub_cons (i := 14) rfl (sub_cons (i := 16) rfl (sub_cons (i := 23) rfl (sub_cons (i := 24) rfl (sub_cons (i := 25) rfl (sub_cons (i := 26) rfl (sub_cons (i := 47) rfl (sub_cons (i := 48) rfl (sub_cons (i := 49) rfl (sub_cons (i := 122) rfl (sub_cons (i := 123) rfl (sub_cons (i := 154) rfl (sub_cons (i := 155) rfl (sub_cons (i := 156) rfl (sub_cons (i := 157) rfl (sub_cons (i := 158) rfl (sub_cons (i := 159) rfl (sub_cons (i := 160) rfl (sub_cons (i := 161) rfl (sub_cons (i := 162) rfl (sub_cons (i := 163) rfl (sub_cons (i := 164) rfl (sub_cons (i := 165) rfl (sub_cons (i := 166) rfl (sub_cons (i := 167) rfl (sub_cons (i := 168) rfl (sub_cons (i := 169) rfl (sub_cons (i := 170) rfl (sub_cons (i := 171) rfl (sub_cons (i := 172) rfl (sub_cons (i := 173) rfl (sub_cons (i := 174) rfl (sub_cons (i := 175) rfl (sub_cons (i := 176) rfl (sub_cons (i := 177) rfl (sub_cons (i := 178) rfl (sub_cons (i := 179) rfl (sub_cons (i := 180) rfl (sub_cons (i := 181) rfl sub_nil))))))))))))))))))))))))))))))))))))))))))))
                          clear f164
                          refine C.condF f165 rfl ?_
                          refine wp_skip (hK62 _ _ ?_)
                          try clear hK62 K62
                          have f166 := f165.sub (sub_cons (i := 2) rfl (sub_cons (i := 3) rfl (sub_cons (i := 11) rfl (sub_cons (i := 12) rfl (sub_cons (i := 13) rfl (sub_cons (i := 14) rfl (sub_cons (i := 16) rfl (sub_cons (i := 23) rfl (sub_cons (i := 24) rfl (sub_cons (i := 25) rfl (sub_cons (i := 26) rfl (sub_cons (i := 47) rfl (sub_cons (i := 48) rfl (sub_cons (i := 49) rfl (sub_cons (i := 122) rfl (sub_cons (i := 123) rfl (sub_cons (i := 154) rfl (sub_cons (i := 155) rfl (sub_cons (i := 156) rfl (sub_cons (i := 157) rfl (sub_cons (i := 158) rfl (sub_cons (i := 159) rfl (sub_cons (i := 160) rfl (sub_cons (i := 161) rfl (sub_cons (i := 162) rfl (sub_cons (i := 163) rfl (sub_cons (i := 164) rfl (sub_cons (i := 165) rfl (sub_cons (i := 166) rfl (sub_cons (i := 167) rfl (sub_cons (i := 168) rfl (sub_cons (i := 169) rfl (sub_cons (i := 170) rfl (sub_cons (i := 171) rfl (sub_cons (i := 172) rfl (sub_cons (i := 173) rfl (sub_cons (i := 174) rfl (sub_cons (i := 175) rfl (sub_cons (i := 176) rfl (sub_cons (i := 177) rfl (sub_cons (i := 178) rfl (sub_cons (i := 179) rfl (sub_cons (i := 180) rfl (sub_cons (i := 181) rfl sub_nil))))))))))))))))))))))))))))))))))))))))))))
                          clear f165
                          refine wp_seq_k fun K64 hK64 => ?_
                          refine C.region ?_
                          refine L.val f166 wantedN rfl (by decide) (E.assign f166 rfl) fun a167 f167 => ?_
                          clear f166 a164
                          refine wpList_nil (hK64 _ _ ?_)
                          try clear hK64 K64
                          have f168 := f167.sub (sub_cons (i := 2) rfl (sub_cons (i := 3) rfl (sub_cons (i := 11) rfl (sub_cons (i := 12) rfl (sub_cons (i := 13) rfl (sub_cons (i := 14) rfl (sub_cons (i := 16) rfl (sub_cons (i := 23) rfl (sub_cons (i := 24) rfl (sub_cons (i := 25) rfl (sub_cons (i := 26) rfl (sub_cons (i := 27) rfl (sub_cons (i := 47) rfl (sub_cons (i := 48) rfl (sub_cons (i := 49) rfl (sub_cons (i := 122) rfl (sub_cons (i := 123) rfl (sub_cons (i := 154) rfl (sub_cons (i := 155) rfl (sub_cons (i := 156) rfl (sub_cons (i := 157) rfl (sub_cons (i := 158) rfl (sub_cons (i := 159) rfl (sub_cons (i := 160) rfl (sub_cons (i := 161) rfl (sub_cons (i := 162) rfl (sub_cons (i := 163) rfl (sub_cons (i := 164) rfl (sub_cons (i := 165) rfl (sub_cons (i := 166) rfl (sub_cons (i := 167) rfl (sub_cons (i := 168) rfl (sub_cons (i := 169) rfl (sub_cons (i := 170) rfl (sub_cons (i := 171) rfl (sub_cons (i := 172) rfl (sub_cons (i := 173) rfl (sub_cons (i := 174) rfl (sub_cons (i := 175) rfl (sub_cons (i := 176) rfl (sub_cons (i := 177) rfl (sub_cons (i := 178) rfl (sub_cons (i := 179) rfl (sub_cons (i := 180) rfl (sub_cons (i := 181) rfl sub_nil)))))))))))))))))))))))))))))))))))))))))))))
                          clear f167
                          refine wp_block ?_
                          have HKc := HK
                          have HK := Kept.refl [] w23
                          refine C.loop (fun gk a W => ∃ k : Nat, k + gk = ss.length ∧ Kept [] w23 W ∧ Fr 199 a [(2, .slice Aa acts.length ca), (3, .slice Au us.length cu), (47, .slice (some ⟨g1, 0, none⟩) 2 2), (48, .int .i64 2), (49, .int .i64 j), (11, .pointer (some ⟨m, 0, none⟩)), (12, .pointer (some ⟨mR, 0, none⟩)), (13, .int .i64 i), (23, .slice AX ss.length cX), (25, .slice AXz ssz.length cXz), (27, .int .i64 k)]) (ss.length) ?_ ?_
                          · exact ⟨0, by omega, HK, f168.sub (sub_cons rfl (sub_cons rfl (sub_cons rfl (sub_cons rfl (sub_cons rfl (sub_cons rfl (sub_cons rfl (sub_cons rfl (sub_cons rfl (sub_cons rfl (sub_cons rfl sub_nil)))))))))))⟩
                          · intro gk66 a169 w24 hI KL65 hKL65
                            obtain ⟨k, hk, HK, f169⟩ := hI
                            try clear f168
                            refine wp_seq_k fun K66 hK66 => ?_
                            refine wp_seq_k fun K67 hK67 => ?_
                            refine C.region ?_
                            refine L.val f169 wantedN rfl (by decide) (E.move f169 rfl) fun a170 f170 => ?_
                            clear f169 a169
                            refine L.val f170 wantedN rfl (by decide) (E.move f170 rfl) fun a171 f171 => ?_
                            clear f170 a170
                            refine L.val f171 wantedN rfl (by decide) (E.lenL f171 Try.underlying46 rfl) fun a172 f172 => ?_
                            clear f171 a171
                            refine L.val f172 wantedN rfl (by decide) (E.lss f172 rfl rfl) fun a173 f173 => ?_
                            clear f172 a172
                            refine wpList_nil (hK67 _ _ ?_)
                            try clear hK67 K67
                            have f174 := f173.sub (sub_cons (i := 2) rfl (sub_cons (i := 3) rfl (sub_cons (i := 11) rfl (sub_cons (i := 12) rfl (sub_cons (i := 13) rfl (sub_cons (i := 23) rfl (sub_cons (i := 25) rfl (sub_cons (i := 27) rfl (sub_cons (i := 47) rfl (sub_cons (i := 48) rfl (sub_cons (i := 49) rfl (sub_cons (i := 182) rfl (sub_cons (i := 183) rfl (sub_cons (i := 184) rfl (sub_cons (i := 185) rfl sub_nil)))))))))))))))
                            clear f173
                            first | refine f174.splitD 185 rfl (fun h10 f175 => ?_) (fun h10 f175 => ?_) | refine f174.splitN 185 rfl (fun h10 f175 => ?_) (fun h10 f175 => ?_) | refine f174.splitNB 185 rfl (fun h10 f175 => ?_) (fun h10 f175 => ?_) | refine f174.split 185 rfl (fun h10 f175 => ?_) (fun h10 f175 => ?_)
                            · clear f174
                              obtain ⟨s, hs⟩ : ∃ s, ss[k]? = some s := ⟨ss[k]'(by omega), List.getElem?_eq_getElem _⟩
                              obtain ⟨sz, hsz⟩ : ∃ s, ssz[k]? = some s := ⟨ssz[k]'(by omega), List.getElem?_eq_getElem _⟩
                              have hes := outs_eq hss hs hsz
                              obtain ⟨b1, o1, hAX⟩ := Sl.addr RO.fr.sl (by omega)
                              obtain ⟨b2, o2, hAXz⟩ := Sl.addr ROz.fr.sl (by omega)
                              refine C.condT f175 rfl ?_
                              refine wp_skip (hK66 _ _ ?_)
                              try clear hK66 K66
                              have f176 := f175.sub (sub_cons (i := 2) rfl (sub_cons (i := 3) rfl (sub_cons (i := 11) rfl (sub_cons (i := 12) rfl (sub_cons (i := 13) rfl (sub_cons (i := 23) rfl (sub_cons (i := 25) rfl (sub_cons (i := 27) rfl (sub_cons (i := 47) rfl (sub_cons (i := 48) rfl (sub_cons (i := 49) rfl (sub_cons (i := 182) rfl (sub_cons (i := 183) rfl (sub_cons (i := 184) rfl (sub_cons (i := 185) rfl sub_nil)))))))))))))))
                              clear f175
                              refine wp_seq_k fun K68 hK68 => ?_
                              refine wp_block ?_
                              refine wp_seq_k fun K69 hK69 => ?_
                              refine R.begin (S := fun W => Kept [] w24 W) (by kernel_rfl) (by exact (Kept.refl _ _).drewN 1) ?_
                              have hS35 : Kept [] w24 (w24.drewN 1) := (Kept.refl _ _).drewN 1
                              have hd35 : Kept [] w24 (w24.drewN 1) := (Kept.refl _ _).drewN 1
                              obtain ⟨w25, hww25⟩ : ∃ W, W = w24.drewN 1 := ⟨_, rfl⟩
                              rw [← hww25] at hS35 hd35 ⊢
                              clear hww25
                              have szw25 := hS35.size
                              refine R.take 0 f176 rfl rfl (by decide) (by kernel_rfl) (by kernel_rfl) (by kernel_rfl) (fun _ _ _ _ h => h) wantedN hS35 (fun W hW => (E.move f176 rfl)) fun a177 f177 => ?_
                              clear f176 a173
                              refine R.take 1 f177 rfl rfl (by decide) (by kernel_rfl) (by kernel_rfl) (by kernel_rfl) (fun _ _ _ _ h => h) wantedN hS35 (fun W hW => (E.move f177 rfl)) fun a178 f178 => ?_
                              clear f177 a177
                              refine R.take 2 f178 rfl rfl (by decide) (by kernel_rfl) (by kernel_rfl) (by kernel_rfl) (fun _ _ _ _ h => h) wantedN hS35 (fun W hW => (E.indexA f178 (by first | rfl | assumption) Try.underlying46 wsz24_u rfl rfl (by omega) (by omega))) fun a179 f179 => ?_
                              clear f178 a178
                              refine R.take 3 f179 rfl rfl (by decide) (by kernel_rfl) (by kernel_rfl) (by kernel_rfl) (fun _ _ _ _ h => h) wantedN hS35 (fun W hW => (by first | exact E.load f179 Try.underlying24 rfl rfl (outs_cell (RO.kept0 (HK.trans hW (by simp))) hAX hs) | exact E.load f179 Try.underlying24 rfl rfl (outs_cell (ROz.kept0 (HK.trans hW (by simp))) hAXz hsz))) fun a180 f180 => ?_
                              clear f179 a179
                              refine R.take 4 f180 rfl rfl (by decide) (by kernel_rfl) (by kernel_rfl) (by kernel_rfl) (fun _ _ _ _ h => h) wantedN hS35 (fun W hW => (E.move f180 rfl)) fun a181 f181 => ?_
                              clear f180 a180
                              refine R.take 5 f181 rfl rfl (by decide) (by kernel_rfl) (by kernel_rfl) (by kernel_rfl) (fun _ _ _ _ h => h) wantedN hS35 (fun W hW => (E.move f181 rfl)) fun a182 f182 => ?_
                              clear f181 a181
                              refine R.take 6 f182 rfl rfl (by decide) (by kernel_rfl) (by kernel_rfl) (by kernel_rfl) (fun _ _ _ _ h => h) wantedN hS35 (fun W hW => (E.indexA f182 (by first | rfl | assumption) Try.underlying46 wsz24_u rfl rfl (by omega) (by omega))) fun a183 f183 => ?_
                              clear f182 a182
                              refine R.take 7 f183 rfl rfl (by decide) (by kernel_rfl) (by kernel_rfl) (by kernel_rfl) (fun _ _ _ _ h => h) wantedN hS35 (fun W hW => (by first | exact E.load f183 Try.underlying24 rfl rfl (outs_cell (RO.kept0 (HK.trans hW (by simp))) hAX hs) | exact E.load f183 Try.underlying24 rfl rfl (outs_cell (ROz.kept0 (HK.trans hW (by simp))) hAXz hsz))) fun a184 f184 => ?_
                              clear f183 a183
                              refine R.call 8 f184 rfl rfl (by decide) (by kernel_rfl) wantedN (run_call Try.call14 (args2 f184 rfl rfl)) (dotsEq_any s.2.2 sz.2.2 _ _ _ _ _ ((RO.ok s (List.mem_of_getElem? hs)).kept (HK.trans hS35 (by simp))) ((ROz.ok sz (List.mem_of_getElem? hsz)).kept (HK.trans hS35 (by simp))) (by have := RO.len s (List.mem_of_getElem? hs); unfold maxLen; omega) (by have := ROz.len sz (List.mem_of_getElem? hsz); unfold maxLen; omega)) ?_
                              rintro e w26 ⟨kc26, rfl⟩
                              replace hS35 := hS35.trans kc26 (by simp)
                              refine ⟨_, rfl, hS35, fun a185 f185 => ?_⟩
                              clear f184 a184
                              have szw26 := kc26.size
                              clear kc26
                              have f186 := f185.as (i := 196) (v' := .bool true) rfl (by simp [hes])
                              clear f185
                              refine R.take 9 f186 rfl rfl (by decide) (by kernel_rfl) (by kernel_rfl) (by kernel_rfl) (fun _ _ _ _ h => h) wantedN hS35 (fun W hW => (E.not f186 rfl)) fun a187 f187 => ?_
                              clear f186 a185
                              have szw26r := hS35.size
                              replace HK := HK.trans hS35 (by simp)
                              clear hS35
                              refine R.done (by kernel_rfl) (hK69 _ _ ?_)
                              try clear hK69 K69
                              have f188 := f187.sub (sub_cons (i := 2) rfl (sub_cons (i := 3) rfl (sub_cons (i := 11) rfl (sub_cons (i := 12) rfl (sub_cons (i := 13) rfl (sub_cons (i := 23) rfl (sub_cons (i := 25) rfl (sub_cons (i := 27) rfl (sub_cons (i := 47) rfl (sub_cons (i := 48) rfl (sub_cons (i := 49) rfl (sub_cons (i := 182) rfl (sub_cons (i := 183) rfl (sub_cons (i := 184) rfl (sub_cons (i := 185) rfl (sub_cons (i := 188) rfl (sub_cons (i := 189) rfl (sub_cons (i := 190) rfl (sub_cons (i := 191) rfl (sub_cons (i := 192) rfl (sub_cons (i := 193) rfl (sub_cons (i := 194) rfl (sub_cons (i := 195) rfl (sub_cons (i := 196) rfl (sub_cons (i := 197) rfl sub_nil)))))))))))))))))))))))))
                              clear f187
                              refine C.condF f188 rfl ?_
                              refine wp_skip (hK68 _ _ ?_)
                              try clear hK68 K68
                              have f189 := f188.sub (sub_cons (i := 2) rfl (sub_cons (i := 3) rfl (sub_cons (i := 11) rfl (sub_cons (i := 12) rfl (sub_cons (i := 13) rfl (sub_cons (i := 23) rfl (sub_cons (i := 25) rfl (sub_cons (i := 27) rfl (sub_cons (i := 47) rfl (sub_cons (i := 48) rfl (sub_cons (i := 49) rfl (sub_cons (i := 182) rfl (sub_cons (i := 183) rfl (sub_cons (i := 184) rfl (sub_cons (i := 185) rfl (sub_cons (i := 188) rfl (sub_cons (i := 189) rfl (sub_cons (i := 190) rfl (sub_cons (i := 191) rfl (sub_cons (i := 192) rfl (sub_cons (i := 193) rfl (sub_cons (i := 194) rfl (sub_cons (i := 195) rfl (sub_cons (i := 196) rfl (sub_cons (i := 197) rfl sub_nil)))))))))))))))))))))))))
                              clear f188
                              refine C.region ?_
                              refine L.val f189 wantedN rfl (by decide) (E.move f189 rfl) fun a190 f190 => ?_
                              clear f189 a187
                              refine L.val f190 wantedN rfl (by decide) (E.add f190 rfl rfl (IntWalk.i64_in _ (by omega))) fun a191 f191 => ?_
                              clear f190 a190
                              refine L.val f191 wantedN rfl (by decide) (E.assign f191 rfl) fun a192 f192 => ?_
                              clear f191 a191
                              refine wpList_nil (hKL65 _ _ (gk66 - 1) ?_ ?_)
                              · omega
                              · exact ⟨k + 1, by omega, HK, f192.sub (sub_cons rfl (sub_cons rfl (sub_cons rfl (sub_cons rfl (sub_cons rfl (sub_cons rfl (sub_cons rfl (sub_cons rfl (sub_cons rfl (sub_cons rfl (sub_cons rfl sub_nil)))))))))))⟩
                            · clear f174
                              refine C.condF f175 rfl ?_
                              refine wp_exit (hK19 _ _ ?_)
                              try clear hK19 K19
                              have f176 := f175.sub (sub_cons (i := 2) rfl (sub_cons (i := 3) rfl (sub_cons (i := 11) rfl (sub_cons (i := 12) rfl (sub_cons (i := 13) rfl (sub_cons (i := 23) rfl (sub_cons (i := 25) rfl (sub_cons (i := 27) rfl (sub_cons (i := 47) rfl (sub_cons (i := 48) rfl (sub_cons (i := 49) rfl (sub_cons (i := 182) rfl (sub_cons (i := 183) rfl (sub_cons (i := 184) rfl (sub_cons (i := 185) rfl sub_nil)))))))))))))))
                              clear f175
                              refine C.region ?_
                              refine L.val f176 wantedN rfl (by decide) (E.move f176 rfl) fun a177 f177 => ?_
                              clear f176 a173
                              refine L.val f177 wantedN rfl (by decide) (E.add f177 rfl rfl (IntWalk.i64_in _ (by omega))) fun a178 f178 => ?_
                              clear f177 a177
                              refine L.val f178 wantedN rfl (by decide) (E.assign f178 rfl) fun a179 f179 => ?_
                              clear f178 a178
                              refine wpList_nil (hKL16 _ _ (gk17 - 1) ?_ ?_)
                              · omega
                              · exact ⟨i + 1, fp2, fpR2, _, by omega, (HKm.trans HKc (by simp)).trans HK (by simp), TWm.kept0 (HKc.trans HK (by simp)), f179.sub (sub_cons rfl (sub_cons rfl (sub_cons rfl (sub_cons rfl (sub_cons rfl (sub_cons rfl (sub_cons rfl (sub_cons rfl sub_nil))))))))⟩
            · clear f63
              refine C.condF f64 rfl ?_
              refine wp_exit (hK12 _ _ ?_)
              try clear hK12 K12
              have f65 := f64.sub (sub_cons (i := 2) rfl (sub_cons (i := 3) rfl (sub_cons (i := 11) rfl (sub_cons (i := 12) rfl (sub_cons (i := 13) rfl (sub_cons (i := 47) rfl (sub_cons (i := 48) rfl (sub_cons (i := 49) rfl (sub_cons (i := 63) rfl (sub_cons (i := 64) rfl (sub_cons (i := 65) rfl (sub_cons (i := 66) rfl sub_nil))))))))))))
              clear f64
              refine C.region ?_
              refine L.val f65 wantedN rfl (by decide) (E.add f65 rfl rfl (IntWalk.i64_in _ (by omega))) fun a66 f66 => ?_
              clear f65 a62
              refine L.val f66 wantedN rfl (by decide) (E.move f66 rfl) fun a67 f67 => ?_
              clear f66 a66
              refine wpList_nil (hKL9 _ _ (gk10 - 1) ?_ ?_)
              · omega
              · exact ⟨j + 1, by omega, HK, f67.sub (sub_cons rfl (sub_cons rfl (sub_cons rfl (sub_cons rfl (sub_cons rfl sub_nil)))))⟩
        · clear f35
          refine C.condF f36 rfl ?_
          refine wp_exit (hK7 _ _ ?_)
          try clear hK7 K7
          have f37 := f36.sub sub_nil
          clear f36
          refine wp_seq_k fun K70 hK70 => ?_
          refine C.region ?_
          refine L.val f37 wantedN rfl (by decide) (E.assign f37 rfl) fun a38 f38 => ?_
          clear f37 a34
          refine wpList_nil (hK70 _ _ ?_)
          try clear hK70 K70
          have f39 := f38.sub (sub_cons (i := 8) rfl sub_nil)
          clear f38
          refine wp_ret ?_
          try simp only [Exit.inBlock, Exit.then]
          refine C.ret (P := Try.prog) (fn := Try.f9) f39 rfl rfl ?_
          exact ⟨rfl, (HK0.trans HK (by simp)).below0⟩

end Go.Proofs.Ytahmlcjgcdajbaa
