/- Contracts: slices.Insert. -/
import Derived.Test.YtahmlcjgcdajbaaDe
import Derived.Test.YtahmlcjgcdajbaaCp
import Derived.Test.YtahmlcjgcdajbaaDp
set_option linter.all false
namespace Go.Proofs.Ytahmlcjgcdajbaa
open Go.RowKit Go.Hub
theorem wzib32_g6 : (Try.prog.info? 32).map (fun i => (i.zero, i.size, i.bytes)) = some (some (.agg #[(.int .i64 0), (.int .i64 0), (.int .i64 0)]), 3, 24) := by kernel_rfl
theorem wsz32_g6 : (Try.prog.info? 32).map (·.size) = some 3 := by kernel_rfl

def InsPost (l : List Dt) (A : Option Addr) (c i : Nat) (d : Dt) (w : World) (e : Ending) (w' : World) : Prop :=
  ∃ A' c', e = .returned (.slice A' (l.length + 1) c') ∧ Own w' 32 3 (.slice A' (l.length + 1) c') (l.length + 1) (dcells (l.take i ++ d :: l.drop i)) ∧ Kept ((Value.slice A l.length c).ownBlock.toList) w w' ∧ (∀ b, A'.map (·.block) = some b → A.map (·.block) = some b ∨ w.heap.size ≤ b)
theorem own_cap {w : World} {e : TypeId} {size n c : Nat} {A : Option Addr} {xs : List Value} (h : Own w e size (.slice A n c) n xs) : n ≤ c := by
  obtain ⟨A', c', e', h1, _⟩ := h.form
  injection e' with _ _ e3
  omega
theorem ins_len1 (l : List Dt) (i : Nat) (hi : i ≤ l.length) : ((dcells l).take (i * 3) ++ (Builtin.zeroCells (Value.agg #[(.int .i64 0), (.int .i64 0), (.int .i64 0)]).cells (l.length + 1 - i)).toList).length = (l.length + 1) * 3 := by
  rw [List.length_append, List.length_take, dcells_len, Nat.min_eq_left (Nat.mul_le_mul_right _ hi)]
  simp [Builtin.zeroCells, Value.cells]
  omega
theorem ins_min1 {d : Dt} {k : Nat} (h : 1 ≤ k) : (dcells [d]).take (Nat.min 1 k * 3) = dcells [d] := by
  rw [show Nat.min 1 k = 1 from Nat.min_eq_left h]
  rfl
theorem ins_min2 {a b : Nat} (h : a ≤ b) : Nat.min a b = a := Nat.min_eq_left h
theorem ins_min3 {l : List Dt} {i : Nat} {jk : List Value} (hj : jk.length = 1 * 3) (hi : i ≤ l.length) : (dcells l).drop (i * 3) = ((dcells l ++ jk).drop (i * 3)).take (Nat.min (l.length + 1 - i) (l.length + 1 - (i + 1)) * 3) := by
  rw [show Nat.min (l.length + 1 - i) (l.length + 1 - (i + 1)) = l.length - i by show Min.min _ _ = _; omega]
  rw [List.drop_append, List.take_append, show i * 3 - (dcells l).length = 0 by rw [dcells_len]; omega, List.length_drop, dcells_len, show (l.length - i) * 3 - (l.length * 3 - i * 3) = 0 by omega]
  rw [List.take_of_length_le (by rw [List.length_drop, dcells_len]; omega)]
  simp
theorem overlaps_no {n : Nat} {a : Act} {l : FL} {w : World} {dst : Option Nat} {ty : TypeId} {ps : String} {af : Array Edge} {g : Option (Nat × Bool)} {x y : Operand} {ats : Array TypeId} {vb b off m c lb cb off2 : Nat} {d : Dt} {xs : List Value} (f : Fr n a l) (hx : evl l x = some (.slice (some ⟨vb, 0, none⟩) 1 1)) (hy : evl l y = some (.slice (some ⟨b, off2, none⟩) lb cb))
    (BV : Blk w vb 32 (dcell d).toArray) (O : Own w 32 3 (.slice (some ⟨b, off, none⟩) m c) m xs) (hne : b ≠ vb) (hm : 0 < m := by omega) :
    (execOp a.eval ⟨dst, .call { callee := .value (.func 54), args := #[x, y], argTypes := ats }, ty, ps, af, g⟩).run Try.prog w = .ok (.value (.bool false)) w := by
  obtain ⟨_, cs, h2⟩ := O.blk b rfl
  have hcs : cs.size ≠ 0 := by
    rcases O.2 with ⟨hv, _⟩ | ⟨g', off', cap', cur, hv, hg, hnc, hcm, hcs, _⟩
    · cases hv
    · injection hv with e1 e2 e3
      injection e1 with e1
      injection e1 with e4 e5
      subst e4
      rw [h2] at hg
      injection hg with hg
      injection hg with hg _ _
      subst hg
      have : m * 3 ≤ cap' * 3 := Nat.mul_le_mul_right _ hnc
      omega
  have e : execOp a.eval ⟨dst, .call { callee := .value (.func 54), args := #[x, y], argTypes := ats }, ty, ps, af, g⟩ = callFunc 54 (#[] ++ #[x, y].map a.eval ++ #[]) := rfl
  have e2 : (#[] ++ #[x, y].map a.eval ++ #[] : Array Value) = #[.slice (some ⟨vb, 0, none⟩) 1 1, .slice (some ⟨b, off2, none⟩) lb cb] := by simp [f.ev hx, f.ev hy]
  rw [e, e2, run_callFunc_extern Try.func54 (by kernel_rfl) (by kernel_rfl) (by kernel_rfl) (e := Extern.SlicesOverlaps.overlaps #[24, 24] #[4]) (by kernel_rfl),
    Lib.run_overlaps_apart w 24 4 32 Try.underlying24 3 (fun w => by kernel_rfl) ⟨vb, 0, none⟩ ⟨b, off2, none⟩ 1 1 lb cb (fun h => hne h.symm) 32 32 3 cs.size (by unfold World.shape?; rw [show w.heap[vb]? = _ from BV]; rfl) (by unfold World.shape?; rw [h2]) hcs (BV.frozen 0) (BV.frozen 3)]
  rfl
section
variable {l : List Dt} {A : Option Addr} {c i : Nat} {d : Dt} {w W : World}
theorem ins_end {w1 : World} {Ax : Option Addr} {cx : Nat} (hin : (i : Int) = l.length) (hi : i ≤ l.length) (O : Own w 32 3 (.slice A l.length c) l.length (dcells l)) (HK : Kept [] w w1) (ap : App w1 W 32 3 A l.length c (dcells l) (dcell d) 1 Ax cx) : InsPost l A c i d w (.returned (.slice Ax (l.length + 1) cx)) W := by
  obtain rfl : i = l.length := by omega
  refine ⟨Ax, cx, rfl, ?_, (HK.mono (by simp)).trans ap.kept (fun x hx _ => hx), fun b hb => (ap.where_ b hb).imp_right fun h => Nat.le_trans HK.size h⟩
  rw [List.take_length, List.drop_length, dcells_append]
  exact ap.own
theorem ins_parts (l : List Dt) (i : Nat) (d : Dt) : dcells (l.take i ++ d :: l.drop i) = dcells (l.take i) ++ dcell d ++ (dcells l).drop (i * 3) := by
  rw [dcells_append, dcells_drop, List.append_assoc]
  rfl
theorem ins_grow {g c2 : Nat} (hi : i ≤ l.length) (hg : w.heap.size ≤ g) (O : Own W 32 3 (.slice (some ⟨g, 0, none⟩) (i + (l.length + 1 - i)) c2) (i + (l.length + 1 - i)) (setSeg (setSeg ((dcells l).take (i * 3) ++ (Builtin.zeroCells (Value.agg #[(.int .i64 0), (.int .i64 0), (.int .i64 0)]).cells (l.length + 1 - i)).toList) (i * 3) (dcell d)) ((i + 1) * 3) ((dcells l).drop (i * 3))))
    (HK : Kept ((Value.slice A l.length c).ownBlock.toList) w W) : InsPost l A c i d w (.returned (.slice (some ⟨g, 0, none⟩) (i + (l.length + 1 - i)) c2)) W := by
  have hx : (dcells (l.take i)).length = i * 3 := by rw [dcells_len, List.length_take, Nat.min_eq_left hi]
  have h := seg_a (W := (dcells l).take (i * 3) ++ (Builtin.zeroCells (Value.agg #[(.int .i64 0), (.int .i64 0), (.int .i64 0)]).cells (l.length + 1 - i)).toList) (X := dcells (l.take i)) (Y := dcell d) (Z := (dcells l).drop (i * 3))
    (by rw [ins_len1 l i hi, hx, List.length_drop, dcells_len]; show _ = i * 3 + 3 + _; omega) (by rw [hx, List.take_append, List.take_take, List.length_take, dcells_len, ← dcells_take]; simp; omega)
  rw [hx, show i * 3 + (dcell d).length = (i + 1) * 3 by show i * 3 + 3 = _; omega, ← ins_parts] at h
  rw [h, show i + (l.length + 1 - i) = l.length + 1 by omega] at O
  refine ⟨some ⟨g, 0, none⟩, c2, by rw [show i + (l.length + 1 - i) = l.length + 1 by omega], O, HK, fun b hb => .inr ?_⟩
  simp at hb
  omega
theorem ins_room {b off : Nat} {jk : List Value} (hi : i ≤ l.length) (hj : jk.length = 1 * 3) (O : Own W 32 3 (.slice (some ⟨b, off, none⟩) (l.length + 1) c) (l.length + 1) (setSeg (setSeg (dcells l ++ jk) ((i + 1) * 3) ((dcells l).drop (i * 3))) (i * 3) (dcell d)))
    (HK : Kept ((Value.slice (some ⟨b, off, none⟩) l.length c).ownBlock.toList) w W) : InsPost l (some ⟨b, off, none⟩) c i d w (.returned (.slice (some ⟨b, off, none⟩) (l.length + 1) c)) W := by
  have hx : (dcells (l.take i)).length = i * 3 := by rw [dcells_len, List.length_take, Nat.min_eq_left hi]
  have h := seg_b (W := dcells l ++ jk) (X := dcells (l.take i)) (Y := dcell d) (Z := (dcells l).drop (i * 3))
    (by rw [List.length_append, dcells_len, hj, hx, List.length_drop, dcells_len]; show _ = i * 3 + 3 + _; omega) (by rw [hx, List.take_append, dcells_len, show i * 3 - l.length * 3 = 0 by omega, dcells_take]; simp)
  rw [hx, show i * 3 + (dcell d).length = (i + 1) * 3 by show i * 3 + 3 = _; omega, ← ins_parts] at h
  rw [h] at O
  exact ⟨_, c, rfl, O, HK, fun b' hb => .inl hb⟩
end

set_option maxRecDepth 100000 in
set_option maxHeartbeats 1000000 in
theorem insert_any (l : List Dt) (A : Option Addr) (c : Nat) (i vb : Nat) (d : Dt) (w : World) (OO : Own w 32 3 (.slice A l.length c) l.length (dcells l)) (BV : Blk w vb 32 (dcell d).toArray) (hi : i ≤ l.length) (hm : l.length ≤ 1000000) (hne : ∀ a, A = some a → a.block ≠ vb) : Calls Try.prog 51 #[.slice A l.length c, .int .i64 i, .slice (some ⟨vb, 0, none⟩) 1 1] w (InsPost l A c i d w) := by
  have HK : Kept ((Value.slice A l.length c).ownBlock.toList) w w := Kept.refl _ _
  have hcl := own_cap OO
  have ltV := BV.lt
  have O0 := OO
  refine C.enter Try.func51 rfl Try.ntmps51 rfl ?_
  intro a0 f0
  have f1 : Fr 95 a0 [(0, .slice A l.length c), (1, .int .i64 i), (2, .slice (some ⟨vb, 0, none⟩) 1 1)] := f0
  clear f0
  refine wp_seq_k fun K0 hK0 => ?_
  refine C.region ?_
  refine L.val f1 wantedN rfl (by decide) (E.assign f1 rfl) fun a2 f2 => ?_
  clear f1 a0
  refine wpList_nil (hK0 _ _ ?_)
  try clear hK0 K0
  have f3 := f2.sub (sub_cons (i := 0) rfl (sub_cons (i := 1) rfl (sub_cons (i := 2) rfl (sub_cons (i := 6) rfl sub_nil))))
  clear f2
  refine wp_seq_k fun K1 hK1 => ?_
  refine C.region ?_
  refine L.val f3 wantedN rfl (by decide) (E.move f3 rfl) fun a4 f4 => ?_
  clear f3 a2
  refine L.val f4 wantedN rfl (by decide) (E.move f4 rfl) fun a5 f5 => ?_
  clear f4 a4
  refine L.val f5 wantedN rfl (by decide) (E.slLlo f5 Try.underlying24 wsz32_g6 rfl rfl (by omega) (by omega) ) fun a6 f6 => ?_
  clear f5 a5
  refine wpList_nil (hK1 _ _ ?_)
  try clear hK1 K1
  have f7 := f6.sub (sub_cons (i := 0) rfl (sub_cons (i := 1) rfl (sub_cons (i := 2) rfl (sub_cons (i := 6) rfl sub_nil))))
  clear f6
  refine wp_seq_k fun K2 hK2 => ?_
  refine C.region ?_
  refine L.val f7 wantedN rfl (by decide) (E.move f7 rfl) fun a8 f8 => ?_
  clear f7 a6
  refine L.val f8 wantedN rfl (by decide) (E.lenL f8 Try.underlying24 rfl) fun a9 f9 => ?_
  clear f8 a8
  refine L.val f9 wantedN rfl (by decide) (E.assign f9 rfl) fun a10 f10 => ?_
  clear f9 a9
  refine wpList_nil (hK2 _ _ ?_)
  try clear hK2 K2
  have f11 := f10.sub (sub_cons (i := 0) rfl (sub_cons (i := 1) rfl (sub_cons (i := 2) rfl (sub_cons (i := 6) rfl (sub_cons (i := 7) rfl sub_nil)))))
  clear f10
  refine wp_seq_k fun K3 hK3 => ?_
  refine wp_seq_k fun K4 hK4 => ?_
  refine C.region ?_
  refine L.val f11 wantedN rfl (by decide) (E.move f11 rfl) fun a12 f12 => ?_
  clear f11 a10
  refine L.val f12 wantedN rfl (by decide) (E.eql f12 rfl rfl) fun a13 f13 => ?_
  clear f12 a12
  have f14 := f13.as (i := 16) (v' := .bool false) rfl (by rfl)
  clear f13
  refine wpList_nil (hK4 _ _ ?_)
  try clear hK4 K4
  have f15 := f14.sub (sub_cons (i := 0) rfl (sub_cons (i := 1) rfl (sub_cons (i := 2) rfl (sub_cons (i := 6) rfl (sub_cons (i := 7) rfl (sub_cons (i := 16) rfl sub_nil))))))
  clear f14
  refine C.condF f15 rfl ?_
  refine wp_skip (hK3 _ _ ?_)
  try clear hK3 K3
  have f16 := f15.sub (sub_cons (i := 0) rfl (sub_cons (i := 1) rfl (sub_cons (i := 2) rfl (sub_cons (i := 6) rfl (sub_cons (i := 7) rfl sub_nil)))))
  clear f15
  refine wp_seq_k fun K5 hK5 => ?_
  refine C.region ?_
  refine L.val f16 wantedN rfl (by decide) (E.move f16 rfl) fun a17 f17 => ?_
  clear f16 a13
  refine L.val f17 wantedN rfl (by decide) (E.lenL f17 Try.underlying24 rfl) fun a18 f18 => ?_
  clear f17 a17
  refine L.val f18 wantedN rfl (by decide) (E.assign f18 rfl) fun a19 f19 => ?_
  clear f18 a18
  refine wpList_nil (hK5 _ _ ?_)
  try clear hK5 K5
  have f20 := f19.sub (sub_cons (i := 0) rfl (sub_cons (i := 1) rfl (sub_cons (i := 2) rfl (sub_cons (i := 6) rfl (sub_cons (i := 7) rfl (sub_cons (i := 8) rfl sub_nil))))))
  clear f19
  refine wp_seq_k fun K6 hK6 => ?_
  refine wp_seq_k fun K7 hK7 => ?_
  refine C.region ?_
  refine L.val f20 wantedN rfl (by decide) (E.move f20 rfl) fun a21 f21 => ?_
  clear f20 a19
  refine L.val f21 wantedN rfl (by decide) (E.move f21 rfl) fun a22 f22 => ?_
  clear f21 a21
  refine L.val f22 wantedN rfl (by decide) (E.eql f22 rfl rfl) fun a23 f23 => ?_
  clear f22 a22
  refine wpList_nil (hK7 _ _ ?_)
  try clear hK7 K7
  have f24 := f23.sub (sub_cons (i := 0) rfl (sub_cons (i := 1) rfl (sub_cons (i := 2) rfl (sub_cons (i := 6) rfl (sub_cons (i := 7) rfl (sub_cons (i := 8) rfl (sub_cons (i := 22) rfl sub_nil)))))))
  clear f23
  first | refine f24.splitD 22 rfl (fun h0 f25 => ?_) (fun h0 f25 => ?_) | refine f24.splitN 22 rfl (fun h0 f25 => ?_) (fun h0 f25 => ?_) | refine f24.splitNB 22 rfl (fun h0 f25 => ?_) (fun h0 f25 => ?_) | refine f24.split 22 rfl (fun h0 f25 => ?_) (fun h0 f25 => ?_)
  · clear f24
    have hin := h0
    refine C.condT f25 rfl ?_
    refine wp_seq_k fun K8 hK8 => ?_
    refine C.region ?_
    refine L.val f25 wantedN rfl (by decide) (E.move f25 rfl) fun a26 f26 => ?_
    clear f25 a23
    refine L.val f26 wantedN rfl (by decide) (E.move f26 rfl) fun a27 f27 => ?_
    clear f26 a26
    refine L.append f27 wantedN (by decide) Try.underlying24 wzib32_g6 rfl rfl rfl rfl (OO) (sl_one _ vb d BV) (fun u hu => dcells_one [d] u (by simpa [dcells] using hu)) (by unfold maxLen; omega) (by omega) fun a28 w1 Ax cx AP1 f28 => ?_
    clear f27 a27
    have kap1 := AP1.kept
    have APX := AP1
    have HK0 := Kept.refl [] w
    have szw1 := kap1.size
    clear kap1
    refine L.val f28 wantedN rfl (by decide) (E.assign f28 rfl) fun a29 f29 => ?_
    clear f28 a28
    refine wpList_nil (hK8 _ _ ?_)
    try clear hK8 K8
    have f30 := f29.sub (sub_cons (i := 0) rfl (sub_cons (i := 1) rfl (sub_cons (i := 2) rfl (sub_cons (i := 6) rfl (sub_cons (i := 7) rfl (sub_cons (i := 8) rfl sub_nil))))))
    clear f29
    refine wp_ret ?_
    try simp only [Exit.inBlock, Exit.then]
    refine C.ret (P := Try.prog) (fn := Try.f51) f30 rfl rfl ?_
    exact ins_end hin hi O0 HK0 APX
  · clear f24
    have hin := h0
    obtain ⟨b, off, hA⟩ := (Sl.of_own OO).addr (by omega)
    subst hA
    have hbL : b ∈ (Value.slice (some ⟨b, off, none⟩) l.length c).ownBlock.toList := by simp [Value.ownBlock]
    have hbv : b ≠ vb := hne _ rfl
    have hbw := (OO.blk b rfl).1
    refine C.condF f25 rfl ?_
    refine wp_skip (hK6 _ _ ?_)
    try clear hK6 K6
    have f26 := f25.sub (sub_cons (i := 0) rfl (sub_cons (i := 1) rfl (sub_cons (i := 2) rfl (sub_cons (i := 6) rfl (sub_cons (i := 7) rfl (sub_cons (i := 8) rfl sub_nil))))))
    clear f25
    refine wp_seq_k fun K9 hK9 => ?_
    refine wp_seq_k fun K10 hK10 => ?_
    refine C.region ?_
    refine L.val f26 wantedN rfl (by decide) (E.move f26 rfl) fun a27 f27 => ?_
    clear f26 a23
    refine L.val f27 wantedN rfl (by decide) (E.move f27 rfl) fun a28 f28 => ?_
    clear f27 a27
    refine L.val f28 wantedN rfl (by decide) (E.add f28 rfl rfl (IntWalk.i64_in _ (by omega))) fun a29 f29 => ?_
    clear f28 a28
    refine L.val f29 wantedN rfl (by decide) (E.move f29 rfl) fun a30 f30 => ?_
    clear f29 a29
    refine L.val f30 wantedN rfl (by decide) (E.capL f30 Try.underlying24 rfl) fun a31 f31 => ?_
    clear f30 a30
    refine L.val f31 wantedN rfl (by decide) (E.gtr f31 rfl rfl) fun a32 f32 => ?_
    clear f31 a31
    refine wpList_nil (hK10 _ _ ?_)
    try clear hK10 K10
    have f33 := f32.sub (sub_cons (i := 0) rfl (sub_cons (i := 1) rfl (sub_cons (i := 2) rfl (sub_cons (i := 6) rfl (sub_cons (i := 7) rfl (sub_cons (i := 8) rfl (sub_cons (i := 31) rfl sub_nil)))))))
    clear f32
    first | refine f33.splitD 31 rfl (fun h1 f34 => ?_) (fun h1 f34 => ?_) | refine f33.splitN 31 rfl (fun h1 f34 => ?_) (fun h1 f34 => ?_) | refine f33.splitNB 31 rfl (fun h1 f34 => ?_) (fun h1 f34 => ?_) | refine f33.split 31 rfl (fun h1 f34 => ?_) (fun h1 f34 => ?_)
    · clear f33
      have hgr := h1
      have OH := OO.head (k := i) hi
      refine C.condT f34 rfl ?_
      refine wp_seq_k fun K11 hK11 => ?_
      refine C.region ?_
      refine L.val f34 wantedN rfl (by decide) (E.move f34 rfl) fun a35 f35 => ?_
      clear f34 a32
      refine L.val f35 wantedN rfl (by decide) (E.move f35 rfl) fun a36 f36 => ?_
      clear f35 a35
      refine L.val f36 wantedN rfl (by decide) (E.slLhi f36 Try.underlying24 wsz32_g6 rfl rfl (by omega) (by omega) ) fun a37 f37 => ?_
      clear f36 a36
      refine L.val f37 wantedN rfl (by decide) (E.move f37 rfl) fun a38 f38 => ?_
      clear f37 a37
      refine L.val f38 wantedN rfl (by decide) (E.move f38 rfl) fun a39 f39 => ?_
      clear f38 a38
      refine L.val f39 wantedN rfl (by decide) (E.add f39 rfl rfl (IntWalk.i64_in _ (by omega))) fun a40 f40 => ?_
      clear f39 a39
      refine L.val f40 wantedN rfl (by decide) (E.move f40 rfl) fun a41 f41 => ?_
      clear f40 a40
      refine L.val f41 wantedN rfl (by decide) (E.sub f41 rfl rfl (IntWalk.i64_in _ (by omega))) fun a42 f42 => ?_
      clear f41 a41
      refine L.appendZ f42 wantedN (by decide) Try.underlying24 Try.underlying3 wzib32_g6 rfl rfl rfl rfl (m := l.length + 1 - i) OH (by omega) (by omega) (by omega) (by omega) (by omega) fun a43 w1 g c2 OZ loz kz f43 => ?_
      have szw1 := kz.size
      replace HK := HK.trans kz (by simp)
      replace OO := OO.kept kz (by simp)
      replace BV := BV.kept kz (by simp)
      have hcz : i + (l.length + 1 - i) ≤ c2 := own_cap OZ
      have hzl : (dcells l).take (i * 3) = dcells (l.take i) := dcells_take l i
      clear f42 a42 kz OH
      refine L.val f43 wantedN rfl (by decide) (E.assign f43 rfl) fun a44 f44 => ?_
      clear f43 a43
      refine wpList_nil (hK11 _ _ ?_)
      try clear hK11 K11
      have f45 := f44.sub (sub_cons (i := 0) rfl (sub_cons (i := 1) rfl (sub_cons (i := 2) rfl (sub_cons (i := 6) rfl (sub_cons (i := 7) rfl (sub_cons (i := 8) rfl (sub_cons (i := 9) rfl sub_nil)))))))
      clear f44
      refine wp_seq_k fun K12 hK12 => ?_
      refine C.region ?_
      refine L.val f45 wantedN rfl (by decide) (E.move f45 rfl) fun a46 f46 => ?_
      clear f45 a44
      refine L.val f46 wantedN rfl (by decide) (E.move f46 rfl) fun a47 f47 => ?_
      clear f46 a46
      refine L.val f47 wantedN rfl (by decide) (E.slA f47 Try.underlying24 wsz32_g6 rfl rfl rfl (k := i) (by omega) (by omega)) fun a48 f48 => ?_
      clear f47 a47
      refine L.val f48 wantedN rfl (by decide) (E.move f48 rfl) fun a49 f49 => ?_
      clear f48 a48
      refine L.copyR f49 wantedN (by decide) Try.underlying24 wsz32_g6 rfl rfl (j := i * 3) (vs := dcell d) OZ (by omega) (sl_one _ vb d BV) (by omega) (by rw [ins_min1 (by omega)]; rfl) (by rw [ins_len1 l i hi]; simp; omega) (fun u hu => dcells_one [d] u (by simpa [dcells] using hu)) fun a50 w2 OZ2 kc f50 => ?_
      have szw2 := kc.size
      replace HK := HK.trans kc (by intro x hx hlt; simp at hx; subst hx; omega)
      replace BV := BV.kept kc (by first | (simp; done) | (simp; omega))
      replace OO := OO.kept kc (by intro k hk; simp [Value.ownBlock] at hk ⊢; omega)
      clear f49 a49 kc
      refine wpList_nil (hK12 _ _ ?_)
      try clear hK12 K12
      have f51 := f50.sub (sub_cons (i := 0) rfl (sub_cons (i := 1) rfl (sub_cons (i := 2) rfl (sub_cons (i := 6) rfl (sub_cons (i := 7) rfl (sub_cons (i := 8) rfl (sub_cons (i := 9) rfl sub_nil)))))))
      clear f50
      refine wp_seq_k fun K13 hK13 => ?_
      refine R.begin (S := fun W => Kept [g] w2 W) (by kernel_rfl) (by exact (Kept.refl _ _).drewN 1) ?_
      have hS11 : Kept [g] w2 (w2.drewN 1) := (Kept.refl _ _).drewN 1
      have hd11 : Kept [] w2 (w2.drewN 1) := (Kept.refl _ _).drewN 1
      obtain ⟨w3, hww3⟩ : ∃ W, W = w2.drewN 1 := ⟨_, rfl⟩
      rw [← hww3] at hS11 hd11 ⊢
      clear hww3
      have szw3 := hS11.size
      replace OO := OO.kept hd11 (by simp)
      replace OZ2 := OZ2.kept hd11 (by simp)
      refine R.take 0 f51 rfl rfl (by decide) (by kernel_rfl) (by kernel_rfl) (by kernel_rfl) (fun _ _ _ _ h => h) wantedN hS11 (fun W hW => (E.move f51 rfl)) fun a52 f52 => ?_
      clear f51 a50
      refine R.take 1 f52 rfl rfl (by decide) (by kernel_rfl) (by kernel_rfl) (by kernel_rfl) (fun _ _ _ _ h => h) wantedN hS11 (fun W hW => (E.move f52 rfl)) fun a53 f53 => ?_
      clear f52 a52
      refine R.take 2 f53 rfl rfl (by decide) (by kernel_rfl) (by kernel_rfl) (by kernel_rfl) (fun _ _ _ _ h => h) wantedN hS11 (fun W hW => (E.move f53 rfl)) fun a54 f54 => ?_
      clear f53 a53
      refine R.take 3 f54 rfl rfl (by decide) (by kernel_rfl) (by kernel_rfl) (by kernel_rfl) (fun _ _ _ _ h => h) wantedN hS11 (fun W hW => (E.add f54 rfl rfl (IntWalk.i64_in _ (by omega)))) fun a55 f55 => ?_
      clear f54 a54
      refine R.take 4 f55 rfl rfl (by decide) (by kernel_rfl) (by kernel_rfl) (by kernel_rfl) (fun _ _ _ _ h => h) wantedN hS11 (fun W hW => (E.slA f55 Try.underlying24 wsz32_g6 rfl rfl (show ((i : Int) + 1) = ((i + 1 : Nat) : Int) by omega) (by omega) (by omega))) fun a56 f56 => ?_
      clear f55 a55
      refine R.take 5 f56 rfl rfl (by decide) (by kernel_rfl) (by kernel_rfl) (by kernel_rfl) (fun _ _ _ _ h => h) wantedN hS11 (fun W hW => (E.move f56 rfl)) fun a57 f57 => ?_
      clear f56 a56
      refine R.take 6 f57 rfl rfl (by decide) (by kernel_rfl) (by kernel_rfl) (by kernel_rfl) (fun _ _ _ _ h => h) wantedN hS11 (fun W hW => (E.move f57 rfl)) fun a58 f58 => ?_
      clear f57 a57
      refine R.take 7 f58 rfl rfl (by decide) (by kernel_rfl) (by kernel_rfl) (by kernel_rfl) (fun _ _ _ _ h => h) wantedN hS11 (fun W hW => (E.slA f58 Try.underlying24 wsz32_g6 rfl rfl rfl (k := i) hi (by omega))) fun a59 f59 => ?_
      clear f58 a58
      refine R.one 8 (by kernel_rfl) ?_
      refine O.copyR f59 rfl wantedN (by decide) Try.underlying24 wsz32_g6 rfl rfl (j := (i + 1) * 3) (vs := (dcells l).drop (i * 3)) OZ2 (by omega) (Sl.of_own (OO.cutA hi (by omega))) (by omega) (by rw [ins_min2 (by omega), List.take_of_length_le (by rw [List.length_drop, dcells_len]; omega)]) (by rw [setSeg_len, ins_len1 l i hi, List.length_drop, dcells_len]; omega) (fun u hu => dcells_one l u (List.mem_of_mem_drop hu)) (fun _ hk => hS11.trans hk (by simp)) fun a60 w4 OZ3 kc f60 => ?_
      have szw4 := kc.size
      replace hS11 := hS11.trans kc (by simp)
      clear f59 a59 kc
      have szw4r := hS11.size
      replace HK := HK.trans hS11 (by intro x hx hlt; simp at hx; subst hx; omega)
      replace BV := BV.kept hS11 (by first | (simp; done) | (simp; omega))
      clear hS11
      refine R.done (by kernel_rfl) (hK13 _ _ ?_)
      try clear hK13 K13
      have f61 := f60.sub (sub_cons (i := 0) rfl (sub_cons (i := 1) rfl (sub_cons (i := 2) rfl (sub_cons (i := 6) rfl (sub_cons (i := 7) rfl (sub_cons (i := 8) rfl (sub_cons (i := 9) rfl sub_nil)))))))
      clear f60
      refine wp_seq_k fun K14 hK14 => ?_
      refine C.region ?_
      refine L.val f61 wantedN rfl (by decide) (E.move f61 rfl) fun a62 f62 => ?_
      clear f61 a60
      refine L.val f62 wantedN rfl (by decide) (E.assign f62 rfl) fun a63 f63 => ?_
      clear f62 a62
      refine wpList_nil (hK14 _ _ ?_)
      try clear hK14 K14
      have f64 := f63.sub (sub_cons (i := 0) rfl (sub_cons (i := 1) rfl (sub_cons (i := 2) rfl (sub_cons (i := 6) rfl (sub_cons (i := 7) rfl (sub_cons (i := 8) rfl sub_nil))))))
      clear f63
      refine wp_ret ?_
      try simp only [Exit.inBlock, Exit.then]
      refine C.ret (P := Try.prog) (fn := Try.f51) f64 rfl rfl ?_
      exact ins_grow hi loz OZ3 HK
    · clear f33
      have hgr := h1
      obtain ⟨jk, hjk, OM⟩ := OO.more (k := 1) (by omega)
      refine C.condF f34 rfl ?_
      refine wp_skip (hK9 _ _ ?_)
      try clear hK9 K9
      have f35 := f34.sub (sub_cons (i := 0) rfl (sub_cons (i := 1) rfl (sub_cons (i := 2) rfl (sub_cons (i := 6) rfl (sub_cons (i := 7) rfl (sub_cons (i := 8) rfl sub_nil))))))
      clear f34
      refine wp_seq_k fun K15 hK15 => ?_
      refine C.region ?_
      refine L.val f35 wantedN rfl (by decide) (E.move f35 rfl) fun a36 f36 => ?_
      clear f35 a32
      refine L.val f36 wantedN rfl (by decide) (E.move f36 rfl) fun a37 f37 => ?_
      clear f36 a36
      refine L.val f37 wantedN rfl (by decide) (E.move f37 rfl) fun a38 f38 => ?_
      clear f37 a37
      refine L.val f38 wantedN rfl (by decide) (E.add f38 rfl rfl (IntWalk.i64_in _ (by omega))) fun a39 f39 => ?_
      clear f38 a38
      refine L.val f39 wantedN rfl (by decide) (E.slLhi f39 Try.underlying24 wsz32_g6 rfl rfl (by omega) (by omega)) fun a40 f40 => ?_
      clear f39 a39
      refine L.val f40 wantedN rfl (by decide) (E.assign f40 rfl) fun a41 f41 => ?_
      clear f40 a40
      refine wpList_nil (hK15 _ _ ?_)
      try clear hK15 K15
      have f42 := f41.sub (sub_cons (i := 0) rfl (sub_cons (i := 1) rfl (sub_cons (i := 2) rfl (sub_cons (i := 6) rfl (sub_cons (i := 7) rfl (sub_cons (i := 8) rfl sub_nil))))))
      clear f41
      refine wp_seq_k fun K16 hK16 => ?_
      refine wp_seq_k fun K17 hK17 => ?_
      refine C.region ?_
      refine L.val f42 wantedN rfl (by decide) (E.move f42 rfl) fun a43 f43 => ?_
      clear f42 a41
      refine L.val f43 wantedN rfl (by decide) (E.move f43 rfl) fun a44 f44 => ?_
      clear f43 a43
      refine L.val f44 wantedN rfl (by decide) (E.move f44 rfl) fun a45 f45 => ?_
      clear f44 a44
      refine L.val f45 wantedN rfl (by decide) (E.move f45 rfl) fun a46 f46 => ?_
      clear f45 a45
      refine L.val f46 wantedN rfl (by decide) (E.add f46 rfl rfl (IntWalk.i64_in _ (by omega))) fun a47 f47 => ?_
      clear f46 a46
      refine L.val f47 wantedN rfl (by decide) (E.slA f47 Try.underlying24 wsz32_g6 rfl rfl (show ((i : Int) + 1) = ((i + 1 : Nat) : Int) by omega) (by omega) (by omega)) fun a48 f48 => ?_
      clear f47 a47
      refine L.val f48 wantedN rfl (by decide) (overlaps_no f48 rfl rfl BV OO hbv) fun a49 f49 => ?_
      clear f48 a48
      have f50 := f49.as (i := 67) (v' := .bool false) rfl (by rfl)
      clear f49
      refine L.val f50 wantedN rfl (by decide) (E.not f50 rfl) fun a51 f51 => ?_
      clear f50 a49
      refine wpList_nil (hK17 _ _ ?_)
      try clear hK17 K17
      have f52 := f51.sub (sub_cons (i := 0) rfl (sub_cons (i := 1) rfl (sub_cons (i := 2) rfl (sub_cons (i := 6) rfl (sub_cons (i := 7) rfl (sub_cons (i := 8) rfl (sub_cons (i := 68) rfl sub_nil)))))))
      clear f51
      refine C.condT f52 rfl ?_
      refine wp_seq_k fun K18 hK18 => ?_
      refine R.begin (S := fun W => Kept [b] w W) (by kernel_rfl) (by exact (Kept.refl _ _).drewN 1) ?_
      have hS15 : Kept [b] w (w.drewN 1) := (Kept.refl _ _).drewN 1
      have hd15 : Kept [] w (w.drewN 1) := (Kept.refl _ _).drewN 1
      obtain ⟨w1, hww1⟩ : ∃ W, W = w.drewN 1 := ⟨_, rfl⟩
      rw [← hww1] at hS15 hd15 ⊢
      clear hww1
      have szw1 := hS15.size
      replace OM := OM.kept hd15 (by simp)
      replace BV := BV.kept hd15 (by first | (simp; done) | (simp; omega))
      refine R.take 0 f52 rfl rfl (by decide) (by kernel_rfl) (by kernel_rfl) (by kernel_rfl) (fun _ _ _ _ h => h) wantedN hS15 (fun W hW => (E.move f52 rfl)) fun a53 f53 => ?_
      clear f52 a51
      refine R.take 1 f53 rfl rfl (by decide) (by kernel_rfl) (by kernel_rfl) (by kernel_rfl) (fun _ _ _ _ h => h) wantedN hS15 (fun W hW => (E.move f53 rfl)) fun a54 f54 => ?_
      clear f53 a53
      refine R.take 2 f54 rfl rfl (by decide) (by kernel_rfl) (by kernel_rfl) (by kernel_rfl) (fun _ _ _ _ h => h) wantedN hS15 (fun W hW => (E.move f54 rfl)) fun a55 f55 => ?_
      clear f54 a54
      refine R.take 3 f55 rfl rfl (by decide) (by kernel_rfl) (by kernel_rfl) (by kernel_rfl) (fun _ _ _ _ h => h) wantedN hS15 (fun W hW => (E.add f55 rfl rfl (IntWalk.i64_in _ (by omega)))) fun a56 f56 => ?_
      clear f55 a55
      refine R.take 4 f56 rfl rfl (by decide) (by kernel_rfl) (by kernel_rfl) (by kernel_rfl) (fun _ _ _ _ h => h) wantedN hS15 (fun W hW => (E.slA f56 Try.underlying24 wsz32_g6 rfl rfl (show ((i : Int) + 1) = ((i + 1 : Nat) : Int) by omega) (by omega) (by omega))) fun a57 f57 => ?_
      clear f56 a56
      refine R.take 5 f57 rfl rfl (by decide) (by kernel_rfl) (by kernel_rfl) (by kernel_rfl) (fun _ _ _ _ h => h) wantedN hS15 (fun W hW => (E.move f57 rfl)) fun a58 f58 => ?_
      clear f57 a57
      refine R.take 6 f58 rfl rfl (by decide) (by kernel_rfl) (by kernel_rfl) (by kernel_rfl) (fun _ _ _ _ h => h) wantedN hS15 (fun W hW => (E.move f58 rfl)) fun a59 f59 => ?_
      clear f58 a58
      refine R.take 7 f59 rfl rfl (by decide) (by kernel_rfl) (by kernel_rfl) (by kernel_rfl) (fun _ _ _ _ h => h) wantedN hS15 (fun W hW => (E.slA f59 Try.underlying24 wsz32_g6 rfl rfl rfl (k := i) (by omega) (by omega))) fun a60 f60 => ?_
      clear f59 a59
      refine R.one 8 (by kernel_rfl) ?_
      refine O.copyR f60 rfl wantedN (by decide) Try.underlying24 wsz32_g6 rfl rfl (j := (i + 1) * 3) (vs := (dcells l).drop (i * 3)) OM rfl (Sl.of_own (OM.cutA (k := i) (by omega) (by omega))) (by omega) (by exact ins_min3 hjk hi) (by rw [List.length_append, hjk, List.length_drop, dcells_len]; omega) (fun u hu => dcells_one l u (List.mem_of_mem_drop hu)) (fun _ hk => hS15.trans hk (by simp)) fun a61 w2 OM2 kc f61 => ?_
      have szw2 := kc.size
      replace hS15 := hS15.trans kc (by simp)
      replace BV := BV.kept kc (by first | (simp; done) | (simp; omega))
      clear f60 a60 kc
      have szw2r := hS15.size
      replace HK := HK.trans hS15 (by intro x hx _; simp at hx; subst hx; exact hbL)
      clear hS15
      refine R.done (by kernel_rfl) (hK18 _ _ ?_)
      try clear hK18 K18
      have f62 := f61.sub (sub_cons (i := 0) rfl (sub_cons (i := 1) rfl (sub_cons (i := 2) rfl (sub_cons (i := 6) rfl (sub_cons (i := 7) rfl (sub_cons (i := 8) rfl sub_nil))))))
      clear f61
      refine wp_seq_k fun K19 hK19 => ?_
      refine C.region ?_
      refine L.val f62 wantedN rfl (by decide) (E.move f62 rfl) fun a63 f63 => ?_
      clear f62 a61
      refine L.val f63 wantedN rfl (by decide) (E.move f63 rfl) fun a64 f64 => ?_
      clear f63 a63
      refine L.val f64 wantedN rfl (by decide) (E.slA f64 Try.underlying24 wsz32_g6 rfl rfl rfl (k := i) (by omega) (by omega)) fun a65 f65 => ?_
      clear f64 a64
      refine L.val f65 wantedN rfl (by decide) (E.move f65 rfl) fun a66 f66 => ?_
      clear f65 a65
      refine L.copyR f66 wantedN (by decide) Try.underlying24 wsz32_g6 rfl rfl (j := i * 3) (vs := dcell d) OM2 rfl (sl_one _ vb d BV) (by omega) (by rw [ins_min1 (by omega)]; rfl) (by rw [setSeg_len, List.length_append, hjk, dcells_len]; simp; omega) (fun u hu => dcells_one [d] u (by simpa [dcells] using hu)) fun a67 w3 OM3 kc f67 => ?_
      have szw3 := kc.size
      replace HK := HK.trans kc (by intro x hx _; simp at hx; subst hx; exact hbL)
      clear f66 a66 kc
      refine wpList_nil (hK19 _ _ ?_)
      try clear hK19 K19
      have f68 := f67.sub (sub_cons (i := 0) rfl (sub_cons (i := 1) rfl (sub_cons (i := 2) rfl (sub_cons (i := 6) rfl (sub_cons (i := 7) rfl (sub_cons (i := 8) rfl sub_nil))))))
      clear f67
      refine wp_seq_k fun K20 hK20 => ?_
      refine C.region ?_
      refine L.val f68 wantedN rfl (by decide) (E.move f68 rfl) fun a69 f69 => ?_
      clear f68 a67
      refine L.val f69 wantedN rfl (by decide) (E.assign f69 rfl) fun a70 f70 => ?_
      clear f69 a69
      refine wpList_nil (hK20 _ _ ?_)
      try clear hK20 K20
      have f71 := f70.sub (sub_cons (i := 0) rfl (sub_cons (i := 1) rfl (sub_cons (i := 2) rfl (sub_cons (i := 6) rfl (sub_cons (i := 7) rfl (sub_cons (i := 8) rfl sub_nil))))))
      clear f70
      refine wp_ret ?_
      try simp only [Exit.inBlock, Exit.then]
      refine C.ret (P := Try.prog) (fn := Try.f51) f71 rfl rfl ?_
      exact ins_room hi hjk OM3 HK

end Go.Proofs.Ytahmlcjgcdajbaa
