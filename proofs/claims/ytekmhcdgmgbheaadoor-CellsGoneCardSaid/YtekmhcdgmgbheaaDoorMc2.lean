/- Merged by program (shrink.py): contracts and plain laws that the claim's statement uses, part 2. -/
import Derived.Test.YtekmhcdgmgbheaaDoorMc1
set_option linter.all false

namespace Go.Proofs.YtekmhcdgmgbheaaDoor
open Go.RowKit Go.Hub
theorem wzib23_g6 : (Tryd.prog.info? 23).map (fun i => (i.zero, i.size, i.bytes)) = some (some (.agg #[(.int .i64 0), (.int .i64 0), (.int .i64 0)]), 3, 24) := by kernel_rfl
theorem wsz23_g6 : (Tryd.prog.info? 23).map (·.size) = some 3 := by kernel_rfl
def InsPost (l : List Dt) (A : Option Addr) (c i : Nat) (d : Dt) (w : World) (e : Ending) (w' : World) : Prop :=
  ∃ A' c', e = .returned (.slice A' (l.length + 1) c') ∧ Own w' 23 3 (.slice A' (l.length + 1) c') (l.length + 1) (dcells (l.take i ++ d :: l.drop i)) ∧ Kept ((Value.slice A l.length c).ownBlock.toList) w w' ∧ (∀ b, A'.map (·.block) = some b → A.map (·.block) = some b ∨ w.heap.size ≤ b)
theorem own_cap {w : World} {e : TypeId} {size n c : Nat} {A : Option Addr} {xs : List Value} (h : Own w e size (.slice A n c) n xs) : n ≤ c := by
  obtain ⟨A', c', e', h1, _⟩ := h.form
  injection e' with _ _ e3
  omega
theorem ins_len1 (l : List Dt) (i : Nat) (hi : i ≤ l.length) : ((dcells l).take (i * 3) ++ (Builtin.zeroCells (Value.agg #[(.int .i64 0), (.int .i64 0), (.int .i64 0)]).cells (l.length + 1 - i)).toList).length = (l.length + 1) * 3 := by
  rw [List.length_append, List.length_take, dcells_len, Nat.min_eq_left (Nat.mul_le_mul_right _ hi)]
  simp [Builtin.zeroCells, Value.cells]
  omega
theorem ins_min1 {d : Dt} {k : Nat} (h : 1 ≤ k) : (dcells [d]).take (Nat.min 1 k * 3) = dcells [d] := by
  rw [show Nat.min 1 k = 1 from Nat.min_eq_left h]
  rfl
theorem ins_min2 {a b : Nat} (h : a ≤ b) : Nat.min a b = a := Nat.min_eq_left h
theorem ins_min3 {l : List Dt} {i : Nat} {jk : List Value} (hj : jk.length = 1 * 3) (hi : i ≤ l.length) : (dcells l).drop (i * 3) = ((dcells l ++ jk).drop (i * 3)).take (Nat.min (l.length + 1 - i) (l.length + 1 - (i + 1)) * 3) := by
  rw [show Nat.min (l.length + 1 - i) (l.length + 1 - (i + 1)) = l.length - i by show Min.min _ _ = _; omega]
  rw [List.drop_append, List.take_append, show i * 3 - (dcells l).length = 0 by rw [dcells_len]; omega, List.length_drop, dcells_len, show (l.length - i) * 3 - (l.length * 3 - i * 3) = 0 by omega]
  rw [List.take_of_length_le (by rw [List.length_drop, dcells_len]; omega)]
  simp
theorem overlaps_no {n : Nat} {a : Act} {l : FL} {w : World} {dst : Option Nat} {ty : TypeId} {ps : String} {af : Array Edge} {g : Option (Nat × Bool)} {x y : Operand} {ats : Array TypeId} {vb b off m c lb cb off2 : Nat} {d : Dt} {xs : List Value} (f : Fr n a l) (hx : evl l x = some (.slice (some ⟨vb, 0, none⟩) 1 1)) (hy : evl l y = some (.slice (some ⟨b, off2, none⟩) lb cb))
    (BV : Blk w vb 23 (dcell d).toArray) (O : Own w 23 3 (.slice (some ⟨b, off, none⟩) m c) m xs) (hne : b ≠ vb) (hm : 0 < m := by omega) :
    (execOp a.eval ⟨dst, .call { callee := .value (.func 77), args := #[x, y], argTypes := ats }, ty, ps, af, g⟩).run Tryd.prog w = .ok (.value (.bool false)) w := by
  obtain ⟨_, cs, h2⟩ := O.blk b rfl
  have hcs : cs.size ≠ 0 := by
    rcases O.2 with ⟨hv, _⟩ | ⟨g', off', cap', cur, hv, hg, hnc, hcm, hcs, _⟩
    · cases hv
    injection hv with e1 e2 e3
    injection e1 with e1
    injection e1 with e4 e5
    subst e4
    rw [h2] at hg
    injection hg with hg
    injection hg with hg _ _
    subst hg
    have : m * 3 ≤ cap' * 3 := Nat.mul_le_mul_right _ hnc
    omega
  have e : execOp a.eval ⟨dst, .call { callee := .value (.func 77), args := #[x, y], argTypes := ats }, ty, ps, af, g⟩ = callFunc 77 (#[] ++ #[x, y].map a.eval ++ #[]) := rfl
  have e2 : (#[] ++ #[x, y].map a.eval ++ #[] : Array Value) = #[.slice (some ⟨vb, 0, none⟩) 1 1, .slice (some ⟨b, off2, none⟩) lb cb] := by simp [f.ev hx, f.ev hy]
  rw [e, e2, run_callFunc_extern Tryd.func77 (by kernel_rfl) (by kernel_rfl) (by kernel_rfl) (e := Extern.SlicesOverlaps.overlaps #[32, 32] #[4]) (by kernel_rfl),
    Lib.run_overlaps_apart w 32 4 23 U32 3 (fun w => by kernel_rfl) ⟨vb, 0, none⟩ ⟨b, off2, none⟩ 1 1 lb cb (fun h => hne h.symm) 23 23 3 cs.size (by unfold World.shape?; rw [show w.heap[vb]? = _ from BV]; rfl) (by unfold World.shape?; rw [h2]) hcs (BV.frozen 0) (BV.frozen 3)]
  rfl
section
variable {l : List Dt} {A : Option Addr} {c i : Nat} {d : Dt} {w W : World}
theorem ins_end {w1 : World} {Ax : Option Addr} {cx : Nat} (hin : (i : Int) = l.length) (hi : i ≤ l.length) (O : Own w 23 3 (.slice A l.length c) l.length (dcells l)) (HK : Kept [] w w1) (ap : App w1 W 23 3 A l.length c (dcells l) (dcell d) 1 Ax cx) : InsPost l A c i d w (.returned (.slice Ax (l.length + 1) cx)) W := by
  obtain rfl : i = l.length := by omega
  refine ⟨Ax, cx, rfl, ?_, (HK.mono (by simp)).trans ap.kept (fun x hx _ => hx), fun b hb => (ap.where_ b hb).imp_right fun h => Nat.le_trans HK.size h⟩
  rw [List.take_length, List.drop_length, dcells_append]
  exact ap.own
theorem ins_parts (l : List Dt) (i : Nat) (d : Dt) : dcells (l.take i ++ d :: l.drop i) = dcells (l.take i) ++ dcell d ++ (dcells l).drop (i * 3) := by
  rw [dcells_append, dcells_drop, List.append_assoc]
  rfl
theorem ins_grow {g c2 : Nat} (hi : i ≤ l.length) (hg : w.heap.size ≤ g) (O : Own W 23 3 (.slice (some ⟨g, 0, none⟩) (i + (l.length + 1 - i)) c2) (i + (l.length + 1 - i)) (setSeg (setSeg ((dcells l).take (i * 3) ++ (Builtin.zeroCells (Value.agg #[(.int .i64 0), (.int .i64 0), (.int .i64 0)]).cells (l.length + 1 - i)).toList) (i * 3) (dcell d)) ((i + 1) * 3) ((dcells l).drop (i * 3))))
    (HK : Kept ((Value.slice A l.length c).ownBlock.toList) w W) : InsPost l A c i d w (.returned (.slice (some ⟨g, 0, none⟩) (i + (l.length + 1 - i)) c2)) W := by
  have hx : (dcells (l.take i)).length = i * 3 := by rw [dcells_len, List.length_take, Nat.min_eq_left hi]
  have h := seg_a (W := (dcells l).take (i * 3) ++ (Builtin.zeroCells (Value.agg #[(.int .i64 0), (.int .i64 0), (.int .i64 0)]).cells (l.length + 1 - i)).toList) (X := dcells (l.take i)) (Y := dcell d) (Z := (dcells l).drop (i * 3))
    (by rw [ins_len1 l i hi, hx, List.length_drop, dcells_len]; show _ = i * 3 + 3 + _; omega) (by rw [hx, List.take_append, List.take_take, List.length_take, dcells_len, ← dcells_take]; simp; omega)
  rw [hx, show i * 3 + (dcell d).length = (i + 1) * 3 by show i * 3 + 3 = _; omega, ← ins_parts] at h
  rw [h, show i + (l.length + 1 - i) = l.length + 1 by omega] at O
  refine ⟨some ⟨g, 0, none⟩, c2, by rw [show i + (l.length + 1 - i) = l.length + 1 by omega], O, HK, fun b hb => .inr ?_⟩
  simp at hb
  omega
theorem ins_room {b off : Nat} {jk : List Value} (hi : i ≤ l.length) (hj : jk.length = 1 * 3) (O : Own W 23 3 (.slice (some ⟨b, off, none⟩) (l.length + 1) c) (l.length + 1) (setSeg (setSeg (dcells l ++ jk) ((i + 1) * 3) ((dcells l).drop (i * 3))) (i * 3) (dcell d)))
    (HK : Kept ((Value.slice (some ⟨b, off, none⟩) l.length c).ownBlock.toList) w W) : InsPost l (some ⟨b, off, none⟩) c i d w (.returned (.slice (some ⟨b, off, none⟩) (l.length + 1) c)) W := by
  have hx : (dcells (l.take i)).length = i * 3 := by rw [dcells_len, List.length_take, Nat.min_eq_left hi]
  have h := seg_b (W := dcells l ++ jk) (X := dcells (l.take i)) (Y := dcell d) (Z := (dcells l).drop (i * 3))
    (by rw [List.length_append, dcells_len, hj, hx, List.length_drop, dcells_len]; show _ = i * 3 + 3 + _; omega) (by rw [hx, List.take_append, dcells_len, show i * 3 - l.length * 3 = 0 by omega, dcells_take]; simp)
  rw [hx, show i * 3 + (dcell d).length = (i + 1) * 3 by show i * 3 + 3 = _; omega, ← ins_parts] at h
  rw [h] at O
  exact ⟨_, c, rfl, O, HK, fun b' hb => .inl hb⟩
end
set_option maxRecDepth 100000 in
set_option maxHeartbeats 1000000 in
theorem insert_any (l : List Dt) (A : Option Addr) (c : Nat) (i vb : Nat) (d : Dt) (w : World) (OO : Own w 23 3 (.slice A l.length c) l.length (dcells l)) (BV : Blk w vb 23 (dcell d).toArray) (hi : i ≤ l.length) (hm : l.length ≤ 1000000) (hne : ∀ a, A = some a → a.block ≠ vb) : Calls Tryd.prog 71 #[.slice A l.length c, .int .i64 i, .slice (some ⟨vb, 0, none⟩) 1 1] w (InsPost l A c i d w) := by
  have HK : Kept ((Value.slice A l.length c).ownBlock.toList) w w := Kept.refl _ _
  have hcl := own_cap OO
  have ltV := BV.lt
  have O0 := OO
  refine C.enter Tryd.func71 rfl Tryd.ntmps71 rfl ?_
  intro a0 f0
  have f1 : Fr 95 a0 [(0, .slice A l.length c), (1, .int .i64 i), (2, .slice (some ⟨vb, 0, none⟩) 1 1)] := f0
  refine C.sk fun K0 hK0 => ?_
  refine L.val f1 wantedN rfl (by decide) (E.assign f1 rfl) fun a2 f2 => ?_
  have f3 := f2.sub (sub_cons (i := 0) rfl (sub_cons (i := 1) rfl (sub_cons (i := 2) rfl (sub_cons (i := 6) rfl sn))))
  refine wpList_nil (hK0 _ _ (C.sk fun K1 hK1 => ?_))
  refine L.val f3 wantedN rfl (by decide) (E.move f3 rfl) fun a4 f4 => ?_
  refine L.val f4 wantedN rfl (by decide) (E.move f4 rfl) fun a5 f5 => ?_
  refine L.val f5 wantedN rfl (by decide) (E.slLlo f5 U32 wsz23_g6 rfl rfl (by omega) (by omega) ) fun a6 f6 => ?_
  have f7 := f6.sub (sub_cons (i := 0) rfl (sub_cons (i := 1) rfl (sub_cons (i := 2) rfl (sub_cons (i := 6) rfl sn))))
  refine wpList_nil (hK1 _ _ (C.sk fun K2 hK2 => ?_))
  refine L.val f7 wantedN rfl (by decide) (E.move f7 rfl) fun a8 f8 => ?_
  refine L.val f8 wantedN rfl (by decide) (E.lenL f8 U32 rfl) fun a9 f9 => ?_
  clear f0 f1 a0 f2 f3 a2 f4 a4 f5 a5 f6 f7 a6 f8 a8
  refine L.val f9 wantedN rfl (by decide) (E.assign f9 rfl) fun a10 f10 => ?_
  refine wpList_nil (hK2 _ _ ?_)
  have f11 := f10.sub (sub_cons (i := 0) rfl (sub_cons (i := 1) rfl (sub_cons (i := 2) rfl (sub_cons (i := 6) rfl (sub_cons (i := 7) rfl sn)))))
  refine wp_seq_k fun K3 hK3 => ?_
  refine C.sk fun K4 hK4 => ?_
  refine L.val f11 wantedN rfl (by decide) (E.move f11 rfl) fun a12 f12 => ?_
  refine L.val f12 wantedN rfl (by decide) (E.eql f12 rfl rfl) fun a13 f13 => ?_
  have f14 := f13.as (i := 16) (v' := .bool false) rfl (by rfl)
  refine wpList_nil (hK4 _ _ ?_)
  have f15 := f14.sub (sub_cons (i := 0) rfl (sub_cons (i := 1) rfl (sub_cons (i := 2) rfl (sub_cons (i := 6) rfl (sub_cons (i := 7) rfl (sub_cons (i := 16) rfl sn))))))
  refine C.condF f15 rfl ?_
  refine wp_skip (hK3 _ _ ?_)
  have f16 := f15.sub (sub_cons (i := 0) rfl (sub_cons (i := 1) rfl (sub_cons (i := 2) rfl (sub_cons (i := 6) rfl (sub_cons (i := 7) rfl sn)))))
  refine C.sk fun K5 hK5 => ?_
  refine L.val f16 wantedN rfl (by decide) (E.move f16 rfl) fun a17 f17 => ?_
  refine L.val f17 wantedN rfl (by decide) (E.lenL f17 U32 rfl) fun a18 f18 => ?_
  clear f9 a9 f10 f11 a10 f12 a12 f13 f14 f15 f16 a13 f17 a17
  refine L.val f18 wantedN rfl (by decide) (E.assign f18 rfl) fun a19 f19 => ?_
  refine wpList_nil (hK5 _ _ ?_)
  have f20 := f19.sub (sub_cons (i := 0) rfl (sub_cons (i := 1) rfl (sub_cons (i := 2) rfl (sub_cons (i := 6) rfl (sub_cons (i := 7) rfl (sub_cons (i := 8) rfl sn))))))
  refine wp_seq_k fun K6 hK6 => ?_
  refine C.sk fun K7 hK7 => ?_
  refine L.val f20 wantedN rfl (by decide) (E.move f20 rfl) fun a21 f21 => ?_
  refine L.val f21 wantedN rfl (by decide) (E.move f21 rfl) fun a22 f22 => ?_
  refine L.val f22 wantedN rfl (by decide) (E.eql f22 rfl rfl) fun a23 f23 => ?_
  refine wpList_nil (hK7 _ _ ?_)
  have f24 := f23.sub (sub_cons (i := 0) rfl (sub_cons (i := 1) rfl (sub_cons (i := 2) rfl (sub_cons (i := 6) rfl (sub_cons (i := 7) rfl (sub_cons (i := 8) rfl (sub_cons (i := 22) rfl sn)))))))
  clear f18 a18 f19 f20 a19 f21 a21 f22 a22 f23
  refine f24.splitD 22 rfl (fun h0 f25 => ?_) (fun h0 f25 => ?_)
  · have hin := h0
    refine C.condT f25 rfl ?_
    refine C.sk fun K8 hK8 => ?_
    refine L.val f25 wantedN rfl (by decide) (E.move f25 rfl) fun a26 f26 => ?_
    refine L.val f26 wantedN rfl (by decide) (E.move f26 rfl) fun a27 f27 => ?_
    refine L.append f27 wantedN (by decide) U32 wzib23_g6 rfl rfl rfl rfl (OO) (sl_one _ vb d BV) (fun u hu => dcells_one [d] u (by simpa [dcells] using hu)) (by unfold maxLen; omega) (by omega) fun a28 w1 Ax cx AP1 f28 => ?_
    have kap1 := AP1.kept
    have APX := AP1
    have HK0 := Kept.refl [] w
    have szw1 := kap1.size
    clear f24 f25 a23 f26 a26 f27 a27 kap1
    refine L.val f28 wantedN rfl (by decide) (E.assign f28 rfl) fun a29 f29 => ?_
    have f30 := f29.sub (sub_cons (i := 0) rfl (sub_cons (i := 1) rfl (sub_cons (i := 2) rfl (sub_cons (i := 6) rfl (sub_cons (i := 7) rfl (sub_cons (i := 8) rfl sn))))))
    refine wpList_nil (hK8 _ _ (wp_ret ?_)); (try simp only [xt, xb]); refine C.ret f30 rfl rfl ?_
    exact ins_end hin hi O0 HK0 APX
  have hin := h0
  obtain ⟨b, off, hA⟩ := (Sl.of_own OO).addr (by omega)
  clear f24
  subst hA
  have hbL : b ∈ (Value.slice (some ⟨b, off, none⟩) l.length c).ownBlock.toList := by simp [Value.ownBlock]
  have hbv : b ≠ vb := hne _ rfl
  have hbw := (OO.blk b rfl).1
  refine C.condF f25 rfl ?_
  refine wp_skip (hK6 _ _ ?_)
  have f26 := f25.sub (sub_cons (i := 0) rfl (sub_cons (i := 1) rfl (sub_cons (i := 2) rfl (sub_cons (i := 6) rfl (sub_cons (i := 7) rfl (sub_cons (i := 8) rfl sn))))))
  refine wp_seq_k fun K9 hK9 => ?_
  refine C.sk fun K10 hK10 => ?_
  refine L.val f26 wantedN rfl (by decide) (E.move f26 rfl) fun a27 f27 => ?_
  refine L.val f27 wantedN rfl (by decide) (E.move f27 rfl) fun a28 f28 => ?_
  refine L.val f28 wantedN rfl (by decide) (E.add f28 rfl rfl (IntWalk.i64_in _ (by omega))) fun a29 f29 => ?_
  refine L.val f29 wantedN rfl (by decide) (E.move f29 rfl) fun a30 f30 => ?_
  refine L.val f30 wantedN rfl (by decide) (E.capL f30 U32 rfl) fun a31 f31 => ?_
  refine L.val f31 wantedN rfl (by decide) (E.gtr f31 rfl rfl) fun a32 f32 => ?_
  refine wpList_nil (hK10 _ _ ?_)
  have f33 := f32.sub (sub_cons (i := 0) rfl (sub_cons (i := 1) rfl (sub_cons (i := 2) rfl (sub_cons (i := 6) rfl (sub_cons (i := 7) rfl (sub_cons (i := 8) rfl (sub_cons (i := 31) rfl sn)))))))
  clear f25 f26 a23 f27 a27 f28 a28 f29 a29 f30 a30 f31 a31 f32
  refine f33.splitD 31 rfl (fun h1 f34 => ?_) (fun h1 f34 => ?_)
  · have hgr := h1
    have OH := OO.head (k := i) hi
    refine C.condT f34 rfl ?_
    refine C.sk fun K11 hK11 => ?_
    refine L.val f34 wantedN rfl (by decide) (E.move f34 rfl) fun a35 f35 => ?_
    refine L.val f35 wantedN rfl (by decide) (E.move f35 rfl) fun a36 f36 => ?_
    refine L.val f36 wantedN rfl (by decide) (E.slLhi f36 U32 wsz23_g6 rfl rfl (by omega) (by omega) ) fun a37 f37 => ?_
    refine L.val f37 wantedN rfl (by decide) (E.move f37 rfl) fun a38 f38 => ?_
    refine L.val f38 wantedN rfl (by decide) (E.move f38 rfl) fun a39 f39 => ?_
    refine L.val f39 wantedN rfl (by decide) (E.add f39 rfl rfl (IntWalk.i64_in _ (by omega))) fun a40 f40 => ?_
    refine L.val f40 wantedN rfl (by decide) (E.move f40 rfl) fun a41 f41 => ?_
    clear f33 f34 a32 f35 a35 f36 a36 f37 a37 f38 a38 f39 a39 f40 a40
    refine L.val f41 wantedN rfl (by decide) (E.sub f41 rfl rfl (IntWalk.i64_in _ (by omega))) fun a42 f42 => ?_
    refine L.appendZ f42 wantedN (by decide) U32 U3 wzib23_g6 rfl rfl rfl rfl (m := l.length + 1 - i) OH (by omega) (by omega) (by omega) (by omega) (by omega) fun a43 w1 g c2 OZ loz kz f43 => ?_
    have szw1 := kz.size
    replace HK := HK.z kz
    replace OO := OO.kept kz (by simp)
    replace BV := BV.z kz
    have hcz : i + (l.length + 1 - i) ≤ c2 := own_cap OZ
    have hzl : (dcells l).take (i * 3) = dcells (l.take i) := dcells_take l i
    clear f41 a41 f42 a42 kz OH
    refine L.val f43 wantedN rfl (by decide) (E.assign f43 rfl) fun a44 f44 => ?_
    have f45 := f44.sub (sub_cons (i := 0) rfl (sub_cons (i := 1) rfl (sub_cons (i := 2) rfl (sub_cons (i := 6) rfl (sub_cons (i := 7) rfl (sub_cons (i := 8) rfl (sub_cons (i := 9) rfl sn)))))))
    refine wpList_nil (hK11 _ _ (C.sk fun K12 hK12 => ?_))
    refine L.val f45 wantedN rfl (by decide) (E.move f45 rfl) fun a46 f46 => ?_
    refine L.val f46 wantedN rfl (by decide) (E.move f46 rfl) fun a47 f47 => ?_
    refine L.val f47 wantedN rfl (by decide) (E.slA f47 U32 wsz23_g6 rfl rfl rfl (k := i) (by omega) (by omega)) fun a48 f48 => ?_
    refine L.val f48 wantedN rfl (by decide) (E.move f48 rfl) fun a49 f49 => ?_
    refine L.copyR f49 wantedN (by decide) U32 wsz23_g6 rfl rfl (j := i * 3) (vs := dcell d) OZ (by omega) (sl_one _ vb d BV) (by omega) (by rw [ins_min1 (by omega)]; rfl) (by rw [ins_len1 l i hi]; simp; omega) (fun u hu => dcells_one [d] u (by simpa [dcells] using hu)) fun a50 w2 OZ2 kc f50 => ?_
    have szw2 := kc.size
    replace HK := HK.trans kc (by intro x hx hlt; simp at hx; subst hx; omega)
    replace BV := BV.kept kc (by (simp; omega))
    replace OO := OO.kept kc (by intro k hk; simp [Value.ownBlock] at hk ⊢; omega)
    clear f43 a43 f44 f45 a44 f46 a46 f47 a47 f48 a48 f49 a49 kc
    refine wpList_nil (hK12 _ _ ?_)
    have f51 := f50.sub (sub_cons (i := 0) rfl (sub_cons (i := 1) rfl (sub_cons (i := 2) rfl (sub_cons (i := 6) rfl (sub_cons (i := 7) rfl (sub_cons (i := 8) rfl (sub_cons (i := 9) rfl sn)))))))
    refine wp_seq_k fun K13 hK13 => ?_
    refine R.begin (S := fun W => Kept [g] w2 W) (by kernel_rfl) (by exact (Kept.refl _ _).drewN 1) ?_
    have hS11 : Kept [g] w2 (w2.drewN 1) := (Kept.refl _ _).drewN 1
    have hd11 : Kept [] w2 (w2.drewN 1) := (Kept.refl _ _).drewN 1
    obtain ⟨w3, hww3⟩ : ∃ W, W = w2.drewN 1 := ⟨_, rfl⟩
    rw [← hww3] at hS11 hd11 ⊢
    clear f50 hww3
    have szw3 := hS11.size
    replace OO := OO.kept hd11 (by simp)
    replace OZ2 := OZ2.kept hd11 (by simp)
    refine R.take 0 f51 rfl rfl (by decide) (by kernel_rfl) (by kernel_rfl) (by kernel_rfl) (fun _ _ _ _ h => h) wantedN hS11 (fun W hW => (E.move f51 rfl)) fun a52 f52 => ?_
    refine R.take 1 f52 rfl rfl (by decide) (by kernel_rfl) (by kernel_rfl) (by kernel_rfl) (fun _ _ _ _ h => h) wantedN hS11 (fun W hW => (E.move f52 rfl)) fun a53 f53 => ?_
    refine R.take 2 f53 rfl rfl (by decide) (by kernel_rfl) (by kernel_rfl) (by kernel_rfl) (fun _ _ _ _ h => h) wantedN hS11 (fun W hW => (E.move f53 rfl)) fun a54 f54 => ?_
    refine R.take 3 f54 rfl rfl (by decide) (by kernel_rfl) (by kernel_rfl) (by kernel_rfl) (fun _ _ _ _ h => h) wantedN hS11 (fun W hW => (E.add f54 rfl rfl (IntWalk.i64_in _ (by omega)))) fun a55 f55 => ?_
    refine R.take 4 f55 rfl rfl (by decide) (by kernel_rfl) (by kernel_rfl) (by kernel_rfl) (fun _ _ _ _ h => h) wantedN hS11 (fun W hW => (E.slA f55 U32 wsz23_g6 rfl rfl (show ((i : Int) + 1) = ((i + 1 : Nat) : Int) by omega) (by omega) (by omega))) fun a56 f56 => ?_
    refine R.take 5 f56 rfl rfl (by decide) (by kernel_rfl) (by kernel_rfl) (by kernel_rfl) (fun _ _ _ _ h => h) wantedN hS11 (fun W hW => (E.move f56 rfl)) fun a57 f57 => ?_
    refine R.take 6 f57 rfl rfl (by decide) (by kernel_rfl) (by kernel_rfl) (by kernel_rfl) (fun _ _ _ _ h => h) wantedN hS11 (fun W hW => (E.move f57 rfl)) fun a58 f58 => ?_
    clear f51 a50 f52 a52 f53 a53 f54 a54 f55 a55 f56 a56 f57 a57
    refine R.take 7 f58 rfl rfl (by decide) (by kernel_rfl) (by kernel_rfl) (by kernel_rfl) (fun _ _ _ _ h => h) wantedN hS11 (fun W hW => (E.slA f58 U32 wsz23_g6 rfl rfl rfl (k := i) hi (by omega))) fun a59 f59 => ?_
    refine R.one 8 (by kernel_rfl) ?_
    refine O.copyR f59 rfl wantedN (by decide) U32 wsz23_g6 rfl rfl (j := (i + 1) * 3) (vs := (dcells l).drop (i * 3)) OZ2 (by omega) (Sl.of_own (OO.cutA hi (by omega))) (by omega) (by rw [ins_min2 (by omega), List.take_of_length_le (by rw [List.length_drop, dcells_len]; omega)]) (by rw [setSeg_len, ins_len1 l i hi, List.length_drop, dcells_len]; omega) (fun u hu => dcells_one l u (List.mem_of_mem_drop hu)) (fun _ hk => hS11.trans hk (by simp)) fun a60 w4 OZ3 kc f60 => ?_
    have szw4 := kc.size
    replace hS11 := hS11.trans kc (by simp)
    clear f58 a58 f59 a59 kc
    have szw4r := hS11.size
    replace HK := HK.trans hS11 (by intro x hx hlt; simp at hx; subst hx; omega)
    replace BV := BV.kept hS11 (by (simp; omega))
    clear hS11
    refine R.done (by kernel_rfl) (hK13 _ _ ?_)
    have f61 := f60.sub (sub_cons (i := 0) rfl (sub_cons (i := 1) rfl (sub_cons (i := 2) rfl (sub_cons (i := 6) rfl (sub_cons (i := 7) rfl (sub_cons (i := 8) rfl (sub_cons (i := 9) rfl sn)))))))
    refine C.sk fun K14 hK14 => ?_
    refine L.val f61 wantedN rfl (by decide) (E.move f61 rfl) fun a62 f62 => ?_
    refine L.val f62 wantedN rfl (by decide) (E.assign f62 rfl) fun a63 f63 => ?_
    have f64 := f63.sub (sub_cons (i := 0) rfl (sub_cons (i := 1) rfl (sub_cons (i := 2) rfl (sub_cons (i := 6) rfl (sub_cons (i := 7) rfl (sub_cons (i := 8) rfl sn))))))
    refine wpList_nil (hK14 _ _ (wp_ret ?_)); (try simp only [xt, xb]); refine C.ret f64 rfl rfl ?_
    exact ins_grow hi loz OZ3 HK
  have hgr := h1
  obtain ⟨jk, hjk, OM⟩ := OO.more (k := 1) (by omega)
  refine C.condF f34 rfl ?_
  refine wp_skip (hK9 _ _ ?_)
  have f35 := f34.sub (sub_cons (i := 0) rfl (sub_cons (i := 1) rfl (sub_cons (i := 2) rfl (sub_cons (i := 6) rfl (sub_cons (i := 7) rfl (sub_cons (i := 8) rfl sn))))))
  refine C.sk fun K15 hK15 => ?_
  refine L.val f35 wantedN rfl (by decide) (E.move f35 rfl) fun a36 f36 => ?_
  refine L.val f36 wantedN rfl (by decide) (E.move f36 rfl) fun a37 f37 => ?_
  refine L.val f37 wantedN rfl (by decide) (E.move f37 rfl) fun a38 f38 => ?_
  refine L.val f38 wantedN rfl (by decide) (E.add f38 rfl rfl (IntWalk.i64_in _ (by omega))) fun a39 f39 => ?_
  refine L.val f39 wantedN rfl (by decide) (E.slLhi f39 U32 wsz23_g6 rfl rfl (by omega) (by omega)) fun a40 f40 => ?_
  refine L.val f40 wantedN rfl (by decide) (E.assign f40 rfl) fun a41 f41 => ?_
  clear f33 f34 f35 a32 f36 a36 f37 a37 f38 a38 f39 a39 f40 a40
  refine wpList_nil (hK15 _ _ ?_)
  have f42 := f41.sub (sub_cons (i := 0) rfl (sub_cons (i := 1) rfl (sub_cons (i := 2) rfl (sub_cons (i := 6) rfl (sub_cons (i := 7) rfl (sub_cons (i := 8) rfl sn))))))
  refine wp_seq_k fun K16 hK16 => ?_
  refine C.sk fun K17 hK17 => ?_
  refine L.val f42 wantedN rfl (by decide) (E.move f42 rfl) fun a43 f43 => ?_
  refine L.val f43 wantedN rfl (by decide) (E.move f43 rfl) fun a44 f44 => ?_
  refine L.val f44 wantedN rfl (by decide) (E.move f44 rfl) fun a45 f45 => ?_
  refine L.val f45 wantedN rfl (by decide) (E.move f45 rfl) fun a46 f46 => ?_
  refine L.val f46 wantedN rfl (by decide) (E.add f46 rfl rfl (IntWalk.i64_in _ (by omega))) fun a47 f47 => ?_
  refine L.val f47 wantedN rfl (by decide) (E.slA f47 U32 wsz23_g6 rfl rfl (show ((i : Int) + 1) = ((i + 1 : Nat) : Int) by omega) (by omega) (by omega)) fun a48 f48 => ?_
  refine L.val f48 wantedN rfl (by decide) (overlaps_no f48 rfl rfl BV OO hbv) fun a49 f49 => ?_
  clear f41 f42 a41 f43 a43 f44 a44 f45 a45 f46 a46 f47 a47 f48 a48
  have f50 := f49.as (i := 67) (v' := .bool false) rfl (by rfl)
  refine L.val f50 wantedN rfl (by decide) (E.not f50 rfl) fun a51 f51 => ?_
  refine wpList_nil (hK17 _ _ ?_)
  have f52 := f51.sub (sub_cons (i := 0) rfl (sub_cons (i := 1) rfl (sub_cons (i := 2) rfl (sub_cons (i := 6) rfl (sub_cons (i := 7) rfl (sub_cons (i := 8) rfl (sub_cons (i := 68) rfl sn)))))))
  refine C.condT f52 rfl ?_
  refine wp_seq_k fun K18 hK18 => ?_
  refine R.begin (S := fun W => Kept [b] w W) (by kernel_rfl) (by exact (Kept.refl _ _).drewN 1) ?_
  have hS15 : Kept [b] w (w.drewN 1) := (Kept.refl _ _).drewN 1
  have hd15 : Kept [] w (w.drewN 1) := (Kept.refl _ _).drewN 1
  obtain ⟨w1, hww1⟩ : ∃ W, W = w.drewN 1 := ⟨_, rfl⟩
  rw [← hww1] at hS15 hd15 ⊢
  clear f49 f50 a49 f51 hww1
  have szw1 := hS15.size
  replace OM := OM.kept hd15 (by simp)
  replace BV := BV.kept hd15 (by (simp; done))
  refine R.take 0 f52 rfl rfl (by decide) (by kernel_rfl) (by kernel_rfl) (by kernel_rfl) (fun _ _ _ _ h => h) wantedN hS15 (fun W hW => (E.move f52 rfl)) fun a53 f53 => ?_
  refine R.take 1 f53 rfl rfl (by decide) (by kernel_rfl) (by kernel_rfl) (by kernel_rfl) (fun _ _ _ _ h => h) wantedN hS15 (fun W hW => (E.move f53 rfl)) fun a54 f54 => ?_
  refine R.take 2 f54 rfl rfl (by decide) (by kernel_rfl) (by kernel_rfl) (by kernel_rfl) (fun _ _ _ _ h => h) wantedN hS15 (fun W hW => (E.move f54 rfl)) fun a55 f55 => ?_
  refine R.take 3 f55 rfl rfl (by decide) (by kernel_rfl) (by kernel_rfl) (by kernel_rfl) (fun _ _ _ _ h => h) wantedN hS15 (fun W hW => (E.add f55 rfl rfl (IntWalk.i64_in _ (by omega)))) fun a56 f56 => ?_
  refine R.take 4 f56 rfl rfl (by decide) (by kernel_rfl) (by kernel_rfl) (by kernel_rfl) (fun _ _ _ _ h => h) wantedN hS15 (fun W hW => (E.slA f56 U32 wsz23_g6 rfl rfl (show ((i : Int) + 1) = ((i + 1 : Nat) : Int) by omega) (by omega) (by omega))) fun a57 f57 => ?_
  refine R.take 5 f57 rfl rfl (by decide) (by kernel_rfl) (by kernel_rfl) (by kernel_rfl) (fun _ _ _ _ h => h) wantedN hS15 (fun W hW => (E.move f57 rfl)) fun a58 f58 => ?_
  refine R.take 6 f58 rfl rfl (by decide) (by kernel_rfl) (by kernel_rfl) (by kernel_rfl) (fun _ _ _ _ h => h) wantedN hS15 (fun W hW => (E.move f58 rfl)) fun a59 f59 => ?_
  clear f52 a51 f53 a53 f54 a54 f55 a55 f56 a56 f57 a57 f58 a58
  refine R.take 7 f59 rfl rfl (by decide) (by kernel_rfl) (by kernel_rfl) (by kernel_rfl) (fun _ _ _ _ h => h) wantedN hS15 (fun W hW => (E.slA f59 U32 wsz23_g6 rfl rfl rfl (k := i) (by omega) (by omega))) fun a60 f60 => ?_
  refine R.one 8 (by kernel_rfl) ?_
  refine O.copyR f60 rfl wantedN (by decide) U32 wsz23_g6 rfl rfl (j := (i + 1) * 3) (vs := (dcells l).drop (i * 3)) OM rfl (Sl.of_own (OM.cutA (k := i) (by omega) (by omega))) (by omega) (by exact ins_min3 hjk hi) (by rw [List.length_append, hjk, List.length_drop, dcells_len]; omega) (fun u hu => dcells_one l u (List.mem_of_mem_drop hu)) (fun _ hk => hS15.trans hk (by simp)) fun a61 w2 OM2 kc f61 => ?_
  have szw2 := kc.size
  replace hS15 := hS15.trans kc (by simp)
  replace BV := BV.kept kc (by (simp; omega))
  clear f59 a59 f60 a60 kc
  have szw2r := hS15.size
  replace HK := HK.trans hS15 (by intro x hx _; simp at hx; subst hx; exact hbL)
  clear hS15
  refine R.done (by kernel_rfl) (hK18 _ _ ?_)
  have f62 := f61.sub (sub_cons (i := 0) rfl (sub_cons (i := 1) rfl (sub_cons (i := 2) rfl (sub_cons (i := 6) rfl (sub_cons (i := 7) rfl (sub_cons (i := 8) rfl sn))))))
  refine C.sk fun K19 hK19 => ?_
  refine L.val f62 wantedN rfl (by decide) (E.move f62 rfl) fun a63 f63 => ?_
  refine L.val f63 wantedN rfl (by decide) (E.move f63 rfl) fun a64 f64 => ?_
  refine L.val f64 wantedN rfl (by decide) (E.slA f64 U32 wsz23_g6 rfl rfl rfl (k := i) (by omega) (by omega)) fun a65 f65 => ?_
  refine L.val f65 wantedN rfl (by decide) (E.move f65 rfl) fun a66 f66 => ?_
  refine L.copyR f66 wantedN (by decide) U32 wsz23_g6 rfl rfl (j := i * 3) (vs := dcell d) OM2 rfl (sl_one _ vb d BV) (by omega) (by rw [ins_min1 (by omega)]; rfl) (by rw [setSeg_len, List.length_append, hjk, dcells_len]; simp; omega) (fun u hu => dcells_one [d] u (by simpa [dcells] using hu)) fun a67 w3 OM3 kc f67 => ?_
  have szw3 := kc.size
  replace HK := HK.trans kc (by intro x hx _; simp at hx; subst hx; exact hbL)
  clear f61 f62 a61 f63 a63 f64 a64 f65 a65 f66 a66 kc
  have f68 := f67.sub (sub_cons (i := 0) rfl (sub_cons (i := 1) rfl (sub_cons (i := 2) rfl (sub_cons (i := 6) rfl (sub_cons (i := 7) rfl (sub_cons (i := 8) rfl sn))))))
  refine wpList_nil (hK19 _ _ (C.sk fun K20 hK20 => ?_))
  refine L.val f68 wantedN rfl (by decide) (E.move f68 rfl) fun a69 f69 => ?_
  refine L.val f69 wantedN rfl (by decide) (E.assign f69 rfl) fun a70 f70 => ?_
  have f71 := f70.sub (sub_cons (i := 0) rfl (sub_cons (i := 1) rfl (sub_cons (i := 2) rfl (sub_cons (i := 6) rfl (sub_cons (i := 7) rfl (sub_cons (i := 8) rfl sn))))))
  refine wpList_nil (hK20 _ _ (wp_ret ?_)); (try simp only [xt, xb]); refine C.ret f71 rfl rfl ?_
  exact ins_room hi hjk OM3 HK
end Go.Proofs.YtekmhcdgmgbheaaDoor
namespace Go.Proofs.YtekmhcdgmgbheaaDoor
open Go.RowKit Go.Hub
theorem wzi23_g7 : (Tryd.prog.info? 23).map (fun i => (i.zero, i.size)) = some (some (.agg #[(.int .i64 0), (.int .i64 0), (.int .i64 0)]), 3) := by kernel_rfl
theorem wbs32_1_g7 (x0_0 x0_1 x0_2 : Value) : Instr.fill (fun i => some (i * 3, 3)) ((Array.range (1 * 3)).map fun j => (Value.cells (.agg #[(.int .i64 0), (.int .i64 0), (.int .i64 0)]))[j % (Value.cells (.agg #[(.int .i64 0), (.int .i64 0), (.int .i64 0)])).size]!) [(0, .agg #[x0_0, x0_1, x0_2])] = some #[x0_0, x0_1, x0_2] := by kernel_rfl
theorem wsz3_g7 : (Tryd.prog.info? 3).map (·.size) = some 1 := by kernel_rfl
theorem wsz23_g7 : (Tryd.prog.info? 23).map (·.size) = some 3 := by kernel_rfl
section
variable {l : List Dt} {A : Option Addr} {c i : Nat} {d x : Dt} {w0 W : World}
theorem add_no (h : rightB l = true) (hd : mayB d = false) : addD l d = l := by unfold addD; rw [if_neg (by simp [h]), if_pos (.inl hd)]
theorem add_yes (h : rightB l = true) (hd : mayB d = true) : addD l d = if d.n ≤ topI l d.node d.epoch then l else insD l d := by
  have hn := may_of hd
  unfold addD
  rw [if_neg (by simp [h])]
  by_cases ht : d.n ≤ topI l d.node d.epoch
  · rw [if_pos ht, if_pos (.inr (by simp only [hasB, topR, h, if_true, Bool.and_eq_true, decide_eq_true_eq]; omega))]
  rw [if_neg ht, if_neg ?_]
  rintro (h1 | h1)
  · rw [hd] at h1; cases h1
  simp only [hasB, topR, h, if_true, Bool.and_eq_true, decide_eq_true_eq] at h1
  omega
theorem put_ins {A' : Option Addr} {c' : Nat} (h : rightB l = true) (hd : mayB d = true) (hs : Srch l d i false) (_ : True) (HK : Kept [] w0 W) (F : Fresh w0 W 23 3 A' (l.length + 1) c' (dcells (l.take i ++ d :: l.drop i))) : DotsPost (addD l d) w0 (.returned (.slice A' (l.length + 1) c')) W := by
  have hn := may_of hd
  have ht := hs.top (rises h)
  have he : addD l d = l.take i ++ d :: l.drop i := by
    rw [add_yes h hd, ht, if_neg (by omega), insD_at l d i (fun y hy => by
      obtain ⟨k, hk⟩ := List.getElem?_of_mem hy
      rw [List.getElem?_take] at hk
      split at hk
      · exact hs.lo k y (by assumption) hk
      cases hk) (fun y hy => hs.hi i y (Nat.le_refl _) hy) hs.le]
    cases hq : l[i]? with
    | none =>
      have hi : l.length ≤ i := List.getElem?_eq_none_iff.1 hq
      simp only []
      rw [List.take_of_length_le hi, List.drop_eq_nil_of_le hi]
    | some y =>
      simp only []
      rw [if_pos]
      have h1 := hs.hi i y (Nat.le_refl _) hq
      have h2 : ¬ (y.node = d.node ∧ y.epoch = d.epoch) := fun hc => by have := hs.is.2 ⟨y, hq, hc.1, hc.2⟩; cases this
      unfold lt2 at *
      omega
  have hl : (l.take i ++ d :: l.drop i).length = l.length + 1 := by
    have := hs.le
    simp
    omega
  refine ⟨HK, A', c', by rw [he, hl], ?_⟩
  rw [he, hl]
  exact F
theorem put_set (h : rightB l = true) (hd : mayB d = true) (hx : l[i]? = some x) (hn : x.node = d.node) (he : x.epoch = d.epoch) (hlt : x.n < d.n) (HK : Kept [] w0 W) (F : Fresh w0 W 23 3 A l.length c (dcells (l.set i { x with n := d.n }))) : DotsPost (addD l d) w0 (.returned (.slice A l.length c)) W := by
  have ht := topI_some h hx
  rw [hn, he] at ht
  have hr := rises h
  have h2 : addD l d = l.set i { x with n := d.n } := by
    rw [add_yes h hd, ht, if_neg (by omega), insD_at l d i (fun y hy => by
      obtain ⟨k, hk⟩ := List.getElem?_of_mem hy
      rw [List.getElem?_take] at hk
      split at hk
      · have := hr.1 k i y x (by assumption) hk hx
        unfold lt2 at *
        omega
      cases hk) (fun y hy => by rw [hx] at hy; injection hy with hy; subst hy; unfold lt2; omega) (by have := (List.getElem?_eq_some_iff.1 hx).1; omega), hx]
    simp only []
    rw [if_neg (by unfold lt2; omega)]
  refine ⟨HK, A, c, by rw [h2, List.length_set], ?_⟩
  rw [h2, List.length_set]
  exact F
theorem put_same (h : rightB l = true) (hd : mayB d = true) (hx : l[i]? = some x) (hn : x.node = d.node) (he : x.epoch = d.epoch) (hlt : ¬ x.n < d.n) (HK : Kept [] w0 W) (F : Fresh w0 W 23 3 A l.length c (dcells l)) : DotsPost (addD l d) w0 (.returned (.slice A l.length c)) W := by
  have ht := topI_some h hx
  rw [hn, he] at ht
  have h2 : addD l d = l := by rw [add_yes h hd, ht, if_pos (by omega)]
  exact ⟨HK, A, c, by rw [h2], by rw [h2]; exact F⟩
end
set_option maxHeartbeats 1000000 in
theorem put_any (l : List Dt) (A : Option Addr) (c : Nat) (d : Dt) (w0 w : World) (F : Fresh w0 w 23 3 A l.length c (dcells l)) (HK : Kept [] w0 w) (hr : rightB l = true) (hd : mayB d = true) (hm : l.length ≤ 1000000) : Calls Tryd.prog 63 #[.slice A l.length c, .agg (dcell d).toArray] w (fun e w' => DotsPost (addD l d) w0 e w') := by
  have szw0 := HK.size
  have hAb : ∀ a, A = some a → a.block < w.heap.size := fun a ha => (F.own.blk a.block (by rw [ha]; rfl)).1
  refine C.enter Tryd.func63 rfl Tryd.ntmps63 rfl ?_
  intro a0 f0
  have f1 : Fr 37 a0 [(0, .slice A l.length c), (1, .agg (dcell d).toArray)] := f0
  refine C.sk fun K0 hK0 => ?_
  refine L.box f1 wantedN (by decide) rfl rfl fun a2 w1 g0 N0 f2 => ?_
  have Bg0 := N0.blk
  have kg0 := N0.kept
  have log0 := N0.lo
  have ltg0 := Bg0.lt
  have szw1 := kg0.size
  replace HK := HK.z kg0
  replace F := F.kept0 kg0
  clear f0 N0 kg0
  refine L.val f2 wantedN rfl (by decide) (E.assign f2 rfl) fun a3 f3 => ?_
  have f4 := f3.sub (sub_cons (i := 0) rfl (sub_cons (i := 3) rfl (sub_cons (i := 4) rfl sn)))
  refine wpList_nil (hK0 _ _ (C.sk fun K1 hK1 => ?_))
  refine L.val f4 wantedN rfl (by decide) (E.move f4 rfl) fun a5 f5 => ?_
  refine L.val f5 wantedN rfl (by decide) (E.loadB f5 U23 rfl wsz23_g7 rfl (Bg0) rfl) fun a6 f6 => ?_
  refine L.call f6 wantedN rfl (by decide) (run_call Tryd.call70 (args3 f6 rfl rfl rfl)) (search_any l _ _ d _ F.sl hm (rises hr)) ?_
  clear f1 a0 f2 a2 f3 f4 a3 f5 a5
  rintro e w2 ⟨kc2, i, bb, rfl, hs⟩
  refine ⟨_, rfl, fun a7 f7 => ?_⟩
  have szw2 := kc2.size
  replace HK := HK.z kc2
  replace F := F.kept0 kc2
  replace Bg0 := Bg0.z kc2
  clear f6 a6 kc2
  refine L.val f7 wantedN rfl (by decide) (E.move f7 rfl) fun a8 f8 => ?_
  refine L.val f8 wantedN rfl (by decide) (E.extract f8 rfl rfl) fun a9 f9 => ?_
  refine L.val f9 wantedN rfl (by decide) (E.extract f9 rfl rfl) fun a10 f10 => ?_
  refine L.val f10 wantedN rfl (by decide) (E.assign f10 rfl) fun a11 f11 => ?_
  refine L.val f11 wantedN rfl (by decide) (E.assign f11 rfl) fun a12 f12 => ?_
  refine wpList_nil (hK1 _ _ ?_)
  have f13 := f12.sub (sub_cons (i := 0) rfl (sub_cons (i := 3) rfl (sub_cons (i := 4) rfl (sub_cons (i := 5) rfl (sub_cons (i := 6) rfl sn)))))
  refine wp_seq_k fun K2 hK2 => ?_
  refine wp_block ?_
  refine C.sk fun K3 hK3 => ?_
  refine L.val f13 wantedN rfl (by decide) (E.move f13 rfl) fun a14 f14 => ?_
  refine L.val f14 wantedN rfl (by decide) (E.not f14 rfl) fun a15 f15 => ?_
  clear f7 a7 f8 a8 f9 a9 f10 a10 f11 a11 f12 f13 a12 f14 a14
  refine L.val f15 wantedN rfl (by decide) (E.assign f15 rfl) fun a16 f16 => ?_
  refine wpList_nil (hK3 _ _ ?_)
  have f17 := f16.sub (sub_cons (i := 0) rfl (sub_cons (i := 3) rfl (sub_cons (i := 4) rfl (sub_cons (i := 5) rfl (sub_cons (i := 13) rfl sn)))))
  clear f15 a15 f16
  refine f17.splitNB 13 rfl (fun h0 f18 => ?_) (fun h0 f18 => ?_)
  · have hb0 := h0
    obtain rfl : bb = false := by simpa using hb0
    refine C.condT f18 rfl ?_
    refine C.sk fun K4 hK4 => ?_
    refine L.val f18 wantedN rfl (by decide) (E.move f18 rfl) fun a19 f19 => ?_
    refine L.val f19 wantedN rfl (by decide) (E.move f19 rfl) fun a20 f20 => ?_
    refine L.val f20 wantedN rfl (by decide) (E.loadB f20 U23 rfl wsz23_g7 rfl (Bg0) rfl) fun a21 f21 => ?_
    refine L.buildSlice f21 wantedN (by decide) (parts1 f21 rfl) U32 wzi23_g7 rfl rfl (wbs32_1_g7 _ _ _) fun a22 w3 g2 N2 f22 => ?_
    have Bg2 := N2.blk
    have kg2 := N2.kept
    have log2 := N2.lo
    have ltg2 := Bg2.lt
    have szw3 := kg2.size
    have neg0_g2 : g0 ≠ g2 := by have := Bg0.lt; omega
    replace HK := HK.z kg2
    replace F := F.kept0 kg2
    replace Bg0 := Bg0.z kg2
    clear f17 f18 a16 f19 a19 f20 a20 N2 kg2
    refine L.call f22 wantedN rfl (by decide) (run_call Tryd.call71 (args3 f22 rfl rfl rfl)) (insert_any l A c i g2 d w3 F.own Bg2 hs.le hm (fun a ha e => by have := hAb a ha; omega)) ?_
    clear f21 a21
    rintro e w4 ⟨A', c', rfl, OI, kc4, hwh⟩
    have FI : Fresh w0 w4 23 3 A' (l.length + 1) c' (dcells (l.take i ++ d :: l.drop i)) := ⟨OI, fun b hb => (hwh b hb).elim (F.lo b) (fun h => by have := HK.size; omega)⟩
    replace HK := HK.trans kc4 (by intro x hx hlt; have := F.lo x ((own_block A l.length c x).1 (by simpa using hx)); omega)
    refine ⟨_, rfl, fun a23 f23 => ?_⟩
    have szw4 := kc4.size
    clear f22 a22 kc4
    refine L.val f23 wantedN rfl (by decide) (E.assign f23 rfl) fun a24 f24 => ?_
    have f25 := f24.sub (sub_cons (i := 0) rfl (sub_cons (i := 4) rfl sn))
    refine wpList_nil (hK4 _ _ (wp_ret ?_)); (try simp only [xt, xb]); refine C.ret f25 rfl rfl ?_
    exact put_ins hr hd hs trivial HK FI
  have hb0 := h0
  obtain ⟨x, hx, hxn, hxe⟩ := hs.is.1 (by simpa using hb0)
  have hil := (List.getElem?_eq_some_iff.1 hx).1
  obtain ⟨b, off, hA⟩ := F.sl.addr (by omega)
  refine C.condF f18 rfl ?_
  refine wp_seq_k fun K5 hK5 => ?_
  refine R.begin (S := fun W => Kept [] w2 W) (by kernel_rfl) (by exact (Kept.refl _ _).drewN 1) ?_
  have hS4 : Kept [] w2 (w2.drewN 1) := (Kept.refl _ _).drewN 1
  have hd4 : Kept [] w2 (w2.drewN 1) := (Kept.refl _ _).drewN 1
  obtain ⟨w3, hww3⟩ : ∃ W, W = w2.drewN 1 := ⟨_, rfl⟩
  rw [← hww3] at hS4 hd4 ⊢
  clear f17 hww3
  have szw3 := hS4.size
  refine R.take 0 f18 rfl rfl (by decide) (by kernel_rfl) (by kernel_rfl) (by kernel_rfl) (fun _ _ _ _ h => h) wantedN hS4 (fun W hW => (E.move f18 rfl)) fun a19 f19 => ?_
  refine R.take 1 f19 rfl rfl (by decide) (by kernel_rfl) (by kernel_rfl) (by kernel_rfl) (fun _ _ _ _ h => h) wantedN hS4 (fun W hW => (E.move f19 rfl)) fun a20 f20 => ?_
  refine R.take 2 f20 rfl rfl (by decide) (by kernel_rfl) (by kernel_rfl) (by kernel_rfl) (fun _ _ _ _ h => h) wantedN hS4 (fun W hW => (E.indexA f20 (by assumption) U32 wsz23_g7 rfl rfl (by omega) (by omega))) fun a21 f21 => ?_
  refine R.take 3 f21 rfl rfl (by decide) (by kernel_rfl) (by kernel_rfl) (by kernel_rfl) (fun _ _ _ _ h => h) wantedN hS4 (fun W hW => (E.fieldAddrN 2 f21 U23 rfl rfl rfl wsz3_g7)) fun a22 f22 => ?_
  refine R.take 4 f22 rfl rfl (by decide) (by kernel_rfl) (by kernel_rfl) (by kernel_rfl) (fun _ _ _ _ h => h) wantedN hS4 (fun W hW => (E.load f22 U3 rfl rfl ((F.kept0 hW).sl.row (by omega) hA (dcells_at l i x hx) 2 _ rfl))) fun a23 f23 => ?_
  refine R.take 5 f23 rfl rfl (by decide) (by kernel_rfl) (by kernel_rfl) (by kernel_rfl) (fun _ _ _ _ h => h) wantedN hS4 (fun W hW => (E.fieldAddrN 2 f23 U23 rfl rfl rfl wsz3_g7)) fun a24 f24 => ?_
  refine R.take 6 f24 rfl rfl (by decide) (by kernel_rfl) (by kernel_rfl) (by kernel_rfl) (fun _ _ _ _ h => h) wantedN hS4 (fun W hW => (E.load f24 U3 rfl rfl ((Bg0.z hW).cl rfl))) fun a25 f25 => ?_
  clear f18 a16 f19 a19 f20 a20 f21 a21 f22 a22 f23 a23 f24 a24
  refine R.take 7 f25 rfl rfl (by decide) (by kernel_rfl) (by kernel_rfl) (by kernel_rfl) (fun _ _ _ _ h => h) wantedN hS4 (fun W hW => (E.lss f25 rfl rfl)) fun a26 f26 => ?_
  refine R.take 8 f26 rfl rfl (by decide) (by kernel_rfl) (by kernel_rfl) (by kernel_rfl) (fun _ _ _ _ h => h) wantedN hS4 (fun W hW => (E.assign f26 rfl)) fun a27 f27 => ?_
  have szw3r := hS4.size
  replace HK := HK.z hS4
  replace F := F.kept0 hS4
  replace Bg0 := Bg0.z hS4
  clear f25 a25 f26 a26 hS4
  refine R.done (by kernel_rfl) (hK5 _ _ ?_)
  have f28 := f27.sub (sub_cons (i := 0) rfl (sub_cons (i := 3) rfl (sub_cons (i := 4) rfl (sub_cons (i := 5) rfl (sub_cons (i := 21) rfl sn)))))
  clear f27
  refine f28.splitD 21 rfl (fun h1 f29 => ?_) (fun h1 f29 => ?_)
  · have hlt := h1
    refine C.condT f29 rfl ?_
    refine C.region ?_
    refine L.val f29 wantedN rfl (by decide) (E.move f29 rfl) fun a30 f30 => ?_
    refine L.val f30 wantedN rfl (by decide) (E.move f30 rfl) fun a31 f31 => ?_
    refine L.val f31 wantedN rfl (by decide) (E.fieldAddrN 2 f31 U23 rfl rfl rfl wsz3_g7) fun a32 f32 => ?_
    refine L.val f32 wantedN rfl (by decide) (E.load f32 U3 rfl rfl ((Bg0).cl rfl)) fun a33 f33 => ?_
    refine L.val f33 wantedN rfl (by decide) (E.indexA f33 (by assumption) U32 wsz23_g7 rfl rfl (by omega) (by omega)) fun a34 f34 => ?_
    refine L.val f34 wantedN rfl (by decide) (E.fieldAddrN 2 f34 U23 rfl rfl rfl wsz3_g7) fun a35 f35 => ?_
    refine L.storeO f35 wantedN wsz3_g7 (j := i * 3 + 2) hA F.own rfl (show off + i * 3 + 2 = _ by omega) (by rw [dcells_len]; omega) rfl rfl fun a36 w4 f36 OW2 ks => ?_
    have szw4 := ks.size
    have FS : Fresh w0 w4 23 3 A l.length c ((dcells l).set (i * 3 + 2) (.int .i64 d.n)) := ⟨OW2, F.lo⟩
    have hbw := F.lo b (by rw [hA]; rfl)
    replace HK := HK.trans ks (by intro x hx hlt; simp at hx; subst hx; omega)
    clear f28 f29 a27 f30 a30 f31 a31 f32 a32 f33 a33 f34 a34 f35 a35 ks
    have f37 := f36.sub (sub_cons (i := 0) rfl (sub_cons (i := 4) rfl sn))
    refine wpList_nil (hK2 _ _ (C.sk fun K6 hK6 => ?_))
    refine L.val f37 wantedN rfl (by decide) (E.move f37 rfl) fun a38 f38 => ?_
    refine L.val f38 wantedN rfl (by decide) (E.assign f38 rfl) fun a39 f39 => ?_
    have f40 := f39.sub (sub_cons (i := 4) rfl sn)
    refine wpList_nil (hK6 _ _ (wp_ret ?_)); (try simp only [xt, xb]); refine C.ret f40 rfl rfl ?_
    exact put_set hr hd hx hxn hxe hlt HK (by rw [dcells_set l i x d.n hx] at FS; exact FS)
  have hlt := h1
  refine C.condF f29 rfl ?_
  refine wp_skip (hK2 _ _ ?_)
  have f30 := f29.sub (sub_cons (i := 0) rfl (sub_cons (i := 4) rfl sn))
  refine C.sk fun K7 hK7 => ?_
  refine L.val f30 wantedN rfl (by decide) (E.move f30 rfl) fun a31 f31 => ?_
  refine L.val f31 wantedN rfl (by decide) (E.assign f31 rfl) fun a32 f32 => ?_
  have f33 := f32.sub (sub_cons (i := 4) rfl sn)
  refine wpList_nil (hK7 _ _ (wp_ret ?_)); (try simp only [xt, xb]); refine C.ret f33 rfl rfl ?_
  exact put_same hr hd hx hxn hxe hlt HK F
set_option maxHeartbeats 1000000 in
theorem Add_any (l : List Dt) (A : Option Addr) (c : Nat) (d : Dt) (w : World) (A1 : Ds w A l) (hm : l.length ≤ 1000000) : Calls Tryd.prog 45 #[.slice A l.length c, .agg (dcell d).toArray] w (DotsPost (addD l d) w) := by
  have HK : Kept [] w w := Kept.refl [] w
  refine C.enter Tryd.func45 rfl Tryd.ntmps45 rfl ?_
  intro a0 f0
  have f1 : Fr 17 a0 [(0, .slice A l.length c), (1, .agg (dcell d).toArray)] := f0
  refine C.sk fun K0 hK0 => ?_
  refine L.box f1 wantedN (by decide) rfl rfl fun a2 w1 g0 N0 f2 => ?_
  have Bg0 := N0.blk
  have kg0 := N0.kept
  have log0 := N0.lo
  have ltg0 := Bg0.lt
  have szw1 := kg0.size
  have frg0 : w.heap.size ≤ g0 := Nat.le_trans HK.size log0
  replace HK := HK.z kg0
  clear f0 N0 kg0
  refine L.val f2 wantedN rfl (by decide) (E.assign f2 rfl) fun a3 f3 => ?_
  refine wpList_nil (hK0 _ _ ?_)
  have f4 := f3.sub (sub_cons (i := 0) rfl (sub_cons (i := 3) rfl (sub_cons (i := 4) rfl sn)))
  refine wp_seq_k fun K1 hK1 => ?_
  refine C.sk fun K2 hK2 => ?_
  refine L.val f4 wantedN rfl (by decide) (E.move f4 rfl) fun a5 f5 => ?_
  refine L.call f5 wantedN rfl (by decide) (run_call Tryd.call60 (args1 f5 rfl)) (right_any l _ _ _ (A1.kept HK) (by unfold maxLen; omega)) ?_
  clear f1 a0 f2 a2 f3 f4 a3
  rintro e w2 ⟨kc2, rfl⟩
  refine ⟨_, rfl, fun a6 f6 => ?_⟩
  have szw2 := kc2.size
  replace HK := HK.z kc2
  replace Bg0 := Bg0.z kc2
  clear f5 a5 kc2
  refine L.val f6 wantedN rfl (by decide) (E.not f6 rfl) fun a7 f7 => ?_
  refine wpList_nil (hK2 _ _ ?_)
  have f8 := f7.sub (sub_cons (i := 0) rfl (sub_cons (i := 3) rfl (sub_cons (i := 4) rfl (sub_cons (i := 7) rfl sn))))
  clear f6 a6 f7
  refine f8.splitNB 7 rfl (fun h0 f9 => ?_) (fun h0 f9 => ?_)
  · have hrb := h0
    refine C.condT f9 rfl ?_
    refine C.sk fun K3 hK3 => ?_
    refine L.val f9 wantedN rfl (by decide) (E.assign f9 rfl) fun a10 f10 => ?_
    have f11 := f10.sub (sub_cons (i := 0) rfl (sub_cons (i := 3) rfl (sub_cons (i := 4) rfl sn)))
    refine wpList_nil (hK3 _ _ (wp_ret ?_)); (try simp only [xt, xb]); refine C.ret f11 rfl rfl ?_
    exact ⟨HK, none, 0, by simp [addD, hrb], by rw [show addD l d = [] by simp [addD, hrb]]; exact Fresh.nil _ _ _ _⟩
  have hrb := h0
  refine C.condF f9 rfl ?_
  refine wp_skip (hK1 _ _ ?_)
  have f10 := f9.sub (sub_cons (i := 0) rfl (sub_cons (i := 3) rfl (sub_cons (i := 4) rfl sn)))
  refine C.sk fun K4 hK4 => ?_
  refine L.val f10 wantedN rfl (by decide) (E.move f10 rfl) fun a11 f11 => ?_
  refine L.call f11 wantedN rfl (by decide) (run_call Tryd.call40 (args1 f11 rfl)) (clone_any l _ _ _ (A1.kept HK) hm) ?_
  clear f8 f9 f10 a7
  rintro e w3 ⟨kc3, Ac, cc, rfl, FC⟩
  have FC := FC.lower (w0 := w) (by have := HK.size; omega)
  refine ⟨_, rfl, fun a12 f12 => ?_⟩
  have szw3 := kc3.size
  replace HK := HK.z kc3
  replace Bg0 := Bg0.z kc3
  clear f11 a11 kc3
  refine L.val f12 wantedN rfl (by decide) (E.assign f12 rfl) fun a13 f13 => ?_
  refine wpList_nil (hK4 _ _ ?_)
  have f14 := f13.sub (sub_cons (i := 0) rfl (sub_cons (i := 3) rfl (sub_cons (i := 4) rfl sn)))
  refine wp_seq_k fun K5 hK5 => ?_
  refine C.sk fun K6 hK6 => ?_
  refine L.val f14 wantedN rfl (by decide) (E.loadB f14 U23 rfl wsz23_g7 rfl (Bg0) rfl) fun a15 f15 => ?_
  refine L.call f15 wantedN rfl (by decide) (run_call Tryd.call62 (args1 f15 rfl)) (may_any d _) ?_
  clear f12 a12 f13 f14 a13
  rintro e w4 ⟨kc4, rfl⟩
  refine ⟨_, rfl, fun a16 f16 => ?_⟩
  have szw4 := kc4.size
  replace HK := HK.z kc4
  replace Bg0 := Bg0.z kc4
  replace FC := FC.kept0 kc4
  clear f15 a15 kc4
  refine L.val f16 wantedN rfl (by decide) (E.not f16 rfl) fun a17 f17 => ?_
  refine wpList_nil (hK6 _ _ ?_)
  have f18 := f17.sub (sub_cons (i := 0) rfl (sub_cons (i := 3) rfl (sub_cons (i := 4) rfl (sub_cons (i := 12) rfl sn))))
  clear f16 a16 f17
  refine f18.splitNB 12 rfl (fun h1 f19 => ?_) (fun h1 f19 => ?_)
  · have hmy := h1
    refine C.condT f19 rfl ?_
    refine C.sk fun K7 hK7 => ?_
    refine L.val f19 wantedN rfl (by decide) (E.move f19 rfl) fun a20 f20 => ?_
    refine L.val f20 wantedN rfl (by decide) (E.assign f20 rfl) fun a21 f21 => ?_
    have f22 := f21.sub (sub_cons (i := 0) rfl (sub_cons (i := 3) rfl (sub_cons (i := 4) rfl sn)))
    refine wpList_nil (hK7 _ _ (wp_ret ?_)); (try simp only [xt, xb]); refine C.ret f22 rfl rfl ?_
    exact ⟨HK, Ac, cc, by rw [add_no hrb hmy], by rw [add_no hrb hmy]; exact FC⟩
  have hmy := h1
  refine C.condF f19 rfl ?_
  refine wp_skip (hK5 _ _ ?_)
  have f20 := f19.sub (sub_cons (i := 0) rfl (sub_cons (i := 3) rfl (sub_cons (i := 4) rfl sn)))
  refine C.sk fun K8 hK8 => ?_
  refine L.val f20 wantedN rfl (by decide) (E.move f20 rfl) fun a21 f21 => ?_
  refine L.val f21 wantedN rfl (by decide) (E.loadB f21 U23 rfl wsz23_g7 rfl (Bg0) rfl) fun a22 f22 => ?_
  refine L.call f22 wantedN rfl (by decide) (run_call Tryd.call63 (args2 f22 rfl rfl)) (put_any l Ac cc d w w4 FC HK hrb hmy hm) ?_
  clear f18 f19 f20 a17 f21 a21
  rintro e w5 ⟨kc5, A2, c2, rfl, F2⟩
  have kput := kc5
  refine ⟨_, rfl, fun a23 f23 => ?_⟩
  have szw5 := kc5.size
  clear f22 a22 kc5
  refine L.val f23 wantedN rfl (by decide) (E.assign f23 rfl) fun a24 f24 => ?_
  have f25 := f24.sub (sub_cons (i := 4) rfl sn)
  refine wpList_nil (hK8 _ _ (wp_ret ?_)); (try simp only [xt, xb]); refine C.ret f25 rfl rfl ?_
  exact ⟨kput, A2, c2, rfl, F2⟩
end Go.Proofs.YtekmhcdgmgbheaaDoor
namespace Go.Proofs.YtekmhcdgmgbheaaDoor
open Go.RowKit Go.Hub
theorem wzi3_g8 : (Tryd.prog.info? 3).map (fun i => (i.zero, i.size)) = some (some (.int .i64 0), 1) := by kernel_rfl
theorem wbs94_2_g8 (x0 : Int) (x1 : Int) : Instr.fill (fun i => some (i * 1, 1)) ((Array.range (2 * 1)).map fun j => (Value.cells (.int .i64 0))[j % (Value.cells (.int .i64 0)).size]!) [(0, .int .i64 x0), (1, .int .i64 x1)] = some #[.int .i64 x0, .int .i64 x1] := by kernel_rfl
theorem wsz3_g8 : (Tryd.prog.info? 3).map (·.size) = some 1 := by kernel_rfl
theorem wsz23_g8 : (Tryd.prog.info? 23).map (·.size) = some 3 := by kernel_rfl
theorem before_is (p q : Dt) : decide ((if livesI p q = 0 then cmpI p.n q.n else livesI p q) < 0) = decide (lt3 p q) := by
  rw [decide_eq_decide]
  unfold livesI cmpI lt3
  repeat' split
  all_goals omega
set_option maxHeartbeats 1000000 in
theorem Before_any (p q : Dt) (w : World) : Calls Tryd.prog 15 #[.agg (dcell p).toArray, .agg (dcell q).toArray] w (fun e w' => Kept [] w w' ∧ e = .returned (.bool (decide (lt3 p q)))) := by
  have HK : Kept [] w w := Kept.refl [] w
  refine C.enter Tryd.func15 rfl Tryd.ntmps15 rfl ?_
  intro a0 f0
  have f1 : Fr 16 a0 [(0, .agg (dcell p).toArray), (1, .agg (dcell q).toArray)] := f0
  refine C.sk fun K0 hK0 => ?_
  refine L.box f1 wantedN (by decide) rfl rfl fun a2 w1 g0 N0 f2 => ?_
  have Bg0 := N0.blk
  have kg0 := N0.kept
  have log0 := N0.lo
  have ltg0 := Bg0.lt
  have szw1 := kg0.size
  have frg0 : w.heap.size ≤ g0 := Nat.le_trans HK.size log0
  replace HK := HK.z kg0
  clear f0 N0 kg0
  refine L.box f2 wantedN (by decide) rfl rfl fun a3 w2 g1 N1 f3 => ?_
  have Bg1 := N1.blk
  have kg1 := N1.kept
  have log1 := N1.lo
  have ltg1 := Bg1.lt
  have szw2 := kg1.size
  have frg1 : w.heap.size ≤ g1 := Nat.le_trans HK.size log1
  have neg0_g1 : g0 ≠ g1 := by have := Bg0.lt; omega
  replace HK := HK.z kg1
  replace Bg0 := Bg0.z kg1
  clear f1 a0 N1 kg1
  refine L.val f3 wantedN rfl (by decide) (E.assign f3 rfl) fun a4 f4 => ?_
  refine wpList_nil (hK0 _ _ ?_)
  have f5 := f4.sub (sub_cons (i := 2) rfl (sub_cons (i := 3) rfl (sub_cons (i := 4) rfl sn)))
  refine wp_seq_k fun K1 hK1 => ?_
  refine R.begin (S := fun W => Kept [] w2 W) (by kernel_rfl) (by exact (Kept.refl _ _).drewN 1) ?_
  have hS1 : Kept [] w2 (w2.drewN 1) := (Kept.refl _ _).drewN 1
  have hd1 : Kept [] w2 (w2.drewN 1) := (Kept.refl _ _).drewN 1
  obtain ⟨w3, hww3⟩ : ∃ W, W = w2.drewN 1 := ⟨_, rfl⟩
  rw [← hww3] at hS1 hd1 ⊢
  clear f2 a2 f3 a3 f4 hww3
  have szw3 := hS1.size
  refine R.take 0 f5 rfl rfl (by decide) (by kernel_rfl) (by kernel_rfl) (by kernel_rfl) (fun _ _ _ _ h => h) wantedN hS1 (fun W hW => (E.loadB f5 U23 rfl wsz23_g8 rfl (Bg0.z hW) rfl)) fun a6 f6 => ?_
  refine R.take 1 f6 rfl rfl (by decide) (by kernel_rfl) (by kernel_rfl) (by kernel_rfl) (fun _ _ _ _ h => h) wantedN hS1 (fun W hW => (E.loadB f6 U23 rfl wsz23_g8 rfl (Bg1.z hW) rfl)) fun a7 f7 => ?_
  refine R.take 3 f7 rfl rfl (by decide) (by kernel_rfl) (by kernel_rfl) (by kernel_rfl) (fun _ _ _ _ h => h) wantedN hS1 (fun W hW => (E.fieldAddrN 2 f7 U23 rfl rfl rfl wsz3_g8)) fun a8 f8 => ?_
  refine R.take 4 f8 rfl rfl (by decide) (by kernel_rfl) (by kernel_rfl) (by kernel_rfl) (fun _ _ _ _ h => h) wantedN hS1 (fun W hW => (E.load f8 U3 rfl rfl ((Bg0.z hW).cl rfl))) fun a9 f9 => ?_
  refine R.take 5 f9 rfl rfl (by decide) (by kernel_rfl) (by kernel_rfl) (by kernel_rfl) (fun _ _ _ _ h => h) wantedN hS1 (fun W hW => (E.fieldAddrN 2 f9 U23 rfl rfl rfl wsz3_g8)) fun a10 f10 => ?_
  refine R.take 6 f10 rfl rfl (by decide) (by kernel_rfl) (by kernel_rfl) (by kernel_rfl) (fun _ _ _ _ h => h) wantedN hS1 (fun W hW => (E.load f10 U3 rfl rfl ((Bg1.z hW).cl rfl))) fun a11 f11 => ?_
  refine R.call 2 f11 rfl rfl (by decide) (by kernel_rfl) wantedN (run_call Tryd.call36 (args2 f11 rfl rfl)) (lives_any p q _) ?_
  clear f5 a4 f6 a6 f7 a7 f8 a8 f9 a9 f10 a10
  rintro e w4 ⟨kc4, rfl⟩
  replace hS1 := hS1.trans kc4 (by simp)
  refine ⟨_, rfl, hS1, fun a12 f12 => ?_⟩
  have szw4 := kc4.size
  clear f11 a11 kc4
  refine R.call 7 f12 rfl rfl (by decide) (by kernel_rfl) wantedN (run_call Tryd.call35 (args2 f12 rfl rfl)) (cmp_any _ _ _) ?_
  rintro e w4x ⟨rfl, rfl⟩
  refine ⟨_, rfl, hS1, fun a13 f13 => ?_⟩
  refine R.one 8 (by kernel_rfl) ?_
  refine O.buildSlice f13 rfl wantedN (by decide) (parts2 f13 rfl rfl) Tryd.underlying94 wzi3_g8 rfl rfl (wbs94_2_g8 _ _) (fun _ hk => hS1.trans hk (by simp)) fun a14 w5 g4 N4 hSn f14 => ?_
  have Bg4 := N4.blk
  have kg4 := N4.kept
  have log4 := N4.lo
  have ltg4 := Bg4.lt
  have szw5 := kg4.size
  have szSw5 := hS1.size
  clear f12 a12 f13 a13 N4 kg4
  replace hS1 := hSn
  clear hSn
  refine R.call 9 f14 rfl rfl (by decide) (by kernel_rfl) wantedN (run_call Tryd.call32 (args1 f14 rfl)) (or_any _ _ _ _ _ Bg4) ?_
  rintro e w5x ⟨rfl, rfl⟩
  refine ⟨_, rfl, hS1, fun a15 f15 => ?_⟩
  refine R.take 10 f15 rfl rfl (by decide) (by kernel_rfl) (by kernel_rfl) (by kernel_rfl) (fun _ _ _ _ h => h) wantedN hS1 (fun W hW => (E.lss f15 rfl rfl)) fun a16 f16 => ?_
  refine R.take 11 f16 rfl rfl (by decide) (by kernel_rfl) (by kernel_rfl) (by kernel_rfl) (fun _ _ _ _ h => h) wantedN hS1 (fun W hW => (E.assign f16 rfl)) fun a17 f17 => ?_
  have szw5r := hS1.size
  replace HK := HK.z hS1
  replace Bg0 := Bg0.z hS1
  replace Bg1 := Bg1.z hS1
  clear f14 a14 f15 a15 f16 a16 hS1
  refine R.done (by kernel_rfl) (hK1 _ _ ?_)
  have f18 := f17.sub (sub_cons (i := 4) rfl sn)
  refine wp_ret ?_; (try simp only [xt, xb]); refine C.ret f18 rfl rfl ?_
  exact ⟨HK, by rw [before_is]⟩
end Go.Proofs.YtekmhcdgmgbheaaDoor
namespace Go.Hub
open Go.RowKit Go.Lib
def Iter (w : World) (g : Nat) (s : ByteArray) (pos : Nat) : Prop := w.heap[g]? = some (.stringIter s pos)
def nextV (s : ByteArray) (pos : Nat) : Array Value := if pos < s.size then #[.bool true, .int .i64 pos, .int .i32 (Utf8.decode s pos).1] else #[.bool false]
def nextP (s : ByteArray) (pos : Nat) : Nat := if pos < s.size then pos + (Utf8.decode s pos).2 else pos
section
variable {w w' : World} {g : Nat} {s : ByteArray} {pos : Nat} {L : List Nat}
theorem Iter.lt (h : Iter w g s pos) : g < w.heap.size := (Array.getElem?_eq_some_iff.1 h).1
theorem Iter.kept (h : Iter w g s pos) (hk : Kept L w w') (hg : g ∉ L) : Iter w' g s pos := (hk.block g h.lt hg).trans h
theorem nextV_ok : (nextV s pos)[0]? = some (.bool (decide (pos < s.size))) := by
  unfold nextV
  split
  · rename_i h; simp [h]
  rename_i h; simp [h]
theorem nextV_pos (h : pos < s.size) : (nextV s pos)[1]? = some (.int .i64 pos) := by unfold nextV; rw [if_pos h]; rfl
theorem nextV_rune (h : pos < s.size) : (nextV s pos)[2]? = some (.int .i32 (Utf8.decode s pos).1) := by unfold nextV; rw [if_pos h]; rfl
theorem nextP_at (h : pos < s.size) : nextP s pos = pos + (Utf8.decode s pos).2 := by unfold nextP; rw [if_pos h]
end
section
variable {P : Program} {ops : Array Oper} {rest : List Oper} {a : Act} {w : World} {Q : Exit → Act → World → Prop} {n d : Nat} {l : FL} {ty : TypeId} {ps : String} {af : Array Edge} {gd : Option (Nat × Bool)} {x : Operand} {t : TypeId}
theorem L.range (f : Fr n a l) (hw : Region.wanted ⟨some d, .range t x, ty, ps, af, gd⟩ (yielded ops a.tmps) = true) (hn : d < n) {s : ByteArray} (ht : P.underlying t = some .string) (hx : evl l x = some (.string s))
    (hK : ∀ a' w' g, Iter w' g s 0 → Kept [] w w' → w.heap.size ≤ g → Fr n a' ((d, .pointer (some ⟨g, 0, none⟩)) :: l) → wpList P ops Q rest a' w') : wpList P ops Q (⟨some d, .range t x, ty, ps, af, gd⟩ :: rest) a w :=
  L.val (v := .pointer (some ⟨w.heap.size, 0, none⟩)) (w' := w.iter s 0) f hw rfl hn (by simp [execOp, f.ev hx, run_range_string w t s ht]) fun a' f' => hK a' _ _ (World.iter_heap w s 0) ((Kept.refl [] w).alloc _) (Nat.le_refl _) f'
theorem L.next (f : Fr n a l) (hw : Region.wanted ⟨some d, .next x true, ty, ps, af, gd⟩ (yielded ops a.tmps) = true) (hn : d < n) {g : Nat} {s : ByteArray} {pos : Nat} (hx : evl l x = some (.pointer (some ⟨g, 0, none⟩))) (h : Iter w g s pos)
    (hK : ∀ a' w', Iter w' g s (nextP s pos) → Kept [g] w w' → Fr n a' ((d, .tuple (nextV s pos)) :: l) → wpList P ops Q rest a' w') : wpList P ops Q (⟨some d, .next x true, ty, ps, af, gd⟩ :: rest) a w := by
  by_cases hp : pos < s.size
  · have hr := run_next_any_at (P := P) w g s pos ty h hp
    refine L.val (v := .tuple (nextV s pos)) (w' := w.iterAt g s (pos + (Utf8.decode s pos).2)) f hw rfl hn (by simp [execOp, f.ev hx, hr, nextV, hp]) fun a' f' => hK a' _ (by rw [nextP_at hp]; exact iterAt_heap w g s pos _ h) ⟨rfl, rfl, rfl, by rw [iterAt_size]; exact Nat.le_refl _, fun j _ hj => iterAt_other w g j s _ (by simpa using hj)⟩ f'
  have hr := run_next_end_at (P := P) w g s pos ty h hp
  refine L.val (v := .tuple (nextV s pos)) (w' := w) f hw rfl hn (by simp [execOp, f.ev hx, hr, nextV, hp]) fun a' f' => hK a' _ (by unfold nextP; rw [if_neg hp]; exact h) (Kept.refl _ _) f'
end
end Go.Hub
namespace Go.Proofs.YtekmhcdgmgbheaaDoor
open Go.RowKit Go.Hub
def wildI (r : Int) : Bool := decide (r = 43) || decide (r = 35)
def prefB (s p : ByteArray) : Bool := decide (p.size ≤ s.size) && decide (s.extract 0 p.size = p)
theorem byte_at (s : ByteArray) (j : Nat) : s[j]? = s.data[j]? := by
  by_cases h : j < s.size
  · rw [getElem?_pos s j h, Array.getElem?_eq_getElem (xs := s.data) h]; rfl
  rw [getElem?_neg s j h, Array.getElem?_eq_none (xs := s.data) (by simpa using h)]
set_option maxHeartbeats 1000000 in
theorem wild_any (r : Int) (w : World) : Calls Tryd.prog 38 #[.int .i32 r] w (fun e w' => w = w' ∧ e = .returned (.bool (wildI r))) := by
  refine C.enter Tryd.func38 rfl Tryd.ntmps38 rfl ?_
  intro a0 f0
  have f1 : Fr 9 a0 [(0, .int .i32 r)] := f0
  refine C.sk fun K0 hK0 => ?_
  refine L.val f1 wantedN rfl (by decide) (E.assign f1 rfl) fun a2 f2 => ?_
  have f3 := f2.sub (sub_cons (i := 0) rfl (sub_cons (i := 2) rfl sn))
  refine wpList_nil (hK0 _ _ (C.sk fun K1 hK1 => ?_))
  refine L.val f3 wantedN rfl (by decide) (E.move f3 rfl) fun a4 f4 => ?_
  refine L.val f4 wantedN rfl (by decide) (E.eql f4 rfl rfl) fun a5 f5 => ?_
  refine L.val f5 wantedN rfl (by decide) (E.move f5 rfl) fun a6 f6 => ?_
  clear f0 f1 a0 f2 f3 a2 f4 a4 f5 a5
  refine f6.splitD 5 rfl (fun h0 f7 => ?_) (fun h0 f7 => ?_)
  · refine L.run f7 (rest' := []) (by kernel_rfl) fun a8 f8 => ?_
    clear f6
    have f9 := f8.sub (sv 2 (.bool true) sn)
    refine wpList_nil (hK1 _ _ (wp_ret ?_)); (try simp only [xt, xb]); refine C.ret f9 rfl rfl ?_
    exact ⟨rfl, by simp [wildI, *]⟩
  refine L.val f7 (f7.yes rfl rfl) rfl (by decide) (E.move f7 rfl) fun a8 f8 => ?_
  refine L.val f8 (f8.yes rfl rfl) rfl (by decide) (E.eql f8 rfl rfl) fun a9 f9 => ?_
  refine L.val f9 wantedN rfl (by decide) (E.pickF f9 rfl rfl) fun a10 f10 => ?_
  refine L.val f10 wantedN rfl (by decide) (E.assign f10 rfl) fun a11 f11 => ?_
  have f12 := f11.sub (sub_cons (i := 2) rfl sn)
  refine wpList_nil (hK1 _ _ (wp_ret ?_)); (try simp only [xt, xb]); refine C.ret f12 rfl rfl ?_
  exact ⟨rfl, by simp [wildI, *]⟩
set_option maxHeartbeats 1000000 in
theorem prefl_any (s p : ByteArray) (w : World) : Calls Tryd.prog 75 #[.string s, .string p] w (fun e w' => w = w' ∧ e = .returned (.bool (prefB s p))) := by
  refine C.enter Tryd.func75 rfl Tryd.ntmps75 rfl ?_
  intro a0 f0
  have f1 : Fr 18 a0 [(0, .string s), (1, .string p)] := f0
  refine C.sk fun K0 hK0 => ?_
  refine L.val f1 wantedN rfl (by decide) (E.assign f1 rfl) fun a2 f2 => ?_
  have f3 := f2.sub (sub_cons (i := 0) rfl (sub_cons (i := 1) rfl (sub_cons (i := 4) rfl sn)))
  refine wpList_nil (hK0 _ _ (C.sk fun K1 hK1 => ?_))
  refine L.val f3 wantedN rfl (by decide) (E.move f3 rfl) fun a4 f4 => ?_
  refine L.val f4 wantedN rfl (by decide) (E.lenS f4 U9 rfl) fun a5 f5 => ?_
  refine L.val f5 wantedN rfl (by decide) (E.move f5 rfl) fun a6 f6 => ?_
  refine L.val f6 wantedN rfl (by decide) (E.lenS f6 U9 rfl) fun a7 f7 => ?_
  refine L.val f7 wantedN rfl (by decide) (E.geq f7 rfl rfl) fun a8 f8 => ?_
  clear f0 f1 a0 f2 f3 a2 f4 a4 f5 a5 f6 a6 f7 a7
  refine L.val f8 wantedN rfl (by decide) (E.move f8 rfl) fun a9 f9 => ?_
  clear f8 a8
  refine f9.splitD 10 rfl (fun h0 f10 => ?_) (fun h0 f10 => ?_)
  · refine L.val f10 (f10.yes rfl rfl) rfl (by decide) (E.move f10 rfl) fun a11 f11 => ?_
    refine L.val f11 (f11.yes rfl rfl) rfl (by decide) (E.move f11 rfl) fun a12 f12 => ?_
    refine L.val f12 (f12.yes rfl rfl) rfl (by decide) (E.lenS f12 U9 rfl) fun a13 f13 => ?_
    refine L.val f13 (f13.yes rfl rfl) rfl (by decide) (E.slShi f13 U9 rfl rfl (by omega) (by omega) ) fun a14 f14 => ?_
    refine L.val f14 (f14.yes rfl rfl) rfl (by decide) (E.move f14 rfl) fun a15 f15 => ?_
    refine L.val f15 (f15.yes rfl rfl) rfl (by decide) (E.eqlS f15 rfl rfl) fun a16 f16 => ?_
    refine L.val f16 wantedN rfl (by decide) (E.pickT f16 rfl rfl) fun a17 f17 => ?_
    clear f9 f10 a9 f11 a11 f12 a12 f13 a13 f14 a14 f15 a15 f16 a16
    refine L.val f17 wantedN rfl (by decide) (E.assign f17 rfl) fun a18 f18 => ?_
    have f19 := f18.sub (sub_cons (i := 4) rfl sn)
    refine wpList_nil (hK1 _ _ (wp_ret ?_)); (try simp only [xt, xb]); refine C.ret f19 rfl rfl ?_
    exact ⟨rfl, by have h0' := h0; simp only [Int.ofNat_le] at h0'; simp [prefB, h0']⟩
  refine L.run f10 (rest' := []) (by kernel_rfl) fun a11 f11 => ?_
  clear f9
  have f12 := f11.sub (sv 4 (.bool false) sn)
  refine wpList_nil (hK1 _ _ (wp_ret ?_)); (try simp only [xt, xb]); refine C.ret f12 rfl rfl ?_
  exact ⟨rfl, by have h0' := h0; simp only [Int.ofNat_le] at h0'; simp [prefB, h0']⟩
set_option maxHeartbeats 1000000 in
theorem pref_any (s p : ByteArray) (w : World) : Calls Tryd.prog 68 #[.string s, .string p] w (fun e w' => w = w' ∧ e = .returned (.bool (prefB s p))) := by
  refine C.enter Tryd.func68 rfl Tryd.ntmps68 rfl ?_
  intro a0 f0
  have f1 : Fr 8 a0 [(0, .string s), (1, .string p)] := f0
  refine C.sk fun K0 hK0 => ?_
  refine L.val f1 wantedN rfl (by decide) (E.assign f1 rfl) fun a2 f2 => ?_
  have f3 := f2.sub (sub_cons (i := 0) rfl (sub_cons (i := 1) rfl (sub_cons (i := 4) rfl sn)))
  refine wpList_nil (hK0 _ _ (C.sk fun K1 hK1 => ?_))
  refine L.val f3 wantedN rfl (by decide) (E.move f3 rfl) fun a4 f4 => ?_
  refine L.val f4 wantedN rfl (by decide) (E.move f4 rfl) fun a5 f5 => ?_
  refine L.call f5 wantedN rfl (by decide) (run_call Tryd.call75 (args2 f5 rfl rfl)) (prefl_any s p _) ?_
  clear f0 f1 a0 f2 f3 a2 f4 a4
  rintro e wx ⟨rfl, rfl⟩
  refine ⟨_, rfl, fun a6 f6 => ?_⟩
  refine L.val f6 wantedN rfl (by decide) (E.assign f6 rfl) fun a7 f7 => ?_
  have f8 := f7.sub (sub_cons (i := 4) rfl sn)
  refine wpList_nil (hK1 _ _ (wp_ret ?_)); (try simp only [xt, xb]); refine C.ret f8 rfl rfl ?_
  exact ⟨rfl, rfl⟩
set_option maxHeartbeats 1000000 in
theorem hidden_any (s : ByteArray) (w : World) : Calls Tryd.prog 55 #[.string s] w (fun e w' => w = w' ∧ e = .returned (.bool (prefB s ⟨#[36]⟩))) := by
  refine C.enter Tryd.func55 rfl Tryd.ntmps55 rfl ?_
  intro a0 f0
  have f1 : Fr 5 a0 [(0, .string s)] := f0
  refine C.sk fun K0 hK0 => ?_
  refine L.val f1 wantedN rfl (by decide) (E.assign f1 rfl) fun a2 f2 => ?_
  have f3 := f2.sub (sub_cons (i := 0) rfl (sub_cons (i := 2) rfl sn))
  refine wpList_nil (hK0 _ _ (C.sk fun K1 hK1 => ?_))
  refine L.val f3 wantedN rfl (by decide) (E.move f3 rfl) fun a4 f4 => ?_
  refine L.call f4 wantedN rfl (by decide) (run_call Tryd.call68 (args2 f4 rfl rfl)) (pref_any s _ _) ?_
  clear f0 f1 a0 f2 f3 a2
  rintro e wx ⟨rfl, rfl⟩
  refine ⟨_, rfl, fun a5 f5 => ?_⟩
  refine L.val f5 wantedN rfl (by decide) (E.assign f5 rfl) fun a6 f6 => ?_
  have f7 := f6.sub (sub_cons (i := 2) rfl sn)
  refine wpList_nil (hK1 _ _ (wp_ret ?_)); (try simp only [xt, xb]); refine C.ret f7 rfl rfl ?_
  exact ⟨rfl, rfl⟩
end Go.Proofs.YtekmhcdgmgbheaaDoor
namespace Go.Proofs.YtekmhcdgmgbheaaDoor
open Go.RowKit Go.Hub
theorem wsz9_tb : (Tryd.prog.info? 9).map (·.size) = some 1 := by kernel_rfl
def Ss (w : World) (A : Option Addr) (l : List ByteArray) : Prop := Sl w A l.length 1 (l.map .string)
def tailA (A : Option Addr) (c : Nat) : Option Addr := if c = 1 then A else A.map (·.add 1)
section
variable {w w' : World} {A : Option Addr} {l : List ByteArray} {x : ByteArray} {b off k c : Nat}
theorem Ss.kept (h : Ss w A l) (hk : Kept [] w w') : Ss w' A l := Sl.kept h hk
theorem Ss.addr (h : Ss w A l) (hk : k < l.length) : ∃ b off, A = some ⟨b, off, none⟩ := Sl.addr h (by omega)
theorem ss_cell (h : Ss w A l) (hA : A = some ⟨b, off, none⟩) (hx : l[k]? = some x) : w.cell? ⟨b, off + Int.toNat (k : Int) * 1, none⟩ = some (.string x) := by
  have hk := (List.getElem?_eq_some_iff.1 hx).1
  rw [Int.toNat_natCast, Nat.mul_one]
  exact Sl.cell h (by omega) hA (by simp [hx])
theorem ss_cell0 (h : Ss w A l) (hA : A = some ⟨b, off, none⟩) (hx : l[0]? = some x) : w.cell? ⟨b, off + Int.toNat 0 * 1, none⟩ = some (.string x) := ss_cell h hA hx
theorem Ss.nil (w : World) (A : Option Addr) : Ss w A [] := Sl.nil w A 1
theorem Ss.tail (h : Ss w A l) (hc : l.length ≤ c) : Ss w (tailA A c) (l.drop 1) := by
  unfold tailA
  match l with
  | [] => exact Ss.nil _ _
  | x :: l =>
    by_cases e : c = 1
    · have : l = [] := by
        simp at hc
        exact List.eq_nil_of_length_eq_zero (by omega)
      subst this
      exact Ss.nil _ _
    rw [if_neg e]
    refine ⟨by simp, fun hn => ?_⟩
    obtain ⟨b, off, hA, hb, hq⟩ := h.2 (by simp)
    refine ⟨b, off + 1, by rw [hA]; rfl, hb, fun j u hu => ?_⟩
    rw [Nat.add_assoc, Nat.add_comm 1 j]
    exact hq (j + 1) u (by simpa using hu)
end
def goesB : List ByteArray → List ByteArray → Bool
  | [], t => decide (((t.length : Nat) : Int) = 0)
  | x :: f, t => decide (x = ⟨#[35]⟩) || match t with
    | [] => false
    | y :: t => (decide (x = ⟨#[43]⟩) || decide (x = y)) && goesB f t
section
variable {us vs : List ByteArray} {x y : ByteArray}
theorem nil_of {l : List ByteArray} (h : l.length = 0) : l = [] := List.eq_nil_of_length_eq_zero h
theorem cons_of {l : List ByteArray} (h : l[0]? = some x) : l = x :: l.drop 1 := by
  match l with
  | [] => simp at h
  | a :: r => simp at h; simp [h]
theorem goes_nil (h : us.length = 0) : goesB us vs = decide (((vs.length : Nat) : Int) = 0) := by rw [nil_of h]; rfl
theorem goes_hash (hx : us[0]? = some x) (h : x = ⟨#[35]⟩) : goesB us vs = true := by rw [cons_of hx]; cases vs <;> simp [goesB, h]
theorem goes_end (hx : us[0]? = some x) (h : ¬ x = ⟨#[35]⟩) (h' : vs.length = 0) : goesB us vs = false := by rw [cons_of hx, nil_of h', goesB]; simp [h]
theorem goes_step (hx : us[0]? = some x) (hy : vs[0]? = some y) (h : ¬ x = ⟨#[35]⟩) : goesB us vs = ((decide (x = ⟨#[43]⟩) || decide (x = y)) && goesB (us.drop 1) (vs.drop 1)) := by
  conv => lhs; rw [cons_of hx, cons_of hy, goesB]
  simp [h]
end
set_option maxHeartbeats 1000000 in
theorem goes_one (us vs : List ByteArray) (A A' : Option Addr) (c c' : Nat) (w : World) (A1 : Ss w A us) (A2 : Ss w A' vs) (hc : us.length ≤ c) (hc' : vs.length ≤ c') (hl : us.length ≤ 1000000) (hl' : vs.length ≤ 1000000) (ih : ∀ (us' vs' : List ByteArray) (A A' : Option Addr) (c c' : Nat) (w : World), us'.length < us.length → Ss w A us' → Ss w A' vs' → us'.length ≤ c → vs'.length ≤ c' → us'.length ≤ 1000000 → vs'.length ≤ 1000000 → Calls Tryd.prog 56 #[.slice A us'.length c, .slice A' vs'.length c'] w (fun e w' => Kept [] w w' ∧ e = .returned (.bool (goesB us' vs')))) : Calls Tryd.prog 56 #[.slice A us.length c, .slice A' vs.length c'] w (fun e w' => Kept [] w w' ∧ e = .returned (.bool (goesB us vs))) := by
  have HK : Kept [] w w := Kept.refl [] w
  refine C.enter Tryd.func56 rfl Tryd.ntmps56 rfl ?_
  intro a0 f0
  have f1 : Fr 41 a0 [(0, .slice A us.length c), (1, .slice A' vs.length c')] := f0
  refine C.sk fun K0 hK0 => ?_
  refine L.val f1 wantedN rfl (by decide) (E.assign f1 rfl) fun a2 f2 => ?_
  refine wpList_nil (hK0 _ _ ?_)
  have f3 := f2.sub (sub_cons (i := 0) rfl (sub_cons (i := 1) rfl (sub_cons (i := 4) rfl sn)))
  refine wp_seq_k fun K1 hK1 => ?_
  refine wp_block ?_
  refine C.sk fun K2 hK2 => ?_
  refine L.val f3 wantedN rfl (by decide) (E.move f3 rfl) fun a4 f4 => ?_
  refine L.val f4 wantedN rfl (by decide) (E.lenL f4 Tryd.underlying91 rfl) fun a5 f5 => ?_
  refine L.val f5 wantedN rfl (by decide) (E.eql f5 rfl rfl) fun a6 f6 => ?_
  refine L.val f6 wantedN rfl (by decide) (E.assign f6 rfl) fun a7 f7 => ?_
  refine wpList_nil (hK2 _ _ ?_)
  have f8 := f7.sub (sub_cons (i := 0) rfl (sub_cons (i := 1) rfl (sub_cons (i := 4) rfl (sub_cons (i := 5) rfl sn))))
  clear f0 f1 a0 f2 f3 a2 f4 a4 f5 a5 f6 a6 f7
  refine f8.splitD 5 rfl (fun h0 f9 => ?_) (fun h0 f9 => ?_)
  · refine C.condT f9 rfl ?_
    refine C.sk fun K3 hK3 => ?_
    refine L.val f9 wantedN rfl (by decide) (E.move f9 rfl) fun a10 f10 => ?_
    refine L.val f10 wantedN rfl (by decide) (E.lenL f10 Tryd.underlying91 rfl) fun a11 f11 => ?_
    refine L.val f11 wantedN rfl (by decide) (E.eql f11 rfl rfl) fun a12 f12 => ?_
    refine L.val f12 wantedN rfl (by decide) (E.assign f12 rfl) fun a13 f13 => ?_
    have f14 := f13.sub (sub_cons (i := 0) rfl (sub_cons (i := 1) rfl (sub_cons (i := 4) rfl sn)))
    refine wpList_nil (hK3 _ _ (wp_ret ?_)); (try simp only [xt, xb]); refine C.ret f14 rfl rfl ?_
    exact ⟨HK, by rw [goes_nil (by omega)]⟩
  obtain ⟨x, hx⟩ : ∃ x, us[0]? = some x := ⟨us[0]'(by omega), List.getElem?_eq_getElem _⟩
  obtain ⟨b1, o1, hA⟩ := A1.addr (k := 0) (by omega)
  refine C.condF f9 rfl ?_
  refine C.sk fun K4 hK4 => ?_
  refine L.val f9 wantedN rfl (by decide) (E.move f9 rfl) fun a10 f10 => ?_
  refine L.val f10 wantedN rfl (by decide) (E.indexA f10 (by assumption) Tryd.underlying91 wsz9_tb rfl rfl (by omega) (by omega)) fun a11 f11 => ?_
  refine L.val f11 wantedN rfl (by decide) (E.load f11 U9 rfl rfl (ss_cell0 (A1.kept HK) hA hx)) fun a12 f12 => ?_
  refine L.val f12 wantedN rfl (by decide) (E.eqlS f12 rfl rfl) fun a13 f13 => ?_
  refine L.val f13 wantedN rfl (by decide) (E.assign f13 rfl) fun a14 f14 => ?_
  refine wpList_nil (hK4 _ _ ?_)
  have f15 := f14.sub (sub_cons (i := 0) rfl (sub_cons (i := 1) rfl (sub_cons (i := 4) rfl (sub_cons (i := 12) rfl sn))))
  clear f8 f9 a7 f10 a10 f11 a11 f12 a12 f13 a13 f14
  refine f15.splitD 12 rfl (fun h1 f16 => ?_) (fun h1 f16 => ?_)
  · have h12 := h1
    refine C.condT f16 rfl ?_
    refine C.sk fun K5 hK5 => ?_
    refine L.val f16 wantedN rfl (by decide) (E.assign f16 rfl) fun a17 f17 => ?_
    have f18 := f17.sub (sub_cons (i := 0) rfl (sub_cons (i := 1) rfl (sub_cons (i := 4) rfl sn)))
    refine wpList_nil (hK5 _ _ (wp_ret ?_)); (try simp only [xt, xb]); refine C.ret f18 rfl rfl ?_
    exact ⟨HK, by rw [goes_hash hx h12]⟩
  have h12 := h1
  refine C.condF f16 rfl ?_
  refine C.sk fun K6 hK6 => ?_
  refine L.val f16 wantedN rfl (by decide) (E.move f16 rfl) fun a17 f17 => ?_
  refine L.val f17 wantedN rfl (by decide) (E.lenL f17 Tryd.underlying91 rfl) fun a18 f18 => ?_
  refine L.val f18 wantedN rfl (by decide) (E.eql f18 rfl rfl) fun a19 f19 => ?_
  refine L.val f19 wantedN rfl (by decide) (E.assign f19 rfl) fun a20 f20 => ?_
  refine wpList_nil (hK6 _ _ ?_)
  have f21 := f20.sub (sub_cons (i := 0) rfl (sub_cons (i := 1) rfl (sub_cons (i := 4) rfl (sub_cons (i := 17) rfl sn))))
  clear f15 f16 a14 f17 a17 f18 a18 f19 a19 f20
  refine f21.splitD 17 rfl (fun h2 f22 => ?_) (fun h2 f22 => ?_)
  · refine C.condT f22 rfl ?_
    refine C.sk fun K7 hK7 => ?_
    refine L.val f22 wantedN rfl (by decide) (E.assign f22 rfl) fun a23 f23 => ?_
    have f24 := f23.sub (sub_cons (i := 0) rfl (sub_cons (i := 1) rfl (sub_cons (i := 4) rfl sn)))
    refine wpList_nil (hK7 _ _ (wp_ret ?_)); (try simp only [xt, xb]); refine C.ret f24 rfl rfl ?_
    exact ⟨HK, by rw [goes_end hx h12 (by omega)]⟩
  obtain ⟨y, hy⟩ : ∃ y, vs[0]? = some y := ⟨vs[0]'(by omega), List.getElem?_eq_getElem _⟩
  obtain ⟨b2, o2, hA'⟩ := A2.addr (k := 0) (by omega)
  refine C.condF f22 rfl ?_
  refine wp_skip (hK1 _ _ ?_)
  have f23 := f22.sub (sub_cons (i := 0) rfl (sub_cons (i := 1) rfl (sub_cons (i := 4) rfl sn)))
  refine wp_seq_k fun K8 hK8 => ?_
  refine R.begin (S := fun W => Kept [] w W) (by kernel_rfl) (by exact (Kept.refl _ _).drewN 1) ?_
  have hS7 : Kept [] w (w.drewN 1) := (Kept.refl _ _).drewN 1
  have hd7 : Kept [] w (w.drewN 1) := (Kept.refl _ _).drewN 1
  obtain ⟨w1, hww1⟩ : ∃ W, W = w.drewN 1 := ⟨_, rfl⟩
  rw [← hww1] at hS7 hd7 ⊢
  clear f21 f22 hww1
  have szw1 := hS7.size
  refine R.take 0 f23 rfl rfl (by decide) (by kernel_rfl) (by kernel_rfl) (by kernel_rfl) (fun _ _ _ _ h => h) wantedN hS7 (fun W hW => (E.move f23 rfl)) fun a24 f24 => ?_
  refine R.take 1 f24 rfl rfl (by decide) (by kernel_rfl) (by kernel_rfl) (by kernel_rfl) (fun _ _ _ _ h => h) wantedN hS7 (fun W hW => (E.indexA f24 (by assumption) Tryd.underlying91 wsz9_tb rfl rfl (by omega) (by omega))) fun a25 f25 => ?_
  refine R.take 2 f25 rfl rfl (by decide) (by kernel_rfl) (by kernel_rfl) (by kernel_rfl) (fun _ _ _ _ h => h) wantedN hS7 (fun W hW => (E.load f25 U9 rfl rfl (ss_cell0 (A1.kept (HK.z hW)) hA hx))) fun a26 f26 => ?_
  refine R.take 3 f26 rfl rfl (by decide) (by kernel_rfl) (by kernel_rfl) (by kernel_rfl) (fun _ _ _ _ h => h) wantedN hS7 (fun W hW => (E.eqlS f26 rfl rfl)) fun a27 f27 => ?_
  refine R.take 4 f27 rfl rfl (by decide) (by kernel_rfl) (by kernel_rfl) (by kernel_rfl) (fun _ _ _ _ h => h) wantedN hS7 (fun W hW => (E.move f27 rfl)) fun a28 f28 => ?_
  clear f23 a20 f24 a24 f25 a25 f26 a26 f27 a27
  refine f28.splitD 25 rfl (fun h3 f29 => ?_) (fun h3 f29 => ?_)
  · refine R.takeSkip 5 f29 rfl rfl (by decide) (by kernel_rfl) (by kernel_rfl) (by kernel_rfl) (fun _ _ _ _ h => h) (f29.noF rfl rfl) hS7 fun a30 f30 => ?_
    refine R.takeSkip 6 f30 rfl rfl (by decide) (by kernel_rfl) (by kernel_rfl) (by kernel_rfl) (fun _ _ _ _ h => h) (f30.noF rfl rfl) hS7 fun a31 f31 => ?_
    refine R.takeSkip 7 f31 rfl rfl (by decide) (by kernel_rfl) (by kernel_rfl) (by kernel_rfl) (fun _ _ _ _ h => h) (f31.noF rfl rfl) hS7 fun a32 f32 => ?_
    refine R.takeSkip 8 f32 rfl rfl (by decide) (by kernel_rfl) (by kernel_rfl) (by kernel_rfl) (fun _ _ _ _ h => h) (f32.noF rfl rfl) hS7 fun a33 f33 => ?_
    refine R.takeSkip 9 f33 rfl rfl (by decide) (by kernel_rfl) (by kernel_rfl) (by kernel_rfl) (fun _ _ _ _ h => h) (f33.noF rfl rfl) hS7 fun a34 f34 => ?_
    refine R.takeSkip 10 f34 rfl rfl (by decide) (by kernel_rfl) (by kernel_rfl) (by kernel_rfl) (fun _ _ _ _ h => h) (f34.noF rfl rfl) hS7 fun a35 f35 => ?_
    refine R.takeSkip 11 f35 rfl rfl (by decide) (by kernel_rfl) (by kernel_rfl) (by kernel_rfl) (fun _ _ _ _ h => h) (f35.noF rfl rfl) hS7 fun a36 f36 => ?_
    clear f28 f29 a28 f30 a30 f31 a31 f32 a32 f33 a33 f34 a34 f35 a35
    refine R.take 12 f36 rfl rfl (by decide) (by kernel_rfl) (by kernel_rfl) (by kernel_rfl) (fun _ _ _ _ h => h) wantedN hS7 (fun W hW => (E.pickT f36 rfl rfl)) fun a37 f37 => ?_
    refine R.take 13 f37 rfl rfl (by decide) (by kernel_rfl) (by kernel_rfl) (by kernel_rfl) (fun _ _ _ _ h => h) wantedN hS7 (fun W hW => (E.move f37 rfl)) fun a38 f38 => ?_
    refine R.take 14 f38 rfl rfl (by decide) (by kernel_rfl) (by kernel_rfl) (by kernel_rfl) (fun _ _ _ _ h => h) (f38.yes rfl rfl) hS7 (fun W hW => (E.move f38 rfl)) fun a39 f39 => ?_
    refine R.take 15 f39 rfl rfl (by decide) (by kernel_rfl) (by kernel_rfl) (by kernel_rfl) (fun _ _ _ _ h => h) (f39.yes rfl rfl) hS7 (fun W hW => (E.slLlo f39 Tryd.underlying91 wsz9_tb rfl rfl (by omega) (by omega) )) fun a40 f40 => ?_
    refine R.take 16 f40 rfl rfl (by decide) (by kernel_rfl) (by kernel_rfl) (by kernel_rfl) (fun _ _ _ _ h => h) (f40.yes rfl rfl) hS7 (fun W hW => (E.move f40 rfl)) fun a41 f41 => ?_
    refine R.take 17 f41 rfl rfl (by decide) (by kernel_rfl) (by kernel_rfl) (by kernel_rfl) (fun _ _ _ _ h => h) (f41.yes rfl rfl) hS7 (fun W hW => (E.slLlo f41 Tryd.underlying91 wsz9_tb rfl rfl (by omega) (by omega) )) fun a42 f42 => ?_
    replace f42 := f42.as (i := 36) (v' := .slice (tailA A c) (us.drop 1).length (c - 1)) rfl (by rw [List.length_drop]; rfl)
    replace f42 := f42.as (i := 38) (v' := .slice (tailA A' c') (vs.drop 1).length (c' - 1)) rfl (by rw [List.length_drop]; rfl)
    refine R.call 18 f42 rfl rfl (by decide) (by kernel_rfl) (f42.yes rfl rfl) (run_call Tryd.call56 (args2 f42 rfl rfl)) (ih (us.drop 1) (vs.drop 1) _ _ _ _ w1 (by rw [List.length_drop]; omega) ((A1.kept (HK.z hS7)).tail hc) ((A2.kept (HK.z hS7)).tail hc') (by rw [List.length_drop]; omega) (by rw [List.length_drop]; omega) (by rw [List.length_drop]; omega) (by rw [List.length_drop]; omega)) ?_
    clear f36 a36 f37 a37 f38 a38 f39 a39 f40 a40 f41 a41
    rintro e w2 ⟨kc2, rfl⟩
    replace hS7 := hS7.trans kc2 (by simp)
    refine ⟨_, rfl, hS7, fun a43 f43 => ?_⟩
    have szw2 := kc2.size
    clear f42 a42 kc2
    refine R.take 19 f43 rfl rfl (by decide) (by kernel_rfl) (by kernel_rfl) (by kernel_rfl) (fun _ _ _ _ h => h) wantedN hS7 (fun W hW => (E.pickT f43 rfl rfl)) fun a44 f44 => ?_
    refine R.take 20 f44 rfl rfl (by decide) (by kernel_rfl) (by kernel_rfl) (by kernel_rfl) (fun _ _ _ _ h => h) wantedN hS7 (fun W hW => (E.assign f44 rfl)) fun a45 f45 => ?_
    have szw2r := hS7.size
    replace HK := HK.z hS7
    clear f43 a43 f44 a44 hS7
    refine R.done (by kernel_rfl) (hK8 _ _ ?_)
    have f46 := f45.sub (sub_cons (i := 4) rfl sn)
    refine wp_ret ?_; (try simp only [xt, xb]); refine C.ret f46 rfl rfl ?_
    exact ⟨HK, by rw [goes_step hx hy h12]; simp [*]⟩
  refine R.take 5 f29 rfl rfl (by decide) (by kernel_rfl) (by kernel_rfl) (by kernel_rfl) (fun _ _ _ _ h => h) (f29.yes rfl rfl) hS7 (fun W hW => (E.move f29 rfl)) fun a30 f30 => ?_
  refine R.take 6 f30 rfl rfl (by decide) (by kernel_rfl) (by kernel_rfl) (by kernel_rfl) (fun _ _ _ _ h => h) (f30.yes rfl rfl) hS7 (fun W hW => (E.indexA f30 (by assumption) Tryd.underlying91 wsz9_tb rfl rfl (by omega) (by omega))) fun a31 f31 => ?_
  refine R.take 7 f31 rfl rfl (by decide) (by kernel_rfl) (by kernel_rfl) (by kernel_rfl) (fun _ _ _ _ h => h) (f31.yes rfl rfl) hS7 (fun W hW => (E.load f31 U9 rfl rfl (ss_cell0 (A1.kept (HK.z hW)) hA hx))) fun a32 f32 => ?_
  refine R.take 8 f32 rfl rfl (by decide) (by kernel_rfl) (by kernel_rfl) (by kernel_rfl) (fun _ _ _ _ h => h) (f32.yes rfl rfl) hS7 (fun W hW => (E.move f32 rfl)) fun a33 f33 => ?_
  refine R.take 9 f33 rfl rfl (by decide) (by kernel_rfl) (by kernel_rfl) (by kernel_rfl) (fun _ _ _ _ h => h) (f33.yes rfl rfl) hS7 (fun W hW => (E.indexA f33 (by assumption) Tryd.underlying91 wsz9_tb rfl rfl (by omega) (by omega))) fun a34 f34 => ?_
  refine R.take 10 f34 rfl rfl (by decide) (by kernel_rfl) (by kernel_rfl) (by kernel_rfl) (fun _ _ _ _ h => h) (f34.yes rfl rfl) hS7 (fun W hW => (E.load f34 U9 rfl rfl (ss_cell0 (A2.kept (HK.z hW)) hA' hy))) fun a35 f35 => ?_
  refine R.take 11 f35 rfl rfl (by decide) (by kernel_rfl) (by kernel_rfl) (by kernel_rfl) (fun _ _ _ _ h => h) (f35.yes rfl rfl) hS7 (fun W hW => (E.eqlS f35 rfl rfl)) fun a36 f36 => ?_
  clear f28 f29 a28 f30 a30 f31 a31 f32 a32 f33 a33 f34 a34 f35 a35
  refine R.take 12 f36 rfl rfl (by decide) (by kernel_rfl) (by kernel_rfl) (by kernel_rfl) (fun _ _ _ _ h => h) wantedN hS7 (fun W hW => (E.pickF f36 rfl rfl)) fun a37 f37 => ?_
  refine R.take 13 f37 rfl rfl (by decide) (by kernel_rfl) (by kernel_rfl) (by kernel_rfl) (fun _ _ _ _ h => h) wantedN hS7 (fun W hW => (E.move f37 rfl)) fun a38 f38 => ?_
  clear f36 a36 f37 a37
  refine f38.splitD 34 rfl (fun h4 f39 => ?_) (fun h4 f39 => ?_)
  · have h34 := h4
    refine R.take 14 f39 rfl rfl (by decide) (by kernel_rfl) (by kernel_rfl) (by kernel_rfl) (fun _ _ _ _ h => h) (f39.yes rfl rfl) hS7 (fun W hW => (E.move f39 rfl)) fun a40 f40 => ?_
    refine R.take 15 f40 rfl rfl (by decide) (by kernel_rfl) (by kernel_rfl) (by kernel_rfl) (fun _ _ _ _ h => h) (f40.yes rfl rfl) hS7 (fun W hW => (E.slLlo f40 Tryd.underlying91 wsz9_tb rfl rfl (by omega) (by omega) )) fun a41 f41 => ?_
    refine R.take 16 f41 rfl rfl (by decide) (by kernel_rfl) (by kernel_rfl) (by kernel_rfl) (fun _ _ _ _ h => h) (f41.yes rfl rfl) hS7 (fun W hW => (E.move f41 rfl)) fun a42 f42 => ?_
    refine R.take 17 f42 rfl rfl (by decide) (by kernel_rfl) (by kernel_rfl) (by kernel_rfl) (fun _ _ _ _ h => h) (f42.yes rfl rfl) hS7 (fun W hW => (E.slLlo f42 Tryd.underlying91 wsz9_tb rfl rfl (by omega) (by omega) )) fun a43 f43 => ?_
    replace f43 := f43.as (i := 36) (v' := .slice (tailA A c) (us.drop 1).length (c - 1)) rfl (by rw [List.length_drop]; rfl)
    replace f43 := f43.as (i := 38) (v' := .slice (tailA A' c') (vs.drop 1).length (c' - 1)) rfl (by rw [List.length_drop]; rfl)
    refine R.call 18 f43 rfl rfl (by decide) (by kernel_rfl) (f43.yes rfl rfl) (run_call Tryd.call56 (args2 f43 rfl rfl)) (ih (us.drop 1) (vs.drop 1) _ _ _ _ w1 (by rw [List.length_drop]; omega) ((A1.kept (HK.z hS7)).tail hc) ((A2.kept (HK.z hS7)).tail hc') (by rw [List.length_drop]; omega) (by rw [List.length_drop]; omega) (by rw [List.length_drop]; omega) (by rw [List.length_drop]; omega)) ?_
    clear f38 f39 a38 f40 a40 f41 a41 f42 a42
    rintro e w2 ⟨kc2, rfl⟩
    replace hS7 := hS7.trans kc2 (by simp)
    refine ⟨_, rfl, hS7, fun a44 f44 => ?_⟩
    have szw2 := kc2.size
    clear f43 a43 kc2
    refine R.take 19 f44 rfl rfl (by decide) (by kernel_rfl) (by kernel_rfl) (by kernel_rfl) (fun _ _ _ _ h => h) wantedN hS7 (fun W hW => (E.pickT f44 rfl rfl)) fun a45 f45 => ?_
    refine R.take 20 f45 rfl rfl (by decide) (by kernel_rfl) (by kernel_rfl) (by kernel_rfl) (fun _ _ _ _ h => h) wantedN hS7 (fun W hW => (E.assign f45 rfl)) fun a46 f46 => ?_
    have szw2r := hS7.size
    replace HK := HK.z hS7
    clear f44 a44 f45 a45 hS7
    refine R.done (by kernel_rfl) (hK8 _ _ ?_)
    have f47 := f46.sub (sub_cons (i := 4) rfl sn)
    refine wp_ret ?_; (try simp only [xt, xb]); refine C.ret f47 rfl rfl ?_
    exact ⟨HK, by rw [goes_step hx hy h12]; simp [*]⟩
  have h34 := h4
  refine R.takeSkip 14 f39 rfl rfl (by decide) (by kernel_rfl) (by kernel_rfl) (by kernel_rfl) (fun _ _ _ _ h => h) (f39.noT rfl rfl) hS7 fun a40 f40 => ?_
  refine R.takeSkip 15 f40 rfl rfl (by decide) (by kernel_rfl) (by kernel_rfl) (by kernel_rfl) (fun _ _ _ _ h => h) (f40.noT rfl rfl) hS7 fun a41 f41 => ?_
  refine R.takeSkip 16 f41 rfl rfl (by decide) (by kernel_rfl) (by kernel_rfl) (by kernel_rfl) (fun _ _ _ _ h => h) (f41.noT rfl rfl) hS7 fun a42 f42 => ?_
  refine R.takeSkip 17 f42 rfl rfl (by decide) (by kernel_rfl) (by kernel_rfl) (by kernel_rfl) (fun _ _ _ _ h => h) (f42.noT rfl rfl) hS7 fun a43 f43 => ?_
  refine R.takeSkip 18 f43 rfl rfl (by decide) (by kernel_rfl) (by kernel_rfl) (by kernel_rfl) (fun _ _ _ _ h => h) (f43.noT rfl rfl) hS7 fun a44 f44 => ?_
  refine R.take 19 f44 rfl rfl (by decide) (by kernel_rfl) (by kernel_rfl) (by kernel_rfl) (fun _ _ _ _ h => h) wantedN hS7 (fun W hW => (E.pickF f44 rfl rfl)) fun a45 f45 => ?_
  refine R.take 20 f45 rfl rfl (by decide) (by kernel_rfl) (by kernel_rfl) (by kernel_rfl) (fun _ _ _ _ h => h) wantedN hS7 (fun W hW => (E.assign f45 rfl)) fun a46 f46 => ?_
  clear f38 f39 a38 f40 a40 f41 a41 f42 a42 f43 a43 f44 a44 f45 a45
  have szw1r := hS7.size
  replace HK := HK.z hS7
  clear hS7
  refine R.done (by kernel_rfl) (hK8 _ _ ?_)
  have f47 := f46.sub (sub_cons (i := 4) rfl sn)
  refine wp_ret ?_; (try simp only [xt, xb]); refine C.ret f47 rfl rfl ?_
  exact ⟨HK, by rw [goes_step hx hy h12]; simp [*]⟩
theorem goes_any (us vs : List ByteArray) (A A' : Option Addr) (c c' : Nat) (w : World) (A1 : Ss w A us) (A2 : Ss w A' vs) (hc : us.length ≤ c) (hc' : vs.length ≤ c') (hl : us.length ≤ 1000000) (hl' : vs.length ≤ 1000000) :
    Calls Tryd.prog 56 #[.slice A us.length c, .slice A' vs.length c'] w (fun e w' => Kept [] w w' ∧ e = .returned (.bool (goesB us vs))) := by
  generalize hn : us.length = n
  induction n using Nat.strongRecOn generalizing us vs A A' c c' w with
  | _ n ih =>
    subst hn
    exact goes_one us vs A A' c c' w A1 A2 hc hc' hl hl' fun us' vs' A A' c c' w h a1 a2 a3 a4 a5 a6 => ih us'.length h us' vs' A A' c c' w a1 a2 a3 a4 a5 a6 rfl
end Go.Proofs.YtekmhcdgmgbheaaDoor
namespace Go.Proofs.YtekmhcdgmgbheaaDoor
open Go.RowKit Go.Hub
def wildU (b : UInt8) : Bool := wildI b.toNat
def anyW (s : ByteArray) : Bool := s.toList.any wildU
theorem get_some {s : ByteArray} {j : Nat} {b : UInt8} (h : s[j]? = some b) : s.get! j = b := by
  by_cases hj : j < s.size
  · rw [getElem?_pos s j hj] at h
    injection h with h
    rw [← h]
    exact get_at s j hj
  rw [getElem?_neg s j hj] at h
  cases h
theorem dec_span {s : ByteArray} {pos : Nat} (hp : pos < s.size) : (∃ b, s[pos]? = some b ∧ b.toNat < 128 ∧ (Utf8.decode s pos).1 = b.toNat ∧ (Utf8.decode s pos).2 = 1) ∨
    (128 ≤ (Utf8.decode s pos).1 ∧ 1 ≤ (Utf8.decode s pos).2 ∧ pos + (Utf8.decode s pos).2 ≤ s.size ∧ ∀ j b, pos ≤ j → j < pos + (Utf8.decode s pos).2 → s[j]? = some b → 128 ≤ b.toNat) := by
  by_cases ha : (s[pos]'hp).toNat < 128
  · exact .inl ⟨_, getElem?_pos s pos hp, ha, by rw [decode_ascii s pos hp ha], by rw [decode_ascii s pos hp ha]⟩
  have hh := decode_high s pos hp (by omega)
  refine .inr ⟨hh.1, hh.2, ?_⟩
  have h0 : ∀ b, s[pos]? = some b → 128 ≤ b.toNat := fun b hb => by
    rw [getElem?_pos s pos hp] at hb
    injection hb with hb
    rw [← hb]; omega
  have key : ∀ k, (∀ i, 1 ≤ i → i < k → pos + i < s.size ∧ (s.get! (pos + i)).toNat / 64 = 2) → pos + k ≤ s.size ∨ k = 0 ∨ k = 1 → ∀ j b, pos ≤ j → j < pos + k → s[j]? = some b → 128 ≤ b.toNat := by
    intro k hk _ j b h1 h2 hb
    by_cases e : j = pos
    · subst e
      exact h0 b hb
    have := (hk (j - pos) (by omega) (by omega)).2
    rw [show pos + (j - pos) = j by omega, get_some hb] at this
    omega
  have sz : ∀ k, 1 ≤ k → (∀ i, 1 ≤ i → i < k → pos + i < s.size ∧ (s.get! (pos + i)).toNat / 64 = 2) → pos + k ≤ s.size := by
    intro k h1 hk
    by_cases e : k = 1
    · omega
    have := (hk (k - 1) (by omega) (by omega)).1
    omega
  suffices hs : ∀ i, 1 ≤ i → i < (Utf8.decode s pos).2 → pos + i < s.size ∧ (s.get! (pos + i)).toNat / 64 = 2 from ⟨sz _ hh.2 hs, key _ hs (.inl (sz _ hh.2 hs))⟩
  have hn : ¬ (s[pos]'hp).toNat < 128 := ha
  simp only [Utf8.decode, get_at s pos hp, hn, if_false]
  intro i h1
  repeat' split
  all_goals intro h2
  all_goals simp only [Bool.and_eq_true, decide_eq_true_eq, beq_iff_eq] at *
  all_goals have hi : i = 1 ∨ i = 2 ∨ i = 3 := by omega
  all_goals rcases hi with rfl | rfl | rfl
  all_goals first
    | (exfalso; omega)
    | exact ⟨by omega, by omega⟩
theorem wild_hi {b : UInt8} (h : 128 ≤ b.toNat) : wildU b = false := by unfold wildU wildI; simp; omega
theorem skip_to {s : ByteArray} {pos : Nat} (hp : pos < s.size) : pos + (Utf8.decode s pos).2 ≤ s.size ∧ 1 ≤ (Utf8.decode s pos).2 := by
  rcases dec_span hp with ⟨b, _, _, _, h⟩ | ⟨_, h1, h2, _⟩ <;> omega
theorem skip_next {s : ByteArray} {pos : Nat} (hp : pos < s.size) (hq : ∀ j b, j < pos → s[j]? = some b → wildU b = false) (h : wildI (((Utf8.decode s pos).1 : Nat) : Int) = false) : ∀ j b, j < pos + (Utf8.decode s pos).2 → s[j]? = some b → wildU b = false := by
  intro j b hj hb
  by_cases e : j < pos
  · exact hq j b e hb
  rcases dec_span hp with ⟨b', hb', _, h1, h2⟩ | ⟨_, _, _, h3⟩
  · obtain rfl : j = pos := by omega
    rw [hb] at hb'
    cases hb'
    rw [h1] at h
    exact h
  exact wild_hi (h3 j b (by omega) hj hb)
theorem skip_yes {s : ByteArray} {pos : Nat} (hp : pos < s.size) (h : wildI (((Utf8.decode s pos).1 : Nat) : Int) = true) : anyW s = true := by
  rcases dec_span hp with ⟨b, hb, _, h1, h2⟩ | ⟨h1, _⟩
  · rw [h1] at h
    unfold anyW
    rw [ByteArray.toList_eq]
    rw [byte_at, ← Array.getElem?_toList] at hb
    exact List.any_eq_true.2 ⟨b, List.mem_of_getElem? hb, h⟩
  unfold wildI at h
  simp at h
  omega
theorem skip_no {s : ByteArray} {pos : Nat} (hp : ¬ pos < s.size) (hq : ∀ j b, j < pos → s[j]? = some b → wildU b = false) : anyW s = false := by
  unfold anyW
  rw [ByteArray.toList_eq]
  rw [List.any_eq_false]
  intro b hb
  obtain ⟨j, hj, he⟩ := List.getElem_of_mem hb
  have := hq j b (by simp at hj; have : s.data.size = s.size := rfl; omega) (by rw [byte_at, ← Array.getElem?_toList, List.getElem?_eq_getElem hj, he])
  simp [this]
def IdxPost (s : ByteArray) (w : World) (e : Ending) (w' : World) : Prop := Kept [] w w' ∧ ∃ i, e = .returned (.int .i64 i) ∧ decide (0 ≤ i) = anyW s
set_option maxHeartbeats 1000000 in
theorem idxF_any (s : ByteArray) (w : World) : Calls Tryd.prog 79 #[.string s, .func (.func 38) #[] #[], .bool true] w (IdxPost s w) := by
  have HK : Kept [] w w := Kept.refl [] w
  refine C.enter Tryd.func79 rfl Tryd.ntmps79 rfl ?_
  intro a0 f0
  have f1 : Fr 21 a0 [(0, .string s), (1, .func (.func 38) #[] #[]), (2, .bool true)] := f0
  refine C.sk fun K0 hK0 => ?_
  refine L.val f1 wantedN rfl (by decide) (E.assign f1 rfl) fun a2 f2 => ?_
  refine wpList_nil (hK0 _ _ ?_)
  have f3 := f2.sub (sub_cons (i := 0) rfl (sub_cons (i := 1) rfl (sub_cons (i := 2) rfl (sub_cons (i := 6) rfl sn))))
  refine wp_seq_k fun K1 hK1 => ?_
  refine C.sk fun K2 hK2 => ?_
  refine L.val f3 wantedN rfl (by decide) (E.move f3 rfl) fun a4 f4 => ?_
  refine L.range f4 wantedN (by decide) U9 rfl fun a5 w1 g0 Ig0 kg0 log0 f5 => ?_
  have szw1 := kg0.size
  have ltg0 := Ig0.lt
  replace HK := HK.z kg0
  clear f0 f1 a0 f2 f3 a2 f4 a4 kg0
  refine wpList_nil (hK2 _ _ ?_)
  have f6 := f5.sub (sub_cons (i := 1) rfl (sub_cons (i := 2) rfl (sub_cons (i := 6) rfl (sub_cons (i := 10) rfl sn))))
  refine wp_block ?_
  clear f5
  refine C.loop (fun gk a W => ∃ pos : Nat, pos ≤ s.size ∧ s.size ≤ pos + gk ∧ (∀ j b, j < pos → s[j]? = some b → wildU b = false) ∧ Kept [] w W ∧ Iter W g0 s pos ∧ Fr 21 a [(1, .func (.func 38) #[] #[]), (2, .bool true), (10, .pointer (some ⟨g0, 0, none⟩))]) (s.size) ?_ ?_
  · exact ⟨0, by omega, by omega, fun j b h => by omega, HK, Ig0, f6.sub (sx (sx (sx sn)))⟩
  intro gk4 a7 w2 hI KL3 hKL3
  obtain ⟨pos, hpl, hk, hq, HK, Ig0, f7⟩ := hI
  try clear f6
  refine C.sk fun K4 hK4 => ?_
  refine L.next f7 wantedN (by decide) rfl Ig0 fun a8 w3 IN3 ki3 f8 => ?_
  have szw3 := ki3.size
  replace HK := HK.trans ki3 (by intro x hx hlt; simp at hx; subst hx; (exfalso; omega))
  replace Ig0 := IN3
  clear f7 a7 ki3
  refine L.val f8 wantedN rfl (by decide) (E.extract f8 rfl nextV_ok) fun a9 f9 => ?_
  refine wpList_nil (hK4 _ _ ?_)
  have f10 := f9.sub (sub_cons (i := 1) rfl (sub_cons (i := 2) rfl (sub_cons (i := 10) rfl (sub_cons (i := 11) rfl (sub_cons (i := 12) rfl sn)))))
  refine wp_seq_k fun K5 hK5 => ?_
  clear f8 a8 f9
  refine f10.splitD 12 rfl (fun h0 f11 => ?_) (fun h0 f11 => ?_)
  · have hp : pos < s.size := by simpa using h0
    refine C.condT f11 rfl ?_
    refine wp_skip (hK5 _ _ ?_)
    have f12 := f11.sub (sub_cons (i := 1) rfl (sub_cons (i := 2) rfl (sub_cons (i := 10) rfl (sub_cons (i := 11) rfl (sub_cons (i := 12) rfl sn)))))
    refine wp_block ?_
    refine C.sk fun K6 hK6 => ?_
    refine L.val f12 wantedN rfl (by decide) (E.extract f12 rfl (nextV_pos hp)) fun a13 f13 => ?_
    refine L.val f13 wantedN rfl (by decide) (E.extract f13 rfl (nextV_rune hp)) fun a14 f14 => ?_
    refine L.val f14 wantedN rfl (by decide) (E.assign f14 rfl) fun a15 f15 => ?_
    refine L.val f15 wantedN rfl (by decide) (E.assign f15 rfl) fun a16 f16 => ?_
    have f17 := f16.sub (sub_cons (i := 1) rfl (sub_cons (i := 2) rfl (sub_cons (i := 7) rfl (sub_cons (i := 8) rfl (sub_cons (i := 10) rfl (sub_cons (i := 11) rfl (sub_cons (i := 12) rfl (sub_cons (i := 13) rfl (sub_cons (i := 14) rfl sn)))))))))
    refine wpList_nil (hK6 _ _ (C.sk fun K7 hK7 => ?_))
    refine L.val f17 wantedN rfl (by decide) (E.move f17 rfl) fun a18 f18 => ?_
    refine L.val f18 wantedN rfl (by decide) (E.move f18 rfl) fun a19 f19 => ?_
    clear f10 f11 f12 a9 f13 a13 f14 a14 f15 a15 f16 f17 a16 f18 a18
    refine L.call f19 wantedN rfl (by decide) (cv1_0 f19 rfl Tryd.call38 rfl) (wild_any _ _) ?_
    rintro e w3x ⟨rfl, rfl⟩
    refine ⟨_, rfl, fun a20 f20 => ?_⟩
    refine L.val f20 wantedN rfl (by decide) (E.move f20 rfl) fun a21 f21 => ?_
    refine L.val f21 wantedN rfl (by decide) (E.eqlB f21 U4 rfl rfl) fun a22 f22 => ?_
    refine wpList_nil (hK7 _ _ ?_)
    have f23 := f22.sub (sub_cons (i := 1) rfl (sub_cons (i := 2) rfl (sub_cons (i := 7) rfl (sub_cons (i := 8) rfl (sub_cons (i := 10) rfl (sub_cons (i := 11) rfl (sub_cons (i := 12) rfl (sub_cons (i := 13) rfl (sub_cons (i := 14) rfl (sub_cons (i := 15) rfl (sub_cons (i := 16) rfl (sub_cons (i := 17) rfl (sub_cons (i := 18) rfl (sub_cons (i := 19) rfl sn))))))))))))))
    clear f19 a19 f20 a20 f21 a21 f22
    refine f23.splitD 19 rfl (fun h1 f24 => ?_) (fun h1 f24 => ?_)
    · have h19 := h1
      refine C.condT f24 rfl ?_
      refine C.sk fun K8 hK8 => ?_
      refine L.val f24 wantedN rfl (by decide) (E.move f24 rfl) fun a25 f25 => ?_
      refine L.val f25 wantedN rfl (by decide) (E.assign f25 rfl) fun a26 f26 => ?_
      have f27 := f26.sub (sub_cons (i := 1) rfl (sub_cons (i := 2) rfl (sub_cons (i := 6) rfl (sub_cons (i := 7) rfl (sub_cons (i := 8) rfl (sub_cons (i := 10) rfl (sub_cons (i := 11) rfl (sub_cons (i := 12) rfl (sub_cons (i := 13) rfl (sub_cons (i := 14) rfl (sub_cons (i := 15) rfl (sub_cons (i := 16) rfl (sub_cons (i := 17) rfl (sub_cons (i := 18) rfl (sub_cons (i := 19) rfl (sub_cons (i := 20) rfl sn))))))))))))))))
      refine wpList_nil (hK8 _ _ (wp_ret ?_)); (try simp only [xt, xb]); refine C.ret f27 rfl rfl ?_
      exact ⟨HK, _, rfl, by rw [skip_yes hp h19]; simp⟩
    have h19 := h1
    refine C.condF f24 rfl ?_
    clear f23
    refine wp_skip (hKL3 _ _ (gk4 - 1) ?_ ?_)
    · omega
    exact ⟨pos + (Utf8.decode s pos).2, (skip_to hp).1, by have := (skip_to hp).2; omega, skip_next hp hq (by simpa using h19), HK, by rw [nextP_at hp] at Ig0; exact Ig0, f24.sub (sx (sx (sx sn)))⟩
  have hp : ¬ pos < s.size := by simpa using h0
  refine C.condF f11 rfl ?_
  refine wp_exit (hK1 _ _ ?_)
  have f12 := f11.sub sn
  refine C.sk fun K9 hK9 => ?_
  refine L.val f12 wantedN rfl (by decide) (E.assign f12 rfl) fun a13 f13 => ?_
  have f14 := f13.sub (sub_cons (i := 6) rfl sn)
  refine wpList_nil (hK9 _ _ (wp_ret ?_)); (try simp only [xt, xb]); refine C.ret f14 rfl rfl ?_
  exact ⟨HK, _, rfl, by rw [skip_no hp hq]; rfl⟩
set_option maxHeartbeats 1000000 in
theorem idx_any (s : ByteArray) (w : World) : Calls Tryd.prog 73 #[.string s, .func (.func 38) #[] #[]] w (IdxPost s w) := by
  have HK : Kept [] w w := Kept.refl [] w
  refine C.enter Tryd.func73 rfl Tryd.ntmps73 rfl ?_
  intro a0 f0
  have f1 : Fr 8 a0 [(0, .string s), (1, .func (.func 38) #[] #[])] := f0
  refine C.sk fun K0 hK0 => ?_
  refine L.val f1 wantedN rfl (by decide) (E.assign f1 rfl) fun a2 f2 => ?_
  have f3 := f2.sub (sub_cons (i := 0) rfl (sub_cons (i := 1) rfl (sub_cons (i := 4) rfl sn)))
  refine wpList_nil (hK0 _ _ (C.sk fun K1 hK1 => ?_))
  refine L.val f3 wantedN rfl (by decide) (E.move f3 rfl) fun a4 f4 => ?_
  refine L.val f4 wantedN rfl (by decide) (E.move f4 rfl) fun a5 f5 => ?_
  refine L.call f5 wantedN rfl (by decide) (run_call Tryd.call79 (args3 f5 rfl rfl rfl)) (idxF_any s _) ?_
  clear f0 f1 a0 f2 f3 a2 f4 a4
  rintro e w1 ⟨kc1, i, rfl, hi⟩
  refine ⟨_, rfl, fun a6 f6 => ?_⟩
  have szw1 := kc1.size
  replace HK := HK.z kc1
  clear f5 a5 kc1
  refine L.val f6 wantedN rfl (by decide) (E.assign f6 rfl) fun a7 f7 => ?_
  have f8 := f7.sub (sub_cons (i := 4) rfl sn)
  refine wpList_nil (hK1 _ _ (wp_ret ?_)); (try simp only [xt, xb]); refine C.ret f8 rfl rfl ?_
  exact ⟨HK, i, rfl, hi⟩
set_option maxHeartbeats 1000000 in
theorem cont_any (s : ByteArray) (w : World) : Calls Tryd.prog 66 #[.string s, .func (.func 38) #[] #[]] w (fun e w' => Kept [] w w' ∧ e = .returned (.bool (anyW s))) := by
  have HK : Kept [] w w := Kept.refl [] w
  refine C.enter Tryd.func66 rfl Tryd.ntmps66 rfl ?_
  intro a0 f0
  have f1 : Fr 9 a0 [(0, .string s), (1, .func (.func 38) #[] #[])] := f0
  refine C.sk fun K0 hK0 => ?_
  refine L.val f1 wantedN rfl (by decide) (E.assign f1 rfl) fun a2 f2 => ?_
  have f3 := f2.sub (sub_cons (i := 0) rfl (sub_cons (i := 1) rfl (sub_cons (i := 4) rfl sn)))
  refine wpList_nil (hK0 _ _ (C.sk fun K1 hK1 => ?_))
  refine L.val f3 wantedN rfl (by decide) (E.move f3 rfl) fun a4 f4 => ?_
  refine L.val f4 wantedN rfl (by decide) (E.move f4 rfl) fun a5 f5 => ?_
  refine L.call f5 wantedN rfl (by decide) (run_call Tryd.call73 (args2 f5 rfl rfl)) (idx_any s _) ?_
  clear f0 f1 a0 f2 f3 a2 f4 a4
  rintro e w1 ⟨kc1, i, rfl, hi⟩
  refine ⟨_, rfl, fun a6 f6 => ?_⟩
  have szw1 := kc1.size
  replace HK := HK.z kc1
  clear f5 a5 kc1
  refine L.val f6 wantedN rfl (by decide) (E.geq f6 rfl rfl) fun a7 f7 => ?_
  refine L.val f7 wantedN rfl (by decide) (E.assign f7 rfl) fun a8 f8 => ?_
  have f9 := f8.sub (sub_cons (i := 4) rfl sn)
  refine wpList_nil (hK1 _ _ (wp_ret ?_)); (try simp only [xt, xb]); refine C.ret f9 rfl rfl ?_
  exact ⟨HK, by rw [← hi]⟩
end Go.Proofs.YtekmhcdgmgbheaaDoor
namespace Go.Hub
open Go.Lib
def badL (l : List UInt8) : Bool := (decodeL l).1 == 65533 && (decodeL l).2 == 1
def chkf : Nat → Nat → List UInt8 → Int
  | 0, _, _ => -1
  | f + 1, i, l => if l = [] then -1 else if badL l || (decodeL l).1 == 0 then (i : Int) else chkf f (i + (decodeL l).2) (l.drop (decodeL l).2)
def chk (l : List UInt8) : Int := chkf l.length 0 l
theorem chkf_nil (f i : Nat) : chkf f i [] = -1 := by cases f <;> simp [chkf]
end Go.Hub
namespace Go.Proofs.YtekmhcdgmgbheaaDoor
open Go.Shelf
def u8ren : Ren := ⟨fun | 32 => 69 | 49 => 76 | n => n, fun | 25 => 100 | 30 => 26 | 33 => 103 | 66 => 114 | 68 => 116 | 69 => 117 | n => n, fun | 2 => 0 | 3 => 1 | n => n⟩
theorem u8lays : Lays7.n32 Tryd.prog u8ren := {
  mixed := by kernel_rfl
  f32 := by kernel_rfl
  f49 := by kernel_rfl
  t0 := by kernel_rfl
  a0 := fun _ => by kernel_rfl
  z0 := fun _ => by kernel_rfl
  v0 := fun _ => by kernel_rfl
  i0 := by kernel_rfl
  t3 := by kernel_rfl
  a3 := fun _ => by kernel_rfl
  z3 := fun _ => by kernel_rfl
  v3 := fun _ => by kernel_rfl
  i3 := by kernel_rfl
  t4 := by kernel_rfl
  a4 := fun _ => by kernel_rfl
  z4 := fun _ => by kernel_rfl
  v4 := fun _ => by kernel_rfl
  i4 := by kernel_rfl
  t5 := by kernel_rfl
  a5 := fun _ => by kernel_rfl
  z5 := fun _ => by kernel_rfl
  v5 := fun _ => by kernel_rfl
  i5 := by kernel_rfl
  t21 := by kernel_rfl
  a21 := fun _ => by kernel_rfl
  z21 := fun _ => by kernel_rfl
  v21 := fun _ => by kernel_rfl
  i21 := by kernel_rfl
  t25 := by kernel_rfl
  a25 := fun _ => by kernel_rfl
  z25 := fun _ => by kernel_rfl
  v25 := fun _ => by kernel_rfl
  i25 := by kernel_rfl
  t30 := by kernel_rfl
  a30 := fun _ => by kernel_rfl
  z30 := fun _ => by kernel_rfl
  v30 := fun _ => by kernel_rfl
  i30 := by kernel_rfl
  t33 := by kernel_rfl
  a33 := fun _ => by kernel_rfl
  z33 := fun _ => by kernel_rfl
  v33 := fun _ => by kernel_rfl
  i33 := by kernel_rfl
  t66 := by kernel_rfl
  a66 := fun _ => by kernel_rfl
  z66 := fun _ => by kernel_rfl
  t68 := by kernel_rfl
  a68 := fun _ => by kernel_rfl
  z68 := fun _ => by kernel_rfl
  v68 := fun _ => by kernel_rfl
  i68 := by kernel_rfl
  t69 := by kernel_rfl
  a69 := fun _ => by kernel_rfl
  z69 := fun _ => by kernel_rfl
  v69 := fun _ => by kernel_rfl
  i69 := by kernel_rfl
  g2 := by kernel_rfl
  g3 := by kernel_rfl
}
end Go.Proofs.YtekmhcdgmgbheaaDoor
namespace Go.Proofs.YtekmhcdgmgbheaaDoor
open Go.RowKit Go.Hub Go.Lib
def Tabs (w : World) : Prop := Lib.Utf8Tabs 0 1 w
theorem Tabs.size {w : World} (h : Tabs w) : 2 ≤ w.heap.size := by
  have : 1 < w.heap.size := World.block_lt_of_cell? w _ (h.2 0 (by omega)).1
  omega
theorem Tabs.below {w w' : World} {B : Nat} (h : Tabs w) (hb : Below B w w') (hB : 2 ≤ B) : Tabs w' :=
  ⟨fun c hc => (hb.cell (p := ⟨0, c, none⟩) (by show 0 < B; omega)).trans (h.1 c hc), fun i hi => ⟨(hb.cell (p := ⟨1, 2 * i, none⟩) (by show 1 < B; omega)).trans (h.2 i hi).1, (hb.cell (p := ⟨1, 2 * i + 1, none⟩) (by show 1 < B; omega)).trans (h.2 i hi).2⟩⟩
theorem Tabs.old {w w' : World} (h : Tabs w) (hb : Below w.heap.size w w') : Tabs w' := h.below hb h.size
theorem getD_some {l : List UInt8} {k : Nat} (h : k < l.length) : l[k]? = some (l.getD k 0) := by simp [List.getD, h]
theorem get_getD (l : List UInt8) (j : Nat) : (⟨l.toArray⟩ : ByteArray).get! j = l.getD j 0 := by
  rw [← getD_get!']
theorem dec_any (b off cap : Nat) (l : List UInt8) (w : World) (hne : 0 < l.length) (hT : Tabs w) (hc : ∀ j, j < l.length → w.cell? ⟨b, off + j, none⟩ = some (.int .u8 ((l.getD j 0).toNat : Int))) :
    Calls Tryd.prog 69 #[.slice (some ⟨b, off, none⟩) l.length cap] w fun e w' => e = .returned (.tuple #[.int .i32 (decodeL l).1, .int .i64 (decodeL l).2]) ∧ Below w.heap.size w w' := by
  have hs : (⟨l.toArray⟩ : ByteArray).size = l.length := by show l.toArray.size = l.length; simp
  have h := Any7.utf8_DecodeRune u8lays ⟨l.toArray⟩ b off cap w hT (fun j hj => by rw [hs] at hj; rw [get_getD]; exact hc j hj)
  have e : Lib.decodeGo (⟨l.toArray⟩ : ByteArray) = decodeL l := by
    unfold Lib.decodeGo
    rw [if_neg (by rw [hs]; omega)]
    rfl
  rw [hs, e] at h
  exact h
theorem Bs_cells {E : List TypeId} {B : Nat} {w : World} {A : Option Addr} {n : Nat} {l : List UInt8} (h : Bs E B w A n l) (hn : 0 < n) : ∃ b off, A = some ⟨b, off, none⟩ ∧ ∀ j, j < n → w.cell? ⟨b, off + j, none⟩ = some (.int .u8 ((l.getD j 0).toNat : Int)) := by
  obtain ⟨b, off, e, _, _, hc⟩ := h.2 hn
  exact ⟨b, off, e, fun j hj => hc j _ (getD_some (by rw [h.1]; exact hj))⟩
theorem drop_cells {b off : Nat} {w : World} {l : List UInt8} (hc : ∀ j, j < l.length → w.cell? ⟨b, off + j, none⟩ = some (.int .u8 ((l.getD j 0).toNat : Int))) (i : Nat) :
    ∀ j, j < (l.drop i).length → w.cell? ⟨b, off + i + j, none⟩ = some (.int .u8 (((l.drop i).getD j 0).toNat : Int)) := fun j hj => by
  rw [getD_dropU, Nat.add_assoc]
  exact hc _ (by rw [List.length_drop] at hj; omega)
theorem chkf_at (l : List UInt8) (f i : Nat) (hi : i < l.length) (hf : l.length - i ≤ f) :
    ∃ f', f = f' + 1 ∧ chkf f i (l.drop i) = if badL (l.drop i) || (decodeL (l.drop i)).1 == 0 then (i : Int) else chkf f' (i + (decodeL (l.drop i)).2) (l.drop (i + (decodeL (l.drop i)).2)) := by
  obtain ⟨f', rfl⟩ : ∃ f', f = f' + 1 := ⟨f - 1, by omega⟩
  refine ⟨f', rfl, ?_⟩
  have hne : l.drop i ≠ [] := by
    intro h
    have := congrArg List.length h
    simp at this
    omega
  simp only [chkf]
  rw [if_neg hne, List.drop_drop]
set_option maxRecDepth 100000 in
set_option maxHeartbeats 4000000 in
theorem dec_zero (l : List UInt8) (hl : 0 < l.length) : (decodeL l).1 = 0 ↔ (l.getD 0 0).toNat = 0 := by
  rw [decodeL_N]
  rcases decodeN_shape l.length (l.getD 0 0).toNat (l.getD 1 0).toNat (l.getD 2 0).toNat (l.getD 3 0).toNat with ⟨c, e⟩ | ⟨c1, c2, c3, cv, e⟩ | ⟨c1, c2, c3, c4, cv, cs, e⟩ | ⟨c1, c2, c3, c4, c5, cv, cw, e⟩ | e
  · rw [e]
  · rw [e]; dsimp only; omega
  · rw [e]; dsimp only; omega
  · rw [e]; dsimp only; omega
  have hb := (l.getD 0 0).toNat_lt
  by_cases h : (l.getD 0 0).toNat < 128
  · unfold decodeN at e
    rw [if_pos h] at e
    have := congrArg Prod.fst e
    dsimp only at this
    omega
  rw [e]; dsimp only; omega
set_option maxRecDepth 100000 in
set_option maxHeartbeats 4000000 in
theorem chk_any (E : List TypeId) (B : Nat) (A : Option Addr) (cap : Nat) (l : List UInt8) (w : World) (hT : Tabs w) (h : Bs E B w A l.length l) (hl : l.length ≤ cap) (hcap : cap ≤ maxLen) :
    Calls Tryd.prog 59 #[.slice A l.length cap] w fun e w' => e = .returned (.int .i64 (chk l)) ∧ Below w.heap.size w w' := by
  unfold maxLen at hcap
  go_enter Tryd.func59, Tryd.ntmps59
  go_wp2
  go_loopg [3] l.length (fun g v wr => ∃ i f : Nat, i + g = l.length ∧ v = .int .i64 i ∧ l.length - i ≤ f ∧ chkf f i (l.drop i) = chk l ∧ Below w.heap.size w wr)
  case atStart => exact ⟨0, l.length, by omega, rfl, by omega, by simp [chk], Below.refl _ _⟩
  case round =>
    obtain ⟨i, f, hi, rfl, hf, hk, hB⟩ := hrel
    have HK := hid hk
    clear hk
    by_cases hlt : i < l.length
    · have hT2 := hT.old hB
      obtain ⟨b, off, rfl, hcell⟩ := Bs_cells (h.same (.of_below hB)) (by omega)
      have HB := hid hB
      have HC := hid hcell
      obtain ⟨f', rfl, hstep⟩ := chkf_at l f i hlt hf
      have HS := hid hstep
      have HI := hid hi
      have HF := hid hf
      have hdl : (l.drop i).length = l.length - i := List.length_drop
      have hw := decodeL_width (l.drop i)
      have hne : l.drop i ≠ [] := by intro h; have := congrArg List.length h; simp at this; omega
      have hle := decodeL_le (l.drop i) hne
      have hi2 : (i : Int) < (l.length : Int) := by omega
      have hi3 : (i : Int) ≤ (cap : Int) := by omega
      have hstp := dec_any b (off + i) (cap - i) (l.drop i) wr (by omega) hT2 (drop_cells hcell i)
      rw [hdl] at hstp hle
      have hzz := dec_zero (l.drop i) (by omega)
      rw [getD_dropU, Nat.add_zero] at hzz
      have hci : ¬ cap = i := by omega
      have hcl := hcell i hlt
      have HH := hid h
      clear hcell hstep hi hf hdl h hT2 hB hne
      go_wp2_with fail
      refine hstp.mono ?_
      rintro e w1 ⟨rfl, hb1⟩
      have hcl := (hb1.cell (p := ⟨b, off + i, none⟩) (World.block_lt_of_cell? _ _ hcl)).trans hcl
      have HB := hid (HB.out.trans (hb1.mono HB.out.size))
      obtain ⟨z, hz⟩ : ∃ z, z = (l.getD i 0).toNat := ⟨_, rfl⟩
      obtain ⟨r, hr⟩ : ∃ r, r = decodeL (l.drop i) := ⟨_, rfl⟩
      rw [← hr] at hw hle hzz ⊢
      rw [← hz] at hcl hzz
      have HR := hid hr
      clear hr hstp hlt hz hb1
      by_cases h1 : r.1 = 0
      · have hz1 : ((z : Int) == 0) = true := by simp; omega
        have HE := hid (show chk l = (i : Int) by rw [← HK.out, HS.out, ← HR.out, h1]; simp)
        clear h1 hzz
        go_wp2
        go_ret
        exact ⟨by rw [HE.out]; rfl, HB.out⟩
      have hz1 : ((z : Int) == 0) = false := by simp; omega
      by_cases h2 : r.1 = 65533
      · have hz2 : ((r.1 : Int) == 65533) = true := by simp; omega
        by_cases h3 : r.2 = 1
        · have hz3 : (r.2 : Int) < 2 := by omega
          have HE := hid (show chk l = (i : Int) by rw [← HK.out, HS.out]; unfold badL; rw [← HR.out, h2, h3]; simp)
          clear h1 hzz h2 h3
          go_wp2
          go_ret
          exact ⟨by rw [HE.out]; rfl, HB.out⟩
        have hz3 : ¬ (r.2 : Int) < 2 := by omega
        have HE := hid (show chkf f' (i + r.2) (l.drop (i + r.2)) = chk l by
          rw [← HK.out, HS.out]; unfold badL; rw [← HR.out]
          simp [h1, h3])
        clear h1 hzz h2 h3
        go_wp2
        go_roundg (gk - r.2)
        case measure => have := HI.out; omega
        case rel => exact ⟨i + r.2, f', by have := HI.out; omega, by go_num, by have := HF.out; omega, HE.out, HB.out⟩
      have hz2 : ((r.1 : Int) == 65533) = false := by simp; omega
      have HE := hid (show chkf f' (i + r.2) (l.drop (i + r.2)) = chk l by
        rw [← HK.out, HS.out]; unfold badL; rw [← HR.out]
        simp [h1, h2])
      clear h1 hzz h2
      go_wp2
      go_roundg (gk - r.2)
      case measure => have := HI.out; omega
      case rel => exact ⟨i + r.2, f', by have := HI.out; omega, by go_num, by have := HF.out; omega, HE.out, HB.out⟩
    have hi2 : ¬ (i : Int) < (l.length : Int) := by omega
    have HE := hid (show chk l = -1 by
      rw [← HK.out, List.drop_eq_nil_of_le (by omega), chkf_nil])
    clear hf hlt hi
    go_wp2
    go_ret
    exact ⟨by rw [HE.out]; rfl, hB⟩
end Go.Proofs.YtekmhcdgmgbheaaDoor
namespace Go.Hub
open Go.RowKit Go.Lib
theorem bs_conv (E : List TypeId) (B : Nat) (w : World) (s : ByteArray) (e : TypeId) (he : e ∈ E) (cap : Nat) (fr : Nat × Nat) :
    Bs E B (w.drew.alloc (.cells (bytesRow s cap) e fr)) (some ⟨w.heap.size, 0, none⟩) s.data.toList.length s.data.toList := by
  refine ⟨rfl, fun _ => ⟨w.heap.size, 0, rfl, by simp, .inr ⟨_, e, fr, heap_alloc_new w.drew _, he⟩, fun j x hx => ?_⟩⟩
  rw [Nat.zero_add]
  have hj : j < s.data.size := by
    have := (List.getElem?_eq_some_iff.1 hx).1
    simpa using this
  refine (World.cell?_alloc_mark w.drew _ _ _ _).trans ?_
  rw [bytesRow_at s cap j hj]
  have : x = s.data[j] := by
    have := (List.getElem?_eq_some_iff.1 hx).2
    simp at this
    exact this.symm
  rw [this]
  rfl
end Go.Hub
namespace Go.Proofs.YtekmhcdgmgbheaaDoor
open Go.RowKit Go.Hub Go.Lib
theorem toList_len (s : ByteArray) : s.toList.length = s.size := by rw [ByteArray.toList_eq]; rfl
theorem pos_of {s : ByteArray} (h : ¬ s = ⟨#[]⟩) : 0 < s.size := by
  have : s.size ≠ 0 := fun e => h (ByteArray.ext (Array.eq_empty_of_size_eq_zero e))
  omega
theorem pos_not {s : ByteArray} (h : s = ⟨#[]⟩) : s.size = 0 := by subst h; rfl
def textB (s : ByteArray) : Bool := decide (0 < s.size) && (decide (s.size ≤ 65535) && decide (chk s.toList < 0))
theorem text_t {s : ByteArray} (h1 : 0 < s.size) (h2 : s.size ≤ 65535) : textB s = decide (chk s.toList < 0) := by simp [textB, h1, h2]
theorem text_f {s : ByteArray} (h : ¬ (0 < s.size ∧ s.size ≤ 65535)) : textB s = false := by
  unfold textB
  by_cases h1 : 0 < s.size
  · rw [decide_eq_false (p := s.size ≤ 65535) (by omega)]; simp
  rw [decide_eq_false h1]; rfl
section
variable {P : Program} {ops : Array Oper} {rest : List Oper} {a : Act} {w : World} {Q : Exit → Act → World → Prop} {n d : Nat} {l : FL} {ty : TypeId} {ps : String} {af : Array Edge} {gd : Option (Nat × Bool)} {x : Operand} {src dst u8t : TypeId}
theorem L.convSB (f : Fr n a l) (hw : Region.wanted ⟨some d, .convert src dst x, ty, ps, af, gd⟩ (yielded ops a.tmps) = true) (hn : d < n) (hs : P.underlying src = some .string) (hd : P.underlying dst = some (.slice 5)) (he : P.underlying 5 = some (.int .u8)) {s : ByteArray} (hx : evl l x = some (.string s))
    (hm : s.size ≤ 1000000) (hK : ∀ a' w' c, Fr n a' ((d, .slice (some ⟨w.heap.size, 0, none⟩) s.toList.length c) :: l) → (s.toList.length ≤ c ∧ c ≤ maxLen) → Bs [5] w'.heap.size w' (some ⟨w.heap.size, 0, none⟩) s.toList.length s.toList → Kept [] w w' → wpList P ops Q rest a' w') : wpList P ops Q (⟨some d, .convert src dst x, ty, ps, af, gd⟩ :: rest) a w := by
  have h := run_bytes_of_string (P := P) w src dst 5 s hs hd he
  refine L.val (v := .slice (some ⟨w.heap.size, 0, none⟩) s.size (grownCap w s.size 0 5)) (w' := w.drew.alloc (.cells (bytesRow s (grownCap w s.size 0 5)) 5 ((bytesRow s (grownCap w s.size 0 5)).size, (bytesRow s (grownCap w s.size 0 5)).size + 1))) f hw rfl hn (by simp only [execOp, f.ev hx, Sem.run_bind, h, Result.andThen, Sem.run_pure]) fun a' f' => hK a' _ (grownCap w s.size 0 5) (by rw [toList_len]; exact f') ?_ ?_ ?_
  · rw [toList_len]
    exact ⟨grownCap_ge _ _ _ _, grownCap_le_maxLen _ _ _ _ (by unfold maxLen; omega)⟩
  · rw [ByteArray.toList_eq]
    exact bs_conv [5] _ w s 5 (by simp) _ _
  exact ((Kept.refl [] w).drewN 1).alloc _
end
set_option maxHeartbeats 1000000 in
theorem text_any (s : ByteArray) (w : World) (hT : Tabs w) (hs : s.size ≤ 1000000) : Calls Tryd.prog 39 #[.string s] w (fun e w' => Kept [] w w' ∧ e = .returned (.bool (textB s))) := by
  have HK : Kept [] w w := Kept.refl [] w
  refine C.enter Tryd.func39 rfl Tryd.ntmps39 rfl ?_
  intro a0 f0
  have f1 : Fr 16 a0 [(0, .string s)] := f0
  refine C.sk fun K0 hK0 => ?_
  refine L.val f1 wantedN rfl (by decide) (E.assign f1 rfl) fun a2 f2 => ?_
  have f3 := f2.sub (sub_cons (i := 0) rfl (sub_cons (i := 2) rfl sn))
  refine wpList_nil (hK0 _ _ (C.sk fun K1 hK1 => ?_))
  refine L.val f3 wantedN rfl (by decide) (E.move f3 rfl) fun a4 f4 => ?_
  refine L.val f4 wantedN rfl (by decide) (E.neqS f4 rfl rfl) fun a5 f5 => ?_
  refine L.val f5 wantedN rfl (by decide) (E.move f5 rfl) fun a6 f6 => ?_
  clear f0 f1 a0 f2 f3 a2 f4 a4 f5 a5
  refine f6.splitN 5 rfl (fun h0 f7 => ?_) (fun h0 f7 => ?_)
  · have h5 := h0
    refine L.val f7 (f7.yes rfl rfl) rfl (by decide) (E.move f7 rfl) fun a8 f8 => ?_
    refine L.val f8 (f8.yes rfl rfl) rfl (by decide) (E.lenS f8 U9 rfl) fun a9 f9 => ?_
    refine L.val f9 (f9.yes rfl rfl) rfl (by decide) (E.leq f9 rfl rfl) fun a10 f10 => ?_
    refine L.val f10 wantedN rfl (by decide) (E.pickT f10 rfl rfl) fun a11 f11 => ?_
    refine L.val f11 wantedN rfl (by decide) (E.move f11 rfl) fun a12 f12 => ?_
    clear f6 f7 a6 f8 a8 f9 a9 f10 a10 f11 a11
    refine f12.splitD 10 rfl (fun h1 f13 => ?_) (fun h1 f13 => ?_)
    · have h10 := h1
      refine L.val f13 (f13.yes rfl rfl) rfl (by decide) (E.move f13 rfl) fun a14 f14 => ?_
      refine L.convSB f14 (f14.yes rfl rfl) (by decide) U9 U26 U5 rfl (by omega) fun a15 w1 cb f15 hcb BS kcv => ?_
      have szw1 := kcv.size
      replace HK := HK.z kcv
      clear f12 f13 a12 f14 a14 kcv
      refine L.call f15 (f15.yes rfl rfl) rfl (by decide) (run_call Tryd.call59 (args1 f15 rfl)) (chk_any [5] w1.heap.size _ cb s.toList w1 (hT.old (HK.below (by simp) (Nat.le_refl _))) BS hcb.1 hcb.2) ?_
      rintro e w2 ⟨rfl, kb⟩
      have kc2 := Kept.of_below kb []
      refine ⟨_, rfl, fun a16 f16 => ?_⟩
      have szw2 := kc2.size
      replace HK := HK.z kc2
      clear f15 a15 kc2
      refine L.val f16 (f16.yes rfl rfl) rfl (by decide) (E.lss f16 rfl rfl) fun a17 f17 => ?_
      refine L.val f17 wantedN rfl (by decide) (E.pickT f17 rfl rfl) fun a18 f18 => ?_
      refine L.val f18 wantedN rfl (by decide) (E.assign f18 rfl) fun a19 f19 => ?_
      have f20 := f19.sub (sub_cons (i := 2) rfl sn)
      refine wpList_nil (hK1 _ _ (wp_ret ?_)); (try simp only [xt, xb]); refine C.ret f20 rfl rfl ?_
      exact ⟨HK, by rw [text_t (pos_of h5) (by omega)]⟩
    have h10 := h1
    refine L.skip f13 (f13.noT rfl rfl) rfl (by decide) fun a14 f14 => ?_
    refine L.skip f14 (f14.noT rfl rfl) rfl (by decide) fun a15 f15 => ?_
    refine L.run f15 (rest' := []) (by kernel_rfl) fun a16 f16 => ?_
    clear f12 f13 a12 f14 a14
    have f17 := f16.sub (sv 2 (.bool false) sn)
    refine wpList_nil (hK1 _ _ (wp_ret ?_)); (try simp only [xt, xb]); refine C.ret f17 rfl rfl ?_
    exact ⟨HK, by rw [text_f (by omega)]⟩
  have h5 := h0
  refine L.skip f7 (f7.noT rfl rfl) rfl (by decide) fun a8 f8 => ?_
  refine L.skip f8 (f8.noT rfl rfl) rfl (by decide) fun a9 f9 => ?_
  refine L.skip f9 (f9.noT rfl rfl) rfl (by decide) fun a10 f10 => ?_
  refine L.val f10 wantedN rfl (by decide) (E.pickF f10 rfl rfl) fun a11 f11 => ?_
  refine L.val f11 wantedN rfl (by decide) (E.move f11 rfl) fun a12 f12 => ?_
  refine L.skip f12 (f12.noT rfl rfl) rfl (by decide) fun a13 f13 => ?_
  refine L.skip f13 (f13.noT rfl rfl) rfl (by decide) fun a14 f14 => ?_
  clear f6 f7 a6 f8 a8 f9 a9 f10 a10 f11 a11 f12 a12 f13 a13
  refine L.run f14 (rest' := []) (by kernel_rfl) fun a15 f15 => ?_
  have f16 := f15.sub (sv 2 (.bool false) sn)
  refine wpList_nil (hK1 _ _ (wp_ret ?_)); (try simp only [xt, xb]); refine C.ret f16 rfl rfl ?_
  exact ⟨HK, by rw [text_f (by rw [pos_not h5]; omega)]⟩
end Go.Proofs.YtekmhcdgmgbheaaDoor
namespace Go.Proofs.YtekmhcdgmgbheaaDoor
open Go.Shelf
def spren : Ren := ⟨fun | 138 => 81 | 143 => 82 | 146 => 67 | 195 => 84 | 197 => 85 | 217 => 90 | 218 => 86 | 219 => 87 | 221 => 74 | 224 => 92 | 225 => 91 | 260 => 89 | 266 => 94 | 267 => 93 | 268 => 80 | 314 => 95 | n => n, fun | 31 => 91 | 46 => 100 | 51 => 123 | 105 => 103 | 119 => 114 | 138 => 116 | 139 => 117 | 146 => 124 | n => n, fun | 1 => 2 | 3 => 0 | 4 => 1 | n => n⟩
theorem splitL : Lays.n146 Tryd.prog spren := {
  mixed := by kernel_rfl
  f138 := by kernel_rfl
  f143 := by kernel_rfl
  f146 := by kernel_rfl
  f195 := by kernel_rfl
  f197 := by kernel_rfl
  f217 := by kernel_rfl
  f218 := by kernel_rfl
  f219 := by kernel_rfl
  f221 := by kernel_rfl
  f224 := by kernel_rfl
  f225 := by kernel_rfl
  f260 := by kernel_rfl
  f266 := by kernel_rfl
  f267 := by kernel_rfl
  f268 := by kernel_rfl
  f314 := by kernel_rfl
  t0 := by kernel_rfl
  a0 := fun _ => by kernel_rfl
  z0 := fun _ => by kernel_rfl
  v0 := fun _ => by kernel_rfl
  t3 := by kernel_rfl
  a3 := fun _ => by kernel_rfl
  z3 := fun _ => by kernel_rfl
  v3 := fun _ => by kernel_rfl
  t4 := by kernel_rfl
  a4 := fun _ => by kernel_rfl
  z4 := fun _ => by kernel_rfl
  v4 := fun _ => by kernel_rfl
  t5 := by kernel_rfl
  a5 := fun _ => by kernel_rfl
  z5 := fun _ => by kernel_rfl
  v5 := fun _ => by kernel_rfl
  t9 := by kernel_rfl
  a9 := fun _ => by kernel_rfl
  z9 := fun _ => by kernel_rfl
  v9 := fun _ => by kernel_rfl
  t21 := by kernel_rfl
  a21 := fun _ => by kernel_rfl
  z21 := fun _ => by kernel_rfl
  v21 := fun _ => by kernel_rfl
  t31 := by kernel_rfl
  a31 := fun _ => by kernel_rfl
  z31 := fun _ => by kernel_rfl
  v31 := fun _ => by kernel_rfl
  t46 := by kernel_rfl
  a46 := fun _ => by kernel_rfl
  z46 := fun _ => by kernel_rfl
  v46 := fun _ => by kernel_rfl
  t51 := by kernel_rfl
  a51 := fun _ => by kernel_rfl
  z51 := fun _ => by kernel_rfl
  v51 := fun _ => by kernel_rfl
  t105 := by kernel_rfl
  a105 := fun _ => by kernel_rfl
  z105 := fun _ => by kernel_rfl
  v105 := fun _ => by kernel_rfl
  t119 := by kernel_rfl
  a119 := fun _ => by kernel_rfl
  z119 := fun _ => by kernel_rfl
  t138 := by kernel_rfl
  a138 := fun _ => by kernel_rfl
  z138 := fun _ => by kernel_rfl
  v138 := fun _ => by kernel_rfl
  t139 := by kernel_rfl
  a139 := fun _ => by kernel_rfl
  z139 := fun _ => by kernel_rfl
  v139 := fun _ => by kernel_rfl
  t146 := by kernel_rfl
  a146 := fun _ => by kernel_rfl
  z146 := fun _ => by kernel_rfl
  v146 := fun _ => by kernel_rfl
  g1 := by kernel_rfl
  g3 := by kernel_rfl
  g4 := by kernel_rfl
}
end Go.Proofs.YtekmhcdgmgbheaaDoor
namespace Go.Proofs.YtekmhcdgmgbheaaDoor
open Go.RowKit Go.Hub Go.Lib Go.Shelf
def Glob (w : World) : Prop := Tabs w ∧ ∃ m, w.cell? ⟨2, 0, none⟩ = some (.int .i64 m)
theorem Glob.kept {w w' : World} (h : Glob w) (hk : Kept [] w w') : Glob w' := ⟨h.1.old (hk.below (by simp) (Nat.le_refl _)), by
  obtain ⟨m, hm⟩ := h.2
  exact ⟨m, (hk.cell (p := ⟨2, 0, none⟩) (World.block_lt_of_cell? w _ hm) (by simp)).trans hm⟩⟩
def slash : ByteArray := ⟨#[47]⟩
def levelsL (s : ByteArray) : List ByteArray := Lib.splitB slash 0 (Lib.countB s slash) s
def LevPost (s : ByteArray) (w : World) (e : Ending) (w' : World) : Prop := Kept [] w w' ∧ ∃ A c, e = .returned (.slice A (levelsL s).length c) ∧ Ss w' A (levelsL s) ∧ (levelsL s).length ≤ c ∧ 1 ≤ (levelsL s).length ∧ (levelsL s).length ≤ s.size + 1
theorem lev_len (s : ByteArray) : (levelsL s).length = Lib.countB s slash + 1 := Lib.splitB_all slash (by decide) 0 _ s rfl
theorem cnt_le (s : ByteArray) : Lib.countB s slash ≤ s.size := Lib.countB_le slash (by decide) s.size s (Nat.le_refl _)
theorem split_any (s : ByteArray) (w : World) (G : Glob w) (hs : s.size ≤ 1000000) : Calls Tryd.prog 67 #[.string s, .string ⟨#[47]⟩] w (LevPost s w) := by
  obtain ⟨m, hm⟩ := G.2
  have h := Any.strings_Split splitL (by kernel_rfl) s slash m w (by omega) hm (by decide)
  refine Calls.mono h ?_
  rintro e w' ⟨rfl, rfl⟩
  refine ⟨(Kept.refl [] w).alloc _, some ⟨w.heap.size, 0, none⟩, Lib.countB s slash + 1, by rw [lev_len], ?_, by rw [lev_len]; exact Nat.le_refl _, by rw [lev_len]; omega, by rw [lev_len]; have := cnt_le s; omega⟩
  refine ⟨by simp, fun _ => ⟨w.heap.size, 0, rfl, by simp, fun j u hu => ?_⟩⟩
  rw [Nat.zero_add]
  refine (World.cell?_alloc_mark w _ _ _ _).trans ?_
  rw [← Array.getElem?_toList]
  exact hu
set_option maxHeartbeats 1000000 in
theorem levels_any (s : ByteArray) (w : World) (G : Glob w) (hs : s.size ≤ 1000000) : Calls Tryd.prog 54 #[.string s] w (LevPost s w) := by
  have HK : Kept [] w w := Kept.refl [] w
  refine C.enter Tryd.func54 rfl Tryd.ntmps54 rfl ?_
  intro a0 f0
  have f1 : Fr 5 a0 [(0, .string s)] := f0
  refine C.sk fun K0 hK0 => ?_
  refine L.val f1 wantedN rfl (by decide) (E.assign f1 rfl) fun a2 f2 => ?_
  have f3 := f2.sub (sub_cons (i := 0) rfl (sub_cons (i := 2) rfl sn))
  refine wpList_nil (hK0 _ _ (C.sk fun K1 hK1 => ?_))
  refine L.val f3 wantedN rfl (by decide) (E.move f3 rfl) fun a4 f4 => ?_
  refine L.call f4 wantedN rfl (by decide) (run_call Tryd.call67 (args2 f4 rfl rfl)) (split_any s _ G hs) ?_
  clear f0 f1 a0 f2 f3 a2
  rintro e w1 ⟨kc1, A, c, rfl, h1, h2, h3, h4⟩
  refine ⟨_, rfl, fun a5 f5 => ?_⟩
  have szw1 := kc1.size
  replace HK := HK.z kc1
  clear f4 a4 kc1
  refine L.val f5 wantedN rfl (by decide) (E.assign f5 rfl) fun a6 f6 => ?_
  have f7 := f6.sub (sub_cons (i := 2) rfl sn)
  refine wpList_nil (hK1 _ _ (wp_ret ?_)); (try simp only [xt, xb]); refine C.ret f7 rfl rfl ?_
  exact ⟨HK, A, c, rfl, h1, h2, h3, h4⟩
end Go.Proofs.YtekmhcdgmgbheaaDoor
namespace Go.Proofs.YtekmhcdgmgbheaaDoor
open Go.RowKit Go.Hub Go.Lib
def nameB (s : ByteArray) : Bool := textB s && !anyW s
set_option maxHeartbeats 1000000 in
theorem name_any (s : ByteArray) (w : World) (G : Glob w) (hs : s.size ≤ 1000000) : Calls Tryd.prog 18 #[.string s] w (fun e w' => Kept [] w w' ∧ e = .returned (.bool (nameB s))) := by
  have HK : Kept [] w w := Kept.refl [] w
  refine C.enter Tryd.func18 rfl Tryd.ntmps18 rfl ?_
  intro a0 f0
  have f1 : Fr 14 a0 [(0, .string s)] := f0
  refine C.sk fun K0 hK0 => ?_
  refine L.val f1 wantedN rfl (by decide) (E.assign f1 rfl) fun a2 f2 => ?_
  refine wpList_nil (hK0 _ _ ?_)
  have f3 := f2.sub (sub_cons (i := 0) rfl (sub_cons (i := 2) rfl sn))
  refine wp_seq_k fun K1 hK1 => ?_
  refine C.sk fun K2 hK2 => ?_
  refine L.val f3 wantedN rfl (by decide) (E.move f3 rfl) fun a4 f4 => ?_
  refine L.range f4 wantedN (by decide) U9 rfl fun a5 w1 g0 Ig0 kg0 log0 f5 => ?_
  have szw1 := kg0.size
  have ltg0 := Ig0.lt
  replace HK := HK.z kg0
  clear f0 f1 a0 f2 f3 a2 f4 a4 kg0
  refine wpList_nil (hK2 _ _ ?_)
  have f6 := f5.sub (sub_cons (i := 0) rfl (sub_cons (i := 2) rfl (sub_cons (i := 6) rfl sn)))
  refine wp_block ?_
  clear f5
  refine C.loop (fun gk a W => ∃ pos : Nat, pos ≤ s.size ∧ s.size ≤ pos + gk ∧ (∀ j b, j < pos → s[j]? = some b → wildU b = false) ∧ Kept [] w W ∧ Iter W g0 s pos ∧ Fr 14 a [(0, .string s), (6, .pointer (some ⟨g0, 0, none⟩))]) (s.size) ?_ ?_
  · exact ⟨0, by omega, by omega, fun j b h => by omega, HK, Ig0, f6.sub (sx (sx sn))⟩
  intro gk4 a7 w2 hI KL3 hKL3
  obtain ⟨pos, hpl, hk, hq, HK, Ig0, f7⟩ := hI
  try clear f6
  refine C.sk fun K4 hK4 => ?_
  refine L.next f7 wantedN (by decide) rfl Ig0 fun a8 w3 IN3 ki3 f8 => ?_
  have szw3 := ki3.size
  replace HK := HK.trans ki3 (by intro x hx hlt; simp at hx; subst hx; (exfalso; omega))
  replace Ig0 := IN3
  clear f7 a7 ki3
  refine L.val f8 wantedN rfl (by decide) (E.extract f8 rfl nextV_ok) fun a9 f9 => ?_
  refine wpList_nil (hK4 _ _ ?_)
  have f10 := f9.sub (sub_cons (i := 0) rfl (sub_cons (i := 6) rfl (sub_cons (i := 7) rfl (sub_cons (i := 8) rfl sn))))
  refine wp_seq_k fun K5 hK5 => ?_
  clear f8 a8 f9
  refine f10.splitD 8 rfl (fun h0 f11 => ?_) (fun h0 f11 => ?_)
  · have hp : pos < s.size := by simpa using h0
    refine C.condT f11 rfl ?_
    refine wp_skip (hK5 _ _ ?_)
    have f12 := f11.sub (sub_cons (i := 0) rfl (sub_cons (i := 6) rfl (sub_cons (i := 7) rfl (sub_cons (i := 8) rfl sn))))
    refine wp_block ?_
    refine C.sk fun K6 hK6 => ?_
    refine L.val f12 wantedN rfl (by decide) (E.extract f12 rfl (nextV_rune hp)) fun a13 f13 => ?_
    refine L.val f13 wantedN rfl (by decide) (E.assign f13 rfl) fun a14 f14 => ?_
    have f15 := f14.sub (sub_cons (i := 0) rfl (sub_cons (i := 4) rfl (sub_cons (i := 6) rfl (sub_cons (i := 7) rfl (sub_cons (i := 8) rfl (sub_cons (i := 9) rfl sn))))))
    refine wpList_nil (hK6 _ _ (C.sk fun K7 hK7 => ?_))
    refine L.val f15 wantedN rfl (by decide) (E.move f15 rfl) fun a16 f16 => ?_
    refine L.call f16 wantedN rfl (by decide) (run_call Tryd.call38 (args1 f16 rfl)) (wild_any _ _) ?_
    clear f10 f11 f12 a9 f13 a13 f14 f15 a14
    rintro e w3x ⟨rfl, rfl⟩
    refine ⟨_, rfl, fun a17 f17 => ?_⟩
    refine wpList_nil (hK7 _ _ ?_)
    have f18 := f17.sub (sub_cons (i := 0) rfl (sub_cons (i := 4) rfl (sub_cons (i := 6) rfl (sub_cons (i := 7) rfl (sub_cons (i := 8) rfl (sub_cons (i := 9) rfl (sub_cons (i := 10) rfl (sub_cons (i := 11) rfl sn))))))))
    clear f16 a16 f17
    refine f18.split 11 rfl (fun h1 f19 => ?_) (fun h1 f19 => ?_)
    · have h11 := h1
      refine C.condT f19 rfl ?_
      refine C.sk fun K8 hK8 => ?_
      refine L.val f19 wantedN rfl (by decide) (E.assign f19 rfl) fun a20 f20 => ?_
      have f21 := f20.sub (sub_cons (i := 0) rfl (sub_cons (i := 2) rfl (sub_cons (i := 4) rfl (sub_cons (i := 6) rfl (sub_cons (i := 7) rfl (sub_cons (i := 8) rfl (sub_cons (i := 9) rfl (sub_cons (i := 10) rfl (sub_cons (i := 11) rfl sn)))))))))
      refine wpList_nil (hK8 _ _ (wp_ret ?_)); (try simp only [xt, xb]); refine C.ret f21 rfl rfl ?_
      exact ⟨HK, by unfold nameB; rw [skip_yes hp h11]; simp⟩
    have h11 := h1
    refine C.condF f19 rfl ?_
    clear f18
    refine wp_skip (hKL3 _ _ (gk4 - 1) ?_ ?_)
    · omega
    exact ⟨pos + (Utf8.decode s pos).2, (skip_to hp).1, by have := (skip_to hp).2; omega, skip_next hp hq (by simpa using h11), HK, by rw [nextP_at hp] at Ig0; exact Ig0, f19.sub (sx (sx sn))⟩
  have hp : ¬ pos < s.size := by simpa using h0
  refine C.condF f11 rfl ?_
  refine wp_exit (hK1 _ _ ?_)
  have f12 := f11.sub (sub_cons (i := 0) rfl sn)
  refine C.sk fun K9 hK9 => ?_
  refine L.val f12 wantedN rfl (by decide) (E.move f12 rfl) fun a13 f13 => ?_
  refine L.call f13 wantedN rfl (by decide) (run_call Tryd.call39 (args1 f13 rfl)) (text_any s w3 (G.kept HK).1 hs) ?_
  clear f10 f11 f12 a9
  rintro e w4 ⟨kc4, rfl⟩
  refine ⟨_, rfl, fun a14 f14 => ?_⟩
  have szw4 := kc4.size
  replace HK := HK.z kc4
  replace Ig0 := Ig0.kept kc4 (by simp)
  clear f13 a13 kc4
  refine L.val f14 wantedN rfl (by decide) (E.assign f14 rfl) fun a15 f15 => ?_
  have f16 := f15.sub (sub_cons (i := 2) rfl sn)
  refine wpList_nil (hK9 _ _ (wp_ret ?_)); (try simp only [xt, xb]); refine C.ret f16 rfl rfl ?_
  exact ⟨HK, by unfold nameB; rw [skip_no hp hq]; simp⟩
end Go.Proofs.YtekmhcdgmgbheaaDoor
namespace Go.Proofs.YtekmhcdgmgbheaaDoor
open Go.RowKit Go.Hub Go.Lib
theorem wsz9_tg : (Tryd.prog.info? 9).map (·.size) = some 1 := by kernel_rfl
def okL (p : ByteArray) (last : Bool) : Bool := decide (p = ⟨#[43]⟩) || (decide (p = ⟨#[35]⟩) && last) || !anyW p
theorem any35 : anyW ⟨#[35]⟩ = true := by kernel_rfl
def okAll : List ByteArray → Bool
  | [] => true
  | p :: r => okL p r.isEmpty && okAll r
theorem ok_at {l : List ByteArray} {k : Nat} {p : ByteArray} (h : l[k]? = some p) : okAll (l.drop k) = (okL p (decide (((k : Nat) : Int) = (l.length : Int) - 1)) && okAll (l.drop (k + 1))) := by
  obtain ⟨hk, rfl⟩ := List.getElem?_eq_some_iff.1 h
  rw [List.drop_eq_getElem_cons hk, okAll]
  have e : (l.drop (k + 1)).isEmpty = decide (((k : Nat) : Int) = (l.length : Int) - 1) := by
    rw [Bool.eq_iff_iff]
    simp [List.isEmpty_iff, List.drop_eq_nil_iff]
    omega
  rw [e]
def filterB (s : ByteArray) : Bool := textB s && okAll (levelsL s)
theorem ok_next {l : List ByteArray} {k : Nat} {p : ByteArray} (h : l[k]? = some p) (ho : okL p (decide (((k : Nat) : Int) = (l.length : Int) - 1)) = true) : okAll (l.drop (k + 1)) = okAll (l.drop k) := by
  rw [ok_at h, ho, Bool.true_and]
set_option maxHeartbeats 1000000 in
theorem filter_any (s : ByteArray) (w : World) (G : Glob w) (hs : s.size ≤ 1000000) : Calls Tryd.prog 53 #[.string s] w (fun e w' => Kept [] w w' ∧ e = .returned (.bool (filterB s))) := by
  have HK : Kept [] w w := Kept.refl [] w
  refine C.enter Tryd.func53 rfl Tryd.ntmps53 rfl ?_
  intro a0 f0
  have f1 : Fr 37 a0 [(0, .string s)] := f0
  refine C.sk fun K0 hK0 => ?_
  refine L.val f1 wantedN rfl (by decide) (E.assign f1 rfl) fun a2 f2 => ?_
  refine wpList_nil (hK0 _ _ ?_)
  have f3 := f2.sub (sub_cons (i := 0) rfl (sub_cons (i := 2) rfl sn))
  refine wp_seq_k fun K1 hK1 => ?_
  refine C.sk fun K2 hK2 => ?_
  refine L.val f3 wantedN rfl (by decide) (E.move f3 rfl) fun a4 f4 => ?_
  refine L.call f4 wantedN rfl (by decide) (run_call Tryd.call39 (args1 f4 rfl)) (text_any s w (G.kept HK).1 hs) ?_
  clear f0 f1 a0 f2 f3 a2
  rintro e w1 ⟨kc1, rfl⟩
  refine ⟨_, rfl, fun a5 f5 => ?_⟩
  have szw1 := kc1.size
  replace HK := HK.z kc1
  clear f4 a4 kc1
  refine L.val f5 wantedN rfl (by decide) (E.not f5 rfl) fun a6 f6 => ?_
  refine wpList_nil (hK2 _ _ ?_)
  have f7 := f6.sub (sub_cons (i := 0) rfl (sub_cons (i := 2) rfl (sub_cons (i := 8) rfl sn)))
  clear f5 a5 f6
  refine f7.splitNB 8 rfl (fun h0 f8 => ?_) (fun h0 f8 => ?_)
  · have h8 := h0
    refine C.condT f8 rfl ?_
    refine C.sk fun K3 hK3 => ?_
    refine L.val f8 wantedN rfl (by decide) (E.assign f8 rfl) fun a9 f9 => ?_
    have f10 := f9.sub (sub_cons (i := 0) rfl (sub_cons (i := 2) rfl sn))
    refine wpList_nil (hK3 _ _ (wp_ret ?_)); (try simp only [xt, xb]); refine C.ret f10 rfl rfl ?_
    exact ⟨HK, by unfold filterB; simp [*]⟩
  have h8 := h0
  refine C.condF f8 rfl ?_
  refine wp_skip (hK1 _ _ ?_)
  have f9 := f8.sub (sub_cons (i := 0) rfl (sub_cons (i := 2) rfl sn))
  refine C.sk fun K4 hK4 => ?_
  refine L.val f9 wantedN rfl (by decide) (E.move f9 rfl) fun a10 f10 => ?_
  refine L.call f10 wantedN rfl (by decide) (run_call Tryd.call54 (args1 f10 rfl)) (levels_any s w1 (G.kept HK) hs) ?_
  clear f7 f8 f9 a6
  rintro e w2 ⟨kc2, A, c, rfl, LS, l2, l3, l4⟩
  refine ⟨_, rfl, fun a11 f11 => ?_⟩
  have szw2 := kc2.size
  replace HK := HK.z kc2
  clear f10 a10 kc2
  refine L.val f11 wantedN rfl (by decide) (E.assign f11 rfl) fun a12 f12 => ?_
  refine wpList_nil (hK4 _ _ ?_)
  have f13 := f12.sub (sub_cons (i := 2) rfl (sub_cons (i := 3) rfl sn))
  refine wp_seq_k fun K5 hK5 => ?_
  refine C.sk fun K6 hK6 => ?_
  refine L.val f13 wantedN rfl (by decide) (E.move f13 rfl) fun a14 f14 => ?_
  refine L.val f14 wantedN rfl (by decide) (E.lenL f14 Tryd.underlying91 rfl) fun a15 f15 => ?_
  refine L.val f15 wantedN rfl (by decide) (E.move f15 rfl) fun a16 f16 => ?_
  refine wpList_nil (hK6 _ _ ?_)
  have f17 := f16.sub (sub_cons (i := 2) rfl (sub_cons (i := 3) rfl (sub_cons (i := 11) rfl (sub_cons (i := 12) rfl (sub_cons (i := 13) rfl sn)))))
  refine wp_block ?_
  clear f11 a11 f12 f13 a12 f14 a14 f15 a15 f16
  refine C.loop (fun gk a W => ∃ k : Nat, k + gk = (levelsL s).length ∧ okAll ((levelsL s).drop k) = okAll (levelsL s) ∧ Kept [] w W ∧ Ss W A (levelsL s) ∧ Fr 37 a [(3, .slice A (levelsL s).length c), (11, .slice A (levelsL s).length c), (12, .int .i64 (levelsL s).length), (13, .int .i64 k)]) ((levelsL s).length) ?_ ?_
  · exact ⟨0, by omega, rfl, HK, LS, f17.sub (sx (sx (sx (sx sn))))⟩
  intro gk8 a18 w3 hI KL7 hKL7
  obtain ⟨k, hk, hq, HK, LS, f18⟩ := hI
  try clear f17
  refine C.sk fun K8 hK8 => ?_
  refine L.val f18 wantedN rfl (by decide) (E.lss f18 rfl rfl) fun a19 f19 => ?_
  refine wpList_nil (hK8 _ _ ?_)
  have f20 := f19.sub (sub_cons (i := 3) rfl (sub_cons (i := 11) rfl (sub_cons (i := 12) rfl (sub_cons (i := 13) rfl (sub_cons (i := 14) rfl sn)))))
  refine wp_seq_k fun K9 hK9 => ?_
  clear f18 a18 f19
  refine f20.splitD 14 rfl (fun h1 f21 => ?_) (fun h1 f21 => ?_)
  · obtain ⟨p, hx⟩ : ∃ p, (levelsL s)[k]? = some p := ⟨(levelsL s)[k]'(by omega), List.getElem?_eq_getElem _⟩
    obtain ⟨b1, o1, hA⟩ := LS.addr (k := k) (by omega)
    refine C.condT f21 rfl ?_
    refine wp_skip (hK9 _ _ ?_)
    have f22 := f21.sub (sub_cons (i := 3) rfl (sub_cons (i := 11) rfl (sub_cons (i := 12) rfl (sub_cons (i := 13) rfl (sub_cons (i := 14) rfl sn)))))
    refine wp_seq_k fun K10 hK10 => ?_
    refine wp_block ?_
    refine C.sk fun K11 hK11 => ?_
    refine L.val f22 wantedN rfl (by decide) (E.move f22 rfl) fun a23 f23 => ?_
    refine L.val f23 wantedN rfl (by decide) (E.indexA f23 (by assumption) Tryd.underlying91 wsz9_tg rfl rfl (by omega) (by omega)) fun a24 f24 => ?_
    refine L.val f24 wantedN rfl (by decide) (E.load f24 U9 rfl rfl (ss_cell LS hA hx)) fun a25 f25 => ?_
    refine L.val f25 wantedN rfl (by decide) (E.assign f25 rfl) fun a26 f26 => ?_
    refine L.val f26 wantedN rfl (by decide) (E.assign f26 rfl) fun a27 f27 => ?_
    have f28 := f27.sub (sub_cons (i := 3) rfl (sub_cons (i := 4) rfl (sub_cons (i := 5) rfl (sub_cons (i := 11) rfl (sub_cons (i := 12) rfl (sub_cons (i := 13) rfl (sub_cons (i := 14) rfl (sub_cons (i := 15) rfl (sub_cons (i := 16) rfl (sub_cons (i := 17) rfl sn))))))))))
    refine wpList_nil (hK11 _ _ (C.sk fun K12 hK12 => ?_))
    refine L.val f28 wantedN rfl (by decide) (E.move f28 rfl) fun a29 f29 => ?_
    clear f20 f21 f22 a19 f23 a23 f24 a24 f25 a25 f26 a26 f27 f28 a27
    refine L.val f29 wantedN rfl (by decide) (E.neqS f29 rfl rfl) fun a30 f30 => ?_
    refine L.val f30 wantedN rfl (by decide) (E.move f30 rfl) fun a31 f31 => ?_
    clear f29 a29 f30 a30
    refine f31.splitN 20 rfl (fun h2 f32 => ?_) (fun h2 f32 => ?_)
    · have h20 := h2
      refine L.val f32 (f32.yes rfl rfl) rfl (by decide) (E.move f32 rfl) fun a33 f33 => ?_
      refine L.val f33 (f33.yes rfl rfl) rfl (by decide) (E.eqlS f33 rfl rfl) fun a34 f34 => ?_
      refine L.val f34 (f34.yes rfl rfl) rfl (by decide) (E.move f34 rfl) fun a35 f35 => ?_
      clear f31 f32 a31 f33 a33 f34 a34
      refine f35.splitD 23 rfl (fun h3 f36 => ?_) (fun h3 f36 => ?_)
      · have h23 := h3
        refine L.val f36 (f36.yes rfl rfl) rfl (by decide) (E.move f36 rfl) fun a37 f37 => ?_
        refine L.val f37 (f37.yes rfl rfl) rfl (by decide) (E.move f37 rfl) fun a38 f38 => ?_
        refine L.val f38 (f38.yes rfl rfl) rfl (by decide) (E.lenL f38 Tryd.underlying91 rfl) fun a39 f39 => ?_
        refine L.val f39 (f39.yes rfl rfl) rfl (by decide) (E.sub f39 rfl rfl (IntWalk.i64_in _ (by omega))) fun a40 f40 => ?_
        refine L.val f40 (f40.yes rfl rfl) rfl (by decide) (E.eql f40 rfl rfl) fun a41 f41 => ?_
        refine L.val f41 (f41.yes rfl rfl) rfl (by decide) (E.pickT f41 rfl rfl) fun a42 f42 => ?_
        refine L.val f42 (f42.yes rfl rfl) rfl (by decide) (E.not f42 rfl) fun a43 f43 => ?_
        clear f35 f36 a35 f37 a37 f38 a38 f39 a39 f40 a40 f41 a41 f42 a42
        refine L.val f43 wantedN rfl (by decide) (E.pickT f43 rfl rfl) fun a44 f44 => ?_
        refine L.val f44 wantedN rfl (by decide) (E.move f44 rfl) fun a45 f45 => ?_
        clear f43 a43 f44 a44
        refine f45.splitN 32 rfl (fun h4 f46 => ?_) (fun h4 f46 => ?_)
        · have h32 := h4
          refine L.val f46 (f46.yes rfl rfl) rfl (by decide) (E.move f46 rfl) fun a47 f47 => ?_
          refine L.call f47 (f47.yes rfl rfl) rfl (by decide) (run_call Tryd.call66 (args2 f47 rfl rfl)) (cont_any p w3) ?_
          clear f45 f46 a45
          rintro e w4 ⟨kc4, rfl⟩
          refine ⟨_, rfl, fun a48 f48 => ?_⟩
          have szw4 := kc4.size
          replace HK := HK.z kc4
          replace LS := LS.kept kc4
          clear f47 a47 kc4
          refine L.val f48 wantedN rfl (by decide) (E.pickT f48 rfl rfl) fun a49 f49 => ?_
          refine wpList_nil (hK12 _ _ ?_)
          have f50 := f49.sub (sub_cons (i := 3) rfl (sub_cons (i := 4) rfl (sub_cons (i := 5) rfl (sub_cons (i := 11) rfl (sub_cons (i := 12) rfl (sub_cons (i := 13) rfl (sub_cons (i := 14) rfl (sub_cons (i := 15) rfl (sub_cons (i := 16) rfl (sub_cons (i := 17) rfl (sub_cons (i := 18) rfl (sub_cons (i := 19) rfl (sub_cons (i := 20) rfl (sub_cons (i := 21) rfl (sub_cons (i := 22) rfl (sub_cons (i := 23) rfl (sub_cons (i := 24) rfl (sub_cons (i := 25) rfl (sub_cons (i := 26) rfl (sub_cons (i := 27) rfl (sub_cons (i := 28) rfl (sub_cons (i := 29) rfl (sub_cons (i := 30) rfl (sub_cons (i := 31) rfl (sub_cons (i := 32) rfl (sub_cons (i := 33) rfl (sub_cons (i := 34) rfl (sub_cons (i := 35) rfl sn))))))))))))))))))))))))))))
          clear f48 a48 f49
          refine f50.split 35 rfl (fun h5 f51 => ?_) (fun h5 f51 => ?_)
          · have h35 := h5
            refine C.condT f51 rfl ?_
            refine C.sk fun K13 hK13 => ?_
            refine L.val f51 wantedN rfl (by decide) (E.assign f51 rfl) fun a52 f52 => ?_
            have f53 := f52.sub (sub_cons (i := 2) rfl (sub_cons (i := 3) rfl (sub_cons (i := 4) rfl (sub_cons (i := 5) rfl (sub_cons (i := 11) rfl (sub_cons (i := 12) rfl (sub_cons (i := 13) rfl (sub_cons (i := 14) rfl (sub_cons (i := 15) rfl (sub_cons (i := 16) rfl (sub_cons (i := 17) rfl (sub_cons (i := 18) rfl (sub_cons (i := 19) rfl (sub_cons (i := 20) rfl (sub_cons (i := 21) rfl (sub_cons (i := 22) rfl (sub_cons (i := 23) rfl (sub_cons (i := 24) rfl (sub_cons (i := 25) rfl (sub_cons (i := 26) rfl (sub_cons (i := 27) rfl (sub_cons (i := 28) rfl (sub_cons (i := 29) rfl (sub_cons (i := 30) rfl (sub_cons (i := 31) rfl (sub_cons (i := 32) rfl (sub_cons (i := 33) rfl (sub_cons (i := 34) rfl (sub_cons (i := 35) rfl sn)))))))))))))))))))))))))))))
            refine wpList_nil (hK13 _ _ (wp_ret ?_)); (try simp only [xt, xb]); refine C.ret f53 rfl rfl ?_
            exact ⟨HK, by unfold filterB; rw [← hq, ok_at hx]; simp [okL, any35, h20, h23, h32, h35]⟩
          have h35 := h5
          refine C.condF f51 rfl ?_
          refine wp_skip (hK10 _ _ ?_)
          have f52 := f51.sub (sub_cons (i := 3) rfl (sub_cons (i := 4) rfl (sub_cons (i := 5) rfl (sub_cons (i := 11) rfl (sub_cons (i := 12) rfl (sub_cons (i := 13) rfl (sub_cons (i := 14) rfl (sub_cons (i := 15) rfl (sub_cons (i := 16) rfl (sub_cons (i := 17) rfl (sub_cons (i := 18) rfl (sub_cons (i := 19) rfl (sub_cons (i := 20) rfl (sub_cons (i := 21) rfl (sub_cons (i := 22) rfl (sub_cons (i := 23) rfl (sub_cons (i := 24) rfl (sub_cons (i := 25) rfl (sub_cons (i := 26) rfl (sub_cons (i := 27) rfl (sub_cons (i := 28) rfl (sub_cons (i := 29) rfl (sub_cons (i := 30) rfl (sub_cons (i := 31) rfl (sub_cons (i := 32) rfl (sub_cons (i := 33) rfl (sub_cons (i := 34) rfl (sub_cons (i := 35) rfl sn))))))))))))))))))))))))))))
          refine C.region ?_
          refine L.val f52 wantedN rfl (by decide) (E.add f52 rfl rfl (IntWalk.i64_in _ (by omega))) fun a53 f53 => ?_
          refine L.val f53 wantedN rfl (by decide) (E.move f53 rfl) fun a54 f54 => ?_
          clear f50 f51 f52 a49 f53 a53
          refine wpList_nil (hKL7 _ _ (gk8 - 1) ?_ ?_)
          · omega
          exact ⟨k + 1, by omega, (ok_next hx (by rw [h23, any35] at h35; cases h35)).trans hq, HK, LS, f54.sub (sx (sx (sx (sx sn))))⟩
        have h32 := h4
        refine L.run f46 (rest' := []) (by kernel_rfl) fun a47 f47 => ?_
        clear f45
        refine wpList_nil (hK12 _ _ ?_)
        have f48 := f47.sub (scR f47 3 (scR f47 4 (scR f47 5 (scR f47 11 (scR f47 12 (scR f47 13 (scR f47 14 (scR f47 15 (scR f47 16 (scR f47 17 (scR f47 18 (scR f47 19 (scR f47 20 (scR f47 21 (scR f47 22 (scR f47 23 (scR f47 24 (scR f47 25 (scR f47 26 (scR f47 27 (scR f47 28 (scR f47 29 (scR f47 30 (scR f47 31 (scR f47 32 (sub_cons (i := 33) rfl (sub_cons (i := 34) rfl (sv 35 (.bool false) sn))))))))))))))))))))))))))))
        refine C.condF f48 rfl ?_
        refine wp_skip (hK10 _ _ ?_)
        have f49 := f48.sub (sub_cons (i := 3) rfl (sub_cons (i := 4) rfl (sub_cons (i := 5) rfl (sub_cons (i := 11) rfl (sub_cons (i := 12) rfl (sub_cons (i := 13) rfl (sub_cons (i := 14) rfl (sub_cons (i := 15) rfl (sub_cons (i := 16) rfl (sub_cons (i := 17) rfl (sub_cons (i := 18) rfl (sub_cons (i := 19) rfl (sub_cons (i := 20) rfl (sub_cons (i := 21) rfl (sub_cons (i := 22) rfl (sub_cons (i := 23) rfl (sub_cons (i := 24) rfl (sub_cons (i := 25) rfl (sub_cons (i := 26) rfl (sub_cons (i := 27) rfl (sub_cons (i := 28) rfl (sub_cons (i := 29) rfl (sub_cons (i := 30) rfl (sub_cons (i := 31) rfl (sub_cons (i := 32) rfl (sub_cons (i := 33) rfl (sub_cons (i := 34) rfl (sub_cons (i := 35) rfl sn))))))))))))))))))))))))))))
        refine C.region ?_
        refine L.val f49 wantedN rfl (by decide) (E.add f49 rfl rfl (IntWalk.i64_in _ (by omega))) fun a50 f50 => ?_
        refine L.val f50 wantedN rfl (by decide) (E.move f50 rfl) fun a51 f51 => ?_
        clear f47 f46 f48 f49 a47 f50 a50
        refine wpList_nil (hKL7 _ _ (gk8 - 1) ?_ ?_)
        · omega
        exact ⟨k + 1, by omega, (ok_next hx (by simp [okL, h20, h23, h32])).trans hq, HK, LS, f51.sub (sx (sx (sx (sx sn))))⟩
      have h23 := h3
      refine L.skip f36 (f36.noT rfl rfl) rfl (by decide) fun a37 f37 => ?_
      refine L.skip f37 (f37.noT rfl rfl) rfl (by decide) fun a38 f38 => ?_
      refine L.skip f38 (f38.noT rfl rfl) rfl (by decide) fun a39 f39 => ?_
      refine L.skip f39 (f39.noT rfl rfl) rfl (by decide) fun a40 f40 => ?_
      refine L.skip f40 (f40.noT rfl rfl) rfl (by decide) fun a41 f41 => ?_
      refine L.val f41 (f41.yes rfl rfl) rfl (by decide) (E.pickF f41 rfl rfl) fun a42 f42 => ?_
      refine L.val f42 (f42.yes rfl rfl) rfl (by decide) (E.not f42 rfl) fun a43 f43 => ?_
      clear f35 f36 a35 f37 a37 f38 a38 f39 a39 f40 a40 f41 a41 f42 a42
      refine L.val f43 wantedN rfl (by decide) (E.pickT f43 rfl rfl) fun a44 f44 => ?_
      refine L.val f44 wantedN rfl (by decide) (E.move f44 rfl) fun a45 f45 => ?_
      refine L.val f45 (f45.yes rfl rfl) rfl (by decide) (E.move f45 rfl) fun a46 f46 => ?_
      refine L.call f46 (f46.yes rfl rfl) rfl (by decide) (run_call Tryd.call66 (args2 f46 rfl rfl)) (cont_any p w3) ?_
      clear f43 a43 f44 a44 f45 a45
      rintro e w4 ⟨kc4, rfl⟩
      refine ⟨_, rfl, fun a47 f47 => ?_⟩
      have szw4 := kc4.size
      replace HK := HK.z kc4
      replace LS := LS.kept kc4
      clear f46 a46 kc4
      refine L.val f47 wantedN rfl (by decide) (E.pickT f47 rfl rfl) fun a48 f48 => ?_
      refine wpList_nil (hK12 _ _ ?_)
      have f49 := f48.sub (sub_cons (i := 3) rfl (sub_cons (i := 4) rfl (sub_cons (i := 5) rfl (sub_cons (i := 11) rfl (sub_cons (i := 12) rfl (sub_cons (i := 13) rfl (sub_cons (i := 14) rfl (sub_cons (i := 15) rfl (sub_cons (i := 16) rfl (sub_cons (i := 17) rfl (sub_cons (i := 18) rfl (sub_cons (i := 19) rfl (sub_cons (i := 20) rfl (sub_cons (i := 21) rfl (sub_cons (i := 22) rfl (sub_cons (i := 23) rfl (sub_cons (i := 24) rfl (sub_cons (i := 25) rfl (sub_cons (i := 26) rfl (sub_cons (i := 27) rfl (sub_cons (i := 28) rfl (sub_cons (i := 29) rfl (sub_cons (i := 30) rfl (sub_cons (i := 31) rfl (sub_cons (i := 32) rfl (sub_cons (i := 33) rfl (sub_cons (i := 34) rfl (sub_cons (i := 35) rfl sn))))))))))))))))))))))))))))
      clear f47 a47 f48
      refine f49.split 35 rfl (fun h6 f50 => ?_) (fun h6 f50 => ?_)
      · have h35 := h6
        refine C.condT f50 rfl ?_
        refine C.sk fun K14 hK14 => ?_
        refine L.val f50 wantedN rfl (by decide) (E.assign f50 rfl) fun a51 f51 => ?_
        have f52 := f51.sub (sub_cons (i := 2) rfl (sub_cons (i := 3) rfl (sub_cons (i := 4) rfl (sub_cons (i := 5) rfl (sub_cons (i := 11) rfl (sub_cons (i := 12) rfl (sub_cons (i := 13) rfl (sub_cons (i := 14) rfl (sub_cons (i := 15) rfl (sub_cons (i := 16) rfl (sub_cons (i := 17) rfl (sub_cons (i := 18) rfl (sub_cons (i := 19) rfl (sub_cons (i := 20) rfl (sub_cons (i := 21) rfl (sub_cons (i := 22) rfl (sub_cons (i := 23) rfl (sub_cons (i := 24) rfl (sub_cons (i := 25) rfl (sub_cons (i := 26) rfl (sub_cons (i := 27) rfl (sub_cons (i := 28) rfl (sub_cons (i := 29) rfl (sub_cons (i := 30) rfl (sub_cons (i := 31) rfl (sub_cons (i := 32) rfl (sub_cons (i := 33) rfl (sub_cons (i := 34) rfl (sub_cons (i := 35) rfl sn)))))))))))))))))))))))))))))
        refine wpList_nil (hK14 _ _ (wp_ret ?_)); (try simp only [xt, xb]); refine C.ret f52 rfl rfl ?_
        exact ⟨HK, by unfold filterB; rw [← hq, ok_at hx]; simp [okL, any35, h20, h23, h35]⟩
      have h35 := h6
      refine C.condF f50 rfl ?_
      refine wp_skip (hK10 _ _ ?_)
      have f51 := f50.sub (sub_cons (i := 3) rfl (sub_cons (i := 4) rfl (sub_cons (i := 5) rfl (sub_cons (i := 11) rfl (sub_cons (i := 12) rfl (sub_cons (i := 13) rfl (sub_cons (i := 14) rfl (sub_cons (i := 15) rfl (sub_cons (i := 16) rfl (sub_cons (i := 17) rfl (sub_cons (i := 18) rfl (sub_cons (i := 19) rfl (sub_cons (i := 20) rfl (sub_cons (i := 21) rfl (sub_cons (i := 22) rfl (sub_cons (i := 23) rfl (sub_cons (i := 24) rfl (sub_cons (i := 25) rfl (sub_cons (i := 26) rfl (sub_cons (i := 27) rfl (sub_cons (i := 28) rfl (sub_cons (i := 29) rfl (sub_cons (i := 30) rfl (sub_cons (i := 31) rfl (sub_cons (i := 32) rfl (sub_cons (i := 33) rfl (sub_cons (i := 34) rfl (sub_cons (i := 35) rfl sn))))))))))))))))))))))))))))
      refine C.region ?_
      refine L.val f51 wantedN rfl (by decide) (E.add f51 rfl rfl (IntWalk.i64_in _ (by omega))) fun a52 f52 => ?_
      refine L.val f52 wantedN rfl (by decide) (E.move f52 rfl) fun a53 f53 => ?_
      clear f49 f50 f51 a48 f52 a52
      refine wpList_nil (hKL7 _ _ (gk8 - 1) ?_ ?_)
      · omega
      exact ⟨k + 1, by omega, (ok_next hx (by simp [okL, h20, h23, h35])).trans hq, HK, LS, f53.sub (sx (sx (sx (sx sn))))⟩
    have h20 := h2
    refine L.run f32 (rest' := []) (by kernel_rfl) fun a33 f33 => ?_
    clear f31
    refine wpList_nil (hK12 _ _ ?_)
    have f34 := f33.sub (scR f33 3 (scR f33 4 (scR f33 5 (scR f33 11 (scR f33 12 (scR f33 13 (scR f33 14 (scR f33 15 (scR f33 16 (scR f33 17 (scR f33 18 (scR f33 19 (scR f33 20 (sub_cons (i := 21) rfl (sub_cons (i := 22) rfl (sub_cons (i := 23) rfl (sub_cons (i := 24) rfl (sub_cons (i := 25) rfl (sub_cons (i := 26) rfl (sub_cons (i := 27) rfl (sub_cons (i := 28) rfl (sub_cons (i := 29) rfl (sub_cons (i := 30) rfl (sv 31 (.bool false) (sv 32 (.bool false) (sub_cons (i := 33) rfl (sub_cons (i := 34) rfl (sv 35 (.bool false) sn))))))))))))))))))))))))))))
    refine C.condF f34 rfl ?_
    refine wp_skip (hK10 _ _ ?_)
    have f35 := f34.sub (sub_cons (i := 3) rfl (sub_cons (i := 4) rfl (sub_cons (i := 5) rfl (sub_cons (i := 11) rfl (sub_cons (i := 12) rfl (sub_cons (i := 13) rfl (sub_cons (i := 14) rfl (sub_cons (i := 15) rfl (sub_cons (i := 16) rfl (sub_cons (i := 17) rfl (sub_cons (i := 18) rfl (sub_cons (i := 19) rfl (sub_cons (i := 20) rfl (sub_cons (i := 21) rfl (sub_cons (i := 22) rfl (sub_cons (i := 23) rfl (sub_cons (i := 24) rfl (sub_cons (i := 25) rfl (sub_cons (i := 26) rfl (sub_cons (i := 27) rfl (sub_cons (i := 28) rfl (sub_cons (i := 29) rfl (sub_cons (i := 30) rfl (sub_cons (i := 31) rfl (sub_cons (i := 32) rfl (sub_cons (i := 33) rfl (sub_cons (i := 34) rfl (sub_cons (i := 35) rfl sn))))))))))))))))))))))))))))
    refine C.region ?_
    refine L.val f35 wantedN rfl (by decide) (E.add f35 rfl rfl (IntWalk.i64_in _ (by omega))) fun a36 f36 => ?_
    refine L.val f36 wantedN rfl (by decide) (E.move f36 rfl) fun a37 f37 => ?_
    clear f33 f32 f34 f35 a33 f36 a36
    refine wpList_nil (hKL7 _ _ (gk8 - 1) ?_ ?_)
    · omega
    exact ⟨k + 1, by omega, (ok_next hx (by simp [okL, h20])).trans hq, HK, LS, f37.sub (sx (sx (sx (sx sn))))⟩
  have hend := h1
  refine C.condF f21 rfl ?_
  refine wp_exit (hK5 _ _ ?_)
  have f22 := f21.sub sn
  refine C.sk fun K15 hK15 => ?_
  refine L.val f22 wantedN rfl (by decide) (E.assign f22 rfl) fun a23 f23 => ?_
  have f24 := f23.sub (sub_cons (i := 2) rfl sn)
  refine wpList_nil (hK15 _ _ (wp_ret ?_)); (try simp only [xt, xb]); refine C.ret f24 rfl rfl ?_
  exact ⟨HK, by unfold filterB; rw [← hq, List.drop_eq_nil_of_le (by omega)]; simp [okAll, h8]⟩
end Go.Proofs.YtekmhcdgmgbheaaDoor
namespace Go.Proofs.YtekmhcdgmgbheaaDoor
open Go.RowKit Go.Hub Go.Lib
theorem wsz9_th : (Tryd.prog.info? 9).map (·.size) = some 1 := by kernel_rfl
def hd0 (l : List ByteArray) : ByteArray := l.getD 0 ⟨#[]⟩
theorem hd_of {l : List ByteArray} {x : ByteArray} (h : l[0]? = some x) : hd0 l = x := by simp [hd0, List.getD, h]
def matchB (f t : ByteArray) : Bool := filterB f && nameB t && !(prefB (hd0 (levelsL t)) ⟨#[36]⟩ && (decide (hd0 (levelsL f) = ⟨#[43]⟩) || decide (hd0 (levelsL f) = ⟨#[35]⟩))) && goesB (levelsL f) (levelsL t)
set_option maxHeartbeats 1000000 in
theorem match_any (u v : ByteArray) (w : World) (G : Glob w) (hu : u.size ≤ 100000) (hv : v.size ≤ 100000) : Calls Tryd.prog 31 #[.string u, .string v] w (fun e w' => Kept [] w w' ∧ e = .returned (.bool (matchB u v))) := by
  have HK : Kept [] w w := Kept.refl [] w
  refine C.enter Tryd.func31 rfl Tryd.ntmps31 rfl ?_
  intro a0 f0
  have f1 : Fr 41 a0 [(0, .string u), (1, .string v)] := f0
  refine C.sk fun K0 hK0 => ?_
  refine L.val f1 wantedN rfl (by decide) (E.assign f1 rfl) fun a2 f2 => ?_
  refine wpList_nil (hK0 _ _ ?_)
  have f3 := f2.sub (sub_cons (i := 0) rfl (sub_cons (i := 1) rfl (sub_cons (i := 4) rfl sn)))
  refine wp_seq_k fun K1 hK1 => ?_
  refine C.sk fun K2 hK2 => ?_
  refine L.val f3 wantedN rfl (by decide) (E.move f3 rfl) fun a4 f4 => ?_
  refine L.call f4 wantedN rfl (by decide) (run_call Tryd.call53 (args1 f4 rfl)) (filter_any u w (G.kept HK) (by omega)) ?_
  clear f0 f1 a0 f2 f3 a2
  rintro e w1 ⟨kc1, rfl⟩
  refine ⟨_, rfl, fun a5 f5 => ?_⟩
  have szw1 := kc1.size
  replace HK := HK.z kc1
  clear f4 a4 kc1
  refine L.val f5 wantedN rfl (by decide) (E.not f5 rfl) fun a6 f6 => ?_
  refine L.val f6 wantedN rfl (by decide) (E.move f6 rfl) fun a7 f7 => ?_
  clear f5 a5 f6 a6
  refine f7.splitNB 10 rfl (fun h0 f8 => ?_) (fun h0 f8 => ?_)
  · have h10 := h0
    refine L.run f8 (rest' := []) (by kernel_rfl) fun a9 f9 => ?_
    clear f7
    refine wpList_nil (hK2 _ _ ?_)
    have f10 := f9.sub (scR f9 0 (scR f9 1 (scR f9 4 (sv 14 (.bool true) sn))))
    refine C.condT f10 rfl ?_
    refine C.sk fun K3 hK3 => ?_
    refine L.val f10 wantedN rfl (by decide) (E.assign f10 rfl) fun a11 f11 => ?_
    have f12 := f11.sub (sub_cons (i := 0) rfl (sub_cons (i := 1) rfl (sub_cons (i := 4) rfl sn)))
    refine wpList_nil (hK3 _ _ (wp_ret ?_)); (try simp only [xt, xb]); refine C.ret f12 rfl rfl ?_
    exact ⟨HK, by unfold matchB; simp [h10]⟩
  have h10 := h0
  refine L.val f8 (f8.yes rfl rfl) rfl (by decide) (E.move f8 rfl) fun a9 f9 => ?_
  refine L.call f9 (f9.yes rfl rfl) rfl (by decide) (run_call Tryd.call18 (args1 f9 rfl)) (name_any v w1 (G.kept HK) (by omega)) ?_
  clear f7 f8 a7
  rintro e w2 ⟨kc2, rfl⟩
  refine ⟨_, rfl, fun a10 f10 => ?_⟩
  have szw2 := kc2.size
  replace HK := HK.z kc2
  clear f9 a9 kc2
  refine L.val f10 (f10.yes rfl rfl) rfl (by decide) (E.not f10 rfl) fun a11 f11 => ?_
  refine L.val f11 wantedN rfl (by decide) (E.pickF f11 rfl rfl) fun a12 f12 => ?_
  refine wpList_nil (hK2 _ _ ?_)
  have f13 := f12.sub (sub_cons (i := 0) rfl (sub_cons (i := 1) rfl (sub_cons (i := 4) rfl (sub_cons (i := 14) rfl sn))))
  clear f10 a10 f11 a11 f12
  refine f13.splitNB 14 rfl (fun h1 f14 => ?_) (fun h1 f14 => ?_)
  · have h14 := h1
    refine C.condT f14 rfl ?_
    refine C.sk fun K4 hK4 => ?_
    refine L.val f14 wantedN rfl (by decide) (E.assign f14 rfl) fun a15 f15 => ?_
    have f16 := f15.sub (sub_cons (i := 0) rfl (sub_cons (i := 1) rfl (sub_cons (i := 4) rfl sn)))
    refine wpList_nil (hK4 _ _ (wp_ret ?_)); (try simp only [xt, xb]); refine C.ret f16 rfl rfl ?_
    exact ⟨HK, by unfold matchB; simp [h10, h14]⟩
  have h14 := h1
  refine C.condF f14 rfl ?_
  refine wp_skip (hK1 _ _ ?_)
  have f15 := f14.sub (sub_cons (i := 0) rfl (sub_cons (i := 1) rfl (sub_cons (i := 4) rfl sn)))
  refine C.sk fun K5 hK5 => ?_
  refine L.val f15 wantedN rfl (by decide) (E.move f15 rfl) fun a16 f16 => ?_
  refine L.call f16 wantedN rfl (by decide) (run_call Tryd.call54 (args1 f16 rfl)) (levels_any u w2 (G.kept HK) (by omega)) ?_
  clear f13 f14 f15 a12
  rintro e w3 ⟨kc3, Af, cf, rfl, LF, f2, f3, f4⟩
  refine ⟨_, rfl, fun a17 f17 => ?_⟩
  have szw3 := kc3.size
  replace HK := HK.z kc3
  clear f16 a16 kc3
  refine L.val f17 wantedN rfl (by decide) (E.move f17 rfl) fun a18 f18 => ?_
  refine L.call f18 wantedN rfl (by decide) (run_call Tryd.call54 (args1 f18 rfl)) (levels_any v w3 (G.kept HK) (by omega)) ?_
  clear f17 a17
  rintro e w4 ⟨kc4, At, ct, rfl, LT, t2, t3, t4⟩
  refine ⟨_, rfl, fun a19 f19 => ?_⟩
  have szw4 := kc4.size
  replace HK := HK.z kc4
  replace LF := LF.kept kc4
  clear f18 a18 kc4
  refine L.val f19 wantedN rfl (by decide) (E.assign f19 rfl) fun a20 f20 => ?_
  refine L.val f20 wantedN rfl (by decide) (E.assign f20 rfl) fun a21 f21 => ?_
  refine wpList_nil (hK5 _ _ ?_)
  have f22 := f21.sub (sub_cons (i := 4) rfl (sub_cons (i := 5) rfl (sub_cons (i := 6) rfl sn)))
  refine wp_seq_k fun K6 hK6 => ?_
  obtain ⟨x, hx⟩ : ∃ x, (levelsL u)[0]? = some x := ⟨(levelsL u)[0]'(by omega), List.getElem?_eq_getElem _⟩
  obtain ⟨bf, of, hAf⟩ := LF.addr (k := 0) (by omega)
  obtain ⟨y, hy⟩ : ∃ y, (levelsL v)[0]? = some y := ⟨(levelsL v)[0]'(by omega), List.getElem?_eq_getElem _⟩
  obtain ⟨bt, ot, hAt⟩ := LT.addr (k := 0) (by omega)
  refine C.region ?_
  refine L.val f22 wantedN rfl (by decide) (E.move f22 rfl) fun a23 f23 => ?_
  refine L.val f23 wantedN rfl (by decide) (E.indexA f23 (by assumption) Tryd.underlying91 wsz9_th rfl rfl (by omega) (by omega)) fun a24 f24 => ?_
  refine L.val f24 wantedN rfl (by decide) (E.load f24 U9 rfl rfl (ss_cell0 LT hAt hy)) fun a25 f25 => ?_
  refine L.call f25 wantedN rfl (by decide) (run_call Tryd.call55 (args1 f25 rfl)) (hidden_any _ _) ?_
  clear f19 a19 f20 a20 f21 f22 a21 f23 a23 f24 a24
  rintro e w4x ⟨rfl, rfl⟩
  refine ⟨_, rfl, fun a26 f26 => ?_⟩
  refine L.val f26 wantedN rfl (by decide) (E.move f26 rfl) fun a27 f27 => ?_
  clear f25 a25 f26 a26
  refine f27.split 23 rfl (fun h2 f28 => ?_) (fun h2 f28 => ?_)
  · have h23 := h2
    refine L.val f28 (f28.yes rfl rfl) rfl (by decide) (E.move f28 rfl) fun a29 f29 => ?_
    refine L.val f29 (f29.yes rfl rfl) rfl (by decide) (E.indexA f29 (by assumption) Tryd.underlying91 wsz9_th rfl rfl (by omega) (by omega)) fun a30 f30 => ?_
    refine L.val f30 (f30.yes rfl rfl) rfl (by decide) (E.load f30 U9 rfl rfl (ss_cell0 LF hAf hx)) fun a31 f31 => ?_
    refine L.val f31 (f31.yes rfl rfl) rfl (by decide) (E.eqlS f31 rfl rfl) fun a32 f32 => ?_
    refine L.val f32 (f32.yes rfl rfl) rfl (by decide) (E.move f32 rfl) fun a33 f33 => ?_
    clear f27 f28 a27 f29 a29 f30 a30 f31 a31 f32 a32
    refine f33.splitD 28 rfl (fun h3 f34 => ?_) (fun h3 f34 => ?_)
    · have h28 := h3
      refine L.run f34 (rest' := []) (by kernel_rfl) fun a35 f35 => ?_
      clear f33
      have f36 := f35.sub (sv 4 (.bool false) sn)
      refine wpList_nil (hK6 _ _ (wp_ret ?_)); (try simp only [xt, xb]); refine C.ret f36 rfl rfl ?_
      exact ⟨HK, by unfold matchB; rw [hd_of hx, hd_of hy]; simp [h10, h14, h23, h28]⟩
    have h28 := h3
    refine L.val f34 (f34.yes rfl rfl) rfl (by decide) (E.move f34 rfl) fun a35 f35 => ?_
    refine L.val f35 (f35.yes rfl rfl) rfl (by decide) (E.indexA f35 (by assumption) Tryd.underlying91 wsz9_th rfl rfl (by omega) (by omega)) fun a36 f36 => ?_
    refine L.val f36 (f36.yes rfl rfl) rfl (by decide) (E.load f36 U9 rfl rfl (ss_cell0 LF hAf hx)) fun a37 f37 => ?_
    refine L.val f37 (f37.yes rfl rfl) rfl (by decide) (E.eqlS f37 rfl rfl) fun a38 f38 => ?_
    refine L.val f38 (f38.yes rfl rfl) rfl (by decide) (E.pickF f38 rfl rfl) fun a39 f39 => ?_
    refine L.val f39 wantedN rfl (by decide) (E.pickT f39 rfl rfl) fun a40 f40 => ?_
    refine L.val f40 wantedN rfl (by decide) (E.not f40 rfl) fun a41 f41 => ?_
    clear f33 f34 a33 f35 a35 f36 a36 f37 a37 f38 a38 f39 a39 f40 a40
    refine L.val f41 wantedN rfl (by decide) (E.move f41 rfl) fun a42 f42 => ?_
    clear f41 a41
    refine f42.splitN 36 rfl (fun h4 f43 => ?_) (fun h4 f43 => ?_)
    · have h36 := h4
      refine L.val f43 (f43.yes rfl rfl) rfl (by decide) (E.move f43 rfl) fun a44 f44 => ?_
      refine L.val f44 (f44.yes rfl rfl) rfl (by decide) (E.move f44 rfl) fun a45 f45 => ?_
      refine L.call f45 (f45.yes rfl rfl) rfl (by decide) (run_call Tryd.call56 (args2 f45 rfl rfl)) (goes_any (levelsL u) (levelsL v) Af At cf ct w4 LF LT f2 t2 (by omega) (by omega)) ?_
      clear f42 f43 a42 f44 a44
      rintro e w5 ⟨kc5, rfl⟩
      refine ⟨_, rfl, fun a46 f46 => ?_⟩
      have szw5 := kc5.size
      replace HK := HK.z kc5
      replace LF := LF.kept kc5
      replace LT := LT.kept kc5
      clear f45 a45 kc5
      refine L.val f46 wantedN rfl (by decide) (E.pickT f46 rfl rfl) fun a47 f47 => ?_
      refine L.val f47 wantedN rfl (by decide) (E.assign f47 rfl) fun a48 f48 => ?_
      have f49 := f48.sub (sub_cons (i := 4) rfl sn)
      refine wpList_nil (hK6 _ _ (wp_ret ?_)); (try simp only [xt, xb]); refine C.ret f49 rfl rfl ?_
      exact ⟨HK, by unfold matchB; rw [hd_of hx, hd_of hy]; simp [h10, h14, h23, h28, h36]⟩
    have h36 := h4
    refine L.run f43 (rest' := []) (by kernel_rfl) fun a44 f44 => ?_
    clear f42
    have f45 := f44.sub (sv 4 (.bool false) sn)
    refine wpList_nil (hK6 _ _ (wp_ret ?_)); (try simp only [xt, xb]); refine C.ret f45 rfl rfl ?_
    exact ⟨HK, by unfold matchB; rw [hd_of hx, hd_of hy]; simp [h10, h14, h23, h28, h36]⟩
  have h23 := h2
  refine L.skip f28 (f28.noT rfl rfl) rfl (by decide) fun a29 f29 => ?_
  refine L.skip f29 (f29.noT rfl rfl) rfl (by decide) fun a30 f30 => ?_
  refine L.skip f30 (f30.noT rfl rfl) rfl (by decide) fun a31 f31 => ?_
  refine L.skip f31 (f31.noT rfl rfl) rfl (by decide) fun a32 f32 => ?_
  refine L.skip f32 (f32.noT rfl rfl) rfl (by decide) fun a33 f33 => ?_
  refine L.skip f33 (f33.noU rfl rfl) rfl (by decide) fun a34 f34 => ?_
  refine L.skip f34 (f34.noU rfl rfl) rfl (by decide) fun a35 f35 => ?_
  clear f27 f28 a27 f29 a29 f30 a30 f31 a31 f32 a32 f33 a33 f34 a34
  refine L.skip f35 (f35.noU rfl rfl) rfl (by decide) fun a36 f36 => ?_
  refine L.skip f36 (f36.noU rfl rfl) rfl (by decide) fun a37 f37 => ?_
  refine L.skip f37 (f37.noT rfl rfl) rfl (by decide) fun a38 f38 => ?_
  refine L.val f38 wantedN rfl (by decide) (E.pickF f38 rfl rfl) fun a39 f39 => ?_
  refine L.val f39 wantedN rfl (by decide) (E.not f39 rfl) fun a40 f40 => ?_
  refine L.val f40 wantedN rfl (by decide) (E.move f40 rfl) fun a41 f41 => ?_
  refine L.val f41 (f41.yes rfl rfl) rfl (by decide) (E.move f41 rfl) fun a42 f42 => ?_
  clear f35 a35 f36 a36 f37 a37 f38 a38 f39 a39 f40 a40 f41 a41
  refine L.val f42 (f42.yes rfl rfl) rfl (by decide) (E.move f42 rfl) fun a43 f43 => ?_
  refine L.call f43 (f43.yes rfl rfl) rfl (by decide) (run_call Tryd.call56 (args2 f43 rfl rfl)) (goes_any (levelsL u) (levelsL v) Af At cf ct w4 LF LT f2 t2 (by omega) (by omega)) ?_
  clear f42 a42
  rintro e w5 ⟨kc5, rfl⟩
  refine ⟨_, rfl, fun a44 f44 => ?_⟩
  have szw5 := kc5.size
  replace HK := HK.z kc5
  replace LF := LF.kept kc5
  replace LT := LT.kept kc5
  clear f43 a43 kc5
  refine L.val f44 wantedN rfl (by decide) (E.pickT f44 rfl rfl) fun a45 f45 => ?_
  refine L.val f45 wantedN rfl (by decide) (E.assign f45 rfl) fun a46 f46 => ?_
  have f47 := f46.sub (sub_cons (i := 4) rfl sn)
  refine wpList_nil (hK6 _ _ (wp_ret ?_)); (try simp only [xt, xb]); refine C.ret f47 rfl rfl ?_
  exact ⟨HK, by unfold matchB; rw [hd_of hx, hd_of hy]; simp [h10, h14, h23]⟩
end Go.Proofs.YtekmhcdgmgbheaaDoor
namespace Go.Proofs.YtekmhcdgmgbheaaDoor
open Go.RowKit Go.Hub Go.Lib
theorem wsz3_ca : (Tryd.prog.info? 3).map (·.size) = some 1 := by kernel_rfl
theorem wzi3_ca : (Tryd.prog.info? 3).map (fun i => (i.zero, i.size)) = some (some (.int .i64 0), 1) := by kernel_rfl
theorem wbs94_3_ca (x0 : Int) (x1 : Int) (x2 : Int) : Instr.fill (fun i => some (i * 1, 1)) ((Array.range (3 * 1)).map fun j => (Value.cells (.int .i64 0))[j % (Value.cells (.int .i64 0)).size]!) [(0, .int .i64 x0), (1, .int .i64 x1), (2, .int .i64 x2)] = some #[.int .i64 x0, .int .i64 x1, .int .i64 x2] := by kernel_rfl
theorem wsz2_ca : (Tryd.prog.info? 2).map (·.size) = some 1 := by kernel_rfl
theorem wsz23_ca : (Tryd.prog.info? 23).map (·.size) = some 3 := by kernel_rfl
theorem wsz25_ca : (Tryd.prog.info? 25).map (·.size) = some 3 := by kernel_rfl
def stampedB (s : Sp) : Bool := decide (0 ≤ s.l) && decide (s.l ≤ 4611686018427387904) && decide (0 ≤ s.c) && decide (s.c ≤ 4611686018427387904) && decide (0 ≤ s.node) && decide (s.node < 16)
theorem E.gtrS {P : Program} {a : Act} {w : World} {n : Nat} {l : FL} {x y : Operand} {dst : Option Nat} {t u ty : TypeId} {ps : String} {af : Array Edge} {g : Option (Nat × Bool)} (f : Fr n a l) {s r : ByteArray} (hx : evl l x = some (.string s)) (hy : evl l y = some (.string r)) : (execOp a.eval ⟨dst, .binOp .gtr t x y u, ty, ps, af, g⟩).run P w = .ok (.value (.bool (decide (ltB r s)))) w := by
  have e : (!(Op.bytesLess s.toList r.toList || s.toList == r.toList)) = decide (ltB r s) := by
    rw [Bool.eq_iff_iff, decide_eq_true_iff, ltB_iff, bytesLess_is]
    simp only [Bool.not_eq_true', Bool.or_eq_false_iff, decide_eq_false_iff_not, beq_eq_false_iff_ne]
    constructor
    · rintro ⟨h1, h2⟩
      exact Decidable.byContradiction fun h3 => h2 (List.le_antisymm (show s.toList ≤ r.toList from h3) (show r.toList ≤ s.toList from h1))
    intro h
    exact ⟨List.lt_asymm h, fun e => List.lt_irrefl _ (e ▸ h)⟩
  rw [← e]
  simp [execOp, f.ev hx, f.ev hy, eqGuard, binOp, Op.stringOp]
set_option maxHeartbeats 1000000 in
theorem nan64_any (x : Int) (w : World) : Calls Tryd.prog 57 #[.int .i64 x] w (fun e w' => w = w' ∧ e = .returned (.bool false)) := by
  refine C.enter Tryd.func57 rfl Tryd.ntmps57 rfl ?_
  intro a0 f0
  have f1 : Fr 6 a0 [(0, .int .i64 x)] := f0
  refine C.sk fun K0 hK0 => ?_
  refine L.val f1 wantedN rfl (by decide) (E.assign f1 rfl) fun a2 f2 => ?_
  have f3 := f2.sub (sub_cons (i := 0) rfl (sub_cons (i := 2) rfl sn))
  refine wpList_nil (hK0 _ _ (C.sk fun K1 hK1 => ?_))
  refine L.val f3 wantedN rfl (by decide) (E.move f3 rfl) fun a4 f4 => ?_
  refine L.val f4 wantedN rfl (by decide) (E.move f4 rfl) fun a5 f5 => ?_
  refine L.val f5 wantedN rfl (by decide) (E.neq f5 rfl rfl) fun a6 f6 => ?_
  refine L.val f6 wantedN rfl (by decide) (E.assign f6 rfl) fun a7 f7 => ?_
  have f8 := f7.sub (sub_cons (i := 2) rfl sn)
  refine wpList_nil (hK1 _ _ (wp_ret ?_)); (try simp only [xt, xb]); refine C.ret f8 rfl rfl ?_
  exact ⟨rfl, by simp⟩
set_option maxHeartbeats 1000000 in
theorem cmp64_any (x y : Int) (w : World) : Calls Tryd.prog 33 #[.int .i64 x, .int .i64 y] w (fun e w' => w = w' ∧ e = .returned (.int .i64 (cmpI x y))) := by
  refine C.enter Tryd.func33 rfl Tryd.ntmps33 rfl ?_
  intro a0 f0
  have f1 : Fr 20 a0 [(0, .int .i64 x), (1, .int .i64 y)] := f0
  refine C.sk fun K0 hK0 => ?_
  refine L.val f1 wantedN rfl (by decide) (E.assign f1 rfl) fun a2 f2 => ?_
  have f3 := f2.sub (sub_cons (i := 0) rfl (sub_cons (i := 1) rfl (sub_cons (i := 4) rfl sn)))
  refine wpList_nil (hK0 _ _ (C.sk fun K1 hK1 => ?_))
  refine L.val f3 wantedN rfl (by decide) (E.move f3 rfl) fun a4 f4 => ?_
  refine L.call f4 wantedN rfl (by decide) (run_call Tryd.call57 (args1 f4 rfl)) (nan64_any _ _) ?_
  clear f0 f1 a0 f2 f3 a2
  rintro e wx ⟨rfl, rfl⟩
  refine ⟨_, rfl, fun a5 f5 => ?_⟩
  refine L.val f5 wantedN rfl (by decide) (E.assign f5 rfl) fun a6 f6 => ?_
  have f7 := f6.sub (sub_cons (i := 0) rfl (sub_cons (i := 1) rfl (sub_cons (i := 4) rfl (sub_cons (i := 5) rfl sn))))
  refine wpList_nil (hK1 _ _ (C.sk fun K2 hK2 => ?_))
  refine L.val f7 wantedN rfl (by decide) (E.move f7 rfl) fun a8 f8 => ?_
  refine L.call f8 wantedN rfl (by decide) (run_call Tryd.call57 (args1 f8 rfl)) (nan64_any _ _) ?_
  clear f4 a4 f5 a5 f6 f7 a6
  rintro e wx ⟨rfl, rfl⟩
  refine ⟨_, rfl, fun a9 f9 => ?_⟩
  refine L.val f9 wantedN rfl (by decide) (E.assign f9 rfl) fun a10 f10 => ?_
  refine wpList_nil (hK2 _ _ ?_)
  have f11 := f10.sub (sub_cons (i := 0) rfl (sub_cons (i := 1) rfl (sub_cons (i := 4) rfl (sub_cons (i := 5) rfl (sub_cons (i := 6) rfl sn)))))
  refine wp_seq_k fun K3 hK3 => ?_
  refine C.sk fun K4 hK4 => ?_
  refine L.val f11 wantedN rfl (by decide) (E.move f11 rfl) fun a12 f12 => ?_
  refine wpList_nil (hK4 _ _ ?_)
  have f13 := f12.sub (sub_cons (i := 0) rfl (sub_cons (i := 1) rfl (sub_cons (i := 4) rfl (sub_cons (i := 6) rfl (sub_cons (i := 11) rfl sn)))))
  refine C.condF f13 rfl ?_
  refine wp_skip (hK3 _ _ ?_)
  have f14 := f13.sub (sub_cons (i := 0) rfl (sub_cons (i := 1) rfl (sub_cons (i := 4) rfl (sub_cons (i := 6) rfl sn))))
  refine wp_seq_k fun K5 hK5 => ?_
  refine C.sk fun K6 hK6 => ?_
  refine L.val f14 wantedN rfl (by decide) (E.move f14 rfl) fun a15 f15 => ?_
  refine wpList_nil (hK6 _ _ ?_)
  have f16 := f15.sub (sub_cons (i := 0) rfl (sub_cons (i := 1) rfl (sub_cons (i := 4) rfl (sub_cons (i := 13) rfl sn))))
  refine C.condF f16 rfl ?_
  refine wp_skip (hK5 _ _ ?_)
  have f17 := f16.sub (sub_cons (i := 0) rfl (sub_cons (i := 1) rfl (sub_cons (i := 4) rfl sn)))
  refine wp_seq_k fun K7 hK7 => ?_
  refine C.sk fun K8 hK8 => ?_
  refine L.val f17 wantedN rfl (by decide) (E.move f17 rfl) fun a18 f18 => ?_
  clear f8 a8 f9 a9 f10 f11 a10 f12 f13 f14 a12 f15 f16 f17 a15
  refine L.val f18 wantedN rfl (by decide) (E.move f18 rfl) fun a19 f19 => ?_
  refine L.val f19 wantedN rfl (by decide) (E.lss f19 rfl rfl) fun a20 f20 => ?_
  refine wpList_nil (hK8 _ _ ?_)
  have f21 := f20.sub (sub_cons (i := 0) rfl (sub_cons (i := 1) rfl (sub_cons (i := 4) rfl (sub_cons (i := 16) rfl sn))))
  clear f18 a18 f19 a19 f20
  refine f21.splitD 16 rfl (fun h0 f22 => ?_) (fun h0 f22 => ?_)
  · refine C.condT f22 rfl ?_
    refine C.sk fun K9 hK9 => ?_
    refine L.val f22 wantedN rfl (by decide) (E.assign f22 rfl) fun a23 f23 => ?_
    have f24 := f23.sub (sub_cons (i := 0) rfl (sub_cons (i := 1) rfl (sub_cons (i := 4) rfl sn)))
    refine wpList_nil (hK9 _ _ (wp_ret ?_)); (try simp only [xt, xb]); refine C.ret f24 rfl rfl ?_
    exact ⟨rfl, by simp [cmpI, *]⟩
  refine C.condF f22 rfl ?_
  refine wp_skip (hK7 _ _ ?_)
  have f23 := f22.sub (sub_cons (i := 0) rfl (sub_cons (i := 1) rfl (sub_cons (i := 4) rfl sn)))
  refine wp_seq_k fun K10 hK10 => ?_
  refine C.sk fun K11 hK11 => ?_
  refine L.val f23 wantedN rfl (by decide) (E.move f23 rfl) fun a24 f24 => ?_
  refine L.val f24 wantedN rfl (by decide) (E.move f24 rfl) fun a25 f25 => ?_
  refine L.val f25 wantedN rfl (by decide) (E.gtr f25 rfl rfl) fun a26 f26 => ?_
  refine wpList_nil (hK11 _ _ ?_)
  have f27 := f26.sub (sub_cons (i := 4) rfl (sub_cons (i := 19) rfl sn))
  clear f21 f22 f23 a20 f24 a24 f25 a25 f26
  refine f27.splitD 19 rfl (fun h1 f28 => ?_) (fun h1 f28 => ?_)
  · refine C.condT f28 rfl ?_
    refine C.sk fun K12 hK12 => ?_
    refine L.val f28 wantedN rfl (by decide) (E.assign f28 rfl) fun a29 f29 => ?_
    have f30 := f29.sub (sub_cons (i := 4) rfl sn)
    refine wpList_nil (hK12 _ _ (wp_ret ?_)); (try simp only [xt, xb]); refine C.ret f30 rfl rfl ?_
    exact ⟨rfl, by simp [cmpI, *]⟩
  refine C.condF f28 rfl ?_
  refine wp_skip (hK10 _ _ ?_)
  have f29 := f28.sub (sub_cons (i := 4) rfl sn)
  refine C.sk fun K13 hK13 => ?_
  refine L.val f29 wantedN rfl (by decide) (E.assign f29 rfl) fun a30 f30 => ?_
  have f31 := f30.sub (sub_cons (i := 4) rfl sn)
  refine wpList_nil (hK13 _ _ (wp_ret ?_)); (try simp only [xt, xb]); refine C.ret f31 rfl rfl ?_
  exact ⟨rfl, by simp [cmpI, *]⟩
set_option maxHeartbeats 1000000 in
theorem nanS_any (x : ByteArray) (w : World) : Calls Tryd.prog 64 #[.string x] w (fun e w' => w = w' ∧ e = .returned (.bool false)) := by
  refine C.enter Tryd.func64 rfl Tryd.ntmps64 rfl ?_
  intro a0 f0
  have f1 : Fr 6 a0 [(0, .string x)] := f0
  refine C.sk fun K0 hK0 => ?_
  refine L.val f1 wantedN rfl (by decide) (E.assign f1 rfl) fun a2 f2 => ?_
  have f3 := f2.sub (sub_cons (i := 0) rfl (sub_cons (i := 2) rfl sn))
  refine wpList_nil (hK0 _ _ (C.sk fun K1 hK1 => ?_))
  refine L.val f3 wantedN rfl (by decide) (E.move f3 rfl) fun a4 f4 => ?_
  refine L.val f4 wantedN rfl (by decide) (E.move f4 rfl) fun a5 f5 => ?_
  refine L.val f5 wantedN rfl (by decide) (E.neqS f5 rfl rfl) fun a6 f6 => ?_
  refine L.val f6 wantedN rfl (by decide) (E.assign f6 rfl) fun a7 f7 => ?_
  have f8 := f7.sub (sub_cons (i := 2) rfl sn)
  refine wpList_nil (hK1 _ _ (wp_ret ?_)); (try simp only [xt, xb]); refine C.ret f8 rfl rfl ?_
  exact ⟨rfl, by simp⟩
set_option maxHeartbeats 1000000 in
theorem cmpS_any (x y : ByteArray) (w : World) : Calls Tryd.prog 48 #[.string x, .string y] w (fun e w' => w = w' ∧ e = .returned (.int .i64 (cmpS x y))) := by
  refine C.enter Tryd.func48 rfl Tryd.ntmps48 rfl ?_
  intro a0 f0
  have f1 : Fr 20 a0 [(0, .string x), (1, .string y)] := f0
  refine C.sk fun K0 hK0 => ?_
  refine L.val f1 wantedN rfl (by decide) (E.assign f1 rfl) fun a2 f2 => ?_
  have f3 := f2.sub (sub_cons (i := 0) rfl (sub_cons (i := 1) rfl (sub_cons (i := 4) rfl sn)))
  refine wpList_nil (hK0 _ _ (C.sk fun K1 hK1 => ?_))
  refine L.val f3 wantedN rfl (by decide) (E.move f3 rfl) fun a4 f4 => ?_
  refine L.call f4 wantedN rfl (by decide) (run_call Tryd.call64 (args1 f4 rfl)) (nanS_any _ _) ?_
  clear f0 f1 a0 f2 f3 a2
  rintro e wx ⟨rfl, rfl⟩
  refine ⟨_, rfl, fun a5 f5 => ?_⟩
  refine L.val f5 wantedN rfl (by decide) (E.assign f5 rfl) fun a6 f6 => ?_
  have f7 := f6.sub (sub_cons (i := 0) rfl (sub_cons (i := 1) rfl (sub_cons (i := 4) rfl (sub_cons (i := 5) rfl sn))))
  refine wpList_nil (hK1 _ _ (C.sk fun K2 hK2 => ?_))
  refine L.val f7 wantedN rfl (by decide) (E.move f7 rfl) fun a8 f8 => ?_
  refine L.call f8 wantedN rfl (by decide) (run_call Tryd.call64 (args1 f8 rfl)) (nanS_any _ _) ?_
  clear f4 a4 f5 a5 f6 f7 a6
  rintro e wx ⟨rfl, rfl⟩
  refine ⟨_, rfl, fun a9 f9 => ?_⟩
  refine L.val f9 wantedN rfl (by decide) (E.assign f9 rfl) fun a10 f10 => ?_
  refine wpList_nil (hK2 _ _ ?_)
  have f11 := f10.sub (sub_cons (i := 0) rfl (sub_cons (i := 1) rfl (sub_cons (i := 4) rfl (sub_cons (i := 5) rfl (sub_cons (i := 6) rfl sn)))))
  refine wp_seq_k fun K3 hK3 => ?_
  refine C.sk fun K4 hK4 => ?_
  refine L.val f11 wantedN rfl (by decide) (E.move f11 rfl) fun a12 f12 => ?_
  refine wpList_nil (hK4 _ _ ?_)
  have f13 := f12.sub (sub_cons (i := 0) rfl (sub_cons (i := 1) rfl (sub_cons (i := 4) rfl (sub_cons (i := 6) rfl (sub_cons (i := 11) rfl sn)))))
  refine C.condF f13 rfl ?_
  refine wp_skip (hK3 _ _ ?_)
  have f14 := f13.sub (sub_cons (i := 0) rfl (sub_cons (i := 1) rfl (sub_cons (i := 4) rfl (sub_cons (i := 6) rfl sn))))
  refine wp_seq_k fun K5 hK5 => ?_
  refine C.sk fun K6 hK6 => ?_
  refine L.val f14 wantedN rfl (by decide) (E.move f14 rfl) fun a15 f15 => ?_
  refine wpList_nil (hK6 _ _ ?_)
  have f16 := f15.sub (sub_cons (i := 0) rfl (sub_cons (i := 1) rfl (sub_cons (i := 4) rfl (sub_cons (i := 13) rfl sn))))
  refine C.condF f16 rfl ?_
  refine wp_skip (hK5 _ _ ?_)
  have f17 := f16.sub (sub_cons (i := 0) rfl (sub_cons (i := 1) rfl (sub_cons (i := 4) rfl sn)))
  refine wp_seq_k fun K7 hK7 => ?_
  refine C.sk fun K8 hK8 => ?_
  refine L.val f17 wantedN rfl (by decide) (E.move f17 rfl) fun a18 f18 => ?_
  clear f8 a8 f9 a9 f10 f11 a10 f12 f13 f14 a12 f15 f16 f17 a15
  refine L.val f18 wantedN rfl (by decide) (E.move f18 rfl) fun a19 f19 => ?_
  refine L.val f19 wantedN rfl (by decide) (E.lssS f19 rfl rfl) fun a20 f20 => ?_
  refine wpList_nil (hK8 _ _ ?_)
  have f21 := f20.sub (sub_cons (i := 0) rfl (sub_cons (i := 1) rfl (sub_cons (i := 4) rfl (sub_cons (i := 16) rfl sn))))
  clear f18 a18 f19 a19 f20
  refine f21.split 16 rfl (fun h0 f22 => ?_) (fun h0 f22 => ?_)
  · refine C.condT f22 rfl ?_
    refine C.sk fun K9 hK9 => ?_
    refine L.val f22 wantedN rfl (by decide) (E.assign f22 rfl) fun a23 f23 => ?_
    have f24 := f23.sub (sub_cons (i := 0) rfl (sub_cons (i := 1) rfl (sub_cons (i := 4) rfl sn)))
    refine wpList_nil (hK9 _ _ (wp_ret ?_)); (try simp only [xt, xb]); refine C.ret f24 rfl rfl ?_
    exact ⟨rfl, by (try simp only [ltB] at h1); simp [cmpS, ltB, *]⟩
  refine C.condF f22 rfl ?_
  refine wp_skip (hK7 _ _ ?_)
  have f23 := f22.sub (sub_cons (i := 0) rfl (sub_cons (i := 1) rfl (sub_cons (i := 4) rfl sn)))
  refine wp_seq_k fun K10 hK10 => ?_
  refine C.sk fun K11 hK11 => ?_
  refine L.val f23 wantedN rfl (by decide) (E.move f23 rfl) fun a24 f24 => ?_
  refine L.val f24 wantedN rfl (by decide) (E.move f24 rfl) fun a25 f25 => ?_
  refine L.val f25 wantedN rfl (by decide) (E.gtrS f25 rfl rfl) fun a26 f26 => ?_
  refine wpList_nil (hK11 _ _ ?_)
  have f27 := f26.sub (sub_cons (i := 4) rfl (sub_cons (i := 19) rfl sn))
  clear f21 f22 f23 a20 f24 a24 f25 a25 f26
  refine f27.splitD 19 rfl (fun h1 f28 => ?_) (fun h1 f28 => ?_)
  · refine C.condT f28 rfl ?_
    refine C.sk fun K12 hK12 => ?_
    refine L.val f28 wantedN rfl (by decide) (E.assign f28 rfl) fun a29 f29 => ?_
    have f30 := f29.sub (sub_cons (i := 4) rfl sn)
    refine wpList_nil (hK12 _ _ (wp_ret ?_)); (try simp only [xt, xb]); refine C.ret f30 rfl rfl ?_
    exact ⟨rfl, by (try simp only [ltB] at h1); simp [cmpS, ltB, *]⟩
  refine C.condF f28 rfl ?_
  refine wp_skip (hK10 _ _ ?_)
  have f29 := f28.sub (sub_cons (i := 4) rfl sn)
  refine C.sk fun K13 hK13 => ?_
  refine L.val f29 wantedN rfl (by decide) (E.assign f29 rfl) fun a30 f30 => ?_
  have f31 := f30.sub (sub_cons (i := 4) rfl sn)
  refine wpList_nil (hK13 _ _ (wp_ret ?_)); (try simp only [xt, xb]); refine C.ret f31 rfl rfl ?_
  exact ⟨rfl, by (try simp only [ltB] at h1); simp [cmpS, ltB, *]⟩
set_option maxHeartbeats 1000000 in
theorem or3_any (x y z : Int) (b c : Nat) (w : World) (B : Blk w b 3 #[.int .i64 x, .int .i64 y, .int .i64 z]) : Calls Tryd.prog 32 #[.slice (some ⟨b, 0, none⟩) 3 c] w (fun e w' => w = w' ∧ e = .returned (.int .i64 (or3 x y z))) := by
  refine C.enter Tryd.func32 rfl Tryd.ntmps32 rfl ?_
  intro a0 f0
  have f1 : Fr 18 a0 [(0, .slice (some ⟨b, 0, none⟩) 3 c)] := f0
  refine C.sk fun K0 hK0 => ?_
  refine L.val f1 wantedN rfl (by decide) (E.assign f1 rfl) fun a2 f2 => ?_
  have f3 := f2.sub (sub_cons (i := 0) rfl (sub_cons (i := 2) rfl sn))
  refine wpList_nil (hK0 _ _ (C.sk fun K1 hK1 => ?_))
  refine L.val f3 wantedN rfl (by decide) (E.assign f3 rfl) fun a4 f4 => ?_
  refine wpList_nil (hK1 _ _ ?_)
  have f5 := f4.sub (sub_cons (i := 0) rfl (sub_cons (i := 2) rfl (sub_cons (i := 3) rfl sn)))
  refine wp_seq_k fun K2 hK2 => ?_
  refine C.sk fun K3 hK3 => ?_
  refine L.val f5 wantedN rfl (by decide) (E.move f5 rfl) fun a6 f6 => ?_
  refine L.val f6 wantedN rfl (by decide) (E.lenL f6 Tryd.underlying94 rfl) fun a7 f7 => ?_
  refine L.val f7 wantedN rfl (by decide) (E.move f7 rfl) fun a8 f8 => ?_
  refine wpList_nil (hK3 _ _ ?_)
  have f9 := f8.sub (sub_cons (i := 2) rfl (sub_cons (i := 3) rfl (sub_cons (i := 6) rfl (sub_cons (i := 7) rfl (sub_cons (i := 8) rfl sn)))))
  clear f0 f1 a0 f2 f3 a2 f4 f5 a4 f6 a6 f7 a7 f8
  refine wp_block ?_
  refine C.loop (fun gk a W => w = W ∧ ∃ k : Nat, k + gk = 3 ∧ (0 < k → x = 0) ∧ (1 < k → y = 0) ∧ (2 < k → z = 0) ∧ Fr 18 a [(3, .int .i64 0), (6, .slice (some ⟨b, 0, none⟩) 3 c), (7, .int .i64 3), (8, .int .i64 k)]) (3) ?_ ?_
  · exact ⟨rfl, 0, rfl, by omega, by omega, by omega, f9.sub (sx (sx (sx (sx sn))))⟩
  intro gk5 a10 w1 hI KL4 hKL4
  obtain ⟨hW, k, hk, hx, hy, hz, f10⟩ := hI
  subst hW
  try clear f9
  have hcell : k < 3 → w.cell? ⟨b, 0 + (Int.toNat (k : Int)) * 1, none⟩ = some (.int .i64 (if k = 0 then x else if k = 1 then y else z)) := fun h => by
    rcases (show k = 0 ∨ k = 1 ∨ k = 2 by omega) with rfl | rfl | rfl
    · exact B.cell_ rfl
    · exact B.cell_ rfl
    exact B.cell_ rfl
  refine C.sk fun K5 hK5 => ?_
  refine L.val f10 wantedN rfl (by decide) (E.lss f10 rfl rfl) fun a11 f11 => ?_
  refine wpList_nil (hK5 _ _ ?_)
  have f12 := f11.sub (sub_cons (i := 3) rfl (sub_cons (i := 6) rfl (sub_cons (i := 7) rfl (sub_cons (i := 8) rfl (sub_cons (i := 9) rfl sn)))))
  refine wp_seq_k fun K6 hK6 => ?_
  clear f10 a10 f11
  refine f12.splitD 9 rfl (fun h0 f13 => ?_) (fun h0 f13 => ?_)
  · refine C.condT f13 rfl ?_
    refine wp_skip (hK6 _ _ ?_)
    have f14 := f13.sub (sub_cons (i := 3) rfl (sub_cons (i := 6) rfl (sub_cons (i := 7) rfl (sub_cons (i := 8) rfl (sub_cons (i := 9) rfl sn)))))
    refine wp_seq_k fun K7 hK7 => ?_
    refine wp_block ?_
    refine C.sk fun K8 hK8 => ?_
    refine L.val f14 wantedN rfl (by decide) (E.indexA f14 (by rfl) Tryd.underlying94 wsz3_ca rfl rfl (by omega) (by omega)) fun a15 f15 => ?_
    refine L.val f15 wantedN rfl (by decide) (E.load f15 U3 rfl rfl (hcell (by omega))) fun a16 f16 => ?_
    refine L.val f16 wantedN rfl (by decide) (E.assign f16 rfl) fun a17 f17 => ?_
    have f18 := f17.sub (sub_cons (i := 3) rfl (sub_cons (i := 5) rfl (sub_cons (i := 6) rfl (sub_cons (i := 7) rfl (sub_cons (i := 8) rfl (sub_cons (i := 9) rfl (sub_cons (i := 10) rfl (sub_cons (i := 11) rfl sn))))))))
    refine wpList_nil (hK8 _ _ (C.sk fun K9 hK9 => ?_))
    refine L.val f18 wantedN rfl (by decide) (E.move f18 rfl) fun a19 f19 => ?_
    refine L.val f19 wantedN rfl (by decide) (E.move f19 rfl) fun a20 f20 => ?_
    refine L.val f20 wantedN rfl (by decide) (E.neq f20 rfl rfl) fun a21 f21 => ?_
    clear f12 f13 f14 a11 f15 a15 f16 a16 f17 f18 a17 f19 a19 f20 a20
    refine wpList_nil (hK9 _ _ ?_)
    have f22 := f21.sub (sub_cons (i := 3) rfl (sub_cons (i := 5) rfl (sub_cons (i := 6) rfl (sub_cons (i := 7) rfl (sub_cons (i := 8) rfl (sub_cons (i := 9) rfl (sub_cons (i := 10) rfl (sub_cons (i := 11) rfl (sub_cons (i := 12) rfl (sub_cons (i := 13) rfl (sub_cons (i := 14) rfl sn)))))))))))
    clear f21
    refine f22.splitN 14 rfl (fun h1 f23 => ?_) (fun h1 f23 => ?_)
    · refine C.condT f23 rfl ?_
      refine C.sk fun K10 hK10 => ?_
      refine L.val f23 wantedN rfl (by decide) (E.move f23 rfl) fun a24 f24 => ?_
      refine L.val f24 wantedN rfl (by decide) (E.assign f24 rfl) fun a25 f25 => ?_
      have f26 := f25.sub (sub_cons (i := 2) rfl (sub_cons (i := 3) rfl (sub_cons (i := 5) rfl (sub_cons (i := 6) rfl (sub_cons (i := 7) rfl (sub_cons (i := 8) rfl (sub_cons (i := 9) rfl (sub_cons (i := 10) rfl (sub_cons (i := 11) rfl (sub_cons (i := 12) rfl (sub_cons (i := 13) rfl (sub_cons (i := 14) rfl (sub_cons (i := 15) rfl sn)))))))))))))
      refine wpList_nil (hK10 _ _ (wp_ret ?_)); (try simp only [xt, xb]); refine C.ret f26 rfl rfl ?_
      exact ⟨rfl, by rcases (show k = 0 ∨ k = 1 ∨ k = 2 by omega) with rfl | rfl | rfl <;> simp_all [or3]⟩
    refine C.condF f23 rfl ?_
    refine wp_skip (hK7 _ _ ?_)
    have f24 := f23.sub (sub_cons (i := 3) rfl (sub_cons (i := 5) rfl (sub_cons (i := 6) rfl (sub_cons (i := 7) rfl (sub_cons (i := 8) rfl (sub_cons (i := 9) rfl (sub_cons (i := 10) rfl (sub_cons (i := 11) rfl (sub_cons (i := 12) rfl (sub_cons (i := 13) rfl (sub_cons (i := 14) rfl sn)))))))))))
    refine C.region ?_
    refine L.val f24 wantedN rfl (by decide) (E.add f24 rfl rfl (IntWalk.i64_in _ (by omega))) fun a25 f25 => ?_
    refine L.val f25 wantedN rfl (by decide) (E.move f25 rfl) fun a26 f26 => ?_
    clear f22 f23 f24 a21 f25 a25
    refine wpList_nil (hKL4 _ _ (gk5 - 1) ?_ ?_)
    · omega
    exact ⟨rfl, k + 1, by omega, fun _ => by by_cases hk0 : k = 0 <;> simp [hk0] at h1 <;> first | exact h1 | exact hx (by omega), fun _ => by by_cases hk1 : k = 1 <;> simp [hk1] at h1 <;> first | exact h1 | exact hy (by omega), fun _ => by have hk2 : k = 2 := (by omega); simpa [hk2] using h1, f26.sub (sx (sx (sx (sx sn))))⟩
  refine C.condF f13 rfl ?_
  refine wp_exit (hK2 _ _ ?_)
  have f14 := f13.sub (sub_cons (i := 3) rfl sn)
  refine C.sk fun K11 hK11 => ?_
  refine L.val f14 wantedN rfl (by decide) (E.move f14 rfl) fun a15 f15 => ?_
  refine L.val f15 wantedN rfl (by decide) (E.assign f15 rfl) fun a16 f16 => ?_
  have f17 := f16.sub (sub_cons (i := 2) rfl sn)
  refine wpList_nil (hK11 _ _ (wp_ret ?_)); (try simp only [xt, xb]); refine C.ret f17 rfl rfl ?_
  exact ⟨rfl, by unfold or3; rw [if_pos (hx (by omega)), if_pos (hy (by omega)), hz (by omega)]⟩
set_option maxHeartbeats 1000000 in
theorem near_any (v : Int) (w : World) : Calls Tryd.prog 34 #[.int .i64 v] w (fun e w' => w = w' ∧ e = .returned (.int .i64 (nearI v))) := by
  refine C.enter Tryd.func34 rfl Tryd.ntmps34 rfl ?_
  intro a0 f0
  have f1 : Fr 6 a0 [(0, .int .i64 v)] := f0
  refine C.sk fun K0 hK0 => ?_
  refine L.val f1 wantedN rfl (by decide) (E.assign f1 rfl) fun a2 f2 => ?_
  have f3 := f2.sub (sub_cons (i := 0) rfl (sub_cons (i := 2) rfl sn))
  refine wpList_nil (hK0 _ _ (C.sk fun K1 hK1 => ?_))
  refine L.val f3 wantedN rfl (by decide) (E.move f3 rfl) fun a4 f4 => ?_
  refine L.val f4 wantedN rfl (by decide) (E.max f4 rfl rfl) fun a5 f5 => ?_
  refine L.val f5 wantedN rfl (by decide) (E.min f5 rfl rfl) fun a6 f6 => ?_
  refine L.val f6 wantedN rfl (by decide) (E.assign f6 rfl) fun a7 f7 => ?_
  have f8 := f7.sub (sub_cons (i := 2) rfl sn)
  refine wpList_nil (hK1 _ _ (wp_ret ?_)); (try simp only [xt, xb]); refine C.ret f8 rfl rfl ?_
  exact ⟨rfl, rfl⟩
set_option maxHeartbeats 1000000 in
theorem Less_any (p q : Sp) (w : World) : Calls Tryd.prog 14 #[.agg (scell p).toArray, .agg (scell q).toArray] w (fun e w' => Kept [] w w' ∧ e = .returned (.bool (decide (ltS p q)))) := by
  have HK : Kept [] w w := Kept.refl [] w
  refine C.enter Tryd.func14 rfl Tryd.ntmps14 rfl ?_
  intro a0 f0
  have f1 : Fr 27 a0 [(0, .agg (scell p).toArray), (1, .agg (scell q).toArray)] := f0
  refine C.sk fun K0 hK0 => ?_
  refine L.box f1 wantedN (by decide) rfl rfl fun a2 w1 g0 N0 f2 => ?_
  have Bg0 := N0.blk
  have kg0 := N0.kept
  have log0 := N0.lo
  have ltg0 := Bg0.lt
  have szw1 := kg0.size
  have frg0 : w.heap.size ≤ g0 := Nat.le_trans HK.size log0
  replace HK := HK.z kg0
  clear f0 N0 kg0
  refine L.box f2 wantedN (by decide) rfl rfl fun a3 w2 g1 N1 f3 => ?_
  have Bg1 := N1.blk
  have kg1 := N1.kept
  have log1 := N1.lo
  have ltg1 := Bg1.lt
  have szw2 := kg1.size
  have frg1 : w.heap.size ≤ g1 := Nat.le_trans HK.size log1
  have neg0_g1 : g0 ≠ g1 := by have := Bg0.lt; omega
  replace HK := HK.z kg1
  replace Bg0 := Bg0.z kg1
  clear f1 a0 N1 kg1
  refine L.val f3 wantedN rfl (by decide) (E.assign f3 rfl) fun a4 f4 => ?_
  refine wpList_nil (hK0 _ _ ?_)
  have f5 := f4.sub (sub_cons (i := 2) rfl (sub_cons (i := 3) rfl (sub_cons (i := 4) rfl sn)))
  refine wp_seq_k fun K1 hK1 => ?_
  refine R.begin (S := fun W => Kept [] w2 W) (by kernel_rfl) (by exact (Kept.refl _ _).drewN 1) ?_
  have hS1 : Kept [] w2 (w2.drewN 1) := (Kept.refl _ _).drewN 1
  have hd1 : Kept [] w2 (w2.drewN 1) := (Kept.refl _ _).drewN 1
  obtain ⟨w3, hww3⟩ : ∃ W, W = w2.drewN 1 := ⟨_, rfl⟩
  rw [← hww3] at hS1 hd1 ⊢
  clear f2 a2 f3 a3 f4 hww3
  have szw3 := hS1.size
  refine R.take 0 f5 rfl rfl (by decide) (by kernel_rfl) (by kernel_rfl) (by kernel_rfl) (fun _ _ _ _ h => h) wantedN hS1 (fun W hW => (E.fieldAddrN 0 f5 U25 rfl rfl rfl wsz2_ca)) fun a6 f6 => ?_
  refine R.take 1 f6 rfl rfl (by decide) (by kernel_rfl) (by kernel_rfl) (by kernel_rfl) (fun _ _ _ _ h => h) wantedN hS1 (fun W hW => (E.load f6 U2 rfl rfl ((Bg0.z hW).cl rfl))) fun a7 f7 => ?_
  refine R.take 3 f7 rfl rfl (by decide) (by kernel_rfl) (by kernel_rfl) (by kernel_rfl) (fun _ _ _ _ h => h) wantedN hS1 (fun W hW => (E.fieldAddrN 0 f7 U25 rfl rfl rfl wsz2_ca)) fun a8 f8 => ?_
  refine R.take 4 f8 rfl rfl (by decide) (by kernel_rfl) (by kernel_rfl) (by kernel_rfl) (fun _ _ _ _ h => h) wantedN hS1 (fun W hW => (E.load f8 U2 rfl rfl ((Bg1.z hW).cl rfl))) fun a9 f9 => ?_
  refine R.take 7 f9 rfl rfl (by decide) (by kernel_rfl) (by kernel_rfl) (by kernel_rfl) (fun _ _ _ _ h => h) wantedN hS1 (fun W hW => (E.fieldAddrN 1 f9 U25 rfl rfl rfl wsz2_ca)) fun a10 f10 => ?_
  refine R.take 8 f10 rfl rfl (by decide) (by kernel_rfl) (by kernel_rfl) (by kernel_rfl) (fun _ _ _ _ h => h) wantedN hS1 (fun W hW => (E.load f10 U2 rfl rfl ((Bg0.z hW).cl rfl))) fun a11 f11 => ?_
  refine R.take 10 f11 rfl rfl (by decide) (by kernel_rfl) (by kernel_rfl) (by kernel_rfl) (fun _ _ _ _ h => h) wantedN hS1 (fun W hW => (E.fieldAddrN 1 f11 U25 rfl rfl rfl wsz2_ca)) fun a12 f12 => ?_
  clear f5 a4 f6 a6 f7 a7 f8 a8 f9 a9 f10 a10 f11 a11
  refine R.take 11 f12 rfl rfl (by decide) (by kernel_rfl) (by kernel_rfl) (by kernel_rfl) (fun _ _ _ _ h => h) wantedN hS1 (fun W hW => (E.load f12 U2 rfl rfl ((Bg1.z hW).cl rfl))) fun a13 f13 => ?_
  refine R.take 14 f13 rfl rfl (by decide) (by kernel_rfl) (by kernel_rfl) (by kernel_rfl) (fun _ _ _ _ h => h) wantedN hS1 (fun W hW => (E.fieldAddrN 2 f13 U25 rfl rfl rfl wsz3_ca)) fun a14 f14 => ?_
  refine R.take 15 f14 rfl rfl (by decide) (by kernel_rfl) (by kernel_rfl) (by kernel_rfl) (fun _ _ _ _ h => h) wantedN hS1 (fun W hW => (E.load f14 U3 rfl rfl ((Bg0.z hW).cl rfl))) fun a15 f15 => ?_
  refine R.take 16 f15 rfl rfl (by decide) (by kernel_rfl) (by kernel_rfl) (by kernel_rfl) (fun _ _ _ _ h => h) wantedN hS1 (fun W hW => (E.fieldAddrN 2 f15 U25 rfl rfl rfl wsz3_ca)) fun a16 f16 => ?_
  refine R.take 17 f16 rfl rfl (by decide) (by kernel_rfl) (by kernel_rfl) (by kernel_rfl) (fun _ _ _ _ h => h) wantedN hS1 (fun W hW => (E.load f16 U3 rfl rfl ((Bg1.z hW).cl rfl))) fun a17 f17 => ?_
  refine R.call 2 f17 rfl rfl (by decide) (by kernel_rfl) wantedN (run_call Tryd.call34 (args1 f17 rfl)) (near_any _ _) ?_
  clear f12 a12 f13 a13 f14 a14 f15 a15 f16 a16
  rintro e w3x ⟨rfl, rfl⟩
  refine ⟨_, rfl, hS1, fun a18 f18 => ?_⟩
  refine R.call 5 f18 rfl rfl (by decide) (by kernel_rfl) wantedN (run_call Tryd.call34 (args1 f18 rfl)) (near_any _ _) ?_
  clear f17 a17
  rintro e w3x ⟨rfl, rfl⟩
  refine ⟨_, rfl, hS1, fun a19 f19 => ?_⟩
  refine R.call 6 f19 rfl rfl (by decide) (by kernel_rfl) wantedN (run_call Tryd.call33 (args2 f19 rfl rfl)) (cmp64_any _ _ _) ?_
  clear f18 a18
  rintro e w3x ⟨rfl, rfl⟩
  refine ⟨_, rfl, hS1, fun a20 f20 => ?_⟩
  refine R.call 9 f20 rfl rfl (by decide) (by kernel_rfl) wantedN (run_call Tryd.call34 (args1 f20 rfl)) (near_any _ _) ?_
  clear f19 a19
  rintro e w3x ⟨rfl, rfl⟩
  refine ⟨_, rfl, hS1, fun a21 f21 => ?_⟩
  refine R.call 12 f21 rfl rfl (by decide) (by kernel_rfl) wantedN (run_call Tryd.call34 (args1 f21 rfl)) (near_any _ _) ?_
  clear f20 a20
  rintro e w3x ⟨rfl, rfl⟩
  refine ⟨_, rfl, hS1, fun a22 f22 => ?_⟩
  refine R.call 13 f22 rfl rfl (by decide) (by kernel_rfl) wantedN (run_call Tryd.call33 (args2 f22 rfl rfl)) (cmp64_any _ _ _) ?_
  clear f21 a21
  rintro e w3x ⟨rfl, rfl⟩
  refine ⟨_, rfl, hS1, fun a23 f23 => ?_⟩
  refine R.call 18 f23 rfl rfl (by decide) (by kernel_rfl) wantedN (run_call Tryd.call35 (args2 f23 rfl rfl)) (cmp_any _ _ _) ?_
  clear f22 a22
  rintro e w3x ⟨rfl, rfl⟩
  refine ⟨_, rfl, hS1, fun a24 f24 => ?_⟩
  refine R.one 19 (by kernel_rfl) ?_
  refine O.buildSlice f24 rfl wantedN (by decide) (parts3 f24 rfl rfl rfl) Tryd.underlying94 wzi3_ca rfl rfl (wbs94_3_ca _ _ _) (fun _ hk => hS1.trans hk (by simp)) fun a25 w4 g3 N3 hSn f25 => ?_
  have Bg3 := N3.blk
  have kg3 := N3.kept
  have log3 := N3.lo
  have ltg3 := Bg3.lt
  have szw4 := kg3.size
  have szSw4 := hS1.size
  clear f23 a23 f24 a24 N3 kg3
  replace hS1 := hSn
  clear hSn
  refine R.call 20 f25 rfl rfl (by decide) (by kernel_rfl) wantedN (run_call Tryd.call32 (args1 f25 rfl)) (or3_any _ _ _ _ _ _ Bg3) ?_
  rintro e w4x ⟨rfl, rfl⟩
  refine ⟨_, rfl, hS1, fun a26 f26 => ?_⟩
  refine R.take 21 f26 rfl rfl (by decide) (by kernel_rfl) (by kernel_rfl) (by kernel_rfl) (fun _ _ _ _ h => h) wantedN hS1 (fun W hW => (E.lss f26 rfl rfl)) fun a27 f27 => ?_
  refine R.take 22 f27 rfl rfl (by decide) (by kernel_rfl) (by kernel_rfl) (by kernel_rfl) (fun _ _ _ _ h => h) wantedN hS1 (fun W hW => (E.assign f27 rfl)) fun a28 f28 => ?_
  have szw4r := hS1.size
  replace HK := HK.z hS1
  replace Bg0 := Bg0.z hS1
  replace Bg1 := Bg1.z hS1
  clear f25 a25 f26 a26 f27 a27 hS1
  refine R.done (by kernel_rfl) (hK1 _ _ ?_)
  have f29 := f28.sub (sub_cons (i := 4) rfl sn)
  refine wp_ret ?_; (try simp only [xt, xb]); refine C.ret f29 rfl rfl ?_
  exact ⟨HK, by rw [less_is]⟩
set_option maxHeartbeats 1000000 in
theorem Newer_any (p q : Cp) (w : World) : Calls Tryd.prog 7 #[.agg (pcell p).toArray, .agg (pcell q).toArray] w (fun e w' => Kept [] w w' ∧ e = .returned (.bool (newerB p.x q.x))) := by
  have HK : Kept [] w w := Kept.refl [] w
  refine C.enter Tryd.func7 rfl Tryd.ntmps7 rfl ?_
  intro a0 f0
  have f1 : Fr 22 a0 [(0, .agg (pcell p).toArray), (1, .agg (pcell q).toArray)] := f0
  refine C.sk fun K0 hK0 => ?_
  refine L.box f1 wantedN (by decide) rfl rfl fun a2 w1 g0 N0 f2 => ?_
  have Bg0 := N0.blk
  have kg0 := N0.kept
  have log0 := N0.lo
  have ltg0 := Bg0.lt
  have szw1 := kg0.size
  have frg0 : w.heap.size ≤ g0 := Nat.le_trans HK.size log0
  replace HK := HK.z kg0
  clear f0 N0 kg0
  refine L.box f2 wantedN (by decide) rfl rfl fun a3 w2 g1 N1 f3 => ?_
  have Bg1 := N1.blk
  have kg1 := N1.kept
  have log1 := N1.lo
  have ltg1 := Bg1.lt
  have szw2 := kg1.size
  have frg1 : w.heap.size ≤ g1 := Nat.le_trans HK.size log1
  have neg0_g1 : g0 ≠ g1 := by have := Bg0.lt; omega
  replace HK := HK.z kg1
  replace Bg0 := Bg0.z kg1
  clear f1 a0 N1 kg1
  refine L.val f3 wantedN rfl (by decide) (E.assign f3 rfl) fun a4 f4 => ?_
  refine wpList_nil (hK0 _ _ ?_)
  have f5 := f4.sub (sub_cons (i := 2) rfl (sub_cons (i := 3) rfl (sub_cons (i := 4) rfl sn)))
  refine wp_seq_k fun K1 hK1 => ?_
  refine wp_block ?_
  refine C.sk fun K2 hK2 => ?_
  refine L.val f5 wantedN rfl (by decide) (E.fieldAddrN 3 f5 U28 rfl rfl rfl wsz25_ca) fun a6 f6 => ?_
  refine L.val f6 wantedN rfl (by decide) (E.loadR f6 U25 rfl wsz25_ca rfl ((Bg1.part 3 (scell q.x.s) rfl)) rfl) fun a7 f7 => ?_
  refine L.val f7 wantedN rfl (by decide) (E.fieldAddrN 3 f7 U28 rfl rfl rfl wsz25_ca) fun a8 f8 => ?_
  refine L.val f8 wantedN rfl (by decide) (E.loadR f8 U25 rfl wsz25_ca rfl ((Bg0.part 3 (scell p.x.s) rfl)) rfl) fun a9 f9 => ?_
  refine L.call f9 wantedN rfl (by decide) (run_call Tryd.call14 (args2 f9 rfl rfl)) (Less_any q.x.s p.x.s _) ?_
  clear f2 a2 f3 a3 f4 f5 a4 f6 a6 f7 a7 f8 a8
  rintro e w3 ⟨kc3, rfl⟩
  refine ⟨_, rfl, fun a10 f10 => ?_⟩
  have szw3 := kc3.size
  replace HK := HK.z kc3
  replace Bg0 := Bg0.z kc3
  replace Bg1 := Bg1.z kc3
  clear f9 a9 kc3
  refine L.val f10 wantedN rfl (by decide) (E.assign f10 rfl) fun a11 f11 => ?_
  refine wpList_nil (hK2 _ _ ?_)
  have f12 := f11.sub (sub_cons (i := 2) rfl (sub_cons (i := 3) rfl (sub_cons (i := 4) rfl (sub_cons (i := 5) rfl sn))))
  clear f10 a10 f11
  refine f12.splitD 5 rfl (fun h0 f13 => ?_) (fun h0 f13 => ?_)
  · refine C.condT f13 rfl ?_
    refine C.sk fun K3 hK3 => ?_
    refine L.val f13 wantedN rfl (by decide) (E.assign f13 rfl) fun a14 f14 => ?_
    have f15 := f14.sub (sub_cons (i := 2) rfl (sub_cons (i := 3) rfl (sub_cons (i := 4) rfl sn)))
    refine wpList_nil (hK3 _ _ (wp_ret ?_)); (try simp only [xt, xb]); refine C.ret f15 rfl rfl ?_
    exact ⟨HK, by simp [newerB, *]⟩
  refine C.condF f13 rfl ?_
  refine C.sk fun K4 hK4 => ?_
  refine L.val f13 wantedN rfl (by decide) (E.fieldAddrN 3 f13 U28 rfl rfl rfl wsz25_ca) fun a14 f14 => ?_
  refine L.val f14 wantedN rfl (by decide) (E.loadR f14 U25 rfl wsz25_ca rfl ((Bg0.part 3 (scell p.x.s) rfl)) rfl) fun a15 f15 => ?_
  refine L.val f15 wantedN rfl (by decide) (E.fieldAddrN 3 f15 U28 rfl rfl rfl wsz25_ca) fun a16 f16 => ?_
  refine L.val f16 wantedN rfl (by decide) (E.loadR f16 U25 rfl wsz25_ca rfl ((Bg1.part 3 (scell q.x.s) rfl)) rfl) fun a17 f17 => ?_
  refine L.call f17 wantedN rfl (by decide) (run_call Tryd.call14 (args2 f17 rfl rfl)) (Less_any p.x.s q.x.s _) ?_
  clear f12 f13 a11 f14 a14 f15 a15 f16 a16
  rintro e w4 ⟨kc4, rfl⟩
  refine ⟨_, rfl, fun a18 f18 => ?_⟩
  have szw4 := kc4.size
  replace HK := HK.z kc4
  replace Bg0 := Bg0.z kc4
  replace Bg1 := Bg1.z kc4
  clear f17 a17 kc4
  refine L.val f18 wantedN rfl (by decide) (E.assign f18 rfl) fun a19 f19 => ?_
  refine wpList_nil (hK4 _ _ ?_)
  have f20 := f19.sub (sub_cons (i := 2) rfl (sub_cons (i := 3) rfl (sub_cons (i := 4) rfl (sub_cons (i := 11) rfl sn))))
  clear f18 a18 f19
  refine f20.splitD 11 rfl (fun h1 f21 => ?_) (fun h1 f21 => ?_)
  · refine C.condT f21 rfl ?_
    refine C.sk fun K5 hK5 => ?_
    refine L.val f21 wantedN rfl (by decide) (E.assign f21 rfl) fun a22 f22 => ?_
    have f23 := f22.sub (sub_cons (i := 2) rfl (sub_cons (i := 3) rfl (sub_cons (i := 4) rfl sn)))
    refine wpList_nil (hK5 _ _ (wp_ret ?_)); (try simp only [xt, xb]); refine C.ret f23 rfl rfl ?_
    exact ⟨HK, by simp [newerB, *]⟩
  refine C.condF f21 rfl ?_
  refine wp_skip (hK1 _ _ ?_)
  have f22 := f21.sub (sub_cons (i := 2) rfl (sub_cons (i := 3) rfl (sub_cons (i := 4) rfl sn)))
  refine C.sk fun K6 hK6 => ?_
  refine L.val f22 wantedN rfl (by decide) (E.fieldAddrN 0 f22 U28 rfl rfl rfl wsz23_ca) fun a23 f23 => ?_
  refine L.val f23 wantedN rfl (by decide) (E.loadR f23 U23 rfl wsz23_ca rfl ((Bg1.part 0 (dcell q.x.d) rfl)) rfl) fun a24 f24 => ?_
  refine L.val f24 wantedN rfl (by decide) (E.fieldAddrN 0 f24 U28 rfl rfl rfl wsz23_ca) fun a25 f25 => ?_
  refine L.val f25 wantedN rfl (by decide) (E.loadR f25 U23 rfl wsz23_ca rfl ((Bg0.part 0 (dcell p.x.d) rfl)) rfl) fun a26 f26 => ?_
  refine L.call f26 wantedN rfl (by decide) (run_call Tryd.call15 (args2 f26 rfl rfl)) (Before_any q.x.d p.x.d _) ?_
  clear f20 f21 f22 a19 f23 a23 f24 a24 f25 a25
  rintro e w5 ⟨kc5, rfl⟩
  refine ⟨_, rfl, fun a27 f27 => ?_⟩
  have szw5 := kc5.size
  replace HK := HK.z kc5
  replace Bg0 := Bg0.z kc5
  replace Bg1 := Bg1.z kc5
  clear f26 a26 kc5
  refine L.val f27 wantedN rfl (by decide) (E.assign f27 rfl) fun a28 f28 => ?_
  have f29 := f28.sub (sub_cons (i := 4) rfl sn)
  refine wpList_nil (hK6 _ _ (wp_ret ?_)); (try simp only [xt, xb]); refine C.ret f29 rfl rfl ?_
  exact ⟨HK, by simp [newerB, *]⟩
set_option maxHeartbeats 1000000 in
theorem stamped_any (p : Sp) (w : World) : Calls Tryd.prog 20 #[.agg (scell p).toArray] w (fun e w' => Kept [] w w' ∧ e = .returned (.bool (stampedB p))) := by
  have HK : Kept [] w w := Kept.refl [] w
  refine C.enter Tryd.func20 rfl Tryd.ntmps20 rfl ?_
  intro a0 f0
  have f1 : Fr 31 a0 [(0, .agg (scell p).toArray)] := f0
  refine C.sk fun K0 hK0 => ?_
  refine L.box f1 wantedN (by decide) rfl rfl fun a2 w1 g0 N0 f2 => ?_
  have Bg0 := N0.blk
  have kg0 := N0.kept
  have log0 := N0.lo
  have ltg0 := Bg0.lt
  have szw1 := kg0.size
  have frg0 : w.heap.size ≤ g0 := Nat.le_trans HK.size log0
  replace HK := HK.z kg0
  clear f0 N0 kg0
  refine L.val f2 wantedN rfl (by decide) (E.assign f2 rfl) fun a3 f3 => ?_
  have f4 := f3.sub (sub_cons (i := 1) rfl (sub_cons (i := 2) rfl sn))
  refine wpList_nil (hK0 _ _ (C.sk fun K1 hK1 => ?_))
  refine L.val f4 wantedN rfl (by decide) (E.fieldAddrN 0 f4 U25 rfl rfl rfl wsz2_ca) fun a5 f5 => ?_
  refine L.val f5 wantedN rfl (by decide) (E.load f5 U2 rfl rfl ((Bg0).cl rfl)) fun a6 f6 => ?_
  refine L.val f6 wantedN rfl (by decide) (E.geq f6 rfl rfl) fun a7 f7 => ?_
  refine L.val f7 wantedN rfl (by decide) (E.move f7 rfl) fun a8 f8 => ?_
  clear f1 a0 f2 a2 f3 f4 a3 f5 a5 f6 a6 f7 a7
  refine f8.splitD 6 rfl (fun h0 f9 => ?_) (fun h0 f9 => ?_)
  · refine L.val f9 (f9.yes rfl rfl) rfl (by decide) (E.fieldAddrN 0 f9 U25 rfl rfl rfl wsz2_ca) fun a10 f10 => ?_
    refine L.val f10 (f10.yes rfl rfl) rfl (by decide) (E.load f10 U2 rfl rfl ((Bg0).cl rfl)) fun a11 f11 => ?_
    refine L.val f11 (f11.yes rfl rfl) rfl (by decide) (E.leq f11 rfl rfl) fun a12 f12 => ?_
    refine L.val f12 wantedN rfl (by decide) (E.pickT f12 rfl rfl) fun a13 f13 => ?_
    refine L.val f13 wantedN rfl (by decide) (E.move f13 rfl) fun a14 f14 => ?_
    clear f8 f9 a8 f10 a10 f11 a11 f12 a12 f13 a13
    refine f14.splitD 11 rfl (fun h1 f15 => ?_) (fun h1 f15 => ?_)
    · refine L.val f15 (f15.yes rfl rfl) rfl (by decide) (E.fieldAddrN 1 f15 U25 rfl rfl rfl wsz2_ca) fun a16 f16 => ?_
      refine L.val f16 (f16.yes rfl rfl) rfl (by decide) (E.load f16 U2 rfl rfl ((Bg0).cl rfl)) fun a17 f17 => ?_
      refine L.val f17 (f17.yes rfl rfl) rfl (by decide) (E.geq f17 rfl rfl) fun a18 f18 => ?_
      refine L.val f18 wantedN rfl (by decide) (E.pickT f18 rfl rfl) fun a19 f19 => ?_
      refine L.val f19 wantedN rfl (by decide) (E.move f19 rfl) fun a20 f20 => ?_
      clear f14 f15 a14 f16 a16 f17 a17 f18 a18 f19 a19
      refine f20.splitD 16 rfl (fun h2 f21 => ?_) (fun h2 f21 => ?_)
      · refine L.val f21 (f21.yes rfl rfl) rfl (by decide) (E.fieldAddrN 1 f21 U25 rfl rfl rfl wsz2_ca) fun a22 f22 => ?_
        refine L.val f22 (f22.yes rfl rfl) rfl (by decide) (E.load f22 U2 rfl rfl ((Bg0).cl rfl)) fun a23 f23 => ?_
        refine L.val f23 (f23.yes rfl rfl) rfl (by decide) (E.leq f23 rfl rfl) fun a24 f24 => ?_
        refine L.val f24 wantedN rfl (by decide) (E.pickT f24 rfl rfl) fun a25 f25 => ?_
        refine L.val f25 wantedN rfl (by decide) (E.move f25 rfl) fun a26 f26 => ?_
        clear f20 f21 a20 f22 a22 f23 a23 f24 a24 f25 a25
        refine f26.splitD 21 rfl (fun h3 f27 => ?_) (fun h3 f27 => ?_)
        · refine L.val f27 (f27.yes rfl rfl) rfl (by decide) (E.fieldAddrN 2 f27 U25 rfl rfl rfl wsz3_ca) fun a28 f28 => ?_
          refine L.val f28 (f28.yes rfl rfl) rfl (by decide) (E.load f28 U3 rfl rfl ((Bg0).cl rfl)) fun a29 f29 => ?_
          refine L.val f29 (f29.yes rfl rfl) rfl (by decide) (E.geq f29 rfl rfl) fun a30 f30 => ?_
          refine L.val f30 wantedN rfl (by decide) (E.pickT f30 rfl rfl) fun a31 f31 => ?_
          refine L.val f31 wantedN rfl (by decide) (E.move f31 rfl) fun a32 f32 => ?_
          clear f26 f27 a26 f28 a28 f29 a29 f30 a30 f31 a31
          refine f32.splitD 26 rfl (fun h4 f33 => ?_) (fun h4 f33 => ?_)
          · refine L.val f33 (f33.yes rfl rfl) rfl (by decide) (E.fieldAddrN 2 f33 U25 rfl rfl rfl wsz3_ca) fun a34 f34 => ?_
            refine L.val f34 (f34.yes rfl rfl) rfl (by decide) (E.load f34 U3 rfl rfl ((Bg0).cl rfl)) fun a35 f35 => ?_
            refine L.val f35 (f35.yes rfl rfl) rfl (by decide) (E.lss f35 rfl rfl) fun a36 f36 => ?_
            refine L.val f36 wantedN rfl (by decide) (E.pickT f36 rfl rfl) fun a37 f37 => ?_
            refine L.val f37 wantedN rfl (by decide) (E.assign f37 rfl) fun a38 f38 => ?_
            have f39 := f38.sub (sub_cons (i := 2) rfl sn)
            refine wpList_nil (hK1 _ _ (wp_ret ?_)); (try simp only [xt, xb]); refine C.ret f39 rfl rfl ?_
            exact ⟨HK, by simp [stampedB, *]⟩
          refine L.run f33 (rest' := []) (by kernel_rfl) fun a34 f34 => ?_
          clear f32
          have f35 := f34.sub (sv 2 (.bool false) sn)
          refine wpList_nil (hK1 _ _ (wp_ret ?_)); (try simp only [xt, xb]); refine C.ret f35 rfl rfl ?_
          exact ⟨HK, by simp [stampedB, *]⟩
        refine L.run f27 (rest' := []) (by kernel_rfl) fun a28 f28 => ?_
        clear f26
        have f29 := f28.sub (sv 2 (.bool false) sn)
        refine wpList_nil (hK1 _ _ (wp_ret ?_)); (try simp only [xt, xb]); refine C.ret f29 rfl rfl ?_
        exact ⟨HK, by simp [stampedB, *]⟩
      refine L.run f21 (rest' := []) (by kernel_rfl) fun a22 f22 => ?_
      clear f20
      have f23 := f22.sub (sv 2 (.bool false) sn)
      refine wpList_nil (hK1 _ _ (wp_ret ?_)); (try simp only [xt, xb]); refine C.ret f23 rfl rfl ?_
      exact ⟨HK, by simp [stampedB, *]⟩
    refine L.run f15 (rest' := []) (by kernel_rfl) fun a16 f16 => ?_
    clear f14
    have f17 := f16.sub (sv 2 (.bool false) sn)
    refine wpList_nil (hK1 _ _ (wp_ret ?_)); (try simp only [xt, xb]); refine C.ret f17 rfl rfl ?_
    exact ⟨HK, by simp [stampedB, *]⟩
  refine L.run f9 (rest' := []) (by kernel_rfl) fun a10 f10 => ?_
  clear f8
  have f11 := f10.sub (sv 2 (.bool false) sn)
  refine wpList_nil (hK1 _ _ (wp_ret ?_)); (try simp only [xt, xb]); refine C.ret f11 rfl rfl ?_
  exact ⟨HK, by simp [stampedB, *]⟩
set_option maxHeartbeats 1000000 in
theorem Pair_any (x y : Int) (w : World) : Calls Tryd.prog 19 #[.int .i64 x, .int .i64 y] w (fun e w' => w = w' ∧ e = .returned (.bool (decide (0 ≤ x) && decide (x < 16) && decide (1 ≤ y)))) := by
  refine C.enter Tryd.func19 rfl Tryd.ntmps19 rfl ?_
  intro a0 f0
  have f1 : Fr 15 a0 [(0, .int .i64 x), (1, .int .i64 y)] := f0
  refine C.sk fun K0 hK0 => ?_
  refine L.val f1 wantedN rfl (by decide) (E.assign f1 rfl) fun a2 f2 => ?_
  have f3 := f2.sub (sub_cons (i := 0) rfl (sub_cons (i := 1) rfl (sub_cons (i := 4) rfl sn)))
  refine wpList_nil (hK0 _ _ (C.sk fun K1 hK1 => ?_))
  refine L.val f3 wantedN rfl (by decide) (E.move f3 rfl) fun a4 f4 => ?_
  refine L.val f4 wantedN rfl (by decide) (E.geq f4 rfl rfl) fun a5 f5 => ?_
  refine L.val f5 wantedN rfl (by decide) (E.move f5 rfl) fun a6 f6 => ?_
  clear f0 f1 a0 f2 f3 a2 f4 a4 f5 a5
  refine f6.splitD 7 rfl (fun h0 f7 => ?_) (fun h0 f7 => ?_)
  · refine L.val f7 (f7.yes rfl rfl) rfl (by decide) (E.move f7 rfl) fun a8 f8 => ?_
    refine L.val f8 (f8.yes rfl rfl) rfl (by decide) (E.lss f8 rfl rfl) fun a9 f9 => ?_
    refine L.val f9 wantedN rfl (by decide) (E.pickT f9 rfl rfl) fun a10 f10 => ?_
    refine L.val f10 wantedN rfl (by decide) (E.move f10 rfl) fun a11 f11 => ?_
    clear f6 f7 a6 f8 a8 f9 a9 f10 a10
    refine f11.splitD 11 rfl (fun h1 f12 => ?_) (fun h1 f12 => ?_)
    · refine L.val f12 (f12.yes rfl rfl) rfl (by decide) (E.move f12 rfl) fun a13 f13 => ?_
      refine L.val f13 (f13.yes rfl rfl) rfl (by decide) (E.geq f13 rfl rfl) fun a14 f14 => ?_
      refine L.val f14 wantedN rfl (by decide) (E.pickT f14 rfl rfl) fun a15 f15 => ?_
      refine L.val f15 wantedN rfl (by decide) (E.assign f15 rfl) fun a16 f16 => ?_
      have f17 := f16.sub (sub_cons (i := 4) rfl sn)
      refine wpList_nil (hK1 _ _ (wp_ret ?_)); (try simp only [xt, xb]); refine C.ret f17 rfl rfl ?_
      exact ⟨rfl, by simp [*]⟩
    refine L.run f12 (rest' := []) (by kernel_rfl) fun a13 f13 => ?_
    clear f11
    have f14 := f13.sub (sv 4 (.bool false) sn)
    refine wpList_nil (hK1 _ _ (wp_ret ?_)); (try simp only [xt, xb]); refine C.ret f14 rfl rfl ?_
    exact ⟨rfl, by simp [*]⟩
  refine L.run f7 (rest' := []) (by kernel_rfl) fun a8 f8 => ?_
  clear f6
  have f9 := f8.sub (sv 4 (.bool false) sn)
  refine wpList_nil (hK1 _ _ (wp_ret ?_)); (try simp only [xt, xb]); refine C.ret f9 rfl rfl ?_
  exact ⟨rfl, by simp [*]⟩
end Go.Proofs.YtekmhcdgmgbheaaDoor
namespace Go.Hub
open Go.RowKit
structure Fe where
  node : Int
  epoch : Int
structure Ro where
  d : Dt
  filter : ByteArray
abbrev fcell (p : Fe) : List Value := [.int .i64 p.node, .int .i64 p.epoch]
abbrev rcell (p : Ro) : List Value := [.int .i64 p.d.node, .int .i64 p.d.epoch, .int .i64 p.d.n, .string p.filter]
def fcells (l : List Fe) : List Value := l.flatMap fcell
def rocells (l : List Ro) : List Value := l.flatMap rcell
theorem fcells_one (l : List Fe) : ∀ u ∈ fcells l, u.oneCell' = true := fun u hu => by
  unfold fcells at hu
  simp at hu
  obtain ⟨p, _, rfl | rfl⟩ := hu <;> rfl
theorem rocells_one (l : List Ro) : ∀ u ∈ rocells l, u.oneCell' = true := fun u hu => by
  unfold rocells at hu
  simp at hu
  obtain ⟨p, _, rfl | rfl | rfl | rfl⟩ := hu <;> rfl
structure Tm where
  seen : List Dt
  fen : List Fe
  rou : List Ro
  cel : List Cp
  sA : Option Addr
  sc : Nat
  fA : Option Addr
  fc : Nat
  rA : Option Addr
  rc : Nat
  cA : Option Addr
  cc : Nat
abbrev tcell (t : Tm) : List Value := [.slice t.sA t.seen.length t.sc, .slice t.fA t.fen.length t.fc, .slice t.rA t.rou.length t.rc, .slice t.cA t.cel.length t.cc]
structure TmOk (w : World) (t : Tm) : Prop where
  s : Ds w t.sA t.seen
  f : Sl w t.fA t.fen.length 2 (fcells t.fen)
  r : Sl w t.rA t.rou.length 4 (rocells t.rou)
  c : Cs w t.cA t.cel
  p : ∀ x ∈ t.cel, PayOk w x
structure TmNew (w0 w : World) (t : Tm) : Prop where
  s : Fresh w0 w 23 3 t.sA t.seen.length t.sc (dcells t.seen)
  f : Fresh w0 w 77 2 t.fA t.fen.length t.fc (fcells t.fen)
  r : Fresh w0 w 80 4 t.rA t.rou.length t.rc (rocells t.rou)
  c : Fresh w0 w 28 10 t.cA t.cel.length t.cc (pcells t.cel)
  p : ∀ x ∈ t.cel, PayOk w x
structure TmSm (t : Tm) : Prop where
  s : t.seen.length ≤ 1000000
  f : t.fen.length ≤ 1000000
  r : t.rou.length ≤ 1000000
  c : t.cel.length ≤ 1000000
  p : ∀ x ∈ t.cel, x.x.pay.length ≤ 1000000
section
variable {w w' w0 : World} {t : Tm}
theorem TmOk.kept (h : TmOk w t) (hk : Kept [] w w') : TmOk w' t := ⟨h.s.kept hk, h.f.kept hk, h.r.kept hk, h.c.kept hk, fun x hx => (h.p x hx).kept hk⟩
theorem TmNew.kept (h : TmNew w0 w t) (hk : Kept [] w w') : TmNew w0 w' t := ⟨h.s.kept0 hk, h.f.kept0 hk, h.r.kept0 hk, h.c.kept0 hk, fun x hx => (h.p x hx).kept hk⟩
theorem TmNew.ok (h : TmNew w0 w t) : TmOk w t := ⟨h.s.sl, h.f.sl, h.r.sl, h.c.sl, h.p⟩
theorem TmNew.lower {w1 : World} (h : TmNew w0 w t) (hs : w1.heap.size ≤ w0.heap.size) : TmNew w1 w t := ⟨h.s.lower hs, h.f.lower hs, h.r.lower hs, h.c.lower hs, h.p⟩
theorem TmOk.row (h : TmOk w t) {b off i : Nat} {p : Cp} (hA : t.cA = some ⟨b, off, none⟩) (hd : t.cel[i]? = some p) : w.rangeAt b (off + i * 10) (pcell p) := h.c.row hA hd
theorem TmOk.addr (h : TmOk w t) {i : Nat} (hi : i < t.cel.length) : ∃ b off, t.cA = some ⟨b, off, none⟩ := h.c.addr hi
end
def Tm.same (t t' : Tm) : Prop := t'.seen = t.seen ∧ t'.fen = t.fen ∧ t'.rou = t.rou ∧ t'.cel.map Cp.x = t.cel.map Cp.x
theorem sm_pay {l l' : List Cp} (h : l'.map Cp.x = l.map Cp.x) (hl : ∀ x ∈ l, x.x.pay.length ≤ 1000000) : ∀ x ∈ l', x.x.pay.length ≤ 1000000 := fun x hx => by
  have : x.x ∈ l.map Cp.x := h ▸ List.mem_map_of_mem hx
  obtain ⟨y, hy, e⟩ := List.mem_map.1 this
  rw [← e]
  exact hl y hy
theorem asc_same {l l' : List Cp} (h : l'.map Cp.x = l.map Cp.x) (ha : Asc l) : Asc l' := fun i j a b hij ea eb => by
  have e1 : (l.map Cp.x)[i]? = some a.x := by rw [← h]; simp [ea]
  have e2 : (l.map Cp.x)[j]? = some b.x := by rw [← h]; simp [eb]
  rw [List.getElem?_map] at e1 e2
  obtain ⟨a', ha', ea'⟩ := Option.map_eq_some_iff.1 e1
  obtain ⟨b', hb', eb'⟩ := Option.map_eq_some_iff.1 e2
  rw [← ea', ← eb']
  exact ha i j a' b' hij ha' hb'
end Go.Hub
namespace Go.Proofs.YtekmhcdgmgbheaaDoor
open Go.RowKit Go.Hub Go.Lib
theorem wzib77_cb : (Tryd.prog.info? 77).map (fun i => (i.zero, i.size, i.bytes)) = some (some (.agg #[(.int .i64 0), (.int .i64 0)]), 2, 16) := by kernel_rfl
theorem wsz77_cb : (Tryd.prog.info? 77).map (·.size) = some 2 := by kernel_rfl
theorem wzib80_cb : (Tryd.prog.info? 80).map (fun i => (i.zero, i.size, i.bytes)) = some (some (.agg #[(.int .i64 0), (.int .i64 0), (.int .i64 0), (.string ⟨#[]⟩)]), 4, 40) := by kernel_rfl
theorem wsz80_cb : (Tryd.prog.info? 80).map (·.size) = some 4 := by kernel_rfl
theorem wzib28_cb : (Tryd.prog.info? 28).map (fun i => (i.zero, i.size, i.bytes)) = some (some (.agg #[(.int .i64 0), (.int .i64 0), (.int .i64 0), (.int .i64 0), (.int .i64 0), (.int .i64 0), (.string ⟨#[]⟩), (.slice none 0 0), (.int .i64 0), (.bool false)]), 10, 104) := by kernel_rfl
theorem wsz28_cb : (Tryd.prog.info? 28).map (·.size) = some 10 := by kernel_rfl
theorem wzib5_cb : (Tryd.prog.info? 5).map (fun i => (i.zero, i.size, i.bytes)) = some (some (.int .u8 0), 1, 1) := by kernel_rfl
theorem wsz5_cb : (Tryd.prog.info? 5).map (·.size) = some 1 := by kernel_rfl
theorem fr_ne {w0 w : World} {e t size n c b q : Nat} {A : Option Addr} {xs : List Value} {cs : Array Value} {fr : Nat × Nat} (F : Fresh w0 w e size A n c xs) (hb : w.heap[b]? = some (.cells cs t fr)) (hq : A.map (·.block) = some q) (ht : e ≠ t) : ¬ q = b := fun h => by
  obtain ⟨_, cs', h'⟩ := F.own.blk q ((own_block _ _ _ q).2 hq)
  rw [h, hb] at h'
  injection h' with h'
  injection h' with _ h2 _
  exact ht h2.symm
theorem fr_neB {w0 w : World} {e t size n c b q : Nat} {A : Option Addr} {xs : List Value} {cs : Array Value} (F : Fresh w0 w e size A n c xs) (hb : Blk w b t cs) (hq : A.map (·.block) = some q) (ht : e ≠ t) : ¬ q = b := fr_ne F hb hq ht
def ClPost (w : World) (et sz n : Nat) (xs : List Value) (e : Ending) (w' : World) : Prop := Kept [] w w' ∧ ∃ A c, e = .returned (.slice A n c) ∧ Fresh w w' et sz A n c xs
set_option maxHeartbeats 1000000 in
theorem cloneF_any (l : List Fe) (A : Option Addr) (c : Nat) (w : World) (A1 : Sl w A l.length 2 (fcells l)) (hm : l.length ≤ 1000000) : Calls Tryd.prog 41 #[.slice A l.length c] w (ClPost w 77 2 l.length (fcells l)) := by
  have HK : Kept [] w w := Kept.refl [] w
  refine C.enter Tryd.func41 rfl Tryd.ntmps41 rfl ?_
  intro a0 f0
  have f1 : Fr 8 a0 [(0, .slice A l.length c)] := f0
  refine C.sk fun K0 hK0 => ?_
  refine L.val f1 wantedN rfl (by decide) (E.assign f1 rfl) fun a2 f2 => ?_
  refine wpList_nil (hK0 _ _ ?_)
  have f3 := f2.sub (sub_cons (i := 0) rfl (sub_cons (i := 2) rfl sn))
  refine wp_seq_k fun K1 hK1 => ?_
  refine C.sk fun K2 hK2 => ?_
  refine L.val f3 wantedN rfl (by decide) (E.move f3 rfl) fun a4 f4 => ?_
  refine L.val f4 wantedN rfl (by decide) (E.eqlNil f4 Tryd.underlying33 rfl rfl) fun a5 f5 => ?_
  refine wpList_nil (hK2 _ _ ?_)
  have f6 := f5.sub (sub_cons (i := 0) rfl (sub_cons (i := 2) rfl (sub_cons (i := 4) rfl sn)))
  clear f0 f1 a0 f2 f3 a2 f4 a4 f5
  refine f6.split 4 rfl (fun h0 f7 => ?_) (fun h0 f7 => ?_)
  · have hA0 : A = none := by simpa using h0
    clear f6
    have hl0 : l = [] := by
      rcases l with _ | ⟨d, r⟩
      · rfl
      obtain ⟨b, off, e⟩ := Sl.addr A1 (by simp)
      rw [hA0] at e
      cases e
    refine C.condT f7 rfl ?_
    refine C.sk fun K3 hK3 => ?_
    refine L.val f7 wantedN rfl (by decide) (E.assign f7 rfl) fun a8 f8 => ?_
    have f9 := f8.sub (sub_cons (i := 0) rfl (sub_cons (i := 2) rfl sn))
    refine wpList_nil (hK3 _ _ (wp_ret ?_)); (try simp only [xt, xb]); refine C.ret f9 rfl rfl ?_
    clear f7 a5 f8
    subst hl0
    exact ⟨HK, none, 0, rfl, Fresh.nil _ _ _ _⟩
  refine C.condF f7 rfl ?_
  refine wp_skip (hK1 _ _ ?_)
  have f8 := f7.sub (sub_cons (i := 0) rfl (sub_cons (i := 2) rfl sn))
  refine C.sk fun K4 hK4 => ?_
  refine L.buildNone f8 wantedN (by decide) Tryd.underlying33 wsz77_cb fun a9 w1 g0 N0 f9 => ?_
  have OW := N0.own (k := 0) (size := 2) rfl (by decide)
  have Bg0 := N0.blk
  have kg0 := N0.kept
  have log0 := N0.lo
  have ltg0 := Bg0.lt
  have szw1 := kg0.size
  have frg0 : w.heap.size ≤ g0 := Nat.le_trans HK.size log0
  replace HK := HK.z kg0
  clear f6 f7 N0 kg0
  refine L.val f9 wantedN rfl (by decide) (E.move f9 rfl) fun a10 f10 => ?_
  refine L.append f10 wantedN (by decide) Tryd.underlying33 wzib77_cb rfl rfl rfl rfl (OW) ((Sl.kept A1 HK)) (fcells_one l) (by unfold maxLen; omega) (by omega) fun a11 w2 A2 c2 AP2 f11 => ?_
  have kap2 : Kept [g0] w1 w2 := by simpa [Value.ownBlock] using AP2.kept
  have FR := AP2.next (⟨OW, fun b hb => by simp at hb; omega⟩ : Fresh w w1 77 2 (some ⟨g0, 0, none⟩) 0 0 _) HK.size
  have szw2 := kap2.size
  replace HK := HK.trans kap2 (by intro x hx hlt; simp at hx; subst hx; (exfalso; omega))
  clear f8 a5 f9 a9 f10 a10 kap2
  refine L.val f11 wantedN rfl (by decide) (E.assign f11 rfl) fun a12 f12 => ?_
  have f13 := f12.sub (sub_cons (i := 2) rfl sn)
  refine wpList_nil (hK4 _ _ (wp_ret ?_)); (try simp only [xt, xb]); refine C.ret f13 rfl rfl ?_
  simp only [Nat.zero_add] at FR f13 ⊢
  exact ⟨HK, _, _, rfl, by simpa using FR⟩
set_option maxHeartbeats 1000000 in
theorem cloneR_any (l : List Ro) (A : Option Addr) (c : Nat) (w : World) (A1 : Sl w A l.length 4 (rocells l)) (hm : l.length ≤ 1000000) : Calls Tryd.prog 42 #[.slice A l.length c] w (ClPost w 80 4 l.length (rocells l)) := by
  have HK : Kept [] w w := Kept.refl [] w
  refine C.enter Tryd.func42 rfl Tryd.ntmps42 rfl ?_
  intro a0 f0
  have f1 : Fr 8 a0 [(0, .slice A l.length c)] := f0
  refine C.sk fun K0 hK0 => ?_
  refine L.val f1 wantedN rfl (by decide) (E.assign f1 rfl) fun a2 f2 => ?_
  refine wpList_nil (hK0 _ _ ?_)
  have f3 := f2.sub (sub_cons (i := 0) rfl (sub_cons (i := 2) rfl sn))
  refine wp_seq_k fun K1 hK1 => ?_
  refine C.sk fun K2 hK2 => ?_
  refine L.val f3 wantedN rfl (by decide) (E.move f3 rfl) fun a4 f4 => ?_
  refine L.val f4 wantedN rfl (by decide) (E.eqlNil f4 Tryd.underlying34 rfl rfl) fun a5 f5 => ?_
  refine wpList_nil (hK2 _ _ ?_)
  have f6 := f5.sub (sub_cons (i := 0) rfl (sub_cons (i := 2) rfl (sub_cons (i := 4) rfl sn)))
  clear f0 f1 a0 f2 f3 a2 f4 a4 f5
  refine f6.split 4 rfl (fun h0 f7 => ?_) (fun h0 f7 => ?_)
  · have hA0 : A = none := by simpa using h0
    clear f6
    have hl0 : l = [] := by
      rcases l with _ | ⟨d, r⟩
      · rfl
      obtain ⟨b, off, e⟩ := Sl.addr A1 (by simp)
      rw [hA0] at e
      cases e
    refine C.condT f7 rfl ?_
    refine C.sk fun K3 hK3 => ?_
    refine L.val f7 wantedN rfl (by decide) (E.assign f7 rfl) fun a8 f8 => ?_
    have f9 := f8.sub (sub_cons (i := 0) rfl (sub_cons (i := 2) rfl sn))
    refine wpList_nil (hK3 _ _ (wp_ret ?_)); (try simp only [xt, xb]); refine C.ret f9 rfl rfl ?_
    clear f7 a5 f8
    subst hl0
    exact ⟨HK, none, 0, rfl, Fresh.nil _ _ _ _⟩
  refine C.condF f7 rfl ?_
  refine wp_skip (hK1 _ _ ?_)
  have f8 := f7.sub (sub_cons (i := 0) rfl (sub_cons (i := 2) rfl sn))
  refine C.sk fun K4 hK4 => ?_
  refine L.buildNone f8 wantedN (by decide) Tryd.underlying34 wsz80_cb fun a9 w1 g0 N0 f9 => ?_
  have OW := N0.own (k := 0) (size := 4) rfl (by decide)
  have Bg0 := N0.blk
  have kg0 := N0.kept
  have log0 := N0.lo
  have ltg0 := Bg0.lt
  have szw1 := kg0.size
  have frg0 : w.heap.size ≤ g0 := Nat.le_trans HK.size log0
  replace HK := HK.z kg0
  clear f6 f7 N0 kg0
  refine L.val f9 wantedN rfl (by decide) (E.move f9 rfl) fun a10 f10 => ?_
  refine L.append f10 wantedN (by decide) Tryd.underlying34 wzib80_cb rfl rfl rfl rfl (OW) ((Sl.kept A1 HK)) (rocells_one l) (by unfold maxLen; omega) (by omega) fun a11 w2 A2 c2 AP2 f11 => ?_
  have kap2 : Kept [g0] w1 w2 := by simpa [Value.ownBlock] using AP2.kept
  have FR := AP2.next (⟨OW, fun b hb => by simp at hb; omega⟩ : Fresh w w1 80 4 (some ⟨g0, 0, none⟩) 0 0 _) HK.size
  have szw2 := kap2.size
  replace HK := HK.trans kap2 (by intro x hx hlt; simp at hx; subst hx; (exfalso; omega))
  clear f8 a5 f9 a9 f10 a10 kap2
  refine L.val f11 wantedN rfl (by decide) (E.assign f11 rfl) fun a12 f12 => ?_
  have f13 := f12.sub (sub_cons (i := 2) rfl sn)
  refine wpList_nil (hK4 _ _ (wp_ret ?_)); (try simp only [xt, xb]); refine C.ret f13 rfl rfl ?_
  simp only [Nat.zero_add] at FR f13 ⊢
  exact ⟨HK, _, _, rfl, by simpa using FR⟩
set_option maxHeartbeats 1000000 in
theorem cloneC_any (l : List Cp) (A : Option Addr) (c : Nat) (w : World) (A1 : Sl w A l.length 10 (pcells l)) (hm : l.length ≤ 1000000) : Calls Tryd.prog 43 #[.slice A l.length c] w (ClPost w 28 10 l.length (pcells l)) := by
  have HK : Kept [] w w := Kept.refl [] w
  refine C.enter Tryd.func43 rfl Tryd.ntmps43 rfl ?_
  intro a0 f0
  have f1 : Fr 8 a0 [(0, .slice A l.length c)] := f0
  refine C.sk fun K0 hK0 => ?_
  refine L.val f1 wantedN rfl (by decide) (E.assign f1 rfl) fun a2 f2 => ?_
  refine wpList_nil (hK0 _ _ ?_)
  have f3 := f2.sub (sub_cons (i := 0) rfl (sub_cons (i := 2) rfl sn))
  refine wp_seq_k fun K1 hK1 => ?_
  refine C.sk fun K2 hK2 => ?_
  refine L.val f3 wantedN rfl (by decide) (E.move f3 rfl) fun a4 f4 => ?_
  refine L.val f4 wantedN rfl (by decide) (E.eqlNil f4 U35 rfl rfl) fun a5 f5 => ?_
  refine wpList_nil (hK2 _ _ ?_)
  have f6 := f5.sub (sub_cons (i := 0) rfl (sub_cons (i := 2) rfl (sub_cons (i := 4) rfl sn)))
  clear f0 f1 a0 f2 f3 a2 f4 a4 f5
  refine f6.split 4 rfl (fun h0 f7 => ?_) (fun h0 f7 => ?_)
  · have hA0 : A = none := by simpa using h0
    clear f6
    have hl0 : l = [] := by
      rcases l with _ | ⟨d, r⟩
      · rfl
      obtain ⟨b, off, e⟩ := Sl.addr A1 (by simp)
      rw [hA0] at e
      cases e
    refine C.condT f7 rfl ?_
    refine C.sk fun K3 hK3 => ?_
    refine L.val f7 wantedN rfl (by decide) (E.assign f7 rfl) fun a8 f8 => ?_
    have f9 := f8.sub (sub_cons (i := 0) rfl (sub_cons (i := 2) rfl sn))
    refine wpList_nil (hK3 _ _ (wp_ret ?_)); (try simp only [xt, xb]); refine C.ret f9 rfl rfl ?_
    clear f7 a5 f8
    subst hl0
    exact ⟨HK, none, 0, rfl, Fresh.nil _ _ _ _⟩
  refine C.condF f7 rfl ?_
  refine wp_skip (hK1 _ _ ?_)
  have f8 := f7.sub (sub_cons (i := 0) rfl (sub_cons (i := 2) rfl sn))
  refine C.sk fun K4 hK4 => ?_
  refine L.buildNone f8 wantedN (by decide) U35 wsz28_cb fun a9 w1 g0 N0 f9 => ?_
  have OW := N0.own (k := 0) (size := 10) rfl (by decide)
  have Bg0 := N0.blk
  have kg0 := N0.kept
  have log0 := N0.lo
  have ltg0 := Bg0.lt
  have szw1 := kg0.size
  have frg0 : w.heap.size ≤ g0 := Nat.le_trans HK.size log0
  replace HK := HK.z kg0
  clear f6 f7 N0 kg0
  refine L.val f9 wantedN rfl (by decide) (E.move f9 rfl) fun a10 f10 => ?_
  refine L.append f10 wantedN (by decide) U35 wzib28_cb rfl rfl rfl rfl (OW) ((Sl.kept A1 HK)) (pcells_one l) (by unfold maxLen; omega) (by omega) fun a11 w2 A2 c2 AP2 f11 => ?_
  have kap2 : Kept [g0] w1 w2 := by simpa [Value.ownBlock] using AP2.kept
  have FR := AP2.next (⟨OW, fun b hb => by simp at hb; omega⟩ : Fresh w w1 28 10 (some ⟨g0, 0, none⟩) 0 0 _) HK.size
  have szw2 := kap2.size
  replace HK := HK.trans kap2 (by intro x hx hlt; simp at hx; subst hx; (exfalso; omega))
  clear f8 a5 f9 a9 f10 a10 kap2
  refine L.val f11 wantedN rfl (by decide) (E.assign f11 rfl) fun a12 f12 => ?_
  have f13 := f12.sub (sub_cons (i := 2) rfl sn)
  refine wpList_nil (hK4 _ _ (wp_ret ?_)); (try simp only [xt, xb]); refine C.ret f13 rfl rfl ?_
  simp only [Nat.zero_add] at FR f13 ⊢
  exact ⟨HK, _, _, rfl, by simpa using FR⟩
set_option maxHeartbeats 1000000 in
theorem cloneB_any (l : List UInt8) (A : Option Addr) (c : Nat) (w : World) (A1 : Sl w A l.length 1 (l.map u8)) (hm : l.length ≤ 1000000) : Calls Tryd.prog 23 #[.slice A l.length c] w (ClPost w 5 1 l.length (l.map u8)) := by
  have HK : Kept [] w w := Kept.refl [] w
  refine C.enter Tryd.func23 rfl Tryd.ntmps23 rfl ?_
  intro a0 f0
  have f1 : Fr 8 a0 [(0, .slice A l.length c)] := f0
  refine C.sk fun K0 hK0 => ?_
  refine L.val f1 wantedN rfl (by decide) (E.assign f1 rfl) fun a2 f2 => ?_
  refine wpList_nil (hK0 _ _ ?_)
  have f3 := f2.sub (sub_cons (i := 0) rfl (sub_cons (i := 2) rfl sn))
  refine wp_seq_k fun K1 hK1 => ?_
  refine C.sk fun K2 hK2 => ?_
  refine L.val f3 wantedN rfl (by decide) (E.move f3 rfl) fun a4 f4 => ?_
  refine L.val f4 wantedN rfl (by decide) (E.eqlNil f4 U26 rfl rfl) fun a5 f5 => ?_
  refine wpList_nil (hK2 _ _ ?_)
  have f6 := f5.sub (sub_cons (i := 0) rfl (sub_cons (i := 2) rfl (sub_cons (i := 4) rfl sn)))
  clear f0 f1 a0 f2 f3 a2 f4 a4 f5
  refine f6.split 4 rfl (fun h0 f7 => ?_) (fun h0 f7 => ?_)
  · have hA0 : A = none := by simpa using h0
    clear f6
    have hl0 : l = [] := by
      rcases l with _ | ⟨d, r⟩
      · rfl
      obtain ⟨b, off, e⟩ := Sl.addr A1 (by simp)
      rw [hA0] at e
      cases e
    refine C.condT f7 rfl ?_
    refine C.sk fun K3 hK3 => ?_
    refine L.val f7 wantedN rfl (by decide) (E.assign f7 rfl) fun a8 f8 => ?_
    have f9 := f8.sub (sub_cons (i := 0) rfl (sub_cons (i := 2) rfl sn))
    refine wpList_nil (hK3 _ _ (wp_ret ?_)); (try simp only [xt, xb]); refine C.ret f9 rfl rfl ?_
    clear f7 a5 f8
    subst hl0
    exact ⟨HK, none, 0, rfl, Fresh.nil _ _ _ _⟩
  refine C.condF f7 rfl ?_
  refine wp_skip (hK1 _ _ ?_)
  have f8 := f7.sub (sub_cons (i := 0) rfl (sub_cons (i := 2) rfl sn))
  refine C.sk fun K4 hK4 => ?_
  refine L.buildNone f8 wantedN (by decide) U26 wsz5_cb fun a9 w1 g0 N0 f9 => ?_
  have OW := N0.own (k := 0) (size := 1) rfl (by decide)
  have Bg0 := N0.blk
  have kg0 := N0.kept
  have log0 := N0.lo
  have ltg0 := Bg0.lt
  have szw1 := kg0.size
  have frg0 : w.heap.size ≤ g0 := Nat.le_trans HK.size log0
  replace HK := HK.z kg0
  clear f6 f7 N0 kg0
  refine L.val f9 wantedN rfl (by decide) (E.move f9 rfl) fun a10 f10 => ?_
  refine L.append f10 wantedN (by decide) U26 wzib5_cb rfl rfl rfl rfl (OW) ((Sl.kept A1 HK)) (fun u hu => by obtain ⟨x, _, rfl⟩ := List.mem_map.1 hu; rfl) (by unfold maxLen; omega) (by omega) fun a11 w2 A2 c2 AP2 f11 => ?_
  have kap2 : Kept [g0] w1 w2 := by simpa [Value.ownBlock] using AP2.kept
  have FR := AP2.next (⟨OW, fun b hb => by simp at hb; omega⟩ : Fresh w w1 5 1 (some ⟨g0, 0, none⟩) 0 0 _) HK.size
  have szw2 := kap2.size
  replace HK := HK.trans kap2 (by intro x hx hlt; simp at hx; subst hx; (exfalso; omega))
  clear f8 a5 f9 a9 f10 a10 kap2
  refine L.val f11 wantedN rfl (by decide) (E.assign f11 rfl) fun a12 f12 => ?_
  have f13 := f12.sub (sub_cons (i := 2) rfl sn)
  refine wpList_nil (hK4 _ _ (wp_ret ?_)); (try simp only [xt, xb]); refine C.ret f13 rfl rfl ?_
  simp only [Nat.zero_add] at FR f13 ⊢
  exact ⟨HK, _, _, rfl, by simpa using FR⟩
end Go.Proofs.YtekmhcdgmgbheaaDoor
namespace Go.Hub
open Go.RowKit
def deps (md : Region.Mode) (ops : Array Oper) (j : Nat) : List Nat := match ops[j]? with | some o => (o.after.toList.filter fun e => Region.binds md e).map (·.on) | none => []
def reach (md : Region.Mode) (ops : Array Oper) (i : Nat) : Nat → Nat → Bool
  | 0, _ => false
  | f + 1, j => ((deps md ops j).any fun k => Nat.beq k i) || (deps md ops j).any fun k => reach md ops i f k
def barrierT (md : Region.Mode) (ops : Array Oper) (m : Nat) : Bool := (List.range ops.size).all fun j => Nat.blt j m || (List.range m).all fun i => reach md ops i 4 j
def closedB (md : Region.Mode) (ops : Array Oper) (listed : Array Bool) : Bool := (List.range ops.size).all fun j => !(listed.getD j true) || (deps md ops j).all fun k => listed.getD k true
section
variable {P : Program} {ops : Array Oper} {Q : Exit → Act → World → Prop} {md : Region.Mode} {S : World → Prop} {m : Nat} {listed : Array Bool}
theorem deps_spec {j k : Nat} {o : Oper} (ho : ops[j]? = some o) : k ∈ deps md ops j ↔ ∃ e ∈ o.after, Region.binds md e = true ∧ e.on = k := by
  unfold deps
  rw [ho]
  simp [and_assoc]
theorem closedB_spec (h : closedB md ops listed = true) {j k : Nat} (hj : listed.getD j true = true) (hk : k ∈ deps md ops j) : listed.getD k true = true := by
  by_cases hs : j < ops.size
  · unfold closedB at h
    have h1 := List.all_eq_true.1 h j (List.mem_range.2 hs)
    rw [hj] at h1
    exact List.all_eq_true.1 (by simpa using h1 : (deps md ops j).all (fun k => listed.getD k true) = true) k hk
  unfold deps at hk
  rw [Array.getElem?_eq_none (by omega)] at hk
  cases hk
theorem closedB_of (h : ∀ j k, listed.getD j true = true → k ∈ deps md ops j → listed.getD k true = true) : closedB md ops listed = true := by
  unfold closedB
  rw [List.all_eq_true]
  intro j _
  cases hj : listed.getD j true
  · rfl
  simp only [Bool.not_true, Bool.false_or]
  rw [List.all_eq_true]
  exact fun k hk => h j k hj hk
theorem getD_put {l : Array Bool} {i k : Nat} (h : l.getD k true = true) : (l.setIfInBounds i true).getD k true = true := by
  by_cases e : i = k
  · subst e
    rw [Array.getD_eq_getD_getElem?, Array.getElem?_setIfInBounds_self]
    split <;> rfl
  rw [getD_set_ne true e]; exact h
theorem ready_deps {j : Nat} (hj : j ∈ Region.ready md ops listed) : ∀ k ∈ deps md ops j, listed.getD k true = true := by
  obtain ⟨_, oj, hoj, hall⟩ := mem_ready.1 hj
  intro k hk
  obtain ⟨e, he, hb, rfl⟩ := (deps_spec hoj).1 hk
  have h1 := hall e he hb
  rcases Nat.lt_or_ge e.on listed.size with h' | h'
  · simp [h'] at h1 ⊢; exact h1
  simp [Array.getElem?_eq_none h'] at h1
theorem closedB_put (h : closedB md ops listed = true) {j : Nat} (hj : j ∈ Region.ready md ops listed) : closedB md ops (listed.setIfInBounds j true) = true := closedB_of fun q k hq hk => by
  apply getD_put
  by_cases e : j = q
  · subst e; exact ready_deps hj k hk
  rw [getD_set_ne true e] at hq
  exact closedB_spec h hq hk
theorem reach_listed (h : closedB md ops listed = true) {i : Nat} : ∀ (f j : Nat), (∀ k ∈ deps md ops j, listed.getD k true = true) → reach md ops i f j = true → listed.getD i true = true
  | 0, _, _, hr => by cases hr
  | f + 1, j, hd, hr => by
    unfold reach at hr
    rw [Bool.or_eq_true] at hr
    rcases hr with hr | hr
    · obtain ⟨k, hk, e⟩ := List.any_eq_true.1 hr
      obtain rfl := Nat.eq_of_beq_eq_true e
      exact hd k hk
    obtain ⟨k, hk, e⟩ := List.any_eq_true.1 hr
    exact reach_listed h f k (fun q hq => closedB_spec h (hd k hk) hq) e
theorem barrierT_spec (h : barrierT md ops m = true) {i j : Nat} (hi : i < m) (hj : m ≤ j) (hs : j < ops.size) : reach md ops i 4 j = true := by
  unfold barrierT at h
  have h1 := List.all_eq_true.1 h j (List.mem_range.2 hs)
  have h2 : Nat.blt j m = false := by
    cases hb : Nat.blt j m
    · rfl
    have := Nat.le_of_ble_eq_true hb
    omega
  rw [h2, Bool.false_or] at h1
  exact List.all_eq_true.1 h1 i (List.mem_range.2 hi)
theorem wpAnyB_firstT {i : Nat} {oi : Oper} {v : Value} (hi : ops[i]? = some oi) (hsel : ∀ (j : Nat) (o : Oper) cs b, ops[j]? = some o → o.op ≠ .select cs b)
    (hQ : ∀ c a w, Q (.panic c) (a.put oi.dst v) w → Q (.panic c) a w) (him : i < m) (hbar : barrierT md ops m = true) :
    ∀ (fuel : Nat) (listed : Array Bool) (a : Act) (w : World), closedB md ops listed = true →
      (∀ j oj, ops[j]? = some oj → j ≠ i → listed.getD j true = false → (∀ e ∈ oj.after, Region.binds md e = true → e.on ≠ i) → oi.apart ops oj = true) →
      i ∈ Region.ready md ops listed → YieldsIf P ops S oi v a → S w →
      wpAnyB P md ops Q S m fuel (listed.setIfInBounds i true) (a.put oi.dst v) w → wpAnyB P md ops Q S m (fuel + 1) listed a w := by
  intro fuel
  induction fuel with
  | zero =>
    intro listed a w _ _ hr hy hS H
    have hup : ¬ upto m listed = true := fun hu => by
      have h1 := upto_spec hu him
      rw [(mem_ready.1 hr).1] at h1
      cases h1
    unfold wpAnyB
    rw [if_neg hup]
    refine ⟨fun h => (by rw [h] at hr; cases hr), fun j hj => ?_⟩
    by_cases hji : j = i
    · subst hji; exact hy.wpOp hi hS ⟨hS, H⟩
    have := ready_mono hj hji
    rw [H.1] at this
    cases this
  | succ fuel ih =>
    intro listed a w hcl hfree hr hy hS H
    have hup : ¬ upto m listed = true := fun hu => by
      have h1 := upto_spec hu him
      rw [(mem_ready.1 hr).1] at h1
      cases h1
    unfold wpAnyB
    rw [if_neg hup]
    refine ⟨fun h => (by rw [h] at hr; cases hr), fun j hj => ?_⟩
    by_cases hji : j = i
    · subst hji; exact hy.wpOp hi hS ⟨hS, H⟩
    obtain ⟨hjun, oj, hoj, hall⟩ := mem_ready.1 hj
    have hnot : ∀ e ∈ oj.after, Region.binds md e = true → e.on ≠ i := fun e he hb heq => by
      have h1 := hall e he hb
      have h0 := (mem_ready.1 hr).1
      rw [heq] at h1
      rcases Nat.lt_or_ge i listed.size with h' | h'
      · simp [h'] at h0 h1; rw [h0] at h1; cases h1
      simp [Array.getElem?_eq_none h'] at h1
    have hjm : j < m := by
      rcases Nat.lt_or_ge j m with h | h
      · exact h
      have h1 := reach_listed hcl 4 j (ready_deps hj) (barrierT_spec hbar him h (Array.getElem?_eq_some_iff.1 hoj).1)
      rw [(mem_ready.1 hr).1] at h1
      cases h1
    have hup' : ¬ upto m (listed.setIfInBounds i true) = true := fun hu => by
      have h1 := upto_spec hu hjm
      rw [getD_set_ne true (Ne.symm hji), hjun] at h1
      cases h1
    unfold wpAnyB at H
    rw [if_neg hup'] at H
    have h1 := H.2 j (ready_mono hj hji)
    have h2 := wpOp_putIf hoj (hfree j oj hoj hji hjun hnot) (fun cs b => hsel i oi cs b hi) (fun cs b => hsel j oj cs b hoj) hQ hy h1
    have hfree' : ∀ k ok, ops[k]? = some ok → k ≠ i → (listed.setIfInBounds j true).getD k true = false →
        (∀ e ∈ ok.after, Region.binds md e = true → e.on ≠ i) → oi.apart ops ok = true := fun k ok hk hki hun hno => by
      refine hfree k ok hk hki ?_ hno
      by_cases hjk : j = k
      · subst hjk; exact hjun
      rw [getD_set_ne true hjk] at hun; exact hun
    refine wpOp_mono (fun a' w' h3 => ⟨h3.2.1, ih (listed.setIfInBounds j true) a' w' (closedB_put hcl hj) hfree' (ready_mono hr (Ne.symm hji)) h3.1 h3.2.1 ?_⟩) h2
    rw [Array.setIfInBounds_comm _ _ hji]
    exact h3.2.2
end
section
variable {P : Program} {ops : Array Oper} {Q : Exit → Act → World → Prop} {md : Region.Mode} {S : World → Prop} {a : Act} {w w' : World} {n d : Nat} {l : FL} {v : Value} {o : Oper} {m : Nat}
theorem RBt.take (i : Nat) {fuel : Nat} {listed : Array Bool} (f : Fr n a l) (hi : ops[i]? = some o) (hd : o.dst = some d) (hn : d < n) (hb : (Nat.blt i m && (barrierT md ops m && closedB md ops listed)) = true) (hs : Region.noSelect ops = true) (hf : Region.free md ops listed i = true)
    (hr : (Region.ready md ops listed).contains i = true) (hQ : ∀ c (a : Act) (u : Value) w, Q (.panic c) (a.put (some d) u) w → Q (.panic c) a w) (hw : Region.wanted o (yielded ops a.tmps) = true) (hS : S w)
    (hv : ∀ w, S w → (execOp a.eval o).run P w = .ok (.value v) w)
    (hK : ∀ a', Fr n a' ((d, v) :: l) → wpAnyB P md ops Q S m fuel (listed.setIfInBounds i true) a' w) : wpAnyB P md ops Q S m (fuel + 1) listed a w := by
  simp only [Bool.and_eq_true] at hb
  refine wpAnyB_firstT hi (Region.noSelect_spec hs) (fun c a w h => hQ c a v w (by rwa [hd] at h)) (Nat.le_of_ble_eq_true hb.1) hb.2.1 fuel listed a w hb.2.2 (Region.free_spec hi hf) (by simpa using hr) (.inl ⟨hw, hv⟩) hS ?_
  rw [hd]
  exact hK _ (f.put d v hn)
end
end Go.Hub
namespace Go.Proofs.YtekmhcdgmgbheaaDoor
open Go.RowKit Go.Hub Go.Lib
theorem wsz26_cc : (Tryd.prog.info? 26).map (·.size) = some 1 := by kernel_rfl
theorem wsz28_cc : (Tryd.prog.info? 28).map (·.size) = some 10 := by kernel_rfl
theorem wsz32_cc : (Tryd.prog.info? 32).map (·.size) = some 1 := by kernel_rfl
theorem wsz33_cc : (Tryd.prog.info? 33).map (·.size) = some 1 := by kernel_rfl
theorem wsz34_cc : (Tryd.prog.info? 34).map (·.size) = some 1 := by kernel_rfl
theorem wsz35_cc : (Tryd.prog.info? 35).map (·.size) = some 1 := by kernel_rfl
theorem wsz37_cc : (Tryd.prog.info? 37).map (·.size) = some 4 := by kernel_rfl
def CopyPost (t : Tm) (w : World) (e : Ending) (w' : World) : Prop := Kept [] w w' ∧ ∃ t' : Tm, e = .returned (.agg (tcell t').toArray) ∧ TmNew w w' t' ∧ t.same t'
theorem cel_at {w0 w : World} {e n c b off k : Nat} {A : Option Addr} {l : List Cp} {p : Cp} (F : Fresh w0 w e 10 A n c (pcells l)) (hA : A = some ⟨b, off, none⟩) (hx : l[k]? = some p) (hn : 0 < n) (j : Nat) (v : Value) (hv : (pcell p)[j]? = some v) : w.cell? ⟨b, off + Int.toNat (k : Int) * 10 + j, none⟩ = some v := by
  rw [Int.toNat_natCast, Nat.add_assoc]
  exact F.sl.cell hn hA (pcells_at l k p hx j v hv)
theorem pcells_set : ∀ (l : List Cp) (i : Nat) (p : Cp) (A : Option Addr) (c : Nat), l[i]? = some p → (pcells l).set (i * 10 + 7) (.slice A p.x.pay.length c) = pcells (l.set i ⟨p.x, A, c⟩)
  | [], i, p, A, c, h => by simp at h
  | q :: l, 0, p, A, c, h => by
    simp at h
    subst h
    rfl
  | q :: l, i + 1, p, A, c, h => by
    have := pcells_set l i p A c (by simpa using h)
    rw [List.set_cons_succ, pcells_cons, pcells_cons, ← this, show (i + 1) * 10 + 7 = (pcell q).length + (i * 10 + 7) by show _ = 10 + _; omega, List.set_append_right _ _ (by omega)]
    congr 2
    omega
theorem set_same {l : List Cp} {k : Nat} {p : Cp} {A : Option Addr} {c : Nat} (h : l[k]? = some p) : (l.map Cp.x).set k (Cp.x ⟨p.x, A, c⟩) = l.map Cp.x := by
  apply List.ext_getElem?
  intro i
  rw [List.getElem?_set]
  split
  · rename_i e
    subst e
    rw [List.getElem?_map, h]
    simp
    exact (List.getElem?_eq_some_iff.1 h).1
  rfl
section
variable {P : Program} {ops : Array Oper} {Q : Exit → Act → World → Prop} {a : Act} {w w0 : World} {n d : Nat} {l : FL} {v : Value} {ty : TypeId} {ps : String} {af : Array Edge} {gd : Option (Nat × Bool)} {x y : Operand} {t : TypeId} {K : Act → World → Prop} {i : Nat}
theorem OT.storeF (f : Fr n a l) (hio : ops[i]? = some ⟨none, .store t x y, ty, ps, af, gd⟩) (hw : Region.wanted ⟨none, .store t x y, ty, ps, af, gd⟩ (yielded ops a.tmps) = true) (hi : (P.info? t).map (·.size) = some 1) {b off o j e size k c : Nat} {A : Option Addr} {xs : List Value} (hA : A = some ⟨b, off, none⟩) (F : Fresh w0 w e size A k c xs) (hx : evl l x = some (.pointer (some ⟨b, o, none⟩))) (ho : o = off + j) (hj : j < xs.length) (hy : evl l y = some v) (h1 : v.oneCell' = true)
    (hK : ∀ a' w', Fr n a' l → Fresh w0 w' e size A k c (xs.set j v) → Kept [b] w w' → w0.heap.size ≤ b → K a' w') : wpOp P ops Q i (fun a w => True ∧ K a w) a w := by
  subst ho
  obtain ⟨⟨old, h2⟩, h3, h4⟩ := F.own.set_ hA hj v
  exact O.act (S := fun _ => True) f hio rfl hw (E.store f hi hx hy h1 h2 h3) trivial fun a' f' => hK a' _ f' ⟨h4, F.lo⟩ (setCell_kept w b _ v) (F.lo b (by rw [hA]; rfl))
end
set_option maxHeartbeats 1000000 in
theorem Copy_any (t : Tm) (w : World) (TO : TmOk w t) (TS : TmSm t) : Calls Tryd.prog 21 #[.agg (tcell t).toArray] w (CopyPost t w) := by
  have HK : Kept [] w w := Kept.refl [] w
  refine C.enter Tryd.func21 rfl Tryd.ntmps21 rfl ?_
  intro a0 f0
  have f1 : Fr 40 a0 [(0, .agg (tcell t).toArray)] := f0
  refine C.sk fun K0 hK0 => ?_
  refine L.box f1 wantedN (by decide) rfl rfl fun a2 w1 g0 N0 f2 => ?_
  have Bg0 := N0.blk
  have kg0 := N0.kept
  have log0 := N0.lo
  have ltg0 := Bg0.lt
  have szw1 := kg0.size
  have frg0 : w.heap.size ≤ g0 := Nat.le_trans HK.size log0
  replace HK := HK.z kg0
  clear f0 N0 kg0
  refine L.alloc f2 wantedN (by decide) (z := (.agg #[(.slice none 0 0), (.slice none 0 0), (.slice none 0 0), (.slice none 0 0)])) (fun _ => by kernel_rfl) rfl fun a3 w2 g1 N1 f3 => ?_
  have Bg1 := N1.blk
  have kg1 := N1.kept
  have log1 := N1.lo
  have ltg1 := Bg1.lt
  have szw2 := kg1.size
  have frg1 : w.heap.size ≤ g1 := Nat.le_trans HK.size log1
  have neg0_g1 : g0 ≠ g1 := by have := Bg0.lt; omega
  replace HK := HK.z kg1
  replace Bg0 := Bg0.z kg1
  clear f1 a0 N1 kg1
  refine wpList_nil (hK0 _ _ ?_)
  have f4 := f3.sub (sub_cons (i := 1) rfl (sub_cons (i := 2) rfl sn))
  refine wp_seq_k fun K1 hK1 => ?_
  refine RB.begin (S := fun W => Kept [] w2 W) 13 (by kernel_rfl) (by exact (Kept.refl _ _).drewN 1) ?_
  have hS1 : Kept [] w2 (w2.drewN 1) := (Kept.refl _ _).drewN 1
  have hd1 : Kept [] w2 (w2.drewN 1) := (Kept.refl _ _).drewN 1
  obtain ⟨w3, hww3⟩ : ∃ W, W = w2.drewN 1 := ⟨_, rfl⟩
  rw [← hww3] at hS1 hd1 ⊢
  clear f2 a2 f3 hww3
  have szw3 := hS1.size
  refine RBt.take 0 f4 rfl rfl (by decide) (by kernel_rfl) (by kernel_rfl) (by kernel_rfl) (by kernel_rfl) (fun _ _ _ _ h => h) wantedN hS1 (fun W hW => (E.fieldAddrN 0 f4 U37 rfl rfl rfl wsz32_cc)) fun a5 f5 => ?_
  refine RBt.take 1 f5 rfl rfl (by decide) (by kernel_rfl) (by kernel_rfl) (by kernel_rfl) (by kernel_rfl) (fun _ _ _ _ h => h) wantedN hS1 (fun W hW => (E.load f5 U32 rfl rfl ((Bg0.z hW).cl rfl))) fun a6 f6 => ?_
  refine RBt.take 3 f6 rfl rfl (by decide) (by kernel_rfl) (by kernel_rfl) (by kernel_rfl) (by kernel_rfl) (fun _ _ _ _ h => h) wantedN hS1 (fun W hW => (E.fieldAddrN 1 f6 U37 rfl rfl rfl wsz33_cc)) fun a7 f7 => ?_
  refine RBt.take 4 f7 rfl rfl (by decide) (by kernel_rfl) (by kernel_rfl) (by kernel_rfl) (by kernel_rfl) (fun _ _ _ _ h => h) wantedN hS1 (fun W hW => (E.load f7 Tryd.underlying33 rfl rfl ((Bg0.z hW).cl rfl))) fun a8 f8 => ?_
  refine RBt.take 6 f8 rfl rfl (by decide) (by kernel_rfl) (by kernel_rfl) (by kernel_rfl) (by kernel_rfl) (fun _ _ _ _ h => h) wantedN hS1 (fun W hW => (E.fieldAddrN 2 f8 U37 rfl rfl rfl wsz34_cc)) fun a9 f9 => ?_
  refine RBt.take 7 f9 rfl rfl (by decide) (by kernel_rfl) (by kernel_rfl) (by kernel_rfl) (by kernel_rfl) (fun _ _ _ _ h => h) wantedN hS1 (fun W hW => (E.load f9 Tryd.underlying34 rfl rfl ((Bg0.z hW).cl rfl))) fun a10 f10 => ?_
  refine RBt.take 9 f10 rfl rfl (by decide) (by kernel_rfl) (by kernel_rfl) (by kernel_rfl) (by kernel_rfl) (fun _ _ _ _ h => h) wantedN hS1 (fun W hW => (E.fieldAddrN 3 f10 U37 rfl rfl rfl wsz35_cc)) fun a11 f11 => ?_
  clear f4 a3 f5 a5 f6 a6 f7 a7 f8 a8 f9 a9 f10 a10
  refine RBt.take 10 f11 rfl rfl (by decide) (by kernel_rfl) (by kernel_rfl) (by kernel_rfl) (by kernel_rfl) (fun _ _ _ _ h => h) wantedN hS1 (fun W hW => (E.load f11 U35 rfl rfl ((Bg0.z hW).cl rfl))) fun a12 f12 => ?_
  refine RB.call 2 f12 rfl rfl (by decide) (by kernel_rfl) (by kernel_rfl) wantedN (run_call Tryd.call40 (args1 f12 rfl)) (clone_any t.seen _ _ _ (TO.s.kept (HK.z hS1)) TS.s) ?_
  clear f11 a11
  rintro e w4 ⟨kc4, Ad, cd, rfl, FD⟩
  have FD := FD.lower (w0 := w) (by have := HK.size; omega)
  replace hS1 := hS1.trans kc4 (by simp)
  refine ⟨_, rfl, hS1, fun a13 f13 => ?_⟩
  have szw4 := kc4.size
  clear f12 a12 kc4
  refine RBt.take 12 f13 rfl rfl (by decide) (by kernel_rfl) (by kernel_rfl) (by kernel_rfl) (by kernel_rfl) (fun _ _ _ _ h => h) wantedN hS1 (fun W hW => (E.fieldAddrN 0 f13 U37 rfl rfl rfl wsz32_cc)) fun a14 f14 => ?_
  refine RB.call 5 f14 rfl rfl (by decide) (by kernel_rfl) (by kernel_rfl) wantedN (run_call Tryd.call41 (args1 f14 rfl)) (cloneF_any t.fen _ _ _ (TO.f.kept (HK.z hS1)) TS.f) ?_
  clear f13 a13
  rintro e w5 ⟨kc5, Af, cf, rfl, FF⟩
  have FF := FF.lower (w0 := w) (by have := HK.size; omega)
  replace hS1 := hS1.trans kc5 (by simp)
  refine ⟨_, rfl, hS1, fun a15 f15 => ?_⟩
  have szw5 := kc5.size
  replace FD := (by exact FD.kept0 kc5)
  clear f14 a14 kc5
  refine RB.call 8 f15 rfl rfl (by decide) (by kernel_rfl) (by kernel_rfl) wantedN (run_call Tryd.call42 (args1 f15 rfl)) (cloneR_any t.rou _ _ _ (TO.r.kept (HK.z hS1)) TS.r) ?_
  rintro e w6 ⟨kc6, Ae, ce, rfl, FE⟩
  have FE := FE.lower (w0 := w) (by have := HK.size; omega)
  replace hS1 := hS1.trans kc6 (by simp)
  refine ⟨_, rfl, hS1, fun a16 f16 => ?_⟩
  have szw6 := kc6.size
  replace FD := (by exact FD.kept0 kc6)
  replace FF := (by exact FF.kept0 kc6)
  clear f15 a15 kc6
  refine RB.call 11 f16 rfl rfl (by decide) (by kernel_rfl) (by kernel_rfl) wantedN (run_call Tryd.call43 (args1 f16 rfl)) (cloneC_any t.cel _ _ _ (TO.c.kept (HK.z hS1)) TS.c) ?_
  rintro e w7 ⟨kc7, Ac, cc', rfl, FC⟩
  have FC := FC.lower (w0 := w) (by have := HK.size; omega)
  replace hS1 := hS1.trans kc7 (by simp)
  refine ⟨_, rfl, hS1, fun a17 f17 => ?_⟩
  have szw7 := kc7.size
  replace FD := (by exact FD.kept0 kc7)
  replace FF := (by exact FF.kept0 kc7)
  replace FE := (by exact FE.kept0 kc7)
  clear f16 a16 kc7
  refine RB.stop (by kernel_rfl) ?_
  have szw7r := hS1.size
  replace HK := HK.z hS1
  replace Bg0 := Bg0.z hS1
  replace Bg1 := Bg1.z hS1
  clear hS1
  refine R.one 13 (by kernel_rfl) ?_
  refine OT.store f17 rfl wantedN wsz32_cc rfl rfl rfl Bg0 (by (simp [Value.cells]; done)) fun a18 w8 f18 NB8 ks8 => ?_
  have szw8 := ks8.size
  replace HK := HK.trans ks8 (by intro x hx hlt; simp at hx; subst hx; (exfalso; omega))
  replace Bg1 := Bg1.kept ks8 (by simp; omega)
  replace FD := FD.kept ks8 (fun q hq => by simp only [List.mem_singleton]; exact fr_ne FD Bg0 hq (by decide))
  replace FF := FF.kept ks8 (fun q hq => by simp only [List.mem_singleton]; exact fr_ne FF Bg0 hq (by decide))
  replace FE := FE.kept ks8 (fun q hq => by simp only [List.mem_singleton]; exact fr_ne FE Bg0 hq (by decide))
  replace FC := FC.kept ks8 (fun q hq => by simp only [List.mem_singleton]; exact fr_ne FC Bg0 hq (by decide))
  replace Bg0 := NB8
  simp only [Value.cells, List.setIfInBounds_toArray, List.set_cons_zero, List.set_cons_succ, Nat.reduceAdd, Nat.zero_add] at Bg0
  clear ks8 f17 a17
  refine R.take 14 f18 rfl rfl (by decide) (by kernel_rfl) (by kernel_rfl) (by kernel_rfl) (fun _ _ _ _ h => h) wantedN trivial (fun W hW => (E.fieldAddrN 1 f18 U37 rfl rfl rfl wsz33_cc)) fun a19 f19 => ?_
  refine R.one 15 (by kernel_rfl) ?_
  refine OT.store f19 rfl wantedN wsz33_cc rfl rfl rfl Bg0 (by (simp [Value.cells]; done)) fun a20 w9 f20 NB9 ks9 => ?_
  have szw9 := ks9.size
  replace HK := HK.trans ks9 (by intro x hx hlt; simp at hx; subst hx; (exfalso; omega))
  replace Bg1 := Bg1.kept ks9 (by simp; omega)
  replace FD := FD.kept ks9 (fun q hq => by simp only [List.mem_singleton]; exact fr_ne FD Bg0 hq (by decide))
  replace FF := FF.kept ks9 (fun q hq => by simp only [List.mem_singleton]; exact fr_ne FF Bg0 hq (by decide))
  replace FE := FE.kept ks9 (fun q hq => by simp only [List.mem_singleton]; exact fr_ne FE Bg0 hq (by decide))
  replace FC := FC.kept ks9 (fun q hq => by simp only [List.mem_singleton]; exact fr_ne FC Bg0 hq (by decide))
  replace Bg0 := NB9
  simp only [Value.cells, List.setIfInBounds_toArray, List.set_cons_zero, List.set_cons_succ, Nat.reduceAdd, Nat.zero_add] at Bg0
  clear f18 a18 ks9 f19 a19
  refine R.take 16 f20 rfl rfl (by decide) (by kernel_rfl) (by kernel_rfl) (by kernel_rfl) (fun _ _ _ _ h => h) wantedN trivial (fun W hW => (E.fieldAddrN 2 f20 U37 rfl rfl rfl wsz34_cc)) fun a21 f21 => ?_
  refine R.one 17 (by kernel_rfl) ?_
  refine OT.store f21 rfl wantedN wsz34_cc rfl rfl rfl Bg0 (by (simp [Value.cells]; done)) fun a22 w10 f22 NB10 ks10 => ?_
  have szw10 := ks10.size
  replace HK := HK.trans ks10 (by intro x hx hlt; simp at hx; subst hx; (exfalso; omega))
  replace Bg1 := Bg1.kept ks10 (by simp; omega)
  replace FD := FD.kept ks10 (fun q hq => by simp only [List.mem_singleton]; exact fr_ne FD Bg0 hq (by decide))
  replace FF := FF.kept ks10 (fun q hq => by simp only [List.mem_singleton]; exact fr_ne FF Bg0 hq (by decide))
  replace FE := FE.kept ks10 (fun q hq => by simp only [List.mem_singleton]; exact fr_ne FE Bg0 hq (by decide))
  replace FC := FC.kept ks10 (fun q hq => by simp only [List.mem_singleton]; exact fr_ne FC Bg0 hq (by decide))
  replace Bg0 := NB10
  simp only [Value.cells, List.setIfInBounds_toArray, List.set_cons_zero, List.set_cons_succ, Nat.reduceAdd, Nat.zero_add] at Bg0
  clear f20 a20 ks10 f21 a21
  refine R.take 18 f22 rfl rfl (by decide) (by kernel_rfl) (by kernel_rfl) (by kernel_rfl) (fun _ _ _ _ h => h) wantedN trivial (fun W hW => (E.fieldAddrN 3 f22 U37 rfl rfl rfl wsz35_cc)) fun a23 f23 => ?_
  refine R.one 19 (by kernel_rfl) ?_
  refine OT.store f23 rfl wantedN wsz35_cc rfl rfl rfl Bg0 (by (simp [Value.cells]; done)) fun a24 w11 f24 NB11 ks11 => ?_
  have szw11 := ks11.size
  replace HK := HK.trans ks11 (by intro x hx hlt; simp at hx; subst hx; (exfalso; omega))
  replace Bg1 := Bg1.kept ks11 (by simp; omega)
  replace FD := FD.kept ks11 (fun q hq => by simp only [List.mem_singleton]; exact fr_ne FD Bg0 hq (by decide))
  replace FF := FF.kept ks11 (fun q hq => by simp only [List.mem_singleton]; exact fr_ne FF Bg0 hq (by decide))
  replace FE := FE.kept ks11 (fun q hq => by simp only [List.mem_singleton]; exact fr_ne FE Bg0 hq (by decide))
  replace FC := FC.kept ks11 (fun q hq => by simp only [List.mem_singleton]; exact fr_ne FC Bg0 hq (by decide))
  replace Bg0 := NB11
  simp only [Value.cells, List.setIfInBounds_toArray, List.set_cons_zero, List.set_cons_succ, Nat.reduceAdd, Nat.zero_add] at Bg0
  clear f22 a22 ks11 f23 a23
  refine R.done (by kernel_rfl) (hK1 _ _ ?_)
  have f25 := f24.sub (sub_cons (i := 1) rfl (sub_cons (i := 2) rfl sn))
  refine wp_seq_k fun K2 hK2 => ?_
  refine wp_seq_k fun K3 hK3 => ?_
  have hP : ∀ q ∈ t.cel, PayOk w11 q := fun q hq => (TO.p q hq).kept HK
  refine C.region ?_
  refine L.val f25 wantedN rfl (by decide) (E.fieldAddrN 3 f25 U37 rfl rfl rfl wsz35_cc) fun a26 f26 => ?_
  refine L.val f26 wantedN rfl (by decide) (E.load f26 U35 rfl rfl ((Bg0).cl rfl)) fun a27 f27 => ?_
  refine L.val f27 wantedN rfl (by decide) (E.lenL f27 U35 rfl) fun a28 f28 => ?_
  refine L.val f28 wantedN rfl (by decide) (E.move f28 rfl) fun a29 f29 => ?_
  refine wpList_nil (hK3 _ _ ?_)
  have f30 := f29.sub (sub_cons (i := 1) rfl (sub_cons (i := 2) rfl (sub_cons (i := 22) rfl (sub_cons (i := 23) rfl sn))))
  refine wp_block ?_
  clear f24 f25 a24 f26 a26 f27 a27 f28 a28 f29
  refine C.loop (fun gk a W => ∃ (k : Nat) (l : List Cp), k + gk = t.cel.length ∧ l.map Cp.x = t.cel.map Cp.x ∧ (∀ q ∈ l, PayOk W q) ∧ Fresh w W 28 10 Ac l.length cc' (pcells l) ∧ Fresh w W 23 3 Ad t.seen.length cd (dcells t.seen) ∧ Fresh w W 77 2 Af t.fen.length cf (fcells t.fen) ∧ Fresh w W 80 4 Ae t.rou.length ce (rocells t.rou) ∧ Kept [] w W ∧ Blk W g0 37 #[.slice Ad t.seen.length cd, .slice Af t.fen.length cf, .slice Ae t.rou.length ce, .slice Ac t.cel.length cc'] ∧ Blk W g1 37 #[.slice none 0 0, .slice none 0 0, .slice none 0 0, .slice none 0 0] ∧ Fr 40 a [(1, .pointer (some ⟨g0, 0, none⟩)), (2, .pointer (some ⟨g1, 0, none⟩)), (22, .int .i64 t.cel.length), (23, .int .i64 k)]) (t.cel.length) ?_ ?_
  · exact ⟨0, t.cel, by omega, rfl, hP, FC, FD, FF, FE, HK, Bg0, Bg1, f30.sub (sx (sx (sx (sx sn))))⟩
  intro gk5 a31 w12 hI KL4 hKL4
  obtain ⟨k, l, hk, hl, hP, FC, FD, FF, FE, HK, Bg0, Bg1, f31⟩ := hI
  try clear f30
  have hSc := TS.c
  have hll : l.length = t.cel.length := by have := congrArg List.length hl; simpa using this
  refine C.sk fun K5 hK5 => ?_
  refine L.val f31 wantedN rfl (by decide) (E.lss f31 rfl rfl) fun a32 f32 => ?_
  refine wpList_nil (hK5 _ _ ?_)
  have f33 := f32.sub (sub_cons (i := 1) rfl (sub_cons (i := 2) rfl (sub_cons (i := 22) rfl (sub_cons (i := 23) rfl (sub_cons (i := 24) rfl sn)))))
  refine wp_seq_k fun K6 hK6 => ?_
  clear f31 a31 f32
  refine f33.splitD 24 rfl (fun h0 f34 => ?_) (fun h0 f34 => ?_)
  · obtain ⟨p, hx⟩ : ∃ p, l[k]? = some p := ⟨l[k]'(by omega), List.getElem?_eq_getElem _⟩
    obtain ⟨b, off, hA⟩ := FC.sl.addr (by omega)
    refine C.condT f34 rfl ?_
    refine wp_skip (hK6 _ _ ?_)
    have f35 := f34.sub (sub_cons (i := 1) rfl (sub_cons (i := 2) rfl (sub_cons (i := 22) rfl (sub_cons (i := 23) rfl (sub_cons (i := 24) rfl sn)))))
    refine wp_seq_k fun K7 hK7 => ?_
    refine wp_block ?_
    refine C.sk fun K8 hK8 => ?_
    refine L.val f35 wantedN rfl (by decide) (E.move f35 rfl) fun a36 f36 => ?_
    refine L.val f36 wantedN rfl (by decide) (E.assign f36 rfl) fun a37 f37 => ?_
    refine wpList_nil (hK8 _ _ ?_)
    have f38 := f37.sub (sub_cons (i := 1) rfl (sub_cons (i := 2) rfl (sub_cons (i := 3) rfl (sub_cons (i := 22) rfl (sub_cons (i := 23) rfl (sub_cons (i := 24) rfl (sub_cons (i := 25) rfl sn)))))))
    refine RB.begin (S := fun W => Kept [] w12 W) 10 (by kernel_rfl) (by exact (Kept.refl _ _).drewN 1) ?_
    have hS5 : Kept [] w12 (w12.drewN 1) := (Kept.refl _ _).drewN 1
    have hd5 : Kept [] w12 (w12.drewN 1) := (Kept.refl _ _).drewN 1
    obtain ⟨w13, hww13⟩ : ∃ W, W = w12.drewN 1 := ⟨_, rfl⟩
    rw [← hww13] at hS5 hd5 ⊢
    clear f33 f34 f35 a32 f36 a36 f37 hww13
    have szw13 := hS5.size
    refine RB.tk 0 f38 rfl hS5 (fun W hW => (E.fieldAddrN 3 f38 U37 rfl rfl rfl wsz35_cc)) fun a39 f39 => ?_
    refine RB.tk 1 f39 rfl hS5 (fun W hW => (E.load f39 U35 rfl rfl ((Bg0.z hW).cl rfl))) fun a40 f40 => ?_
    refine RB.tk 2 f40 rfl hS5 (fun W hW => (E.move f40 rfl)) fun a41 f41 => ?_
    refine RB.tk 3 f41 rfl hS5 (fun W hW => (E.fieldAddrN 3 f41 U37 rfl rfl rfl wsz35_cc)) fun a42 f42 => ?_
    refine RB.tk 4 f42 rfl hS5 (fun W hW => (E.load f42 U35 rfl rfl ((Bg0.z hW).cl rfl))) fun a43 f43 => ?_
    refine RB.tk 5 f43 rfl hS5 (fun W hW => (E.move f43 rfl)) fun a44 f44 => ?_
    refine RB.tk 6 f44 rfl hS5 (fun W hW => (E.indexA f44 (by assumption) U35 wsz28_cc rfl rfl (by omega) (by omega))) fun a45 f45 => ?_
    clear f38 a37 f39 a39 f40 a40 f41 a41 f42 a42 f43 a43 f44 a44
    refine RB.tk 7 f45 rfl hS5 (fun W hW => (E.fieldAddrN 7 f45 U28 rfl rfl rfl wsz26_cc)) fun a46 f46 => ?_
    refine RB.tk 8 f46 rfl hS5 (fun W hW => (E.load f46 U26 rfl rfl (cel_at ((FC).kept hW (by simp)) hA hx (by omega) 7 _ rfl))) fun a47 f47 => ?_
    refine RB.call 9 f47 rfl rfl (by decide) (by kernel_rfl) (by kernel_rfl) wantedN (run_call Tryd.call23 (args1 f47 rfl)) (cloneB_any p.x.pay _ _ _ ((hP p (List.mem_of_getElem? hx)).kept hS5).sl (sm_pay hl TS.p p (List.mem_of_getElem? hx))) ?_
    clear f45 a45 f46 a46
    rintro e w14 ⟨kc14, Ab, cb, rfl, FB⟩
    replace hS5 := hS5.trans kc14 (by simp)
    refine ⟨_, rfl, hS5, fun a48 f48 => ?_⟩
    have szw14 := kc14.size
    clear f47 a47 kc14
    refine RB.stop (by kernel_rfl) ?_
    have szw14r := hS5.size
    replace HK := HK.z hS5
    replace Bg0 := Bg0.z hS5
    replace Bg1 := Bg1.z hS5
    replace FD := FD.kept0 hS5
    replace FF := FF.kept0 hS5
    replace FE := FE.kept0 hS5
    replace FC := FC.kept0 hS5
    replace hP := fun q hq => (hP q hq).kept hS5
    clear hS5
    refine R.take 10 f48 rfl rfl (by decide) (by kernel_rfl) (by kernel_rfl) (by kernel_rfl) (fun _ _ _ _ h => h) wantedN trivial (fun W hW => (E.indexA f48 (by assumption) U35 wsz28_cc rfl rfl (by omega) (by omega))) fun a49 f49 => ?_
    refine R.take 11 f49 rfl rfl (by decide) (by kernel_rfl) (by kernel_rfl) (by kernel_rfl) (fun _ _ _ _ h => h) wantedN trivial (fun W hW => (E.fieldAddrN 7 f49 U28 rfl rfl rfl wsz26_cc)) fun a50 f50 => ?_
    refine R.one 12 (by kernel_rfl) ?_
    refine OT.storeF f50 rfl wantedN wsz26_cc hA FC (j := k * 10 + 7) rfl (by omega) (by rw [pcells_len]; omega) rfl rfl fun a51 w15 f51 FS ks loS => ?_
    have szw15 := ks.size
    rw [pcells_set l k p Ab cb hx] at FS
    obtain ⟨hbw, cs0, hbc⟩ := FC.own.blk b ((own_block _ _ _ b).2 (by rw [hA]; rfl))
    have hPn : PayOk w15 ⟨p.x, Ab, cb⟩ := (Fresh.pay FB rfl).kept1 ks hbc (by decide)
    have hPa : ∀ q ∈ l, PayOk w15 q := fun q hq => (hP q hq).kept1 ks hbc (by decide)
    have hg0 : b ≠ g0 := fun e => by subst e; rw [show _ = _ from Bg0] at hbc; injection hbc with hbc; injection hbc with _ h2 _; exact absurd h2 (by decide)
    replace FD := FD.kept ks (fun q hq => by simp only [List.mem_singleton]; exact fr_ne FD hbc hq (by decide))
    replace FF := FF.kept ks (fun q hq => by simp only [List.mem_singleton]; exact fr_ne FF hbc hq (by decide))
    replace FE := FE.kept ks (fun q hq => by simp only [List.mem_singleton]; exact fr_ne FE hbc hq (by decide))
    replace Bg0 := Bg0.kept ks (by simp only [List.mem_singleton]; exact fun e => hg0 e.symm)
    replace Bg1 := Bg1.kept ks (by simp only [List.mem_singleton]; rintro rfl; rw [show _ = _ from Bg1] at hbc; injection hbc with hbc; injection hbc with _ h2 _; exact absurd h2 (by decide))
    replace HK := HK.trans ks (by intro x hx hlt; simp at hx; subst hx; exfalso; omega)
    refine R.done (by kernel_rfl) (hK7 _ _ ?_)
    have f52 := f51.sub (sub_cons (i := 1) rfl (sub_cons (i := 2) rfl (sub_cons (i := 3) rfl (sub_cons (i := 22) rfl (sub_cons (i := 23) rfl (sub_cons (i := 24) rfl (sub_cons (i := 25) rfl (sub_cons (i := 26) rfl (sub_cons (i := 27) rfl (sub_cons (i := 28) rfl (sub_cons (i := 29) rfl (sub_cons (i := 30) rfl (sub_cons (i := 31) rfl (sub_cons (i := 32) rfl (sub_cons (i := 33) rfl (sub_cons (i := 34) rfl (sub_cons (i := 35) rfl (sub_cons (i := 36) rfl (sub_cons (i := 37) rfl sn)))))))))))))))))))
    refine C.region ?_
    refine L.val f52 wantedN rfl (by decide) (E.add f52 rfl rfl (IntWalk.i64_in _ (by omega))) fun a53 f53 => ?_
    refine L.val f53 wantedN rfl (by decide) (E.move f53 rfl) fun a54 f54 => ?_
    clear f48 a48 f49 a49 f50 a50 f51 f52 a51 f53 a53
    refine wpList_nil (hKL4 _ _ (gk5 - 1) ?_ ?_)
    · omega
    exact ⟨k + 1, l.set k ⟨p.x, Ab, cb⟩, by omega, by rw [List.map_set]; rw [← hl]; exact set_same hx, fun q hq => (List.mem_or_eq_of_mem_set hq).elim (hPa q) (fun e => e ▸ hPn), by simpa [hll] using FS, FD, FF, FE, HK, Bg0, Bg1, f54.sub (sx (sx (sx (sx sn))))⟩
  have hend := h0
  refine C.condF f34 rfl ?_
  refine wp_exit (hK2 _ _ ?_)
  have f35 := f34.sub (sub_cons (i := 1) rfl (sub_cons (i := 2) rfl sn))
  refine C.sk fun K9 hK9 => ?_
  refine L.val f35 wantedN rfl (by decide) (E.loadB f35 U37 rfl wsz37_cc rfl (Bg0) rfl) fun a36 f36 => ?_
  refine L.storeR f36 wantedN wsz37_cc rfl rfl rfl Bg1 rfl rfl fun a37 w13 f37 NB13 ks13 => ?_
  have szw13 := ks13.size
  replace HK := HK.trans ks13 (by intro x hx hlt; simp at hx; subst hx; (exfalso; omega))
  replace Bg0 := Bg0.kept ks13 (by simp; omega)
  replace FD := FD.kept ks13 (fun q hq => by simp only [List.mem_singleton]; exact fr_ne FD Bg1 hq (by decide))
  replace FF := FF.kept ks13 (fun q hq => by simp only [List.mem_singleton]; exact fr_ne FF Bg1 hq (by decide))
  replace FE := FE.kept ks13 (fun q hq => by simp only [List.mem_singleton]; exact fr_ne FE Bg1 hq (by decide))
  replace FC := FC.kept ks13 (fun q hq => by simp only [List.mem_singleton]; exact fr_ne FC Bg1 hq (by decide))
  replace hP := fun q hq => (hP q hq).kept1 ks13 Bg1 (by decide)
  replace Bg1 := NB13
  clear f33 f34 f35 a32 ks13 f36 a36
  have f38 := f37.sub (sub_cons (i := 2) rfl sn)
  refine wpList_nil (hK9 _ _ (wp_ret ?_)); (try simp only [xt, xb]); refine C.retC f38 rfl rfl Bg1 U37 rfl wsz37_cc ?_
  exact ⟨HK, ⟨t.seen, t.fen, t.rou, l, Ad, cd, Af, cf, Ae, ce, Ac, cc'⟩, by rw [← hll], ⟨FD, FF, FE, FC, hP⟩, rfl, rfl, rfl, hl⟩
end Go.Proofs.YtekmhcdgmgbheaaDoor
namespace Go.Proofs.YtekmhcdgmgbheaaDoor
open Go.RowKit Go.Hub Go.Lib
theorem wsz23_cd : (Tryd.prog.info? 23).map (·.size) = some 3 := by kernel_rfl
theorem wsz32_cd : (Tryd.prog.info? 32).map (·.size) = some 1 := by kernel_rfl
theorem wsz37_cd : (Tryd.prog.info? 37).map (·.size) = some 4 := by kernel_rfl
theorem wbl23_0_1_2_cd (x0 : Int) (x1 : Int) (x2 : Int) : Tryd.prog.built 23 [(0, .int .i64 x0), (1, .int .i64 x1), (2, .int .i64 x2)] = some #[.int .i64 x0, .int .i64 x1, .int .i64 x2] := by kernel_rfl
section
variable {P : Program} {a : Act} {w : World} {n : Nat} {l : FL} {fn : Func} {R : Ending → World → Prop}
theorem _root_.Go.Hub.C.retCC (f : Fr n a l) {p u : Tmp} {ty ty' : TypeId} (hr : fn.results = #[.cell p ty, .cell u ty']) {g g' : Nat} {cs cs' : Array Value} {t t' : TypeId} {d d' : TypeDesc} (hp : Go.Hub.look l p = some (.pointer (some ⟨g, 0, none⟩))) (hq : Go.Hub.look l u = some (.pointer (some ⟨g', 0, none⟩))) (B : Blk w g t cs) (B' : Blk w g' t' cs')
    (hu : P.underlying ty = some d) (hd : (match d with | .struct _ | .array _ _ => true | _ => false) = true) (hi : (P.info? ty).map (·.size) = some cs.size)
    (hu' : P.underlying ty' = some d') (hd' : (match d' with | .struct _ | .array _ _ => true | _ => false) = true) (hi' : (P.info? ty').map (·.size) = some cs'.size) (h : R (.returned (.tuple #[.agg cs, .agg cs'])) w) : bodyPost P fn R .ret a w := by
  refine bodyPost_ret (v := .tuple #[.agg cs, .agg cs']) ?_ f.defers h
  have hl := run_loadVar_row (P := P) w g t ty cs (0, 0) d B hu hd hi
  have hl' := run_loadVar_row (P := P) w g' t' ty' cs' (0, 0) d' B' hu' hd' hi'
  have hp' : a.tmps[p]?.getD undef = .pointer (some ⟨g, 0, none⟩) := by simpa using f.get hp
  have hq' : a.tmps[u]?.getD undef = .pointer (some ⟨g', 0, none⟩) := by simpa using f.get hq
  simp [results, hr, hp', hq', asAddr, Sem.run_bind, Result.andThen, hl, hl']
end
def NextPost (t : Tm) (x y : Int) (w : World) (e : Ending) (w' : World) : Prop := Kept [] w w' ∧ ∃ t' : Tm, e = .returned (.tuple #[.agg (tcell t').toArray, .agg (dcell ⟨x, y, topR t.seen x y + 1⟩).toArray]) ∧ TmNew w w' t' ∧ t'.seen = addD t.seen ⟨x, y, topR t.seen x y + 1⟩ ∧ t'.fen = t.fen ∧ t'.rou = t.rou ∧ t'.cel.map Cp.x = t.cel.map Cp.x
theorem topR_nn (l : List Dt) (x y : Int) : 0 ≤ topR l x y := by
  unfold topR
  split
  · rename_i h
    unfold topI
    split
    · rename_i q hq
      have := (rises h).2 q (List.mem_of_find?_eq_some hq)
      simp [mayB] at this
      omega
    exact Int.le_refl _
  exact Int.le_refl _
theorem Top_as {l l' : List Dt} (e : l = l') (A : Option Addr) (c : Nat) (x y : Int) (w : World) (A1 : Ds w A l) (hm : l'.length ≤ 1000000) : Calls Tryd.prog 44 #[.slice A l.length c, .int .i64 x, .int .i64 y] w (fun e w' => Kept [] w w' ∧ e = .returned (.int .i64 (topR l' x y))) := by subst e; exact Top_any l A c x y w A1 hm
theorem Add_as {l l' : List Dt} (e : l = l') (A : Option Addr) (c : Nat) (d : Dt) (w : World) (A1 : Ds w A l) (hm : l'.length ≤ 1000000) : Calls Tryd.prog 45 #[.slice A l.length c, .agg (dcell d).toArray] w (DotsPost (addD l' d) w) := by subst e; exact Add_any l A c d w A1 hm
def _root_.Go.Hub.Tm.on (t : Tm) (q : Nat) : Prop := t.sA.map (·.block) = some q ∨ t.fA.map (·.block) = some q ∨ t.rA.map (·.block) = some q ∨ t.cA.map (·.block) = some q
section
variable {w0 w w' : World} {t : Tm} {L : List Nat}
theorem _root_.Go.Hub.TmNew.lo (h : TmNew w0 w t) : ∀ q, t.on q → w0.heap.size ≤ q := fun q hq => by
  rcases hq with hq | hq | hq | hq
  · exact h.s.lo q hq
  · exact h.f.lo q hq
  · exact h.r.lo q hq
  exact h.c.lo q hq
theorem fr_hi {e size n c : Nat} {A : Option Addr} {xs : List Value} (F : Fresh w0 w e size A n c xs) {q : Nat} (hq : A.map (·.block) = some q) : q < w.heap.size := (F.own.blk q ((own_block _ _ _ q).2 hq)).1
theorem _root_.Go.Hub.TmNew.hi (h : TmNew w0 w t) : ∀ q, t.on q → q < w.heap.size := fun q hq => by
  rcases hq with hq | hq | hq | hq
  · exact fr_hi h.s hq
  · exact fr_hi h.f hq
  · exact fr_hi h.r hq
  exact fr_hi h.c hq
theorem _root_.Go.Hub.TmNew.keptO (h : TmNew w0 w t) (hk : Kept L w w') (ho : ∀ q, t.on q → q ∉ L) (h5 : ∀ k ∈ L, ¬ Typ w k [5]) : TmNew w0 w' t :=
  ⟨h.s.kept hk (fun q hq => ho q (.inl hq)), h.f.kept hk (fun q hq => ho q (.inr (.inl hq))), h.r.kept hk (fun q hq => ho q (.inr (.inr (.inl hq)))), h.c.kept hk (fun q hq => ho q (.inr (.inr (.inr hq)))), fun x hx => (h.p x hx).keptF hk h5⟩
end
set_option maxHeartbeats 1000000 in
theorem Next_any (t : Tm) (x y : Int) (w : World) (TO : TmOk w t) (TS : TmSm t) (hN : topR t.seen x y ≤ 1000000000) : Calls Tryd.prog 22 #[.agg (tcell t).toArray, .int .i64 x, .int .i64 y] w (NextPost t x y w) := by
  have HK : Kept [] w w := Kept.refl [] w
  have hN0 : 0 ≤ topR t.seen x y := topR_nn t.seen x y
  refine C.enter Tryd.func22 rfl Tryd.ntmps22 rfl ?_
  intro a0 f0
  have f1 : Fr 27 a0 [(0, .agg (tcell t).toArray), (1, .int .i64 x), (2, .int .i64 y)] := f0
  refine C.sk fun K0 hK0 => ?_
  refine L.box f1 wantedN (by decide) rfl rfl fun a2 w1 g0 N0 f2 => ?_
  have Bg0 := N0.blk
  have kg0 := N0.kept
  have log0 := N0.lo
  have ltg0 := Bg0.lt
  have szw1 := kg0.size
  replace HK := HK.z kg0
  clear f0 N0 kg0
  refine L.alloc f2 wantedN (by decide) (z := (.agg #[(.slice none 0 0), (.slice none 0 0), (.slice none 0 0), (.slice none 0 0)])) (fun _ => by kernel_rfl) rfl fun a3 w2 g1 N1 f3 => ?_
  have Bg1 := N1.blk
  have kg1 := N1.kept
  have log1 := N1.lo
  have ltg1 := Bg1.lt
  have szw2 := kg1.size
  have neg0_g1 : g0 ≠ g1 := by have := Bg0.lt; omega
  replace HK := HK.z kg1
  replace Bg0 := Bg0.z kg1
  clear f1 a0 N1 kg1
  refine L.alloc f3 wantedN (by decide) (z := (.agg #[(.int .i64 0), (.int .i64 0), (.int .i64 0)])) (fun _ => by kernel_rfl) rfl fun a4 w3 g2 N2 f4 => ?_
  have Bg2 := N2.blk
  have kg2 := N2.kept
  have log2 := N2.lo
  have ltg2 := Bg2.lt
  have szw3 := kg2.size
  have neg0_g2 : g0 ≠ g2 := by have := Bg0.lt; omega
  have neg1_g2 : g1 ≠ g2 := by have := Bg1.lt; omega
  replace HK := HK.z kg2
  replace Bg0 := Bg0.z kg2
  replace Bg1 := Bg1.z kg2
  clear f2 a2 N2 kg2
  have f5 := f4.sub (sub_cons (i := 1) rfl (sub_cons (i := 2) rfl (sub_cons (i := 3) rfl (sub_cons (i := 6) rfl (sub_cons (i := 7) rfl sn)))))
  refine wpList_nil (hK0 _ _ (C.sk fun K1 hK1 => ?_))
  refine L.val f5 wantedN rfl (by decide) (E.loadB f5 U37 rfl wsz37_cd rfl (Bg0) rfl) fun a6 f6 => ?_
  refine L.call f6 wantedN rfl (by decide) (run_call Tryd.call21 (args1 f6 rfl)) (Copy_any t w3 (TO.kept HK) TS) ?_
  clear f3 a3 f4 f5 a4
  rintro e w4 ⟨kc4, t1, rfl, TN, ts⟩
  have hon : ∀ q, t1.on q → q ≠ g0 ∧ q ≠ g1 ∧ q ≠ g2 := fun q hq => by have := TN.lo q hq; omega
  have TN := TN.lower (w1 := w) (by have := HK.size; omega)
  have hs1 := ts.1
  refine ⟨_, rfl, fun a7 f7 => ?_⟩
  have szw4 := kc4.size
  replace HK := HK.z kc4
  replace Bg0 := Bg0.z kc4
  replace Bg1 := Bg1.z kc4
  replace Bg2 := Bg2.z kc4
  clear f6 a6 kc4
  refine L.storeR f7 wantedN wsz37_cd rfl rfl rfl Bg0 rfl rfl fun a8 w5 f8 NB5 ks5 => ?_
  have szw5 := ks5.size
  replace HK := HK.trans ks5 (by intro x hx hlt; simp at hx; omega)
  replace Bg1 := Bg1.kept ks5 (by simp; omega)
  replace Bg2 := Bg2.kept ks5 (by simp; omega)
  replace TN := TN.keptO ks5 (fun q hq => by have h1 := hon q hq; (try have h2 := hob q hq); simp only [List.mem_singleton]; omega) (fun k hk => by obtain rfl := List.mem_singleton.1 hk; exact not_typ Bg0 (by decide))
  replace Bg0 := NB5
  clear ks5 f7 a7
  refine wpList_nil (hK1 _ _ ?_)
  have f9 := f8.sub (sub_cons (i := 1) rfl (sub_cons (i := 2) rfl (sub_cons (i := 3) rfl (sub_cons (i := 6) rfl (sub_cons (i := 7) rfl sn)))))
  refine wp_seq_k fun K2 hK2 => ?_
  have hob : ∀ q, t1.on q → q < w5.heap.size := fun q hq => TN.hi q hq
  refine C.region ?_
  refine L.val f9 wantedN rfl (by decide) (E.move f9 rfl) fun a10 f10 => ?_
  refine L.val f10 wantedN rfl (by decide) (E.move f10 rfl) fun a11 f11 => ?_
  refine L.val f11 wantedN rfl (by decide) (E.fieldAddrN 0 f11 U37 rfl rfl rfl wsz32_cd) fun a12 f12 => ?_
  refine L.val f12 wantedN rfl (by decide) (E.load f12 U32 rfl rfl ((Bg0).cl rfl)) fun a13 f13 => ?_
  refine L.val f13 wantedN rfl (by decide) (E.move f13 rfl) fun a14 f14 => ?_
  refine L.val f14 wantedN rfl (by decide) (E.move f14 rfl) fun a15 f15 => ?_
  refine L.call f15 wantedN rfl (by decide) (run_call Tryd.call44 (args3 f15 rfl rfl rfl)) (Top_as hs1 _ _ x y _ TN.ok.s TS.s) ?_
  clear f8 f9 a8 f10 a10 f11 a11 f12 a12 f13 a13 f14 a14
  rintro e w6 ⟨kc6, rfl⟩
  refine ⟨_, rfl, fun a16 f16 => ?_⟩
  have szw6 := kc6.size
  replace HK := HK.z kc6
  replace Bg1 := Bg1.z kc6
  replace Bg2 := Bg2.z kc6
  replace TN := TN.kept kc6
  replace Bg0 := Bg0.z kc6
  clear f15 a15 kc6
  refine L.val f16 wantedN rfl (by decide) (E.add f16 rfl rfl (IntWalk.i64_in _ (by omega))) fun a17 f17 => ?_
  refine L.val f17 wantedN rfl (by decide) (E.build f17 (parts3 f17 rfl rfl rfl) (wbl23_0_1_2_cd _ _ _)) fun a18 f18 => ?_
  refine L.alloc f18 wantedN (by decide) (z := (.agg #[(.int .i64 0), (.int .i64 0), (.int .i64 0)])) (fun _ => by kernel_rfl) rfl fun a19 w7 g6 N6 f19 => ?_
  have Bg6 := N6.blk
  have kg6 := N6.kept
  have log6 := N6.lo
  have ltg6 := Bg6.lt
  have szw7 := kg6.size
  have neg1_g6 : g1 ≠ g6 := by have := Bg1.lt; omega
  have neg2_g6 : g2 ≠ g6 := by have := Bg2.lt; omega
  have neg0_g6 : g0 ≠ g6 := by have := Bg0.lt; omega
  replace HK := HK.z kg6
  replace Bg1 := Bg1.z kg6
  replace Bg2 := Bg2.z kg6
  replace TN := TN.kept kg6
  replace Bg0 := Bg0.z kg6
  clear f16 a16 f17 a17 N6 kg6
  refine L.storeR f19 wantedN wsz23_cd rfl rfl rfl Bg6 rfl rfl fun a20 w8 f20 NB8 ks8 => ?_
  have szw8 := ks8.size
  replace HK := HK.trans ks8 (by intro x hx hlt; simp at hx; omega)
  replace Bg1 := Bg1.kept ks8 (by simp; omega)
  replace Bg2 := Bg2.kept ks8 (by simp; omega)
  replace TN := TN.keptO ks8 (fun q hq => by have h1 := hon q hq; (try have h2 := hob q hq); simp only [List.mem_singleton]; omega) (fun k hk => by obtain rfl := List.mem_singleton.1 hk; exact not_typ Bg6 (by decide))
  replace Bg0 := Bg0.kept ks8 (by simp; omega)
  replace Bg6 := NB8
  clear f18 a18 ks8 f19 a19
  have f21 := f20.sub (sub_cons (i := 3) rfl (sub_cons (i := 6) rfl (sub_cons (i := 7) rfl (sub_cons (i := 8) rfl sn))))
  refine wpList_nil (hK2 _ _ (C.sk fun K3 hK3 => ?_))
  refine L.val f21 wantedN rfl (by decide) (E.fieldAddrN 0 f21 U37 rfl rfl rfl wsz32_cd) fun a22 f22 => ?_
  refine L.val f22 wantedN rfl (by decide) (E.load f22 U32 rfl rfl ((Bg0).cl rfl)) fun a23 f23 => ?_
  refine L.val f23 wantedN rfl (by decide) (E.loadB f23 U23 rfl wsz23_cd rfl (Bg6) rfl) fun a24 f24 => ?_
  refine L.call f24 wantedN rfl (by decide) (run_call Tryd.call45 (args2 f24 rfl rfl)) (Add_as hs1 _ _ ⟨x, y, topR t.seen x y + 1⟩ _ TN.ok.s TS.s) ?_
  clear f20 f21 a20 f22 a22 f23 a23
  rintro e w9 ⟨kc9, As, cs, rfl, FS⟩
  have hfs : ∀ q, As.map (·.block) = some q → q ≠ g0 ∧ q ≠ g1 ∧ q ≠ g2 ∧ q ≠ g6 := fun q hq => by have := FS.lo q hq; omega
  have FS := FS.lower (w0 := w) (by have := HK.size; omega)
  refine ⟨_, rfl, fun a25 f25 => ?_⟩
  have szw9 := kc9.size
  replace HK := HK.z kc9
  replace Bg1 := Bg1.z kc9
  replace Bg2 := Bg2.z kc9
  replace TN := TN.kept kc9
  replace Bg0 := Bg0.z kc9
  replace Bg6 := Bg6.z kc9
  clear f24 a24 kc9
  refine L.val f25 wantedN rfl (by decide) (E.fieldAddrN 0 f25 U37 rfl rfl rfl wsz32_cd) fun a26 f26 => ?_
  refine L.store f26 wantedN wsz32_cd rfl rfl rfl Bg0 (by (simp [Value.cells]; done)) fun a27 w10 f27 NB10 ks10 => ?_
  have szw10 := ks10.size
  replace HK := HK.trans ks10 (by intro x hx hlt; simp at hx; omega)
  replace Bg1 := Bg1.kept ks10 (by simp; omega)
  replace Bg2 := Bg2.kept ks10 (by simp; omega)
  replace TN := TN.keptO ks10 (fun q hq => by have h1 := hon q hq; (try have h2 := hob q hq); simp only [List.mem_singleton]; omega) (fun k hk => by obtain rfl := List.mem_singleton.1 hk; exact not_typ Bg0 (by decide))
  replace Bg6 := Bg6.kept ks10 (by simp; omega)
  replace FS := FS.kept ks10 (fun q hq => by have h1 := hfs q hq; simp; omega)
  replace Bg0 := NB10
  simp only [Value.cells, List.setIfInBounds_toArray, List.set_cons_zero, List.set_cons_succ, Nat.reduceAdd, Nat.zero_add] at Bg0
  clear f25 a25 ks10 f26 a26
  refine wpList_nil (hK3 _ _ ?_)
  have f28 := f27.sub (sub_cons (i := 3) rfl (sub_cons (i := 6) rfl (sub_cons (i := 7) rfl (sub_cons (i := 8) rfl sn))))
  refine wp_seq_k fun K4 hK4 => ?_
  clear f27
  have hn : ∀ k ∈ [g1, g2], ¬ Typ w10 k [5] := fun k hk => by
    rcases List.mem_cons.1 hk with rfl | hk
    · exact not_typ Bg1 (by decide)
    obtain rfl := List.mem_singleton.1 hk; exact not_typ Bg2 (by decide)
  refine R.begin (S := fun W => Kept [g1, g2] w10 W) (by kernel_rfl) (by exact (Kept.refl _ _).drewN 1) ?_
  have hS4 : Kept [g1, g2] w10 (w10.drewN 1) := (Kept.refl _ _).drewN 1
  have hd4 : Kept [] w10 (w10.drewN 1) := (Kept.refl _ _).drewN 1
  obtain ⟨w11, hww11⟩ : ∃ W, W = w10.drewN 1 := ⟨_, rfl⟩
  rw [← hww11] at hS4 hd4 ⊢
  clear hww11
  have szw11 := hS4.size
  replace Bg1 := Bg1.kept hd4 (by (simp; done))
  replace Bg2 := Bg2.kept hd4 (by (simp; done))
  refine R.take 0 f28 rfl rfl (by decide) (by kernel_rfl) (by kernel_rfl) (by kernel_rfl) (fun _ _ _ _ h => h) wantedN hS4 (fun W hW => (E.loadB f28 U37 rfl wsz37_cd rfl (Bg0.kept hW (by simp; omega)) rfl)) fun a29 f29 => ?_
  refine R.take 1 f29 rfl rfl (by decide) (by kernel_rfl) (by kernel_rfl) (by kernel_rfl) (fun _ _ _ _ h => h) wantedN hS4 (fun W hW => (E.loadB f29 U23 rfl wsz23_cd rfl (Bg6.kept hW (by simp; omega)) rfl)) fun a30 f30 => ?_
  refine R.storeR 2 f30 rfl (by kernel_rfl) wantedN wsz37_cd rfl rfl rfl Bg1 rfl rfl (fun _ hW => hS4.trans hW (by (simp; done))) fun a31 w12 f31 NB12 ks12 hSn => ?_
  have szw12 := ks12.size
  replace Bg2 := Bg2.kept ks12 (by (simp; omega))
  replace Bg1 := NB12
  replace hS4 := hSn
  clear f28 a27 f29 a29 f30 a30 hSn ks12
  refine R.storeR 3 f31 rfl (by kernel_rfl) wantedN wsz23_cd rfl rfl rfl Bg2 rfl rfl (fun _ hW => hS4.trans hW (by (simp; done))) fun a32 w13 f32 NB13 ks13 hSn => ?_
  have szw13 := ks13.size
  replace Bg1 := Bg1.kept ks13 (by (simp; omega))
  replace Bg2 := NB13
  replace hS4 := hSn
  clear f31 a31 hSn ks13
  have szw13r := hS4.size
  replace HK := HK.trans hS4 (by intro x hx hlt; simp at hx; omega)
  replace TN := TN.keptO hS4 (fun q hq => by have h1 := hon q hq; have h2 := hob q hq; simp only [List.mem_cons, List.not_mem_nil, or_false]; omega) hn
  replace Bg6 := Bg6.kept hS4 (by simp; omega)
  replace FS := FS.kept hS4 (fun q hq => by have h1 := hfs q hq; simp; omega)
  replace Bg0 := Bg0.kept hS4 (by simp; omega)
  clear hS4
  refine R.done (by kernel_rfl) (hK4 _ _ ?_)
  have f33 := f32.sub (sub_cons (i := 6) rfl (sub_cons (i := 7) rfl sn))
  refine wp_ret ?_; (try simp only [xt, xb]); refine C.retCC f33 rfl rfl rfl Bg1 Bg2 U37 rfl wsz37_cd U23 rfl wsz23_cd ?_
  exact ⟨HK, ⟨addD t.seen ⟨x, y, topR t.seen x y + 1⟩, t1.fen, t1.rou, t1.cel, As, cs, t1.fA, t1.fc, t1.rA, t1.rc, t1.cA, t1.cc⟩, rfl, ⟨FS, TN.f, TN.r, TN.c, TN.p⟩, rfl, ts.2.1, ts.2.2.1, ts.2.2.2⟩
end Go.Proofs.YtekmhcdgmgbheaaDoor
namespace Go.Proofs.YtekmhcdgmgbheaaDoor
open Go.RowKit Go.Hub Go.Lib
theorem wsz9_ce : (Tryd.prog.info? 9).map (·.size) = some 1 := by kernel_rfl
theorem wsz28_ce : (Tryd.prog.info? 28).map (·.size) = some 10 := by kernel_rfl
def SearchPostC (l : List Cp) (n : ByteArray) (w : World) (e : Ending) (w' : World) : Prop := Kept [] w w' ∧ ∃ (i : Nat) (b : Bool), e = .returned (.tuple #[.int .i64 i, .bool b]) ∧ SrchC l n i b
set_option maxHeartbeats 1000000 in
theorem fcmp_any (p : Cp) (n : ByteArray) (w : World) : Calls Tryd.prog 47 #[.agg (pcell p).toArray, .string n] w (fun e w' => Kept [] w w' ∧ e = .returned (.int .i64 (cmpS p.x.topic n))) := by
  have HK : Kept [] w w := Kept.refl [] w
  refine C.enter Tryd.func47 rfl Tryd.ntmps47 rfl ?_
  intro a0 f0
  have f1 : Fr 9 a0 [(0, .agg (pcell p).toArray), (1, .string n)] := f0
  refine C.sk fun K0 hK0 => ?_
  refine L.box f1 wantedN (by decide) rfl rfl fun a2 w1 g0 N0 f2 => ?_
  have Bg0 := N0.blk
  have kg0 := N0.kept
  have log0 := N0.lo
  have ltg0 := Bg0.lt
  have szw1 := kg0.size
  have frg0 : w.heap.size ≤ g0 := Nat.le_trans HK.size log0
  replace HK := HK.z kg0
  clear f0 N0 kg0
  refine L.val f2 wantedN rfl (by decide) (E.assign f2 rfl) fun a3 f3 => ?_
  have f4 := f3.sub (sub_cons (i := 1) rfl (sub_cons (i := 2) rfl (sub_cons (i := 4) rfl sn)))
  refine wpList_nil (hK0 _ _ (C.sk fun K1 hK1 => ?_))
  refine L.val f4 wantedN rfl (by decide) (E.fieldAddrN 6 f4 U28 rfl rfl rfl wsz9_ce) fun a5 f5 => ?_
  refine L.val f5 wantedN rfl (by decide) (E.load f5 U9 rfl rfl ((Bg0).cl rfl)) fun a6 f6 => ?_
  refine L.val f6 wantedN rfl (by decide) (E.move f6 rfl) fun a7 f7 => ?_
  refine L.call f7 wantedN rfl (by decide) (run_call Tryd.call48 (args2 f7 rfl rfl)) (cmpS_any _ _ _) ?_
  clear f1 a0 f2 a2 f3 f4 a3 f5 a5 f6 a6
  rintro e w1x ⟨rfl, rfl⟩
  refine ⟨_, rfl, fun a8 f8 => ?_⟩
  refine L.val f8 wantedN rfl (by decide) (E.assign f8 rfl) fun a9 f9 => ?_
  have f10 := f9.sub (sub_cons (i := 4) rfl sn)
  refine wpList_nil (hK1 _ _ (wp_ret ?_)); (try simp only [xt, xb]); refine C.ret f10 rfl rfl ?_
  exact ⟨HK, rfl⟩
set_option maxHeartbeats 1000000 in
theorem searchC_any (l : List Cp) (A : Option Addr) (c : Nat) (n : ByteArray) (w : World) (A1 : Cs w A l) (hm : l.length ≤ 1000000) (hr : Asc l) : Calls Tryd.prog 46 #[.slice A l.length c, .string n, .func (.func 47) #[] #[]] w (SearchPostC l n w) := by
  have HK : Kept [] w w := Kept.refl [] w
  refine C.enter Tryd.func46 rfl Tryd.ntmps46 rfl ?_
  intro a0 f0
  have f1 : Fr 49 a0 [(0, .slice A l.length c), (1, .string n), (2, .func (.func 47) #[] #[])] := f0
  refine C.sk fun K0 hK0 => ?_
  refine L.val f1 wantedN rfl (by decide) (E.assign f1 rfl) fun a2 f2 => ?_
  refine L.val f2 wantedN rfl (by decide) (E.assign f2 rfl) fun a3 f3 => ?_
  have f4 := f3.sub (sub_cons (i := 0) rfl (sub_cons (i := 1) rfl (sub_cons (i := 2) rfl (sub_cons (i := 6) rfl (sub_cons (i := 7) rfl sn)))))
  refine wpList_nil (hK0 _ _ (C.sk fun K1 hK1 => ?_))
  refine L.val f4 wantedN rfl (by decide) (E.move f4 rfl) fun a5 f5 => ?_
  refine L.val f5 wantedN rfl (by decide) (E.lenL f5 U35 rfl) fun a6 f6 => ?_
  refine L.val f6 wantedN rfl (by decide) (E.assign f6 rfl) fun a7 f7 => ?_
  have f8 := f7.sub (sub_cons (i := 0) rfl (sub_cons (i := 1) rfl (sub_cons (i := 2) rfl (sub_cons (i := 6) rfl (sub_cons (i := 7) rfl (sub_cons (i := 8) rfl sn))))))
  refine wpList_nil (hK1 _ _ (C.sk fun K2 hK2 => ?_))
  refine L.val f8 wantedN rfl (by decide) (E.move f8 rfl) fun a9 f9 => ?_
  clear f0 f1 a0 f2 a2 f3 f4 a3 f5 a5 f6 a6 f7 f8 a7
  refine L.val f9 wantedN rfl (by decide) (E.assign f9 rfl) fun a10 f10 => ?_
  refine L.val f10 wantedN rfl (by decide) (E.assign f10 rfl) fun a11 f11 => ?_
  refine wpList_nil (hK2 _ _ ?_)
  have f12 := f11.sub (sub_cons (i := 0) rfl (sub_cons (i := 1) rfl (sub_cons (i := 2) rfl (sub_cons (i := 6) rfl (sub_cons (i := 7) rfl (sub_cons (i := 8) rfl (sub_cons (i := 9) rfl (sub_cons (i := 10) rfl sn))))))))
  refine wp_seq_k fun K3 hK3 => ?_
  refine wp_block ?_
  clear f9 a9 f10 a10 f11
  refine C.loop (fun gk a W => ∃ i j : Nat, j = i + gk ∧ Kept [] w W ∧ HalfC l n i j ∧ Fr 49 a [(0, .slice A l.length c), (1, .string n), (2, .func (.func 47) #[] #[]), (8, .int .i64 l.length), (9, .int .i64 i), (10, .int .i64 j)]) (l.length) ?_ ?_
  · exact ⟨0, l.length, by omega, HK, HalfC.start l n, f12.sub (sx (sx (sx (sx (sx (sx sn))))))⟩
  intro gk5 a13 w1 hI KL4 hKL4
  obtain ⟨i, j, hij, HK, H, f13⟩ := hI
  try clear f12
  have hi := H.ij
  have hj := H.jn
  refine wp_seq_k fun K5 hK5 => ?_
  refine C.sk fun K6 hK6 => ?_
  refine L.val f13 wantedN rfl (by decide) (E.move f13 rfl) fun a14 f14 => ?_
  refine L.val f14 wantedN rfl (by decide) (E.move f14 rfl) fun a15 f15 => ?_
  refine L.val f15 wantedN rfl (by decide) (E.lss f15 rfl rfl) fun a16 f16 => ?_
  refine wpList_nil (hK6 _ _ ?_)
  have f17 := f16.sub (sub_cons (i := 0) rfl (sub_cons (i := 1) rfl (sub_cons (i := 2) rfl (sub_cons (i := 8) rfl (sub_cons (i := 9) rfl (sub_cons (i := 10) rfl (sub_cons (i := 15) rfl (sub_cons (i := 16) rfl (sub_cons (i := 17) rfl sn)))))))))
  clear f13 a13 f14 a14 f15 a15 f16
  refine f17.splitD 17 rfl (fun h0 f18 => ?_) (fun h0 f18 => ?_)
  · obtain ⟨m, hd'⟩ : ∃ m, l[(i + j) / 2]? = some m := ⟨l[(i + j) / 2]'(by omega), List.getElem?_eq_getElem _⟩
    have hd : l[Int.toNat (((i : Int) + j) / 2)]? = some m := by rw [show Int.toNat (((i : Int) + j) / 2) = (i + j) / 2 by omega]; exact hd'
    obtain ⟨b, off, hA⟩ := A1.addr (i := (i + j) / 2) (by omega)
    refine C.condT f18 rfl ?_
    refine wp_skip (hK5 _ _ ?_)
    have f19 := f18.sub (sub_cons (i := 0) rfl (sub_cons (i := 1) rfl (sub_cons (i := 2) rfl (sub_cons (i := 8) rfl (sub_cons (i := 9) rfl (sub_cons (i := 10) rfl (sub_cons (i := 15) rfl (sub_cons (i := 16) rfl (sub_cons (i := 17) rfl sn)))))))))
    refine wp_block ?_
    refine C.sk fun K7 hK7 => ?_
    refine L.val f19 wantedN rfl (by decide) (E.move f19 rfl) fun a20 f20 => ?_
    refine L.val f20 wantedN rfl (by decide) (E.move f20 rfl) fun a21 f21 => ?_
    refine L.val f21 wantedN rfl (by decide) (E.add f21 rfl rfl (IntWalk.i64_in _ (by omega))) fun a22 f22 => ?_
    refine L.val f22 wantedN rfl (by decide) (E.conv f22 U3 Tryd.underlying100 rfl (IntWalk.u64_in _ (by omega))) fun a23 f23 => ?_
    refine L.val f23 wantedN rfl (by decide) (E.shr f23 rfl rfl (by decide) (shr1 _)) fun a24 f24 => ?_
    refine L.val f24 wantedN rfl (by decide) (E.conv f24 Tryd.underlying100 U3 rfl (IntWalk.i64_in _ (by omega))) fun a25 f25 => ?_
    clear f17 f18 f19 a16 f20 a20 f21 a21 f22 a22 f23 a23 f24 a24
    refine L.val f25 wantedN rfl (by decide) (E.assign f25 rfl) fun a26 f26 => ?_
    have f27 := f26.sub (sub_cons (i := 0) rfl (sub_cons (i := 1) rfl (sub_cons (i := 2) rfl (sub_cons (i := 8) rfl (sub_cons (i := 9) rfl (sub_cons (i := 10) rfl (sub_cons (i := 11) rfl (sub_cons (i := 15) rfl (sub_cons (i := 16) rfl (sub_cons (i := 17) rfl (sub_cons (i := 18) rfl (sub_cons (i := 19) rfl (sub_cons (i := 20) rfl (sub_cons (i := 21) rfl (sub_cons (i := 22) rfl (sub_cons (i := 23) rfl sn))))))))))))))))
    refine wpList_nil (hK7 _ _ (C.sk fun K8 hK8 => ?_))
    refine L.val f27 wantedN rfl (by decide) (E.move f27 rfl) fun a28 f28 => ?_
    refine L.val f28 wantedN rfl (by decide) (E.move f28 rfl) fun a29 f29 => ?_
    refine L.val f29 wantedN rfl (by decide) (E.move f29 rfl) fun a30 f30 => ?_
    refine L.val f30 wantedN rfl (by decide) (E.indexA f30 (by assumption) U35 wsz28_ce rfl rfl (by omega) (by omega)) fun a31 f31 => ?_
    refine L.val f31 wantedN rfl (by decide) (E.loadR f31 U28 rfl wsz28_ce rfl ((A1.kept HK).row hA hd) rfl) fun a32 f32 => ?_
    refine L.val f32 wantedN rfl (by decide) (E.move f32 rfl) fun a33 f33 => ?_
    clear f25 a25 f26 f27 a26 f28 a28 f29 a29 f30 a30 f31 a31 f32 a32
    refine L.call f33 wantedN rfl (by decide) (cv2_0 f33 rfl Tryd.call47 rfl rfl) (fcmp_any m n _) ?_
    rintro e w2 ⟨kc2, rfl⟩
    refine ⟨_, rfl, fun a34 f34 => ?_⟩
    have szw2 := kc2.size
    replace HK := HK.z kc2
    clear f33 a33 kc2
    refine L.val f34 wantedN rfl (by decide) (E.lss f34 rfl rfl) fun a35 f35 => ?_
    refine wpList_nil (hK8 _ _ ?_)
    have f36 := f35.sub (sub_cons (i := 0) rfl (sub_cons (i := 1) rfl (sub_cons (i := 2) rfl (sub_cons (i := 8) rfl (sub_cons (i := 9) rfl (sub_cons (i := 10) rfl (sub_cons (i := 11) rfl (sub_cons (i := 15) rfl (sub_cons (i := 16) rfl (sub_cons (i := 17) rfl (sub_cons (i := 18) rfl (sub_cons (i := 19) rfl (sub_cons (i := 20) rfl (sub_cons (i := 21) rfl (sub_cons (i := 22) rfl (sub_cons (i := 23) rfl (sub_cons (i := 24) rfl (sub_cons (i := 25) rfl (sub_cons (i := 26) rfl (sub_cons (i := 27) rfl (sub_cons (i := 28) rfl (sub_cons (i := 29) rfl (sub_cons (i := 30) rfl (sub_cons (i := 31) rfl sn))))))))))))))))))))))))
    clear f34 a34 f35
    refine f36.splitD 31 rfl (fun h1 f37 => ?_) (fun h1 f37 => ?_)
    · refine C.condT f37 rfl ?_
      refine C.region ?_
      refine L.val f37 wantedN rfl (by decide) (E.move f37 rfl) fun a38 f38 => ?_
      refine L.val f38 wantedN rfl (by decide) (E.add f38 rfl rfl (IntWalk.i64_in _ (by omega))) fun a39 f39 => ?_
      refine L.val f39 wantedN rfl (by decide) (E.assign f39 rfl) fun a40 f40 => ?_
      clear f36 f37 a35 f38 a38 f39 a39
      refine wpList_nil (hKL4 _ _ (j - ((i + j) / 2 + 1)) ?_ ?_)
      · omega
      exact ⟨(i + j) / 2 + 1, j, by omega, HK, by have := H.right hr (by omega) (by omega) hd' ((cmpS_lt _ _).1 h1); exact this, f40.sub (sx (sx (sx (sx (sx (sx sn))))))⟩
    refine C.condF f37 rfl ?_
    refine C.region ?_
    refine L.val f37 wantedN rfl (by decide) (E.move f37 rfl) fun a38 f38 => ?_
    refine L.val f38 wantedN rfl (by decide) (E.assign f38 rfl) fun a39 f39 => ?_
    clear f36 f37 a35 f38 a38
    refine wpList_nil (hKL4 _ _ ((i + j) / 2 - i) ?_ ?_)
    · omega
    exact ⟨i, (i + j) / 2, by omega, HK, by have := H.left hr (by omega) (by omega) hd' (fun hc => absurd ((cmpS_lt _ _).2 hc) (by omega)); exact this, f39.sub (sx (sx (sx (sx (sx (sx sn))))))⟩
  obtain rfl : i = j := by omega
  refine C.condF f18 rfl ?_
  refine wp_exit (hK3 _ _ ?_)
  have f19 := f18.sub (sub_cons (i := 0) rfl (sub_cons (i := 1) rfl (sub_cons (i := 2) rfl (sub_cons (i := 8) rfl (sub_cons (i := 9) rfl sn)))))
  refine C.sk fun K9 hK9 => ?_
  refine L.val f19 wantedN rfl (by decide) (E.move f19 rfl) fun a20 f20 => ?_
  refine L.val f20 wantedN rfl (by decide) (E.move f20 rfl) fun a21 f21 => ?_
  refine L.val f21 wantedN rfl (by decide) (E.move f21 rfl) fun a22 f22 => ?_
  refine L.val f22 wantedN rfl (by decide) (E.lss f22 rfl rfl) fun a23 f23 => ?_
  refine L.val f23 wantedN rfl (by decide) (E.move f23 rfl) fun a24 f24 => ?_
  clear f17 f18 f19 a16 f20 a20 f21 a21 f22 a22 f23 a23
  refine f24.splitD 39 rfl (fun h2 f25 => ?_) (fun h2 f25 => ?_)
  · obtain ⟨m, hd⟩ : ∃ m, l[i]? = some m := ⟨l[i]'(by omega), List.getElem?_eq_getElem _⟩
    obtain ⟨b, off, hA⟩ := A1.addr (i := i) (by omega)
    refine L.val f25 (f25.yes rfl rfl) rfl (by decide) (E.move f25 rfl) fun a26 f26 => ?_
    refine L.val f26 (f26.yes rfl rfl) rfl (by decide) (E.move f26 rfl) fun a27 f27 => ?_
    refine L.val f27 (f27.yes rfl rfl) rfl (by decide) (E.move f27 rfl) fun a28 f28 => ?_
    refine L.val f28 (f28.yes rfl rfl) rfl (by decide) (E.indexA f28 (by assumption) U35 wsz28_ce rfl rfl (by omega) (by omega)) fun a29 f29 => ?_
    refine L.val f29 (f29.yes rfl rfl) rfl (by decide) (E.loadR f29 U28 rfl wsz28_ce rfl ((A1.kept HK).row hA hd) rfl) fun a30 f30 => ?_
    refine L.val f30 (f30.yes rfl rfl) rfl (by decide) (E.move f30 rfl) fun a31 f31 => ?_
    refine L.call f31 (f31.yes rfl rfl) rfl (by decide) (cv2_0 f31 rfl Tryd.call47 rfl rfl) (fcmp_any m n _) ?_
    clear f24 f25 a24 f26 a26 f27 a27 f28 a28 f29 a29 f30 a30
    rintro e w2 ⟨kc2, rfl⟩
    refine ⟨_, rfl, fun a32 f32 => ?_⟩
    have szw2 := kc2.size
    replace HK := HK.z kc2
    clear f31 a31 kc2
    refine L.val f32 (f32.yes rfl rfl) rfl (by decide) (E.eql f32 rfl rfl) fun a33 f33 => ?_
    refine L.val f33 wantedN rfl (by decide) (E.pickT f33 rfl rfl) fun a34 f34 => ?_
    refine L.val f34 wantedN rfl (by decide) (E.assign f34 rfl) fun a35 f35 => ?_
    refine L.val f35 wantedN rfl (by decide) (E.assign f35 rfl) fun a36 f36 => ?_
    have f37 := f36.sub (sub_cons (i := 6) rfl (sub_cons (i := 7) rfl sn))
    refine wpList_nil (hK9 _ _ (wp_ret ?_)); (try simp only [xt, xb]); refine C.ret2 f37 rfl rfl rfl ?_
    exact ⟨HK, _, _, rfl, H.found1 hd⟩
  have hd : l[i]? = none := List.getElem?_eq_none (by omega)
  refine L.run f25 (rest' := []) (by kernel_rfl) fun a26 f26 => ?_
  clear f24
  have f27 := f26.sub (sub_cons (i := 6) rfl (sv 7 (.bool false) sn))
  refine wpList_nil (hK9 _ _ (wp_ret ?_)); (try simp only [xt, xb]); refine C.ret2 f27 rfl rfl rfl ?_
  exact ⟨HK, _, _, rfl, H.found0 hd⟩
set_option maxHeartbeats 1000000 in
theorem find_any (l : List Cp) (A : Option Addr) (c : Nat) (n : ByteArray) (w : World) (A1 : Cs w A l) (hm : l.length ≤ 1000000) (hr : Asc l) : Calls Tryd.prog 24 #[.slice A l.length c, .string n] w (SearchPostC l n w) := by
  have HK : Kept [] w w := Kept.refl [] w
  refine C.enter Tryd.func24 rfl Tryd.ntmps24 rfl ?_
  intro a0 f0
  have f1 : Fr 11 a0 [(0, .slice A l.length c), (1, .string n)] := f0
  refine C.sk fun K0 hK0 => ?_
  refine L.val f1 wantedN rfl (by decide) (E.assign f1 rfl) fun a2 f2 => ?_
  refine L.val f2 wantedN rfl (by decide) (E.assign f2 rfl) fun a3 f3 => ?_
  have f4 := f3.sub (sub_cons (i := 0) rfl (sub_cons (i := 1) rfl (sub_cons (i := 4) rfl (sub_cons (i := 5) rfl sn))))
  refine wpList_nil (hK0 _ _ (C.sk fun K1 hK1 => ?_))
  refine L.val f4 wantedN rfl (by decide) (E.move f4 rfl) fun a5 f5 => ?_
  refine L.val f5 wantedN rfl (by decide) (E.move f5 rfl) fun a6 f6 => ?_
  refine L.call f6 wantedN rfl (by decide) (run_call Tryd.call46 (args3 f6 rfl rfl rfl)) (searchC_any l A c n _ (A1.kept HK) hm hr) ?_
  clear f0 f1 a0 f2 a2 f3 f4 a3 f5 a5
  rintro e w1 ⟨kc1, i, b, rfl, hs⟩
  refine ⟨_, rfl, fun a7 f7 => ?_⟩
  have szw1 := kc1.size
  replace HK := HK.z kc1
  clear f6 a6 kc1
  refine L.val f7 wantedN rfl (by decide) (E.extract f7 rfl rfl) fun a8 f8 => ?_
  refine L.val f8 wantedN rfl (by decide) (E.extract f8 rfl rfl) fun a9 f9 => ?_
  refine L.val f9 wantedN rfl (by decide) (E.assign f9 rfl) fun a10 f10 => ?_
  refine L.val f10 wantedN rfl (by decide) (E.assign f10 rfl) fun a11 f11 => ?_
  have f12 := f11.sub (sub_cons (i := 4) rfl (sub_cons (i := 5) rfl sn))
  refine wpList_nil (hK1 _ _ (wp_ret ?_)); (try simp only [xt, xb]); refine C.ret2 f12 rfl rfl rfl ?_
  exact ⟨HK, i, b, rfl, hs⟩
end Go.Proofs.YtekmhcdgmgbheaaDoor
