/- Merged by program (shrink.py): contracts and plain laws that the claim's statement uses, part 3. -/
import Derived.Test.YtekmhcdgmgbheaaDoorMc2
set_option linter.all false

namespace Go.Proofs.YtekmhcdgmgbheaaDoor
open Go.RowKit Go.Hub Go.Lib
theorem wzib28_cf : (Tryd.prog.info? 28).map (fun i => (i.zero, i.size, i.bytes)) = some (some (.agg #[(.int .i64 0), (.int .i64 0), (.int .i64 0), (.int .i64 0), (.int .i64 0), (.int .i64 0), (.string ⟨#[]⟩), (.slice none 0 0), (.int .i64 0), (.bool false)]), 10, 104) := by kernel_rfl
theorem wsz28_cf : (Tryd.prog.info? 28).map (·.size) = some 10 := by kernel_rfl
theorem sl_oneC (w : World) (g : Nat) (d : Cp) (B : Blk w g 28 (pcell d).toArray) : Sl w (some ⟨g, 0, none⟩) 1 10 (pcells [d]) :=
  ⟨rfl, fun _ => ⟨g, 0, rfl, B.lt, fun j u hu => by rw [Nat.zero_add]; exact B.cl (by show (pcell d)[j]? = some u; have e : pcells [d] = pcell d := by rw [pcells_cons]; exact List.append_nil _
                                                                                      rw [e] at hu; exact hu)⟩⟩
def InsPostC (l : List Cp) (A : Option Addr) (c i : Nat) (d : Cp) (w : World) (e : Ending) (w' : World) : Prop :=
  ∃ A' c', e = .returned (.slice A' (l.length + 1) c') ∧ Own w' 28 10 (.slice A' (l.length + 1) c') (l.length + 1) (pcells (l.take i ++ d :: l.drop i)) ∧ Kept ((Value.slice A l.length c).ownBlock.toList) w w' ∧ (∀ b, A'.map (·.block) = some b → A.map (·.block) = some b ∨ w.heap.size ≤ b)
theorem ins_len1C (l : List Cp) (i : Nat) (hi : i ≤ l.length) : ((pcells l).take (i * 10) ++ (Builtin.zeroCells (Value.agg #[(.int .i64 0), (.int .i64 0), (.int .i64 0), (.int .i64 0), (.int .i64 0), (.int .i64 0), (.string ⟨#[]⟩), (.slice none 0 0), (.int .i64 0), (.bool false)]).cells (l.length + 1 - i)).toList).length = (l.length + 1) * 10 := by
  rw [List.length_append, List.length_take, pcells_len, Nat.min_eq_left (Nat.mul_le_mul_right _ hi)]
  simp [Builtin.zeroCells, Value.cells]
  omega
theorem ins_min1C {d : Cp} {k : Nat} (h : 1 ≤ k) : (pcells [d]).take (Nat.min 1 k * 10) = pcells [d] := by
  rw [show Nat.min 1 k = 1 from Nat.min_eq_left h]
  rfl
theorem ins_min2C {a b : Nat} (h : a ≤ b) : Nat.min a b = a := Nat.min_eq_left h
theorem ins_min3C {l : List Cp} {i : Nat} {jk : List Value} (hj : jk.length = 1 * 10) (hi : i ≤ l.length) : (pcells l).drop (i * 10) = ((pcells l ++ jk).drop (i * 10)).take (Nat.min (l.length + 1 - i) (l.length + 1 - (i + 1)) * 10) := by
  rw [show Nat.min (l.length + 1 - i) (l.length + 1 - (i + 1)) = l.length - i by show Min.min _ _ = _; omega]
  rw [List.drop_append, List.take_append, show i * 10 - (pcells l).length = 0 by rw [pcells_len]; omega, List.length_drop, pcells_len, show (l.length - i) * 10 - (l.length * 10 - i * 10) = 0 by omega]
  rw [List.take_of_length_le (by rw [List.length_drop, pcells_len]; omega)]
  simp
theorem overlaps_noC {n : Nat} {a : Act} {l : FL} {w : World} {dst : Option Nat} {ty : TypeId} {ps : String} {af : Array Edge} {g : Option (Nat × Bool)} {x y : Operand} {ats : Array TypeId} {vb b off m c lb cb off2 : Nat} {d : Cp} {xs : List Value} (f : Fr n a l) (hx : evl l x = some (.slice (some ⟨vb, 0, none⟩) 1 1)) (hy : evl l y = some (.slice (some ⟨b, off2, none⟩) lb cb))
    (BV : Blk w vb 28 (pcell d).toArray) (O : Own w 28 10 (.slice (some ⟨b, off, none⟩) m c) m xs) (hne : b ≠ vb) (hm : 0 < m := by omega) :
    (execOp a.eval ⟨dst, .call { callee := .value (.func 49), args := #[x, y], argTypes := ats }, ty, ps, af, g⟩).run Tryd.prog w = .ok (.value (.bool false)) w := by
  obtain ⟨_, cs, h2⟩ := O.blk b rfl
  have hcs : cs.size ≠ 0 := by
    rcases O.2 with ⟨hv, _⟩ | ⟨g', off', cap', cur, hv, hg, hnc, hcm, hcs, _⟩
    · cases hv
    injection hv with e1 e2 e3
    injection e1 with e1
    injection e1 with e4 e5
    subst e4
    rw [h2] at hg
    injection hg with hg
    injection hg with hg _ _
    subst hg
    have : m * 10 ≤ cap' * 10 := Nat.mul_le_mul_right _ hnc
    omega
  have e : execOp a.eval ⟨dst, .call { callee := .value (.func 49), args := #[x, y], argTypes := ats }, ty, ps, af, g⟩ = callFunc 49 (#[] ++ #[x, y].map a.eval ++ #[]) := rfl
  have e2 : (#[] ++ #[x, y].map a.eval ++ #[] : Array Value) = #[.slice (some ⟨vb, 0, none⟩) 1 1, .slice (some ⟨b, off2, none⟩) lb cb] := by simp [f.ev hx, f.ev hy]
  rw [e, e2, run_callFunc_extern Tryd.func49 (by kernel_rfl) (by kernel_rfl) (by kernel_rfl) (e := Extern.SlicesOverlaps.overlaps #[35, 35] #[4]) (by kernel_rfl),
    Lib.run_overlaps_apart w 35 4 28 U35 10 (fun w => by kernel_rfl) ⟨vb, 0, none⟩ ⟨b, off2, none⟩ 1 1 lb cb (fun h => hne h.symm) 28 28 10 cs.size (by unfold World.shape?; rw [show w.heap[vb]? = _ from BV]; rfl) (by unfold World.shape?; rw [h2]) hcs (BV.frozen 0) (BV.frozen 10)]
  rfl
section
variable {l : List Cp} {A : Option Addr} {c i : Nat} {d : Cp} {w W : World}
theorem ins_endC {w1 : World} {Ax : Option Addr} {cx : Nat} (hin : (i : Int) = l.length) (hi : i ≤ l.length) (O : Own w 28 10 (.slice A l.length c) l.length (pcells l)) (HK : Kept [] w w1) (ap : App w1 W 28 10 A l.length c (pcells l) (pcell d) 1 Ax cx) : InsPostC l A c i d w (.returned (.slice Ax (l.length + 1) cx)) W := by
  obtain rfl : i = l.length := by omega
  refine ⟨Ax, cx, rfl, ?_, (HK.mono (by simp)).trans ap.kept (fun x hx _ => hx), fun b hb => (ap.where_ b hb).imp_right fun h => Nat.le_trans HK.size h⟩
  rw [List.take_length, List.drop_length, pcells_append]
  exact ap.own
theorem ins_partsC (l : List Cp) (i : Nat) (d : Cp) : pcells (l.take i ++ d :: l.drop i) = pcells (l.take i) ++ pcell d ++ (pcells l).drop (i * 10) := by
  rw [pcells_append, pcells_cons, pcells_drop, List.append_assoc]
theorem ins_growC {g c2 : Nat} (hi : i ≤ l.length) (hg : w.heap.size ≤ g) (O : Own W 28 10 (.slice (some ⟨g, 0, none⟩) (i + (l.length + 1 - i)) c2) (i + (l.length + 1 - i)) (setSeg (setSeg ((pcells l).take (i * 10) ++ (Builtin.zeroCells (Value.agg #[(.int .i64 0), (.int .i64 0), (.int .i64 0), (.int .i64 0), (.int .i64 0), (.int .i64 0), (.string ⟨#[]⟩), (.slice none 0 0), (.int .i64 0), (.bool false)]).cells (l.length + 1 - i)).toList) (i * 10) (pcell d)) ((i + 1) * 10) ((pcells l).drop (i * 10))))
    (HK : Kept ((Value.slice A l.length c).ownBlock.toList) w W) : InsPostC l A c i d w (.returned (.slice (some ⟨g, 0, none⟩) (i + (l.length + 1 - i)) c2)) W := by
  have hx : (pcells (l.take i)).length = i * 10 := by rw [pcells_len, List.length_take, Nat.min_eq_left hi]
  have h := seg_a (W := (pcells l).take (i * 10) ++ (Builtin.zeroCells (Value.agg #[(.int .i64 0), (.int .i64 0), (.int .i64 0), (.int .i64 0), (.int .i64 0), (.int .i64 0), (.string ⟨#[]⟩), (.slice none 0 0), (.int .i64 0), (.bool false)]).cells (l.length + 1 - i)).toList) (X := pcells (l.take i)) (Y := pcell d) (Z := (pcells l).drop (i * 10))
    (by rw [ins_len1C l i hi, hx, List.length_drop, pcells_len]; show _ = i * 10 + 10 + _; omega) (by rw [hx, List.take_append, List.take_take, List.length_take, pcells_len, ← pcells_take]; simp; omega)
  rw [hx, show i * 10 + (pcell d).length = (i + 1) * 10 by show i * 10 + 10 = _; omega, ← ins_partsC] at h
  rw [h, show i + (l.length + 1 - i) = l.length + 1 by omega] at O
  refine ⟨some ⟨g, 0, none⟩, c2, by rw [show i + (l.length + 1 - i) = l.length + 1 by omega], O, HK, fun b hb => .inr ?_⟩
  simp at hb
  omega
theorem ins_roomC {b off : Nat} {jk : List Value} (hi : i ≤ l.length) (hj : jk.length = 1 * 10) (O : Own W 28 10 (.slice (some ⟨b, off, none⟩) (l.length + 1) c) (l.length + 1) (setSeg (setSeg (pcells l ++ jk) ((i + 1) * 10) ((pcells l).drop (i * 10))) (i * 10) (pcell d)))
    (HK : Kept ((Value.slice (some ⟨b, off, none⟩) l.length c).ownBlock.toList) w W) : InsPostC l (some ⟨b, off, none⟩) c i d w (.returned (.slice (some ⟨b, off, none⟩) (l.length + 1) c)) W := by
  have hx : (pcells (l.take i)).length = i * 10 := by rw [pcells_len, List.length_take, Nat.min_eq_left hi]
  have h := seg_b (W := pcells l ++ jk) (X := pcells (l.take i)) (Y := pcell d) (Z := (pcells l).drop (i * 10))
    (by rw [List.length_append, pcells_len, hj, hx, List.length_drop, pcells_len]; show _ = i * 10 + 10 + _; omega) (by rw [hx, List.take_append, pcells_len, show i * 10 - l.length * 10 = 0 by omega, pcells_take]; simp)
  rw [hx, show i * 10 + (pcell d).length = (i + 1) * 10 by show i * 10 + 10 = _; omega, ← ins_partsC] at h
  rw [h] at O
  exact ⟨_, c, rfl, O, HK, fun b' hb => .inl hb⟩
end
set_option maxRecDepth 100000 in
set_option maxHeartbeats 1000000 in
theorem insertC_any (l : List Cp) (A : Option Addr) (c : Nat) (i vb : Nat) (d : Cp) (w : World) (OO : Own w 28 10 (.slice A l.length c) l.length (pcells l)) (BV : Blk w vb 28 (pcell d).toArray) (hi : i ≤ l.length) (hm : l.length ≤ 1000000) (hne : ∀ a, A = some a → a.block ≠ vb) : Calls Tryd.prog 25 #[.slice A l.length c, .int .i64 i, .slice (some ⟨vb, 0, none⟩) 1 1] w (InsPostC l A c i d w) := by
  have HK : Kept ((Value.slice A l.length c).ownBlock.toList) w w := Kept.refl _ _
  have hcl := own_cap OO
  have ltV := BV.lt
  have O0 := OO
  refine C.enter Tryd.func25 rfl Tryd.ntmps25 rfl ?_
  intro a0 f0
  have f1 : Fr 95 a0 [(0, .slice A l.length c), (1, .int .i64 i), (2, .slice (some ⟨vb, 0, none⟩) 1 1)] := f0
  refine C.sk fun K0 hK0 => ?_
  refine L.val f1 wantedN rfl (by decide) (E.assign f1 rfl) fun a2 f2 => ?_
  have f3 := f2.sub (sub_cons (i := 0) rfl (sub_cons (i := 1) rfl (sub_cons (i := 2) rfl (sub_cons (i := 6) rfl sn))))
  refine wpList_nil (hK0 _ _ (C.sk fun K1 hK1 => ?_))
  refine L.val f3 wantedN rfl (by decide) (E.move f3 rfl) fun a4 f4 => ?_
  refine L.val f4 wantedN rfl (by decide) (E.move f4 rfl) fun a5 f5 => ?_
  refine L.val f5 wantedN rfl (by decide) (E.slLlo f5 U35 wsz28_cf rfl rfl (by omega) (by omega) ) fun a6 f6 => ?_
  have f7 := f6.sub (sub_cons (i := 0) rfl (sub_cons (i := 1) rfl (sub_cons (i := 2) rfl (sub_cons (i := 6) rfl sn))))
  refine wpList_nil (hK1 _ _ (C.sk fun K2 hK2 => ?_))
  refine L.val f7 wantedN rfl (by decide) (E.move f7 rfl) fun a8 f8 => ?_
  refine L.val f8 wantedN rfl (by decide) (E.lenL f8 U35 rfl) fun a9 f9 => ?_
  clear f0 f1 a0 f2 f3 a2 f4 a4 f5 a5 f6 f7 a6 f8 a8
  refine L.val f9 wantedN rfl (by decide) (E.assign f9 rfl) fun a10 f10 => ?_
  refine wpList_nil (hK2 _ _ ?_)
  have f11 := f10.sub (sub_cons (i := 0) rfl (sub_cons (i := 1) rfl (sub_cons (i := 2) rfl (sub_cons (i := 6) rfl (sub_cons (i := 7) rfl sn)))))
  refine wp_seq_k fun K3 hK3 => ?_
  refine C.sk fun K4 hK4 => ?_
  refine L.val f11 wantedN rfl (by decide) (E.move f11 rfl) fun a12 f12 => ?_
  refine L.val f12 wantedN rfl (by decide) (E.eql f12 rfl rfl) fun a13 f13 => ?_
  have f14 := f13.as (i := 16) (v' := .bool false) rfl (by rfl)
  refine wpList_nil (hK4 _ _ ?_)
  have f15 := f14.sub (sub_cons (i := 0) rfl (sub_cons (i := 1) rfl (sub_cons (i := 2) rfl (sub_cons (i := 6) rfl (sub_cons (i := 7) rfl (sub_cons (i := 16) rfl sn))))))
  refine C.condF f15 rfl ?_
  refine wp_skip (hK3 _ _ ?_)
  have f16 := f15.sub (sub_cons (i := 0) rfl (sub_cons (i := 1) rfl (sub_cons (i := 2) rfl (sub_cons (i := 6) rfl (sub_cons (i := 7) rfl sn)))))
  refine C.sk fun K5 hK5 => ?_
  refine L.val f16 wantedN rfl (by decide) (E.move f16 rfl) fun a17 f17 => ?_
  refine L.val f17 wantedN rfl (by decide) (E.lenL f17 U35 rfl) fun a18 f18 => ?_
  clear f9 a9 f10 f11 a10 f12 a12 f13 f14 f15 f16 a13 f17 a17
  refine L.val f18 wantedN rfl (by decide) (E.assign f18 rfl) fun a19 f19 => ?_
  refine wpList_nil (hK5 _ _ ?_)
  have f20 := f19.sub (sub_cons (i := 0) rfl (sub_cons (i := 1) rfl (sub_cons (i := 2) rfl (sub_cons (i := 6) rfl (sub_cons (i := 7) rfl (sub_cons (i := 8) rfl sn))))))
  refine wp_seq_k fun K6 hK6 => ?_
  refine C.sk fun K7 hK7 => ?_
  refine L.val f20 wantedN rfl (by decide) (E.move f20 rfl) fun a21 f21 => ?_
  refine L.val f21 wantedN rfl (by decide) (E.move f21 rfl) fun a22 f22 => ?_
  refine L.val f22 wantedN rfl (by decide) (E.eql f22 rfl rfl) fun a23 f23 => ?_
  refine wpList_nil (hK7 _ _ ?_)
  have f24 := f23.sub (sub_cons (i := 0) rfl (sub_cons (i := 1) rfl (sub_cons (i := 2) rfl (sub_cons (i := 6) rfl (sub_cons (i := 7) rfl (sub_cons (i := 8) rfl (sub_cons (i := 22) rfl sn)))))))
  clear f18 a18 f19 f20 a19 f21 a21 f22 a22 f23
  refine f24.splitD 22 rfl (fun h0 f25 => ?_) (fun h0 f25 => ?_)
  · have hin := h0
    refine C.condT f25 rfl ?_
    refine C.sk fun K8 hK8 => ?_
    refine L.val f25 wantedN rfl (by decide) (E.move f25 rfl) fun a26 f26 => ?_
    refine L.val f26 wantedN rfl (by decide) (E.move f26 rfl) fun a27 f27 => ?_
    refine L.append f27 wantedN (by decide) U35 wzib28_cf rfl rfl rfl rfl (OO) (sl_oneC _ vb d BV) (fun u hu => pcells_one [d] u (by show u ∈ pcell d ++ []; rw [List.append_nil]; exact hu)) (by unfold maxLen; omega) (by omega) fun a28 w1 Ax cx AP1 f28 => ?_
    have kap1 := AP1.kept
    have APX := AP1
    have HK0 := Kept.refl [] w
    have szw1 := kap1.size
    clear f24 f25 a23 f26 a26 f27 a27 kap1
    refine L.val f28 wantedN rfl (by decide) (E.assign f28 rfl) fun a29 f29 => ?_
    have f30 := f29.sub (sub_cons (i := 0) rfl (sub_cons (i := 1) rfl (sub_cons (i := 2) rfl (sub_cons (i := 6) rfl (sub_cons (i := 7) rfl (sub_cons (i := 8) rfl sn))))))
    refine wpList_nil (hK8 _ _ (wp_ret ?_)); (try simp only [xt, xb]); refine C.ret f30 rfl rfl ?_
    exact ins_endC hin hi O0 HK0 APX
  have hin := h0
  obtain ⟨b, off, hA⟩ := (Sl.of_own OO).addr (by omega)
  clear f24
  subst hA
  have hbL : b ∈ (Value.slice (some ⟨b, off, none⟩) l.length c).ownBlock.toList := by simp [Value.ownBlock]
  have hbv : b ≠ vb := hne _ rfl
  have hbw := (OO.blk b rfl).1
  refine C.condF f25 rfl ?_
  refine wp_skip (hK6 _ _ ?_)
  have f26 := f25.sub (sub_cons (i := 0) rfl (sub_cons (i := 1) rfl (sub_cons (i := 2) rfl (sub_cons (i := 6) rfl (sub_cons (i := 7) rfl (sub_cons (i := 8) rfl sn))))))
  refine wp_seq_k fun K9 hK9 => ?_
  refine C.sk fun K10 hK10 => ?_
  refine L.val f26 wantedN rfl (by decide) (E.move f26 rfl) fun a27 f27 => ?_
  refine L.val f27 wantedN rfl (by decide) (E.move f27 rfl) fun a28 f28 => ?_
  refine L.val f28 wantedN rfl (by decide) (E.add f28 rfl rfl (IntWalk.i64_in _ (by omega))) fun a29 f29 => ?_
  refine L.val f29 wantedN rfl (by decide) (E.move f29 rfl) fun a30 f30 => ?_
  refine L.val f30 wantedN rfl (by decide) (E.capL f30 U35 rfl) fun a31 f31 => ?_
  refine L.val f31 wantedN rfl (by decide) (E.gtr f31 rfl rfl) fun a32 f32 => ?_
  refine wpList_nil (hK10 _ _ ?_)
  have f33 := f32.sub (sub_cons (i := 0) rfl (sub_cons (i := 1) rfl (sub_cons (i := 2) rfl (sub_cons (i := 6) rfl (sub_cons (i := 7) rfl (sub_cons (i := 8) rfl (sub_cons (i := 31) rfl sn)))))))
  clear f25 f26 a23 f27 a27 f28 a28 f29 a29 f30 a30 f31 a31 f32
  refine f33.splitD 31 rfl (fun h1 f34 => ?_) (fun h1 f34 => ?_)
  · have hgr := h1
    have OH := OO.head (k := i) hi
    refine C.condT f34 rfl ?_
    refine C.sk fun K11 hK11 => ?_
    refine L.val f34 wantedN rfl (by decide) (E.move f34 rfl) fun a35 f35 => ?_
    refine L.val f35 wantedN rfl (by decide) (E.move f35 rfl) fun a36 f36 => ?_
    refine L.val f36 wantedN rfl (by decide) (E.slLhi f36 U35 wsz28_cf rfl rfl (by omega) (by omega) ) fun a37 f37 => ?_
    refine L.val f37 wantedN rfl (by decide) (E.move f37 rfl) fun a38 f38 => ?_
    refine L.val f38 wantedN rfl (by decide) (E.move f38 rfl) fun a39 f39 => ?_
    refine L.val f39 wantedN rfl (by decide) (E.add f39 rfl rfl (IntWalk.i64_in _ (by omega))) fun a40 f40 => ?_
    refine L.val f40 wantedN rfl (by decide) (E.move f40 rfl) fun a41 f41 => ?_
    clear f33 f34 a32 f35 a35 f36 a36 f37 a37 f38 a38 f39 a39 f40 a40
    refine L.val f41 wantedN rfl (by decide) (E.sub f41 rfl rfl (IntWalk.i64_in _ (by omega))) fun a42 f42 => ?_
    refine L.appendZ f42 wantedN (by decide) U35 U3 wzib28_cf rfl rfl rfl rfl (m := l.length + 1 - i) OH (by omega) (by omega) (by omega) (by omega) (by omega) fun a43 w1 g c2 OZ loz kz f43 => ?_
    have szw1 := kz.size
    replace HK := HK.z kz
    replace OO := OO.kept kz (by simp)
    replace BV := BV.z kz
    have hcz : i + (l.length + 1 - i) ≤ c2 := own_cap OZ
    have hzl : (pcells l).take (i * 10) = pcells (l.take i) := pcells_take l i
    clear f41 a41 f42 a42 kz OH
    refine L.val f43 wantedN rfl (by decide) (E.assign f43 rfl) fun a44 f44 => ?_
    have f45 := f44.sub (sub_cons (i := 0) rfl (sub_cons (i := 1) rfl (sub_cons (i := 2) rfl (sub_cons (i := 6) rfl (sub_cons (i := 7) rfl (sub_cons (i := 8) rfl (sub_cons (i := 9) rfl sn)))))))
    refine wpList_nil (hK11 _ _ (C.sk fun K12 hK12 => ?_))
    refine L.val f45 wantedN rfl (by decide) (E.move f45 rfl) fun a46 f46 => ?_
    refine L.val f46 wantedN rfl (by decide) (E.move f46 rfl) fun a47 f47 => ?_
    refine L.val f47 wantedN rfl (by decide) (E.slA f47 U35 wsz28_cf rfl rfl rfl (k := i) (by omega) (by omega)) fun a48 f48 => ?_
    refine L.val f48 wantedN rfl (by decide) (E.move f48 rfl) fun a49 f49 => ?_
    refine L.copyR f49 wantedN (by decide) U35 wsz28_cf rfl rfl (j := i * 10) (vs := pcell d) OZ (by omega) (sl_oneC _ vb d BV) (by omega) (by rw [ins_min1C (by omega)]; rfl) (by rw [ins_len1C l i hi]; simp; omega) (fun u hu => pcells_one [d] u (by show u ∈ pcell d ++ []; rw [List.append_nil]; exact hu)) fun a50 w2 OZ2 kc f50 => ?_
    have szw2 := kc.size
    replace HK := HK.trans kc (by intro x hx hlt; simp at hx; subst hx; omega)
    replace BV := BV.kept kc (by (simp; omega))
    replace OO := OO.kept kc (by intro k hk; simp [Value.ownBlock] at hk ⊢; omega)
    clear f43 a43 f44 f45 a44 f46 a46 f47 a47 f48 a48 f49 a49 kc
    refine wpList_nil (hK12 _ _ ?_)
    have f51 := f50.sub (sub_cons (i := 0) rfl (sub_cons (i := 1) rfl (sub_cons (i := 2) rfl (sub_cons (i := 6) rfl (sub_cons (i := 7) rfl (sub_cons (i := 8) rfl (sub_cons (i := 9) rfl sn)))))))
    refine wp_seq_k fun K13 hK13 => ?_
    refine R.begin (S := fun W => Kept [g] w2 W) (by kernel_rfl) (by exact (Kept.refl _ _).drewN 1) ?_
    have hS11 : Kept [g] w2 (w2.drewN 1) := (Kept.refl _ _).drewN 1
    have hd11 : Kept [] w2 (w2.drewN 1) := (Kept.refl _ _).drewN 1
    obtain ⟨w3, hww3⟩ : ∃ W, W = w2.drewN 1 := ⟨_, rfl⟩
    rw [← hww3] at hS11 hd11 ⊢
    clear f50 hww3
    have szw3 := hS11.size
    replace OO := OO.kept hd11 (by simp)
    replace OZ2 := OZ2.kept hd11 (by simp)
    refine R.take 0 f51 rfl rfl (by decide) (by kernel_rfl) (by kernel_rfl) (by kernel_rfl) (fun _ _ _ _ h => h) wantedN hS11 (fun W hW => (E.move f51 rfl)) fun a52 f52 => ?_
    refine R.take 1 f52 rfl rfl (by decide) (by kernel_rfl) (by kernel_rfl) (by kernel_rfl) (fun _ _ _ _ h => h) wantedN hS11 (fun W hW => (E.move f52 rfl)) fun a53 f53 => ?_
    refine R.take 2 f53 rfl rfl (by decide) (by kernel_rfl) (by kernel_rfl) (by kernel_rfl) (fun _ _ _ _ h => h) wantedN hS11 (fun W hW => (E.move f53 rfl)) fun a54 f54 => ?_
    refine R.take 3 f54 rfl rfl (by decide) (by kernel_rfl) (by kernel_rfl) (by kernel_rfl) (fun _ _ _ _ h => h) wantedN hS11 (fun W hW => (E.add f54 rfl rfl (IntWalk.i64_in _ (by omega)))) fun a55 f55 => ?_
    refine R.take 4 f55 rfl rfl (by decide) (by kernel_rfl) (by kernel_rfl) (by kernel_rfl) (fun _ _ _ _ h => h) wantedN hS11 (fun W hW => (E.slA f55 U35 wsz28_cf rfl rfl (show ((i : Int) + 1) = ((i + 1 : Nat) : Int) by omega) (by omega) (by omega))) fun a56 f56 => ?_
    refine R.take 5 f56 rfl rfl (by decide) (by kernel_rfl) (by kernel_rfl) (by kernel_rfl) (fun _ _ _ _ h => h) wantedN hS11 (fun W hW => (E.move f56 rfl)) fun a57 f57 => ?_
    refine R.take 6 f57 rfl rfl (by decide) (by kernel_rfl) (by kernel_rfl) (by kernel_rfl) (fun _ _ _ _ h => h) wantedN hS11 (fun W hW => (E.move f57 rfl)) fun a58 f58 => ?_
    clear f51 a50 f52 a52 f53 a53 f54 a54 f55 a55 f56 a56 f57 a57
    refine R.take 7 f58 rfl rfl (by decide) (by kernel_rfl) (by kernel_rfl) (by kernel_rfl) (fun _ _ _ _ h => h) wantedN hS11 (fun W hW => (E.slA f58 U35 wsz28_cf rfl rfl rfl (k := i) hi (by omega))) fun a59 f59 => ?_
    refine R.one 8 (by kernel_rfl) ?_
    refine O.copyR f59 rfl wantedN (by decide) U35 wsz28_cf rfl rfl (j := (i + 1) * 10) (vs := (pcells l).drop (i * 10)) OZ2 (by omega) (Sl.of_own (OO.cutA hi (by omega))) (by omega) (by rw [ins_min2C (by omega), List.take_of_length_le (by rw [List.length_drop, pcells_len]; omega)]) (by rw [setSeg_len, ins_len1C l i hi, List.length_drop, pcells_len]; omega) (fun u hu => pcells_one l u (List.mem_of_mem_drop hu)) (fun _ hk => hS11.trans hk (by simp)) fun a60 w4 OZ3 kc f60 => ?_
    have szw4 := kc.size
    replace hS11 := hS11.trans kc (by simp)
    clear f58 a58 f59 a59 kc
    have szw4r := hS11.size
    replace HK := HK.trans hS11 (by intro x hx hlt; simp at hx; subst hx; omega)
    replace BV := BV.kept hS11 (by (simp; omega))
    clear hS11
    refine R.done (by kernel_rfl) (hK13 _ _ ?_)
    have f61 := f60.sub (sub_cons (i := 0) rfl (sub_cons (i := 1) rfl (sub_cons (i := 2) rfl (sub_cons (i := 6) rfl (sub_cons (i := 7) rfl (sub_cons (i := 8) rfl (sub_cons (i := 9) rfl sn)))))))
    refine C.sk fun K14 hK14 => ?_
    refine L.val f61 wantedN rfl (by decide) (E.move f61 rfl) fun a62 f62 => ?_
    refine L.val f62 wantedN rfl (by decide) (E.assign f62 rfl) fun a63 f63 => ?_
    have f64 := f63.sub (sub_cons (i := 0) rfl (sub_cons (i := 1) rfl (sub_cons (i := 2) rfl (sub_cons (i := 6) rfl (sub_cons (i := 7) rfl (sub_cons (i := 8) rfl sn))))))
    refine wpList_nil (hK14 _ _ (wp_ret ?_)); (try simp only [xt, xb]); refine C.ret f64 rfl rfl ?_
    exact ins_growC hi loz OZ3 HK
  have hgr := h1
  obtain ⟨jk, hjk, OM⟩ := OO.more (k := 1) (by omega)
  refine C.condF f34 rfl ?_
  refine wp_skip (hK9 _ _ ?_)
  have f35 := f34.sub (sub_cons (i := 0) rfl (sub_cons (i := 1) rfl (sub_cons (i := 2) rfl (sub_cons (i := 6) rfl (sub_cons (i := 7) rfl (sub_cons (i := 8) rfl sn))))))
  refine C.sk fun K15 hK15 => ?_
  refine L.val f35 wantedN rfl (by decide) (E.move f35 rfl) fun a36 f36 => ?_
  refine L.val f36 wantedN rfl (by decide) (E.move f36 rfl) fun a37 f37 => ?_
  refine L.val f37 wantedN rfl (by decide) (E.move f37 rfl) fun a38 f38 => ?_
  refine L.val f38 wantedN rfl (by decide) (E.add f38 rfl rfl (IntWalk.i64_in _ (by omega))) fun a39 f39 => ?_
  refine L.val f39 wantedN rfl (by decide) (E.slLhi f39 U35 wsz28_cf rfl rfl (by omega) (by omega)) fun a40 f40 => ?_
  refine L.val f40 wantedN rfl (by decide) (E.assign f40 rfl) fun a41 f41 => ?_
  clear f33 f34 f35 a32 f36 a36 f37 a37 f38 a38 f39 a39 f40 a40
  refine wpList_nil (hK15 _ _ ?_)
  have f42 := f41.sub (sub_cons (i := 0) rfl (sub_cons (i := 1) rfl (sub_cons (i := 2) rfl (sub_cons (i := 6) rfl (sub_cons (i := 7) rfl (sub_cons (i := 8) rfl sn))))))
  refine wp_seq_k fun K16 hK16 => ?_
  refine C.sk fun K17 hK17 => ?_
  refine L.val f42 wantedN rfl (by decide) (E.move f42 rfl) fun a43 f43 => ?_
  refine L.val f43 wantedN rfl (by decide) (E.move f43 rfl) fun a44 f44 => ?_
  refine L.val f44 wantedN rfl (by decide) (E.move f44 rfl) fun a45 f45 => ?_
  refine L.val f45 wantedN rfl (by decide) (E.move f45 rfl) fun a46 f46 => ?_
  refine L.val f46 wantedN rfl (by decide) (E.add f46 rfl rfl (IntWalk.i64_in _ (by omega))) fun a47 f47 => ?_
  refine L.val f47 wantedN rfl (by decide) (E.slA f47 U35 wsz28_cf rfl rfl (show ((i : Int) + 1) = ((i + 1 : Nat) : Int) by omega) (by omega) (by omega)) fun a48 f48 => ?_
  refine L.val f48 wantedN rfl (by decide) (overlaps_noC f48 rfl rfl BV OO hbv) fun a49 f49 => ?_
  clear f41 f42 a41 f43 a43 f44 a44 f45 a45 f46 a46 f47 a47 f48 a48
  have f50 := f49.as (i := 67) (v' := .bool false) rfl (by rfl)
  refine L.val f50 wantedN rfl (by decide) (E.not f50 rfl) fun a51 f51 => ?_
  refine wpList_nil (hK17 _ _ ?_)
  have f52 := f51.sub (sub_cons (i := 0) rfl (sub_cons (i := 1) rfl (sub_cons (i := 2) rfl (sub_cons (i := 6) rfl (sub_cons (i := 7) rfl (sub_cons (i := 8) rfl (sub_cons (i := 68) rfl sn)))))))
  refine C.condT f52 rfl ?_
  refine wp_seq_k fun K18 hK18 => ?_
  refine R.begin (S := fun W => Kept [b] w W) (by kernel_rfl) (by exact (Kept.refl _ _).drewN 1) ?_
  have hS15 : Kept [b] w (w.drewN 1) := (Kept.refl _ _).drewN 1
  have hd15 : Kept [] w (w.drewN 1) := (Kept.refl _ _).drewN 1
  obtain ⟨w1, hww1⟩ : ∃ W, W = w.drewN 1 := ⟨_, rfl⟩
  rw [← hww1] at hS15 hd15 ⊢
  clear f49 f50 a49 f51 hww1
  have szw1 := hS15.size
  replace OM := OM.kept hd15 (by simp)
  replace BV := BV.kept hd15 (by (simp; done))
  refine R.take 0 f52 rfl rfl (by decide) (by kernel_rfl) (by kernel_rfl) (by kernel_rfl) (fun _ _ _ _ h => h) wantedN hS15 (fun W hW => (E.move f52 rfl)) fun a53 f53 => ?_
  refine R.take 1 f53 rfl rfl (by decide) (by kernel_rfl) (by kernel_rfl) (by kernel_rfl) (fun _ _ _ _ h => h) wantedN hS15 (fun W hW => (E.move f53 rfl)) fun a54 f54 => ?_
  refine R.take 2 f54 rfl rfl (by decide) (by kernel_rfl) (by kernel_rfl) (by kernel_rfl) (fun _ _ _ _ h => h) wantedN hS15 (fun W hW => (E.move f54 rfl)) fun a55 f55 => ?_
  refine R.take 3 f55 rfl rfl (by decide) (by kernel_rfl) (by kernel_rfl) (by kernel_rfl) (fun _ _ _ _ h => h) wantedN hS15 (fun W hW => (E.add f55 rfl rfl (IntWalk.i64_in _ (by omega)))) fun a56 f56 => ?_
  refine R.take 4 f56 rfl rfl (by decide) (by kernel_rfl) (by kernel_rfl) (by kernel_rfl) (fun _ _ _ _ h => h) wantedN hS15 (fun W hW => (E.slA f56 U35 wsz28_cf rfl rfl (show ((i : Int) + 1) = ((i + 1 : Nat) : Int) by omega) (by omega) (by omega))) fun a57 f57 => ?_
  refine R.take 5 f57 rfl rfl (by decide) (by kernel_rfl) (by kernel_rfl) (by kernel_rfl) (fun _ _ _ _ h => h) wantedN hS15 (fun W hW => (E.move f57 rfl)) fun a58 f58 => ?_
  refine R.take 6 f58 rfl rfl (by decide) (by kernel_rfl) (by kernel_rfl) (by kernel_rfl) (fun _ _ _ _ h => h) wantedN hS15 (fun W hW => (E.move f58 rfl)) fun a59 f59 => ?_
  clear f52 a51 f53 a53 f54 a54 f55 a55 f56 a56 f57 a57 f58 a58
  refine R.take 7 f59 rfl rfl (by decide) (by kernel_rfl) (by kernel_rfl) (by kernel_rfl) (fun _ _ _ _ h => h) wantedN hS15 (fun W hW => (E.slA f59 U35 wsz28_cf rfl rfl rfl (k := i) (by omega) (by omega))) fun a60 f60 => ?_
  refine R.one 8 (by kernel_rfl) ?_
  refine O.copyR f60 rfl wantedN (by decide) U35 wsz28_cf rfl rfl (j := (i + 1) * 10) (vs := (pcells l).drop (i * 10)) OM rfl (Sl.of_own (OM.cutA (k := i) (by omega) (by omega))) (by omega) (by exact ins_min3C hjk hi) (by rw [List.length_append, hjk, List.length_drop, pcells_len]; omega) (fun u hu => pcells_one l u (List.mem_of_mem_drop hu)) (fun _ hk => hS15.trans hk (by simp)) fun a61 w2 OM2 kc f61 => ?_
  have szw2 := kc.size
  replace hS15 := hS15.trans kc (by simp)
  replace BV := BV.kept kc (by (simp; omega))
  clear f59 a59 f60 a60 kc
  have szw2r := hS15.size
  replace HK := HK.trans hS15 (by intro x hx _; simp at hx; subst hx; exact hbL)
  clear hS15
  refine R.done (by kernel_rfl) (hK18 _ _ ?_)
  have f62 := f61.sub (sub_cons (i := 0) rfl (sub_cons (i := 1) rfl (sub_cons (i := 2) rfl (sub_cons (i := 6) rfl (sub_cons (i := 7) rfl (sub_cons (i := 8) rfl sn))))))
  refine C.sk fun K19 hK19 => ?_
  refine L.val f62 wantedN rfl (by decide) (E.move f62 rfl) fun a63 f63 => ?_
  refine L.val f63 wantedN rfl (by decide) (E.move f63 rfl) fun a64 f64 => ?_
  refine L.val f64 wantedN rfl (by decide) (E.slA f64 U35 wsz28_cf rfl rfl rfl (k := i) (by omega) (by omega)) fun a65 f65 => ?_
  refine L.val f65 wantedN rfl (by decide) (E.move f65 rfl) fun a66 f66 => ?_
  refine L.copyR f66 wantedN (by decide) U35 wsz28_cf rfl rfl (j := i * 10) (vs := pcell d) OM2 rfl (sl_oneC _ vb d BV) (by omega) (by rw [ins_min1C (by omega)]; rfl) (by rw [setSeg_len, List.length_append, hjk, pcells_len]; simp; omega) (fun u hu => pcells_one [d] u (by show u ∈ pcell d ++ []; rw [List.append_nil]; exact hu)) fun a67 w3 OM3 kc f67 => ?_
  have szw3 := kc.size
  replace HK := HK.trans kc (by intro x hx _; simp at hx; subst hx; exact hbL)
  clear f61 f62 a61 f63 a63 f64 a64 f65 a65 f66 a66 kc
  have f68 := f67.sub (sub_cons (i := 0) rfl (sub_cons (i := 1) rfl (sub_cons (i := 2) rfl (sub_cons (i := 6) rfl (sub_cons (i := 7) rfl (sub_cons (i := 8) rfl sn))))))
  refine wpList_nil (hK19 _ _ (C.sk fun K20 hK20 => ?_))
  refine L.val f68 wantedN rfl (by decide) (E.move f68 rfl) fun a69 f69 => ?_
  refine L.val f69 wantedN rfl (by decide) (E.assign f69 rfl) fun a70 f70 => ?_
  have f71 := f70.sub (sub_cons (i := 0) rfl (sub_cons (i := 1) rfl (sub_cons (i := 2) rfl (sub_cons (i := 6) rfl (sub_cons (i := 7) rfl (sub_cons (i := 8) rfl sn))))))
  refine wpList_nil (hK20 _ _ (wp_ret ?_)); (try simp only [xt, xb]); refine C.ret f71 rfl rfl ?_
  exact ins_roomC hi hjk OM3 HK
end Go.Proofs.YtekmhcdgmgbheaaDoor
namespace Go.Proofs.YtekmhcdgmgbheaaDoor
open Go.RowKit Go.Hub Go.Lib
theorem wzi28_cg : (Tryd.prog.info? 28).map (fun i => (i.zero, i.size)) = some (some (.agg #[(.int .i64 0), (.int .i64 0), (.int .i64 0), (.int .i64 0), (.int .i64 0), (.int .i64 0), (.string ⟨#[]⟩), (.slice none 0 0), (.int .i64 0), (.bool false)]), 10) := by kernel_rfl
theorem wbs35_1_cg (x0_0 x0_1 x0_2 x0_3 x0_4 x0_5 x0_6 x0_7 x0_8 x0_9 : Value) : Instr.fill (fun i => some (i * 10, 10)) ((Array.range (1 * 10)).map fun j => (Value.cells (.agg #[(.int .i64 0), (.int .i64 0), (.int .i64 0), (.int .i64 0), (.int .i64 0), (.int .i64 0), (.string ⟨#[]⟩), (.slice none 0 0), (.int .i64 0), (.bool false)]))[j % (Value.cells (.agg #[(.int .i64 0), (.int .i64 0), (.int .i64 0), (.int .i64 0), (.int .i64 0), (.int .i64 0), (.string ⟨#[]⟩), (.slice none 0 0), (.int .i64 0), (.bool false)])).size]!) [(0, .agg #[x0_0, x0_1, x0_2, x0_3, x0_4, x0_5, x0_6, x0_7, x0_8, x0_9])] = some #[x0_0, x0_1, x0_2, x0_3, x0_4, x0_5, x0_6, x0_7, x0_8, x0_9] := by kernel_rfl
theorem wsz3_cg : (Tryd.prog.info? 3).map (·.size) = some 1 := by kernel_rfl
theorem wsz4_cg : (Tryd.prog.info? 4).map (·.size) = some 1 := by kernel_rfl
theorem wsz9_cg : (Tryd.prog.info? 9).map (·.size) = some 1 := by kernel_rfl
theorem wsz23_cg : (Tryd.prog.info? 23).map (·.size) = some 3 := by kernel_rfl
theorem wsz25_cg : (Tryd.prog.info? 25).map (·.size) = some 3 := by kernel_rfl
theorem wsz26_cg : (Tryd.prog.info? 26).map (·.size) = some 1 := by kernel_rfl
theorem wsz28_cg : (Tryd.prog.info? 28).map (·.size) = some 10 := by kernel_rfl
theorem wsz35_cg : (Tryd.prog.info? 35).map (·.size) = some 1 := by kernel_rfl
theorem wsz37_cg : (Tryd.prog.info? 37).map (·.size) = some 4 := by kernel_rfl
theorem wbl28_0_1_2_3_4_cg (x0_0 x0_1 x0_2 : Value) (x1_0 x1_1 x1_2 : Value) (x2 : ByteArray) (x3 : Option Addr) (y3 z3 : Nat) (x4 : Int) : Tryd.prog.built 28 [(0, .agg #[x0_0, x0_1, x0_2]), (1, .agg #[x1_0, x1_1, x1_2]), (2, .string x2), (3, .slice x3 y3 z3), (4, .int .i64 x4)] = some #[x0_0, x0_1, x0_2, x1_0, x1_1, x1_2, .string x2, .slice x3 y3 z3, .int .i64 x4, (.bool false)] := by kernel_rfl
structure _root_.Go.Hub.Ms where
  topic : ByteArray
  pay : List UInt8
  qos : Int
  ret : Bool
  A : Option Addr
  c : Nat
abbrev _root_.Go.Hub.mcell (m : Ms) : List Value := [.string m.topic, .slice m.A m.pay.length m.c, .int .i64 m.qos, .bool m.ret]
structure _root_.Go.Hub.Ta where
  seen : List Dt
  fen : List Fe
  rou : List Ro
  cel : List Ce
def _root_.Go.Hub.Tm.ta (t : Tm) : Ta := ⟨t.seen, t.fen, t.rou, t.cel.map Cp.x⟩
def insC : List Ce → Ce → List Ce
  | [], c => [c]
  | a :: r, c => if a.topic = c.topic then (if newerB a c then a :: r else c :: r) else if ltB a.topic c.topic then a :: insC r c else c :: a :: r
def putOk (x y : Int) (s : Sp) (topic : ByteArray) (qos : Int) : Bool := nameB topic && !decide (qos < 0) && !decide (2 < qos) && (decide (0 ≤ x) && decide (x < 16) && decide (1 ≤ y)) && stampedB s
def putD (t : Ta) (x y : Int) : Dt := ⟨x, y, topR t.seen x y + 1⟩
def putC (t : Ta) (x y : Int) (s : Sp) (topic : ByteArray) (pay : List UInt8) (qos : Int) : Ce := ⟨putD t x y, s, topic, pay, if pay.length = 0 then 0 else qos, decide (pay.length = 0)⟩
def putT (t : Ta) (x y : Int) (s : Sp) (topic : ByteArray) (pay : List UInt8) (qos : Int) : Ta :=
  if putOk x y s topic qos then { t with seen := addD t.seen (putD t x y), cel := insC t.cel (putC t x y s topic pay qos) } else t
def PutPost (t : Tm) (x y : Int) (s : Sp) (m : Ms) (w : World) (e : Ending) (w' : World) : Prop := Kept [] w w' ∧ ∃ t' : Tm, e = .returned (.agg (tcell t').toArray) ∧ TmNew w w' t' ∧ t'.ta = putT t.ta x y s m.topic m.pay m.qos
theorem put_no {t t' : Tm} {x y : Int} {s : Sp} {m : Ms} {w w' : World} (h : putOk x y s m.topic m.qos = false) (HK : Kept [] w w') (TN : TmNew w w' t') (ts : t.same t') : PutPost t x y s m w (.returned (.agg (tcell t').toArray)) w' :=
  ⟨HK, t', rfl, TN, by unfold putT; rw [h]; unfold Tm.ta; rw [ts.1, ts.2.1, ts.2.2.1, ts.2.2.2]; rfl⟩
theorem put0C {t : Ta} {x y : Int} {s : Sp} {tp : ByteArray} {pay : List UInt8} {q : Int} (h : (pay.length : Int) = 0) : putC t x y s tp pay q = ⟨putD t x y, s, tp, pay, 0, true⟩ := by
  have : pay.length = 0 := by omega
  simp [putC, this]
theorem put1C {t : Ta} {x y : Int} {s : Sp} {tp : ByteArray} {pay : List UInt8} {q : Int} (h : ¬ (pay.length : Int) = 0) : putC t x y s tp pay q = ⟨putD t x y, s, tp, pay, q, false⟩ := by
  have : ¬ pay.length = 0 := by omega
  simp [putC, this]
def _root_.Go.Hub.Tm.withC (t : Tm) (l : List Cp) (A : Option Addr) (c : Nat) : Tm := { t with cel := l, cA := A, cc := c }
def insL (l : List Cp) (i : Nat) (p : Cp) : List Cp := l.take i ++ p :: l.drop i
theorem on_ins {t1 : Tm} {l : List Cp} {A' : Option Addr} {c' : Nat} {B : Nat} (hA : ∀ q, A'.map (·.block) = some q → t1.on q ∨ B ≤ q) {q : Nat} (hq : (t1.withC l A' c').on q) : t1.on q ∨ B ≤ q := by
  rcases hq with hq | hq | hq | hq
  · exact .inl (.inl hq)
  · exact .inl (.inr (.inl hq))
  · exact .inl (.inr (.inr (.inl hq)))
  exact hA q hq
def InsT (t1 : Tm) (i : Nat) (p : Cp) (w0 w : World) (e : Ending) (w' : World) : Prop := ∃ (A' : Option Addr) (c' : Nat) (LB : List Nat), Kept LB w w' ∧ (∀ q ∈ LB, t1.on q) ∧ e = .returned (.slice A' (t1.cel.length + 1) c') ∧ TmNew w0 w' (t1.withC (insL t1.cel i p) A' c') ∧ ∀ q, A'.map (·.block) = some q → t1.on q ∨ w.heap.size ≤ q
theorem insL_len {l : List Cp} {i : Nat} {p : Cp} (hi : i ≤ l.length) : (insL l i p).length = l.length + 1 := by
  unfold insL
  simp
  omega
theorem insT_any (t1 : Tm) (i vb : Nat) (p : Cp) (w0 w : World) (TN : TmNew w0 w t1) (BV : Blk w vb 28 (pcell p).toArray) (hi : i ≤ t1.cel.length) (hm : t1.cel.length ≤ 1000000) (hvb : ¬ t1.on vb) (hp : PayOk w p) (hww : w0.heap.size ≤ w.heap.size) :
    Calls Tryd.prog 25 #[.slice t1.cA t1.cel.length t1.cc, .int .i64 i, .slice (some ⟨vb, 0, none⟩) 1 1] w (InsT t1 i p w0 w) := by
  refine Calls.mono (insertC_any t1.cel t1.cA t1.cc i vb p w TN.c.own BV hi hm (fun a ha e => hvb (.inr (.inr (.inr (by rw [ha]; exact congrArg some e)))))) ?_
  rintro e w' ⟨A', c', rfl, OI, k, hw⟩
  have hL : ∀ q ∈ (Value.slice t1.cA t1.cel.length t1.cc).ownBlock.toList, t1.cA.map (·.block) = some q := fun q hq => (own_block _ _ _ q).1 (by simpa using hq)
  have hT : ∀ q ∈ (Value.slice t1.cA t1.cel.length t1.cc).ownBlock.toList, ∃ cs, w.heap[q]? = some (.cells cs 28 (0, 0)) := fun q hq => (TN.c.own.blk q (by simpa using hq)).2
  have h5 : ∀ q ∈ (Value.slice t1.cA t1.cel.length t1.cc).ownBlock.toList, ¬ Typ w q [5] := fun q hq => by
    obtain ⟨cs, hc⟩ := hT q hq
    exact not_typ hc (by decide)
  have hne : ∀ {e size n c : Nat} {A : Option Addr} {xs : List Value}, Fresh w0 w e size A n c xs → e ≠ 28 → ∀ q, A.map (·.block) = some q → q ∉ (Value.slice t1.cA t1.cel.length t1.cc).ownBlock.toList := fun F he q hq hm => by
    obtain ⟨cs, hc⟩ := hT q hm
    exact fr_ne F hc hq he rfl
  refine ⟨A', c', _, k, fun q hq => .inr (.inr (.inr (hL q hq))), rfl, ⟨TN.s.kept k (hne TN.s (by decide)), TN.f.kept k (hne TN.f (by decide)), TN.r.kept k (hne TN.r (by decide)), ⟨?_, fun q hq => ?_⟩, fun x hx => ?_⟩, fun q hq => (hw q hq).imp_left fun h => .inr (.inr (.inr h))⟩
  · show Own w' 28 10 (.slice A' (insL t1.cel i p).length c') (insL t1.cel i p).length (pcells (insL t1.cel i p))
    rw [insL_len hi]
    exact OI
  · rcases hw q hq with h | h
    · exact TN.c.lo q h
    exact Nat.le_trans hww h
  have hx' : x ∈ t1.cel ∨ x = p := by
    unfold Tm.withC insL at hx
    simp at hx
    rcases hx with hx | hx | hx
    · exact .inl (List.mem_of_mem_take hx)
    · exact .inr hx
    exact .inl (List.mem_of_mem_drop hx)
  rcases hx' with hx' | rfl
  · exact (TN.p x hx').keptF k h5
  exact hp.keptF k h5
section
variable {P : Program} {ops : Array Oper} {rest : List Oper} {Q : Exit → Act → World → Prop} {a : Act} {w w0 : World} {n d : Nat} {l : FL} {v : Value} {ty : TypeId} {ps : String} {af : Array Edge} {gd : Option (Nat × Bool)} {x y : Operand} {t : TypeId}
theorem L.storeRF (f : Fr n a l) (hw : Region.wanted ⟨none, .store t x y, ty, ps, af, gd⟩ (yielded ops a.tmps) = true) {s : Nat} (hi : (P.info? t).map (·.size) = some s) {b off o j e size k c : Nat} {A : Option Addr} {xs : List Value} {cs' : Array Value} (hA : A = some ⟨b, off, none⟩) (F : Fresh w0 w e size A k c xs) (ho : o = off + j) (hj : j + s ≤ xs.length) (hx : evl l x = some (.pointer (some ⟨b, o, none⟩)))
    (hl : cs'.size = s) (h1 : cs'.toList.all (·.oneCell') = true) (hy : evl l y = some (.agg cs'))
    (hK : ∀ a' w', Fr n a' l → Fresh w0 w' e size A k c (setSeg xs j cs'.toList) → Kept [b] w w' → wpList P ops Q rest a' w') : wpList P ops Q (⟨none, .store t x y, ty, ps, af, gd⟩ :: rest) a w := by
  subst ho hA hl
  obtain ⟨h2, h3⟩ := F.own.seg (j := j) cs'.toList (by simpa using hj)
  have ht : w.there b (off + j) cs'.size := by
    rcases F.own.2 with ⟨hv, _⟩ | ⟨g', off', cap', cur, hv, hg, hnc, hcm, hcs, hc⟩
    · cases hv
    injection hv with e1 e2 e3
    injection e1 with e1
    injection e1 with e4 e5
    subst e4 e5 e3
    have hx1 := F.own.1
    have hn : k * size ≤ c * size := Nat.mul_le_mul_right _ hnc
    exact Blk.there (show Blk w b e cur from hg) (by omega)
  exact L.act f hw rfl (E.storeR f hi hx hy (by simpa using h1) ht) fun a' f' => hK a' _ f' ⟨h2, F.lo⟩ h3
end
theorem tn_set {w0 w w' : World} {t1 : Tm} {i b off : Nat} {p : Cp} (TN : TmNew w0 w t1) (hi : i < t1.cel.length) (hp : PayOk w p) (hA : t1.cA = some ⟨b, off, none⟩) (ks : Kept [b] w w') (FS : Fresh w0 w' 28 10 t1.cA t1.cel.length t1.cc (setSeg (pcells t1.cel) (i * 10) (pcell p))) :
    TmNew w0 w' (t1.withC (t1.cel.set i p) t1.cA t1.cc) := by
  obtain ⟨hbw, cs, hc⟩ := TN.c.own.blk b ((own_block _ _ _ b).2 (by rw [hA]; rfl))
  have hne : ∀ {e size n c : Nat} {A : Option Addr} {xs : List Value}, Fresh w0 w e size A n c xs → e ≠ 28 → ∀ q, A.map (·.block) = some q → q ∉ [b] := fun F he q hq hm => fr_ne F hc hq he (List.mem_singleton.1 hm)
  refine ⟨TN.s.kept ks (hne TN.s (by decide)), TN.f.kept ks (hne TN.f (by decide)), TN.r.kept ks (hne TN.r (by decide)), ?_, fun x hx => ?_⟩
  · show Fresh w0 w' 28 10 t1.cA (t1.cel.set i p).length t1.cc (pcells (t1.cel.set i p))
    rw [List.length_set]
    have e : setSeg (pcells t1.cel) (i * 10) (pcell p) = pcells (t1.cel.set i p) := flat_seg pcell 10 (fun _ => rfl) (by decide) t1.cel i p hi
    rw [← e]
    exact FS
  rcases List.mem_or_eq_of_mem_set hx with hx | rfl
  · exact (TN.p x hx).kept1 ks hc (by decide)
  exact hp.kept1 ks hc (by decide)
def insAt (l : List Ce) (i : Nat) (b : Bool) (c : Ce) : List Ce := if b then (match l[i]? with | some a => if newerB a c then l else l.set i c | none => l) else l.take i ++ c :: l.drop i
theorem insC_srch : ∀ (l : List Cp) (i : Nat) (b : Bool) (c : Ce), SrchC l c.topic i b → insC (l.map Cp.x) c = insAt (l.map Cp.x) i b c
  | [], i, b, c, h => by
    have hi : i = 0 := by have := h.le; simpa using this
    have hb : b = false := by
      cases hb : b
      · rfl
      obtain ⟨a, ha, _⟩ := h.is.1 hb
      simp at ha
    subst hi hb
    rfl
  | a :: r, 0, b, c, h => by
    have h0 := h.hi 0 a (Nat.le_refl _) rfl
    rw [List.map_cons, insC]
    by_cases e : a.x.topic = c.topic
    · have hb : b = true := h.is.2 ⟨a, rfl, e⟩
      subst hb
      rw [if_pos e]
      simp [insAt]
    have hb : b = false := by
      cases hb : b
      · rfl
      obtain ⟨a', ha, he⟩ := h.is.1 hb
      simp at ha
      subst ha
      exact absurd he e
    subst hb
    rw [if_neg e, if_neg h0]
    simp [insAt]
  | a :: r, k + 1, b, c, h => by
    have h0 := h.lo 0 a (by omega) rfl
    have e : ¬ a.x.topic = c.topic := fun e => by rw [e] at h0; exact ltB_irrefl _ h0
    have hr : SrchC r c.topic k b := ⟨by have := h.le; simp at this; omega, fun j q hj hq => h.lo (j + 1) q (by omega) (by simpa using hq), fun j q hj hq => h.hi (j + 1) q (by omega) (by simpa using hq), by rw [h.is]; simp⟩
    rw [List.map_cons, insC, if_neg e, if_pos h0, insC_srch r k b c hr]
    unfold insAt
    cases b
    · simp
    simp only [if_true, List.getElem?_cons_succ]
    cases hq : (r.map Cp.x)[k]? with
    | none => rfl
    | some q => simp only []; split <;> simp
section
variable {t t1 : Tm} {x y : Int} {s : Sp} {m : Ms} {w w' : World} {i : Nat} {b : Bool} {A' : Option Addr} {c' : Nat}
theorem put_end (hok : putOk x y s m.topic m.qos = true) (hs : SrchC t1.cel m.topic i b)
    (ts : t1.seen = addD t.seen ⟨x, y, topR t.seen x y + 1⟩ ∧ t1.fen = t.fen ∧ t1.rou = t.rou ∧ t1.cel.map Cp.x = t.cel.map Cp.x) (HK : Kept [] w w') {l : List Cp} (TN : TmNew w w' (t1.withC l A' c'))
    (hl : l.map Cp.x = insAt (t1.cel.map Cp.x) i b (putC t.ta x y s m.topic m.pay m.qos)) {vs : List Value} (hv : vs = tcell (t1.withC l A' c')) : PutPost t x y s m w (.returned (.agg vs.toArray)) w' := by
  subst hv
  refine ⟨HK, _, rfl, TN, ?_⟩
  unfold putT
  rw [hok, if_pos rfl]
  have hc : (putC t.ta x y s m.topic m.pay m.qos).topic = m.topic := rfl
  have := insC_srch t1.cel i b (putC t.ta x y s m.topic m.pay m.qos) hs
  show Ta.mk t1.seen t1.fen t1.rou (l.map Cp.x) = Ta.mk (addD t.seen (putD t.ta x y)) t.fen t.rou (insC (t.cel.map Cp.x) (putC t.ta x y s m.topic m.pay m.qos))
  rw [hl, ← this, ts.1, ts.2.1, ts.2.2.1, ts.2.2.2]
  rfl
end
set_option maxRecDepth 100000 in
set_option maxHeartbeats 1000000 in
theorem Put_any (t : Tm) (x y : Int) (s : Sp) (m : Ms) (w : World) (TO : TmOk w t) (TS : TmSm t) (hN : topR t.seen x y ≤ 1000000000) (hAs : Asc t.cel) (G : Glob w) (hmt : m.topic.size ≤ 1000000) (hmp : Sl w m.A m.pay.length 1 (m.pay.map u8)) (hml : m.pay.length ≤ 1000000) : Calls Tryd.prog 9 #[.agg (tcell t).toArray, .int .i64 x, .int .i64 y, .agg (scell s).toArray, .agg (mcell m).toArray] w (PutPost t x y s m w) := by
  have HK : Kept [] w w := Kept.refl [] w
  refine C.enter Tryd.func9 rfl Tryd.ntmps9 rfl ?_
  intro a0 f0
  have f1 : Fr 98 a0 [(0, .agg (tcell t).toArray), (1, .int .i64 x), (2, .int .i64 y), (3, .agg (scell s).toArray), (4, .agg (mcell m).toArray)] := f0
  refine C.sk fun K0 hK0 => ?_
  refine L.box f1 wantedN (by decide) rfl rfl fun a2 w1 g0 N0 f2 => ?_
  have Bg0 := N0.blk
  have kg0 := N0.kept
  have log0 := N0.lo
  have ltg0 := Bg0.lt
  have szw1 := kg0.size
  replace HK := HK.z kg0
  clear f0 N0 kg0
  refine L.box f2 wantedN (by decide) rfl rfl fun a3 w2 g1 N1 f3 => ?_
  have Bg1 := N1.blk
  have kg1 := N1.kept
  have log1 := N1.lo
  have ltg1 := Bg1.lt
  have szw2 := kg1.size
  have neg0_g1 : g0 ≠ g1 := by have := Bg0.lt; omega
  replace HK := HK.z kg1
  replace Bg0 := Bg0.z kg1
  clear f1 a0 N1 kg1
  refine L.box f3 wantedN (by decide) rfl rfl fun a4 w3 g2 N2 f4 => ?_
  have Bg2 := N2.blk
  have kg2 := N2.kept
  have log2 := N2.lo
  have ltg2 := Bg2.lt
  have szw3 := kg2.size
  have neg0_g2 : g0 ≠ g2 := by have := Bg0.lt; omega
  have neg1_g2 : g1 ≠ g2 := by have := Bg1.lt; omega
  replace HK := HK.z kg2
  replace Bg0 := Bg0.z kg2
  replace Bg1 := Bg1.z kg2
  clear f2 a2 N2 kg2
  refine L.alloc f4 wantedN (by decide) (z := (.agg #[(.slice none 0 0), (.slice none 0 0), (.slice none 0 0), (.slice none 0 0)])) (fun _ => by kernel_rfl) rfl fun a5 w4 g3 N3 f5 => ?_
  have Bg3 := N3.blk
  have kg3 := N3.kept
  have log3 := N3.lo
  have ltg3 := Bg3.lt
  have szw4 := kg3.size
  have neg0_g3 : g0 ≠ g3 := by have := Bg0.lt; omega
  have neg1_g3 : g1 ≠ g3 := by have := Bg1.lt; omega
  have neg2_g3 : g2 ≠ g3 := by have := Bg2.lt; omega
  replace HK := HK.z kg3
  replace Bg0 := Bg0.z kg3
  replace Bg1 := Bg1.z kg3
  replace Bg2 := Bg2.z kg3
  clear f3 a3 N3 kg3
  refine wpList_nil (hK0 _ _ ?_)
  have f6 := f5.sub (sub_cons (i := 1) rfl (sub_cons (i := 2) rfl (sub_cons (i := 5) rfl (sub_cons (i := 8) rfl (sub_cons (i := 9) rfl (sub_cons (i := 10) rfl sn))))))
  refine wp_seq_k fun K1 hK1 => ?_
  refine C.sk fun K2 hK2 => ?_
  refine L.val f6 wantedN rfl (by decide) (E.fieldAddrN 0 f6 Tryd.underlying40 rfl rfl rfl wsz9_cg) fun a7 f7 => ?_
  refine L.val f7 wantedN rfl (by decide) (E.load f7 U9 rfl rfl ((Bg2).cl rfl)) fun a8 f8 => ?_
  refine L.call f8 wantedN rfl (by decide) (run_call Tryd.call18 (args1 f8 rfl)) (name_any m.topic w4 (G.kept HK) hmt) ?_
  clear f4 a4 f5 f6 a5 f7 a7
  rintro e w5 ⟨kc5, rfl⟩
  refine ⟨_, rfl, fun a9 f9 => ?_⟩
  have szw5 := kc5.size
  replace HK := HK.z kc5
  replace Bg0 := Bg0.z kc5
  replace Bg1 := Bg1.z kc5
  replace Bg2 := Bg2.z kc5
  replace Bg3 := Bg3.z kc5
  clear f8 a8 kc5
  refine L.val f9 wantedN rfl (by decide) (E.not f9 rfl) fun a10 f10 => ?_
  refine L.val f10 wantedN rfl (by decide) (E.move f10 rfl) fun a11 f11 => ?_
  clear f9 a9 f10 a10
  refine f11.splitNB 19 rfl (fun h0 f12 => ?_) (fun h0 f12 => ?_)
  · have h19 := h0
    refine L.run f12 (rest' := []) (by kernel_rfl) fun a13 f13 => ?_
    clear f11
    refine wpList_nil (hK2 _ _ ?_)
    have f14 := f13.sub (scR f13 1 (scR f13 2 (scR f13 5 (scR f13 8 (scR f13 9 (scR f13 10 (sv 39 (.bool true) sn)))))))
    refine C.condT f14 rfl ?_
    refine C.sk fun K3 hK3 => ?_
    refine L.val f14 wantedN rfl (by decide) (E.loadB f14 U37 rfl wsz37_cg rfl (Bg0) rfl) fun a15 f15 => ?_
    refine L.call f15 wantedN rfl (by decide) (run_call Tryd.call21 (args1 f15 rfl)) (Copy_any t w5 (TO.kept HK) TS) ?_
    clear f13 f12 f14 a13
    rintro e w6 ⟨kc6, t1, rfl, TN, ts⟩
    have hon : ∀ q, t1.on q → q ≠ g0 ∧ q ≠ g1 ∧ q ≠ g2 ∧ q ≠ g3 := fun q hq => by have := TN.lo q hq; omega
    have TN := TN.lower (w1 := w) (by have := HK.size; omega)
    refine ⟨_, rfl, fun a16 f16 => ?_⟩
    have szw6 := kc6.size
    replace HK := HK.z kc6
    replace Bg0 := Bg0.z kc6
    replace Bg1 := Bg1.z kc6
    replace Bg2 := Bg2.z kc6
    replace Bg3 := Bg3.z kc6
    clear f15 a15 kc6
    refine L.storeR f16 wantedN wsz37_cg rfl rfl rfl Bg3 rfl rfl fun a17 w7 f17 NB7 ks7 => ?_
    have szw7 := ks7.size
    replace HK := HK.trans ks7 (by intro x hx hlt; simp at hx; omega)
    replace Bg0 := Bg0.kept ks7 (by simp; omega)
    replace Bg1 := Bg1.kept ks7 (by simp; omega)
    replace Bg2 := Bg2.kept ks7 (by simp; omega)
    replace TN := TN.keptO ks7 (fun q hq => by have h1 := hon q hq; (try have h2 := hob q hq); (try have h3 := hgon q hq); simp only [List.mem_singleton]; omega) (fun k hk => by obtain rfl := List.mem_singleton.1 hk; exact not_typ Bg3 (by decide))
    replace Bg3 := NB7
    clear ks7 f16 a16
    have f18 := f17.sub (sub_cons (i := 1) rfl (sub_cons (i := 2) rfl (sub_cons (i := 5) rfl (sub_cons (i := 8) rfl (sub_cons (i := 9) rfl (sub_cons (i := 10) rfl sn))))))
    refine wpList_nil (hK3 _ _ (wp_ret ?_)); (try simp only [xt, xb]); refine C.retC f18 rfl rfl Bg3 U37 rfl wsz37_cg ?_
    exact put_no (by simp [putOk, *]) HK TN ts
  have h19 := h0
  refine L.val f12 (f12.yes rfl rfl) rfl (by decide) (E.fieldAddrN 2 f12 Tryd.underlying40 rfl rfl rfl wsz3_cg) fun a13 f13 => ?_
  refine L.val f13 (f13.yes rfl rfl) rfl (by decide) (E.load f13 U3 rfl rfl ((Bg2).cl rfl)) fun a14 f14 => ?_
  refine L.val f14 (f14.yes rfl rfl) rfl (by decide) (E.lss f14 rfl rfl) fun a15 f15 => ?_
  refine L.val f15 wantedN rfl (by decide) (E.pickF f15 rfl rfl) fun a16 f16 => ?_
  refine L.val f16 wantedN rfl (by decide) (E.move f16 rfl) fun a17 f17 => ?_
  clear f11 f12 a11 f13 a13 f14 a14 f15 a15 f16 a16
  refine f17.splitD 24 rfl (fun h1 f18 => ?_) (fun h1 f18 => ?_)
  · have h24 := h1
    refine L.run f18 (rest' := []) (by kernel_rfl) fun a19 f19 => ?_
    clear f17
    refine wpList_nil (hK2 _ _ ?_)
    have f20 := f19.sub (scR f19 1 (scR f19 2 (scR f19 5 (scR f19 8 (scR f19 9 (scR f19 10 (sv 39 (.bool true) sn)))))))
    refine C.condT f20 rfl ?_
    refine C.sk fun K4 hK4 => ?_
    refine L.val f20 wantedN rfl (by decide) (E.loadB f20 U37 rfl wsz37_cg rfl (Bg0) rfl) fun a21 f21 => ?_
    refine L.call f21 wantedN rfl (by decide) (run_call Tryd.call21 (args1 f21 rfl)) (Copy_any t w5 (TO.kept HK) TS) ?_
    clear f19 f18 f20 a19
    rintro e w6 ⟨kc6, t1, rfl, TN, ts⟩
    have hon : ∀ q, t1.on q → q ≠ g0 ∧ q ≠ g1 ∧ q ≠ g2 ∧ q ≠ g3 := fun q hq => by have := TN.lo q hq; omega
    have TN := TN.lower (w1 := w) (by have := HK.size; omega)
    refine ⟨_, rfl, fun a22 f22 => ?_⟩
    have szw6 := kc6.size
    replace HK := HK.z kc6
    replace Bg0 := Bg0.z kc6
    replace Bg1 := Bg1.z kc6
    replace Bg2 := Bg2.z kc6
    replace Bg3 := Bg3.z kc6
    clear f21 a21 kc6
    refine L.storeR f22 wantedN wsz37_cg rfl rfl rfl Bg3 rfl rfl fun a23 w7 f23 NB7 ks7 => ?_
    have szw7 := ks7.size
    replace HK := HK.trans ks7 (by intro x hx hlt; simp at hx; omega)
    replace Bg0 := Bg0.kept ks7 (by simp; omega)
    replace Bg1 := Bg1.kept ks7 (by simp; omega)
    replace Bg2 := Bg2.kept ks7 (by simp; omega)
    replace TN := TN.keptO ks7 (fun q hq => by have h1 := hon q hq; (try have h2 := hob q hq); (try have h3 := hgon q hq); simp only [List.mem_singleton]; omega) (fun k hk => by obtain rfl := List.mem_singleton.1 hk; exact not_typ Bg3 (by decide))
    replace Bg3 := NB7
    clear ks7 f22 a22
    have f24 := f23.sub (sub_cons (i := 1) rfl (sub_cons (i := 2) rfl (sub_cons (i := 5) rfl (sub_cons (i := 8) rfl (sub_cons (i := 9) rfl (sub_cons (i := 10) rfl sn))))))
    refine wpList_nil (hK4 _ _ (wp_ret ?_)); (try simp only [xt, xb]); refine C.retC f24 rfl rfl Bg3 U37 rfl wsz37_cg ?_
    exact put_no (by simp [putOk, *]) HK TN ts
  have h24 := h1
  refine L.val f18 (f18.yes rfl rfl) rfl (by decide) (E.fieldAddrN 2 f18 Tryd.underlying40 rfl rfl rfl wsz3_cg) fun a19 f19 => ?_
  refine L.val f19 (f19.yes rfl rfl) rfl (by decide) (E.load f19 U3 rfl rfl ((Bg2).cl rfl)) fun a20 f20 => ?_
  refine L.val f20 (f20.yes rfl rfl) rfl (by decide) (E.gtr f20 rfl rfl) fun a21 f21 => ?_
  refine L.val f21 wantedN rfl (by decide) (E.pickF f21 rfl rfl) fun a22 f22 => ?_
  refine L.val f22 wantedN rfl (by decide) (E.move f22 rfl) fun a23 f23 => ?_
  clear f17 f18 a17 f19 a19 f20 a20 f21 a21 f22 a22
  refine f23.splitD 29 rfl (fun h2 f24 => ?_) (fun h2 f24 => ?_)
  · have h29 := h2
    refine L.run f24 (rest' := []) (by kernel_rfl) fun a25 f25 => ?_
    clear f23
    refine wpList_nil (hK2 _ _ ?_)
    have f26 := f25.sub (scR f25 1 (scR f25 2 (scR f25 5 (scR f25 8 (scR f25 9 (scR f25 10 (sv 39 (.bool true) sn)))))))
    refine C.condT f26 rfl ?_
    refine C.sk fun K5 hK5 => ?_
    refine L.val f26 wantedN rfl (by decide) (E.loadB f26 U37 rfl wsz37_cg rfl (Bg0) rfl) fun a27 f27 => ?_
    refine L.call f27 wantedN rfl (by decide) (run_call Tryd.call21 (args1 f27 rfl)) (Copy_any t w5 (TO.kept HK) TS) ?_
    clear f25 f24 f26 a25
    rintro e w6 ⟨kc6, t1, rfl, TN, ts⟩
    have hon : ∀ q, t1.on q → q ≠ g0 ∧ q ≠ g1 ∧ q ≠ g2 ∧ q ≠ g3 := fun q hq => by have := TN.lo q hq; omega
    have TN := TN.lower (w1 := w) (by have := HK.size; omega)
    refine ⟨_, rfl, fun a28 f28 => ?_⟩
    have szw6 := kc6.size
    replace HK := HK.z kc6
    replace Bg0 := Bg0.z kc6
    replace Bg1 := Bg1.z kc6
    replace Bg2 := Bg2.z kc6
    replace Bg3 := Bg3.z kc6
    clear f27 a27 kc6
    refine L.storeR f28 wantedN wsz37_cg rfl rfl rfl Bg3 rfl rfl fun a29 w7 f29 NB7 ks7 => ?_
    have szw7 := ks7.size
    replace HK := HK.trans ks7 (by intro x hx hlt; simp at hx; omega)
    replace Bg0 := Bg0.kept ks7 (by simp; omega)
    replace Bg1 := Bg1.kept ks7 (by simp; omega)
    replace Bg2 := Bg2.kept ks7 (by simp; omega)
    replace TN := TN.keptO ks7 (fun q hq => by have h1 := hon q hq; (try have h2 := hob q hq); (try have h3 := hgon q hq); simp only [List.mem_singleton]; omega) (fun k hk => by obtain rfl := List.mem_singleton.1 hk; exact not_typ Bg3 (by decide))
    replace Bg3 := NB7
    clear ks7 f28 a28
    have f30 := f29.sub (sub_cons (i := 1) rfl (sub_cons (i := 2) rfl (sub_cons (i := 5) rfl (sub_cons (i := 8) rfl (sub_cons (i := 9) rfl (sub_cons (i := 10) rfl sn))))))
    refine wpList_nil (hK5 _ _ (wp_ret ?_)); (try simp only [xt, xb]); refine C.retC f30 rfl rfl Bg3 U37 rfl wsz37_cg ?_
    exact put_no (by simp [putOk, *]) HK TN ts
  have h29 := h2
  refine L.val f24 (f24.yes rfl rfl) rfl (by decide) (E.move f24 rfl) fun a25 f25 => ?_
  refine L.val f25 (f25.yes rfl rfl) rfl (by decide) (E.move f25 rfl) fun a26 f26 => ?_
  refine L.call f26 (f26.yes rfl rfl) rfl (by decide) (run_call Tryd.call19 (args2 f26 rfl rfl)) (Pair_any x y _) ?_
  clear f23 f24 a23 f25 a25
  rintro e w5x ⟨rfl, rfl⟩
  refine ⟨_, rfl, fun a27 f27 => ?_⟩
  refine L.val f27 (f27.yes rfl rfl) rfl (by decide) (E.not f27 rfl) fun a28 f28 => ?_
  refine L.val f28 wantedN rfl (by decide) (E.pickF f28 rfl rfl) fun a29 f29 => ?_
  refine L.val f29 wantedN rfl (by decide) (E.move f29 rfl) fun a30 f30 => ?_
  clear f26 a26 f27 a27 f28 a28 f29 a29
  refine f30.splitNB 35 rfl (fun h3 f31 => ?_) (fun h3 f31 => ?_)
  · have h35 := h3
    refine L.run f31 (rest' := []) (by kernel_rfl) fun a32 f32 => ?_
    clear f30
    refine wpList_nil (hK2 _ _ ?_)
    have f33 := f32.sub (scR f32 1 (scR f32 2 (scR f32 5 (scR f32 8 (scR f32 9 (scR f32 10 (sv 39 (.bool true) sn)))))))
    refine C.condT f33 rfl ?_
    refine C.sk fun K6 hK6 => ?_
    refine L.val f33 wantedN rfl (by decide) (E.loadB f33 U37 rfl wsz37_cg rfl (Bg0) rfl) fun a34 f34 => ?_
    refine L.call f34 wantedN rfl (by decide) (run_call Tryd.call21 (args1 f34 rfl)) (Copy_any t w5 (TO.kept HK) TS) ?_
    clear f32 f31 f33 a32
    rintro e w6 ⟨kc6, t1, rfl, TN, ts⟩
    have hon : ∀ q, t1.on q → q ≠ g0 ∧ q ≠ g1 ∧ q ≠ g2 ∧ q ≠ g3 := fun q hq => by have := TN.lo q hq; omega
    have TN := TN.lower (w1 := w) (by have := HK.size; omega)
    refine ⟨_, rfl, fun a35 f35 => ?_⟩
    have szw6 := kc6.size
    replace HK := HK.z kc6
    replace Bg0 := Bg0.z kc6
    replace Bg1 := Bg1.z kc6
    replace Bg2 := Bg2.z kc6
    replace Bg3 := Bg3.z kc6
    clear f34 a34 kc6
    refine L.storeR f35 wantedN wsz37_cg rfl rfl rfl Bg3 rfl rfl fun a36 w7 f36 NB7 ks7 => ?_
    have szw7 := ks7.size
    replace HK := HK.trans ks7 (by intro x hx hlt; simp at hx; omega)
    replace Bg0 := Bg0.kept ks7 (by simp; omega)
    replace Bg1 := Bg1.kept ks7 (by simp; omega)
    replace Bg2 := Bg2.kept ks7 (by simp; omega)
    replace TN := TN.keptO ks7 (fun q hq => by have h1 := hon q hq; (try have h2 := hob q hq); (try have h3 := hgon q hq); simp only [List.mem_singleton]; omega) (fun k hk => by obtain rfl := List.mem_singleton.1 hk; exact not_typ Bg3 (by decide))
    replace Bg3 := NB7
    clear ks7 f35 a35
    have f37 := f36.sub (sub_cons (i := 1) rfl (sub_cons (i := 2) rfl (sub_cons (i := 5) rfl (sub_cons (i := 8) rfl (sub_cons (i := 9) rfl (sub_cons (i := 10) rfl sn))))))
    refine wpList_nil (hK6 _ _ (wp_ret ?_)); (try simp only [xt, xb]); refine C.retC f37 rfl rfl Bg3 U37 rfl wsz37_cg ?_
    exact put_no (by simp [putOk, *]) HK TN ts
  have h35 := h3
  refine L.val f31 (f31.yes rfl rfl) rfl (by decide) (E.loadB f31 U25 rfl wsz25_cg rfl (Bg1) rfl) fun a32 f32 => ?_
  refine L.call f32 (f32.yes rfl rfl) rfl (by decide) (run_call Tryd.call20 (args1 f32 rfl)) (stamped_any s _) ?_
  clear f30 f31 a30
  rintro e w6 ⟨kc6, rfl⟩
  refine ⟨_, rfl, fun a33 f33 => ?_⟩
  have szw6 := kc6.size
  replace HK := HK.z kc6
  replace Bg0 := Bg0.z kc6
  replace Bg1 := Bg1.z kc6
  replace Bg2 := Bg2.z kc6
  replace Bg3 := Bg3.z kc6
  clear f32 a32 kc6
  refine L.val f33 (f33.yes rfl rfl) rfl (by decide) (E.not f33 rfl) fun a34 f34 => ?_
  refine L.val f34 wantedN rfl (by decide) (E.pickF f34 rfl rfl) fun a35 f35 => ?_
  refine wpList_nil (hK2 _ _ ?_)
  have f36 := f35.sub (sub_cons (i := 1) rfl (sub_cons (i := 2) rfl (sub_cons (i := 5) rfl (sub_cons (i := 8) rfl (sub_cons (i := 9) rfl (sub_cons (i := 10) rfl (sub_cons (i := 39) rfl sn)))))))
  clear f33 a33 f34 a34 f35
  refine f36.splitNB 39 rfl (fun h4 f37 => ?_) (fun h4 f37 => ?_)
  · have h39 := h4
    refine C.condT f37 rfl ?_
    refine C.sk fun K7 hK7 => ?_
    refine L.val f37 wantedN rfl (by decide) (E.loadB f37 U37 rfl wsz37_cg rfl (Bg0) rfl) fun a38 f38 => ?_
    refine L.call f38 wantedN rfl (by decide) (run_call Tryd.call21 (args1 f38 rfl)) (Copy_any t w6 (TO.kept HK) TS) ?_
    clear f36 f37 a35
    rintro e w7 ⟨kc7, t1, rfl, TN, ts⟩
    have hon : ∀ q, t1.on q → q ≠ g0 ∧ q ≠ g1 ∧ q ≠ g2 ∧ q ≠ g3 := fun q hq => by have := TN.lo q hq; omega
    have TN := TN.lower (w1 := w) (by have := HK.size; omega)
    refine ⟨_, rfl, fun a39 f39 => ?_⟩
    have szw7 := kc7.size
    replace HK := HK.z kc7
    replace Bg0 := Bg0.z kc7
    replace Bg1 := Bg1.z kc7
    replace Bg2 := Bg2.z kc7
    replace Bg3 := Bg3.z kc7
    clear f38 a38 kc7
    refine L.storeR f39 wantedN wsz37_cg rfl rfl rfl Bg3 rfl rfl fun a40 w8 f40 NB8 ks8 => ?_
    have szw8 := ks8.size
    replace HK := HK.trans ks8 (by intro x hx hlt; simp at hx; omega)
    replace Bg0 := Bg0.kept ks8 (by simp; omega)
    replace Bg1 := Bg1.kept ks8 (by simp; omega)
    replace Bg2 := Bg2.kept ks8 (by simp; omega)
    replace TN := TN.keptO ks8 (fun q hq => by have h1 := hon q hq; (try have h2 := hob q hq); (try have h3 := hgon q hq); simp only [List.mem_singleton]; omega) (fun k hk => by obtain rfl := List.mem_singleton.1 hk; exact not_typ Bg3 (by decide))
    replace Bg3 := NB8
    clear ks8 f39 a39
    have f41 := f40.sub (sub_cons (i := 1) rfl (sub_cons (i := 2) rfl (sub_cons (i := 5) rfl (sub_cons (i := 8) rfl (sub_cons (i := 9) rfl (sub_cons (i := 10) rfl sn))))))
    refine wpList_nil (hK7 _ _ (wp_ret ?_)); (try simp only [xt, xb]); refine C.retC f41 rfl rfl Bg3 U37 rfl wsz37_cg ?_
    exact put_no (by simp [putOk, *]) HK TN ts
  have h39 := h4
  refine C.condF f37 rfl ?_
  refine wp_skip (hK1 _ _ ?_)
  have f38 := f37.sub (sub_cons (i := 1) rfl (sub_cons (i := 2) rfl (sub_cons (i := 5) rfl (sub_cons (i := 8) rfl (sub_cons (i := 9) rfl (sub_cons (i := 10) rfl sn))))))
  refine C.sk fun K8 hK8 => ?_
  refine L.val f38 wantedN rfl (by decide) (E.loadB f38 U37 rfl wsz37_cg rfl (Bg0) rfl) fun a39 f39 => ?_
  refine L.val f39 wantedN rfl (by decide) (E.move f39 rfl) fun a40 f40 => ?_
  refine L.val f40 wantedN rfl (by decide) (E.move f40 rfl) fun a41 f41 => ?_
  refine L.call f41 wantedN rfl (by decide) (run_call Tryd.call22 (args3 f41 rfl rfl rfl)) (Next_any t x y w6 (TO.kept HK) TS hN) ?_
  clear f36 f37 f38 a35 f39 a39 f40 a40
  rintro e w7 ⟨kc7, t1, rfl, TN, ts⟩
  have hon : ∀ q, t1.on q → q ≠ g0 ∧ q ≠ g1 ∧ q ≠ g2 ∧ q ≠ g3 := fun q hq => by have := TN.lo q hq; omega
  have TN := TN.lower (w1 := w) (by have := HK.size; omega)
  have honw : ∀ q, t1.on q → w.heap.size ≤ q := TN.lo
  have hob : ∀ q, t1.on q → q < w7.heap.size := TN.hi
  refine ⟨_, rfl, fun a42 f42 => ?_⟩
  have szw7 := kc7.size
  replace HK := HK.z kc7
  replace Bg0 := Bg0.z kc7
  replace Bg1 := Bg1.z kc7
  replace Bg2 := Bg2.z kc7
  replace Bg3 := Bg3.z kc7
  clear f41 a41 kc7
  refine L.val f42 wantedN rfl (by decide) (E.move f42 rfl) fun a43 f43 => ?_
  refine L.val f43 wantedN rfl (by decide) (E.extract f43 rfl rfl) fun a44 f44 => ?_
  refine L.val f44 wantedN rfl (by decide) (E.extract f44 rfl rfl) fun a45 f45 => ?_
  refine L.alloc f45 wantedN (by decide) (z := (.agg #[(.int .i64 0), (.int .i64 0), (.int .i64 0)])) (fun _ => by kernel_rfl) rfl fun a46 w8 g7 N7 f46 => ?_
  have Bg7 := N7.blk
  have kg7 := N7.kept
  have log7 := N7.lo
  have ltg7 := Bg7.lt
  have szw8 := kg7.size
  have neg0_g7 : g0 ≠ g7 := by have := Bg0.lt; omega
  have neg1_g7 : g1 ≠ g7 := by have := Bg1.lt; omega
  have neg2_g7 : g2 ≠ g7 := by have := Bg2.lt; omega
  have neg3_g7 : g3 ≠ g7 := by have := Bg3.lt; omega
  replace HK := HK.z kg7
  replace Bg0 := Bg0.z kg7
  replace Bg1 := Bg1.z kg7
  replace Bg2 := Bg2.z kg7
  replace Bg3 := Bg3.z kg7
  replace TN := TN.kept kg7
  clear f42 a42 f43 a43 f44 a44 N7 kg7
  refine L.storeR f46 wantedN wsz37_cg rfl rfl rfl Bg0 rfl rfl fun a47 w9 f47 NB9 ks9 => ?_
  have szw9 := ks9.size
  replace HK := HK.trans ks9 (by intro x hx hlt; simp at hx; omega)
  replace Bg1 := Bg1.kept ks9 (by simp; omega)
  replace Bg2 := Bg2.kept ks9 (by simp; omega)
  replace Bg3 := Bg3.kept ks9 (by simp; omega)
  replace TN := TN.keptO ks9 (fun q hq => by have h1 := hon q hq; (try have h2 := hob q hq); (try have h3 := hgon q hq); simp only [List.mem_singleton]; omega) (fun k hk => by obtain rfl := List.mem_singleton.1 hk; exact not_typ Bg0 (by decide))
  replace Bg7 := Bg7.kept ks9 (by simp; omega)
  replace Bg0 := NB9
  clear f45 a45 ks9 f46 a46
  refine L.storeR f47 wantedN wsz23_cg rfl rfl rfl Bg7 rfl rfl fun a48 w10 f48 NB10 ks10 => ?_
  have szw10 := ks10.size
  replace HK := HK.trans ks10 (by intro x hx hlt; simp at hx; omega)
  replace Bg1 := Bg1.kept ks10 (by simp; omega)
  replace Bg2 := Bg2.kept ks10 (by simp; omega)
  replace Bg3 := Bg3.kept ks10 (by simp; omega)
  replace TN := TN.keptO ks10 (fun q hq => by have h1 := hon q hq; (try have h2 := hob q hq); (try have h3 := hgon q hq); simp only [List.mem_singleton]; omega) (fun k hk => by obtain rfl := List.mem_singleton.1 hk; exact not_typ Bg7 (by decide))
  replace Bg0 := Bg0.kept ks10 (by simp; omega)
  replace Bg7 := NB10
  clear ks10 f47 a47
  refine wpList_nil (hK8 _ _ ?_)
  have f49 := f48.sub (sub_cons (i := 5) rfl (sub_cons (i := 8) rfl (sub_cons (i := 9) rfl (sub_cons (i := 10) rfl (sub_cons (i := 11) rfl sn)))))
  obtain ⟨J5, hJ5⟩ : ∃ J : Act → World → Prop, J = fun a W => ∃ (gx : Nat) (Ab : Option Addr) (cb : Nat), Kept [] w W ∧ TmNew w W t1 ∧ PayOk W ⟨⟨putD t.ta x y, s, m.topic, m.pay, m.qos, false⟩, Ab, cb⟩ ∧ (w.heap.size ≤ gx ∧ gx ≠ g0 ∧ gx ≠ g2 ∧ gx ≠ g3 ∧ ∀ q, t1.on q → q ≠ gx) ∧ Blk W g0 37 (tcell t1).toArray ∧ Blk W g2 40 (mcell m).toArray ∧ Blk W g3 37 #[.slice none 0 0, .slice none 0 0, .slice none 0 0, .slice none 0 0] ∧ Blk W gx 28 (pcell ⟨⟨putD t.ta x y, s, m.topic, m.pay, m.qos, false⟩, Ab, cb⟩).toArray ∧ Fr 98 a [(5, .pointer (some ⟨g0, 0, none⟩)), (9, .pointer (some ⟨g2, 0, none⟩)), (10, .pointer (some ⟨g3, 0, none⟩)), (12, .pointer (some ⟨gx, 0, none⟩))] := ⟨_, rfl⟩
  clear f48
  refine C.cut J5 ?_ ?_
  · skip
    refine R.begin (S := fun W => Kept [] w10 W) (by kernel_rfl) (by exact (Kept.refl _ _).drewN 1) ?_
    have hS4 : Kept [] w10 (w10.drewN 1) := (Kept.refl _ _).drewN 1
    have hd4 : Kept [] w10 (w10.drewN 1) := (Kept.refl _ _).drewN 1
    obtain ⟨w11, hww11⟩ : ∃ W, W = w10.drewN 1 := ⟨_, rfl⟩
    rw [← hww11] at hS4 hd4 ⊢
    clear hww11
    have szw11 := hS4.size
    refine R.take 0 f49 rfl rfl (by decide) (by kernel_rfl) (by kernel_rfl) (by kernel_rfl) (fun _ _ _ _ h => h) wantedN hS4 (fun W hW => (E.loadB f49 U23 rfl wsz23_cg rfl (Bg7.z hW) rfl)) fun a50 f50 => ?_
    refine R.take 1 f50 rfl rfl (by decide) (by kernel_rfl) (by kernel_rfl) (by kernel_rfl) (fun _ _ _ _ h => h) wantedN hS4 (fun W hW => (E.loadB f50 U25 rfl wsz25_cg rfl (Bg1.z hW) rfl)) fun a51 f51 => ?_
    refine R.take 2 f51 rfl rfl (by decide) (by kernel_rfl) (by kernel_rfl) (by kernel_rfl) (fun _ _ _ _ h => h) wantedN hS4 (fun W hW => (E.fieldAddrN 0 f51 Tryd.underlying40 rfl rfl rfl wsz9_cg)) fun a52 f52 => ?_
    refine R.take 3 f52 rfl rfl (by decide) (by kernel_rfl) (by kernel_rfl) (by kernel_rfl) (fun _ _ _ _ h => h) wantedN hS4 (fun W hW => (E.load f52 U9 rfl rfl ((Bg2.z hW).cl rfl))) fun a53 f53 => ?_
    refine R.take 4 f53 rfl rfl (by decide) (by kernel_rfl) (by kernel_rfl) (by kernel_rfl) (fun _ _ _ _ h => h) wantedN hS4 (fun W hW => (E.fieldAddrN 1 f53 Tryd.underlying40 rfl rfl rfl wsz26_cg)) fun a54 f54 => ?_
    refine R.take 5 f54 rfl rfl (by decide) (by kernel_rfl) (by kernel_rfl) (by kernel_rfl) (fun _ _ _ _ h => h) wantedN hS4 (fun W hW => (E.load f54 U26 rfl rfl ((Bg2.z hW).cl rfl))) fun a55 f55 => ?_
    refine R.take 7 f55 rfl rfl (by decide) (by kernel_rfl) (by kernel_rfl) (by kernel_rfl) (fun _ _ _ _ h => h) wantedN hS4 (fun W hW => (E.fieldAddrN 2 f55 Tryd.underlying40 rfl rfl rfl wsz3_cg)) fun a56 f56 => ?_
    clear f49 a48 f50 a50 f51 a51 f52 a52 f53 a53 f54 a54 f55 a55
    refine R.take 8 f56 rfl rfl (by decide) (by kernel_rfl) (by kernel_rfl) (by kernel_rfl) (fun _ _ _ _ h => h) wantedN hS4 (fun W hW => (E.load f56 U3 rfl rfl ((Bg2.z hW).cl rfl))) fun a57 f57 => ?_
    clear f56 a56
    refine R.two 6 10 (by kernel_rfl) ?_ ?_
    · skip
      refine O.call f57 rfl rfl (by decide) wantedN (run_call Tryd.call23 (args1 f57 rfl)) (cloneB_any m.pay _ _ _ ((hmp.kept HK).kept hS4) hml) ?_
      rintro e w12 ⟨kc12, Ab, cb, rfl, FB⟩
      replace hS4 := hS4.trans kc12 (by simp)
      refine ⟨_, rfl, hS4, fun a58 f58 => ?_⟩
      have szw12 := kc12.size
      clear f57 a57 kc12
      refine R.take 9 f58 rfl rfl (by decide) (by kernel_rfl) (by kernel_rfl) (by kernel_rfl) (fun _ _ _ _ h => h) wantedN hS4 (fun W hW => (E.build f58 (parts5 f58 rfl rfl rfl rfl rfl) (wbl28_0_1_2_3_4_cg _ _ _ _ _ _ _ _ _ _ _))) fun a59 f59 => ?_
      refine R.one 10 (by kernel_rfl) ?_
      refine O.alloc f59 rfl wantedN (by decide) (z := (.agg #[(.int .i64 0), (.int .i64 0), (.int .i64 0), (.int .i64 0), (.int .i64 0), (.int .i64 0), (.string ⟨#[]⟩), (.slice none 0 0), (.int .i64 0), (.bool false)])) (fun _ => by kernel_rfl) rfl (fun _ hk => hS4.trans hk (by simp)) fun a60 w13 g12 N12 hSn f60 => ?_
      have Bg12 := N12.blk
      have kg12 := N12.kept
      have log12 := N12.lo
      have ltg12 := Bg12.lt
      have szw13 := kg12.size
      have szSw13 := hS4.size
      replace FB := (by exact FB.kept0 kg12)
      clear f58 a58 f59 a59 N12 kg12
      replace hS4 := hSn
      clear hSn
      refine R.storeR 11 f60 rfl (by kernel_rfl) wantedN wsz28_cg rfl rfl rfl Bg12 rfl rfl (fun _ hW => hS4.trans hW (by (intro x hx hlt; simp at hx; omega))) fun a61 w14 f61 NB14 ks14 hSn => ?_
      have szw14 := ks14.size
      replace FB := (by (exact FB.kept ks14 (fun q hq => by simp only [List.mem_singleton]; exact fr_neB FB (by assumption) hq (by decide))))
      replace Bg12 := NB14
      replace hS4 := hSn
      clear f60 a60 hSn ks14
      have szw14r := hS4.size
      replace HK := HK.z hS4
      replace Bg1 := Bg1.z hS4
      replace Bg2 := Bg2.z hS4
      replace Bg3 := Bg3.z hS4
      replace TN := TN.kept hS4
      replace Bg0 := Bg0.z hS4
      replace Bg7 := Bg7.z hS4
      clear hS4
      exact R.done (by kernel_rfl) (jn J5 (by rw [hJ5]; exact ⟨g12, Ab, cb, HK, TN, Fresh.pay FB rfl, ⟨by omega, by omega, by omega, by omega, fun q hq => by have := hob q hq; omega⟩, Bg0, Bg2, Bg3, Bg12, f61.sub (sx (sx (sx (sx sn))))⟩))
    skip
    refine O.alloc f57 rfl wantedN (by decide) (z := (.agg #[(.int .i64 0), (.int .i64 0), (.int .i64 0), (.int .i64 0), (.int .i64 0), (.int .i64 0), (.string ⟨#[]⟩), (.slice none 0 0), (.int .i64 0), (.bool false)])) (fun _ => by kernel_rfl) rfl (fun _ hk => hS4.trans hk (by simp)) fun a58 w12 g11 N11 hSn f58 => ?_
    have Bg11 := N11.blk
    have kg11 := N11.kept
    have log11 := N11.lo
    have ltg11 := Bg11.lt
    have szw12 := kg11.size
    have szSw12 := hS4.size
    clear f57 a57 N11 kg11
    replace hS4 := hSn
    clear hSn
    refine R.call 6 f58 rfl rfl (by decide) (by kernel_rfl) wantedN (run_call Tryd.call23 (args1 f58 rfl)) (cloneB_any m.pay _ _ _ ((hmp.kept HK).kept hS4) hml) ?_
    rintro e w13 ⟨kc13, Ab, cb, rfl, FB⟩
    replace hS4 := hS4.trans kc13 (by simp)
    refine ⟨_, rfl, hS4, fun a59 f59 => ?_⟩
    have szw13 := kc13.size
    replace Bg11 := Bg11.z kc13
    clear f58 a58 kc13
    refine R.take 9 f59 rfl rfl (by decide) (by kernel_rfl) (by kernel_rfl) (by kernel_rfl) (fun _ _ _ _ h => h) wantedN hS4 (fun W hW => (E.build f59 (parts5 f59 rfl rfl rfl rfl rfl) (wbl28_0_1_2_3_4_cg _ _ _ _ _ _ _ _ _ _ _))) fun a60 f60 => ?_
    refine R.storeR 11 f60 rfl (by kernel_rfl) wantedN wsz28_cg rfl rfl rfl Bg11 rfl rfl (fun _ hW => hS4.trans hW (by (intro x hx hlt; simp at hx; omega))) fun a61 w14 f61 NB14 ks14 hSn => ?_
    have szw14 := ks14.size
    replace FB := (by (exact FB.kept ks14 (fun q hq => by simp only [List.mem_singleton]; exact fr_neB FB (by assumption) hq (by decide))))
    replace Bg11 := NB14
    replace hS4 := hSn
    clear f59 a59 f60 a60 hSn ks14
    have szw14r := hS4.size
    replace HK := HK.z hS4
    replace Bg1 := Bg1.z hS4
    replace Bg2 := Bg2.z hS4
    replace Bg3 := Bg3.z hS4
    replace TN := TN.kept hS4
    replace Bg0 := Bg0.z hS4
    replace Bg7 := Bg7.z hS4
    clear hS4
    exact R.done (by kernel_rfl) (jn J5 (by rw [hJ5]; exact ⟨g11, Ab, cb, HK, TN, Fresh.pay FB rfl, ⟨by omega, by omega, by omega, by omega, fun q hq => by have := hob q hq; omega⟩, Bg0, Bg2, Bg3, Bg11, f61.sub (sx (sx (sx (sx sn))))⟩))
  intro a50 w11 hj
  rw [hJ5] at hj
  clear hJ5 J5
  obtain ⟨gx, Ab, cb, HK, TN, PX, hgx, Bg0, Bg2, Bg3, Bgx, f50⟩ := hj
  try clear f49
  obtain ⟨hgw, hg0x, hg2x, hg3x, hgon⟩ := id hgx
  obtain ⟨J7, hJ7⟩ : ∃ J : Act → World → Prop, J = fun a W => ∃ (gx : Nat) (Ab : Option Addr) (cb : Nat), Kept [] w W ∧ TmNew w W t1 ∧ PayOk W ⟨putC t.ta x y s m.topic m.pay m.qos, Ab, cb⟩ ∧ (w.heap.size ≤ gx ∧ gx ≠ g0 ∧ gx ≠ g2 ∧ gx ≠ g3 ∧ ∀ q, t1.on q → q ≠ gx) ∧ Blk W g0 37 (tcell t1).toArray ∧ Blk W g2 40 (mcell m).toArray ∧ Blk W g3 37 #[.slice none 0 0, .slice none 0 0, .slice none 0 0, .slice none 0 0] ∧ Blk W gx 28 (pcell ⟨putC t.ta x y s m.topic m.pay m.qos, Ab, cb⟩).toArray ∧ Fr 98 a [(5, .pointer (some ⟨g0, 0, none⟩)), (9, .pointer (some ⟨g2, 0, none⟩)), (10, .pointer (some ⟨g3, 0, none⟩)), (12, .pointer (some ⟨gx, 0, none⟩))] := ⟨_, rfl⟩
  refine C.cut J7 ?_ ?_
  · skip
    refine C.sk fun K9 hK9 => ?_
    refine L.val f50 wantedN rfl (by decide) (E.fieldAddrN 1 f50 Tryd.underlying40 rfl rfl rfl wsz26_cg) fun a51 f51 => ?_
    refine L.val f51 wantedN rfl (by decide) (E.load f51 U26 rfl rfl ((Bg2).cl rfl)) fun a52 f52 => ?_
    refine L.val f52 wantedN rfl (by decide) (E.lenL f52 U26 rfl) fun a53 f53 => ?_
    refine L.val f53 wantedN rfl (by decide) (E.eql f53 rfl rfl) fun a54 f54 => ?_
    refine wpList_nil (hK9 _ _ ?_)
    have f55 := f54.sub (sub_cons (i := 5) rfl (sub_cons (i := 9) rfl (sub_cons (i := 10) rfl (sub_cons (i := 12) rfl (sub_cons (i := 62) rfl sn)))))
    clear f50 a50 f51 a51 f52 a52 f53 a53 f54
    refine f55.splitD 62 rfl (fun h5 f56 => ?_) (fun h5 f56 => ?_)
    · have h62 := h5
      refine C.condT f56 rfl ?_
      refine C.region ?_
      refine L.val f56 wantedN rfl (by decide) (E.fieldAddrN 8 f56 U28 rfl rfl rfl wsz3_cg) fun a57 f57 => ?_
      refine L.store f57 wantedN wsz3_cg rfl rfl rfl Bgx (by (simp [Value.cells]; done)) fun a58 w12 f58 NB12 ks12 => ?_
      have szw12 := ks12.size
      replace HK := HK.trans ks12 (by intro x hx hlt; simp at hx; omega)
      replace TN := TN.keptO ks12 (fun q hq => by have h1 := hon q hq; (try have h2 := hob q hq); (try have h3 := hgon q hq); simp only [List.mem_singleton]; omega) (fun k hk => by obtain rfl := List.mem_singleton.1 hk; exact not_typ Bgx (by decide))
      replace PX := PX.kept1 ks12 Bgx (by decide)
      replace Bg0 := Bg0.kept ks12 (by simp; omega)
      replace Bg2 := Bg2.kept ks12 (by simp; omega)
      replace Bg3 := Bg3.kept ks12 (by simp; omega)
      replace Bgx := NB12
      simp only [Value.cells, List.setIfInBounds_toArray, List.set_cons_zero, List.set_cons_succ, Nat.reduceAdd, Nat.zero_add] at Bgx
      clear f55 f56 a54 ks12 f57 a57
      refine L.val f58 wantedN rfl (by decide) (E.fieldAddrN 9 f58 U28 rfl rfl rfl wsz4_cg) fun a59 f59 => ?_
      refine L.store f59 wantedN wsz4_cg rfl rfl rfl Bgx (by (simp [Value.cells]; done)) fun a60 w13 f60 NB13 ks13 => ?_
      have szw13 := ks13.size
      replace HK := HK.trans ks13 (by intro x hx hlt; simp at hx; omega)
      replace TN := TN.keptO ks13 (fun q hq => by have h1 := hon q hq; (try have h2 := hob q hq); (try have h3 := hgon q hq); simp only [List.mem_singleton]; omega) (fun k hk => by obtain rfl := List.mem_singleton.1 hk; exact not_typ Bgx (by decide))
      replace PX := PX.kept1 ks13 Bgx (by decide)
      replace Bg0 := Bg0.kept ks13 (by simp; omega)
      replace Bg2 := Bg2.kept ks13 (by simp; omega)
      replace Bg3 := Bg3.kept ks13 (by simp; omega)
      replace Bgx := NB13
      simp only [Value.cells, List.setIfInBounds_toArray, List.set_cons_zero, List.set_cons_succ, Nat.reduceAdd, Nat.zero_add] at Bgx
      clear f58 a58 ks13 f59 a59
      exact wpList_nil (jn J7 (by rw [hJ7]; exact ⟨gx, Ab, cb, HK, TN, by rw [show putC _ _ _ _ _ _ _ = _ from (put0C h62)]; exact ⟨PX.sl, PX.typ, PX.cap⟩, hgx, Bg0, Bg2, Bg3, by rw [show putC _ _ _ _ _ _ _ = _ from (put0C h62)]; exact Bgx, f60.sub (sx (sx (sx (sx sn))))⟩))
    have h62 := h5
    refine C.condF f56 rfl ?_
    exact wp_skip (jn J7 (by rw [hJ7]; exact ⟨gx, Ab, cb, HK, TN, by rw [show putC _ _ _ _ _ _ _ = _ from (put1C h62)]; exact ⟨PX.sl, PX.typ, PX.cap⟩, hgx, Bg0, Bg2, Bg3, by rw [show putC _ _ _ _ _ _ _ = _ from (put1C h62)]; exact Bgx, f56.sub (sx (sx (sx (sx sn))))⟩))
  intro a51 w12 hj
  rw [hJ7] at hj
  clear hJ7 J7
  obtain ⟨gx, Ab, cb, HK, TN, PX, hgx, Bg0, Bg2, Bg3, Bgx, f51⟩ := hj
  try clear f50
  obtain ⟨hgw, hg0x, hg2x, hg3x, hgon⟩ := id hgx
  refine wp_seq_k fun K10 hK10 => ?_
  refine wp_seq_k fun K11 hK11 => ?_
  have hSc : t1.cel.length ≤ 1000000 := by have := congrArg List.length ts.2.2.2; simp at this; have := TS.c; omega
  refine C.region ?_
  refine L.val f51 wantedN rfl (by decide) (E.fieldAddrN 3 f51 U37 rfl rfl rfl wsz35_cg) fun a52 f52 => ?_
  refine L.val f52 wantedN rfl (by decide) (E.load f52 U35 rfl rfl ((Bg0).cl rfl)) fun a53 f53 => ?_
  refine L.val f53 wantedN rfl (by decide) (E.fieldAddrN 0 f53 Tryd.underlying40 rfl rfl rfl wsz9_cg) fun a54 f54 => ?_
  refine L.val f54 wantedN rfl (by decide) (E.load f54 U9 rfl rfl ((Bg2).cl rfl)) fun a55 f55 => ?_
  refine L.call f55 wantedN rfl (by decide) (run_call Tryd.call24 (args2 f55 rfl rfl)) (find_any t1.cel t1.cA t1.cc m.topic w12 TN.c.sl hSc (asc_same ts.2.2.2 hAs)) ?_
  clear f51 a51 f52 a52 f53 a53 f54 a54
  rintro e w13 ⟨kc13, i, b0, rfl, hs⟩
  refine ⟨_, rfl, fun a56 f56 => ?_⟩
  have szw13 := kc13.size
  replace HK := HK.z kc13
  replace TN := TN.kept kc13
  replace PX := PX.kept kc13
  replace Bg0 := Bg0.z kc13
  replace Bg2 := Bg2.z kc13
  replace Bg3 := Bg3.z kc13
  replace Bgx := Bgx.z kc13
  clear f55 a55 kc13
  refine L.val f56 wantedN rfl (by decide) (E.move f56 rfl) fun a57 f57 => ?_
  refine L.val f57 wantedN rfl (by decide) (E.extract f57 rfl rfl) fun a58 f58 => ?_
  refine L.val f58 wantedN rfl (by decide) (E.extract f58 rfl rfl) fun a59 f59 => ?_
  refine L.val f59 wantedN rfl (by decide) (E.assign f59 rfl) fun a60 f60 => ?_
  refine L.val f60 wantedN rfl (by decide) (E.assign f60 rfl) fun a61 f61 => ?_
  refine wpList_nil (hK11 _ _ ?_)
  have f62 := f61.sub (sub_cons (i := 5) rfl (sub_cons (i := 10) rfl (sub_cons (i := 12) rfl (sub_cons (i := 13) rfl (sub_cons (i := 14) rfl sn)))))
  refine wp_block ?_
  refine C.sk fun K12 hK12 => ?_
  refine L.val f62 wantedN rfl (by decide) (E.move f62 rfl) fun a63 f63 => ?_
  refine L.val f63 wantedN rfl (by decide) (E.not f63 rfl) fun a64 f64 => ?_
  clear f56 a56 f57 a57 f58 a58 f59 a59 f60 a60 f61 f62 a61 f63 a63
  refine L.val f64 wantedN rfl (by decide) (E.assign f64 rfl) fun a65 f65 => ?_
  refine wpList_nil (hK12 _ _ ?_)
  have f66 := f65.sub (sub_cons (i := 5) rfl (sub_cons (i := 10) rfl (sub_cons (i := 12) rfl (sub_cons (i := 13) rfl (sub_cons (i := 73) rfl sn)))))
  clear f64 a64 f65
  refine f66.splitNB 73 rfl (fun h6 f67 => ?_) (fun h6 f67 => ?_)
  · have h73 := h6
    refine C.condT f67 rfl ?_
    have hob9 : ∀ q, t1.on q → q < w13.heap.size := TN.hi
    refine C.region ?_
    refine L.val f67 wantedN rfl (by decide) (E.fieldAddrN 3 f67 U37 rfl rfl rfl wsz35_cg) fun a68 f68 => ?_
    refine L.val f68 wantedN rfl (by decide) (E.load f68 U35 rfl rfl ((Bg0).cl rfl)) fun a69 f69 => ?_
    refine L.val f69 wantedN rfl (by decide) (E.move f69 rfl) fun a70 f70 => ?_
    refine L.val f70 wantedN rfl (by decide) (E.loadB f70 U28 rfl wsz28_cg rfl (Bgx) rfl) fun a71 f71 => ?_
    refine L.buildSlice f71 wantedN (by decide) (parts1 f71 rfl) U35 wzi28_cg rfl rfl (wbs35_1_cg _ _ _ _ _ _ _ _ _ _) fun a72 w14 g13 N13 f72 => ?_
    have Bg13 := N13.blk
    have kg13 := N13.kept
    have log13 := N13.lo
    have ltg13 := Bg13.lt
    have szw14 := kg13.size
    have neg0_g13 : g0 ≠ g13 := by have := Bg0.lt; omega
    have neg2_g13 : g2 ≠ g13 := by have := Bg2.lt; omega
    have neg3_g13 : g3 ≠ g13 := by have := Bg3.lt; omega
    have negx_g13 : gx ≠ g13 := by have := Bgx.lt; omega
    replace HK := HK.z kg13
    replace TN := TN.kept kg13
    replace PX := PX.kept kg13
    replace Bg0 := Bg0.z kg13
    replace Bg2 := Bg2.z kg13
    replace Bg3 := Bg3.z kg13
    replace Bgx := Bgx.z kg13
    clear f66 f67 a65 f68 a68 f69 a69 f70 a70 N13 kg13
    have hb0l := Bg0.lt
    have hb3l := Bg3.lt
    refine L.call f72 wantedN rfl (by decide) (run_call Tryd.call25 (args3 f72 rfl rfl rfl)) (insT_any t1 i g13 ⟨putC t.ta x y s m.topic m.pay m.qos, Ab, cb⟩ w w14 TN Bg13 hs.le hSc (fun h => by have := hob9 _ h; omega) PX HK.size) ?_
    clear f71 a71
    rintro e w15 ⟨A', c', LB, kc15, hLB, rfl, TN2, hA'⟩
    have hon2 : ∀ q, (t1.withC (insL t1.cel i ⟨putC t.ta x y s m.topic m.pay m.qos, Ab, cb⟩) A' c').on q → q ≠ g0 ∧ q ≠ g3 := fun q hq => (on_ins hA' hq).elim (fun h => by have := hon q h; omega) (fun h => by omega)
    refine ⟨_, rfl, fun a73 f73 => ?_⟩
    have szw15 := kc15.size
    replace HK := HK.trans kc15 (fun x hx hlt => by have := honw x (hLB x hx); exfalso; omega)
    replace Bg0 := Bg0.kept kc15 (fun hq => by have := hon _ (hLB _ hq); omega)
    replace Bg3 := Bg3.kept kc15 (fun hq => by have := hon _ (hLB _ hq); omega)
    clear f72 a72 kc15
    refine L.val f73 wantedN rfl (by decide) (E.fieldAddrN 3 f73 U37 rfl rfl rfl wsz35_cg) fun a74 f74 => ?_
    refine L.store f74 wantedN wsz35_cg rfl rfl rfl Bg0 (by (simp [Value.cells]; done)) fun a75 w16 f75 NB16 ks16 => ?_
    have szw16 := ks16.size
    replace HK := HK.trans ks16 (by intro x hx hlt; simp at hx; omega)
    replace Bg3 := Bg3.kept ks16 (by simp; omega)
    replace TN2 := TN2.keptO ks16 (fun q hq => by have h1 := hon2 q hq; (try have h2 := hob q hq); (try have h3 := hgon q hq); simp only [List.mem_singleton]; omega) (fun k hk => by obtain rfl := List.mem_singleton.1 hk; exact not_typ Bg0 (by decide))
    replace Bg0 := NB16
    simp only [Value.cells, List.setIfInBounds_toArray, List.set_cons_zero, List.set_cons_succ, Nat.reduceAdd, Nat.zero_add] at Bg0
    clear f73 a73 ks16 f74 a74
    have f76 := f75.sub (sub_cons (i := 5) rfl (sub_cons (i := 10) rfl sn))
    refine wpList_nil (hK10 _ _ (C.sk fun K13 hK13 => ?_))
    refine L.val f76 wantedN rfl (by decide) (E.loadB f76 U37 rfl wsz37_cg rfl (Bg0) rfl) fun a77 f77 => ?_
    refine L.storeR f77 wantedN wsz37_cg rfl rfl rfl Bg3 rfl rfl fun a78 w17 f78 NB17 ks17 => ?_
    have szw17 := ks17.size
    replace HK := HK.trans ks17 (by intro x hx hlt; simp at hx; omega)
    replace TN2 := TN2.keptO ks17 (fun q hq => by have h1 := hon2 q hq; (try have h2 := hob q hq); (try have h3 := hgon q hq); simp only [List.mem_singleton]; omega) (fun k hk => by obtain rfl := List.mem_singleton.1 hk; exact not_typ Bg3 (by decide))
    replace Bg0 := Bg0.kept ks17 (by simp; omega)
    replace Bg3 := NB17
    clear f75 f76 a75 ks17 f77 a77
    have f79 := f78.sub (sub_cons (i := 10) rfl sn)
    refine wpList_nil (hK13 _ _ (wp_ret ?_)); (try simp only [xt, xb]); refine C.retC f79 rfl rfl Bg3 U37 rfl wsz37_cg ?_
    have hok : putOk x y s m.topic m.qos = true := by simp_all [putOk]
    have hb0 : b0 = false := by simpa using h73
    clear f78
    subst hb0
    exact put_end hok hs ts HK TN2 (by simp [insAt, insL]) (by show _ = [_, _, _, Value.slice A' (insL t1.cel i _).length c']; rw [insL_len hs.le]; rfl)
  have h73 := h6
  obtain ⟨xo, hx, hxt⟩ := hs.is.1 (by simpa using h73)
  have hil := (List.getElem?_eq_some_iff.1 hx).1
  obtain ⟨b, off, hA⟩ := TN.c.sl.addr (by omega)
  refine C.condF f67 rfl ?_
  refine wp_seq_k fun K14 hK14 => ?_
  refine R.begin (S := fun W => Kept [] w13 W) (by kernel_rfl) (by exact (Kept.refl _ _).drewN 1) ?_
  have hS10 : Kept [] w13 (w13.drewN 1) := (Kept.refl _ _).drewN 1
  have hd10 : Kept [] w13 (w13.drewN 1) := (Kept.refl _ _).drewN 1
  obtain ⟨w14, hww14⟩ : ∃ W, W = w13.drewN 1 := ⟨_, rfl⟩
  rw [← hww14] at hS10 hd10 ⊢
  clear f66 hww14
  have szw14 := hS10.size
  refine R.take 0 f67 rfl rfl (by decide) (by kernel_rfl) (by kernel_rfl) (by kernel_rfl) (fun _ _ _ _ h => h) wantedN hS10 (fun W hW => (E.fieldAddrN 3 f67 U37 rfl rfl rfl wsz35_cg)) fun a68 f68 => ?_
  refine R.take 1 f68 rfl rfl (by decide) (by kernel_rfl) (by kernel_rfl) (by kernel_rfl) (fun _ _ _ _ h => h) wantedN hS10 (fun W hW => (E.load f68 U35 rfl rfl ((Bg0.z hW).cl rfl))) fun a69 f69 => ?_
  refine R.take 2 f69 rfl rfl (by decide) (by kernel_rfl) (by kernel_rfl) (by kernel_rfl) (fun _ _ _ _ h => h) wantedN hS10 (fun W hW => (E.move f69 rfl)) fun a70 f70 => ?_
  refine R.take 3 f70 rfl rfl (by decide) (by kernel_rfl) (by kernel_rfl) (by kernel_rfl) (fun _ _ _ _ h => h) wantedN hS10 (fun W hW => (E.indexA f70 (by assumption) U35 wsz28_cg rfl rfl (by omega) (by omega))) fun a71 f71 => ?_
  refine R.take 4 f71 rfl rfl (by decide) (by kernel_rfl) (by kernel_rfl) (by kernel_rfl) (fun _ _ _ _ h => h) wantedN hS10 (fun W hW => (E.loadR f71 U28 rfl wsz28_cg rfl ((TN.c.kept0 hW).sl.row (by omega) hA (pcells_at t1.cel i xo hx)) rfl)) fun a72 f72 => ?_
  refine R.take 5 f72 rfl rfl (by decide) (by kernel_rfl) (by kernel_rfl) (by kernel_rfl) (fun _ _ _ _ h => h) wantedN hS10 (fun W hW => (E.loadB f72 U28 rfl wsz28_cg rfl (Bgx.z hW) rfl)) fun a73 f73 => ?_
  refine R.call 6 f73 rfl rfl (by decide) (by kernel_rfl) wantedN (run_call Tryd.call7 (args2 f73 rfl rfl)) (Newer_any xo ⟨putC t.ta x y s m.topic m.pay m.qos, Ab, cb⟩ _) ?_
  clear f67 a65 f68 a68 f69 a69 f70 a70 f71 a71 f72 a72
  rintro e w15 ⟨kc15, rfl⟩
  replace hS10 := hS10.trans kc15 (by simp)
  refine ⟨_, rfl, hS10, fun a74 f74 => ?_⟩
  have szw15 := kc15.size
  clear f73 a73 kc15
  refine R.take 7 f74 rfl rfl (by decide) (by kernel_rfl) (by kernel_rfl) (by kernel_rfl) (fun _ _ _ _ h => h) wantedN hS10 (fun W hW => (E.not f74 rfl)) fun a75 f75 => ?_
  refine R.take 8 f75 rfl rfl (by decide) (by kernel_rfl) (by kernel_rfl) (by kernel_rfl) (fun _ _ _ _ h => h) wantedN hS10 (fun W hW => (E.assign f75 rfl)) fun a76 f76 => ?_
  have szw15r := hS10.size
  replace HK := HK.z hS10
  replace TN := TN.kept hS10
  replace PX := PX.kept hS10
  replace Bg0 := Bg0.z hS10
  replace Bg2 := Bg2.z hS10
  replace Bg3 := Bg3.z hS10
  replace Bgx := Bgx.z hS10
  clear f74 a74 f75 a75 hS10
  refine R.done (by kernel_rfl) (hK14 _ _ ?_)
  have f77 := f76.sub (sub_cons (i := 5) rfl (sub_cons (i := 10) rfl (sub_cons (i := 12) rfl (sub_cons (i := 13) rfl (sub_cons (i := 83) rfl sn)))))
  clear f76
  refine f77.splitNB 83 rfl (fun h7 f78 => ?_) (fun h7 f78 => ?_)
  · have h83 := h7
    refine C.condT f78 rfl ?_
    refine C.region ?_
    refine L.val f78 wantedN rfl (by decide) (E.fieldAddrN 3 f78 U37 rfl rfl rfl wsz35_cg) fun a79 f79 => ?_
    refine L.val f79 wantedN rfl (by decide) (E.load f79 U35 rfl rfl ((Bg0).cl rfl)) fun a80 f80 => ?_
    refine L.val f80 wantedN rfl (by decide) (E.move f80 rfl) fun a81 f81 => ?_
    refine L.val f81 wantedN rfl (by decide) (E.loadB f81 U28 rfl wsz28_cg rfl (Bgx) rfl) fun a82 f82 => ?_
    refine L.val f82 wantedN rfl (by decide) (E.indexA f82 (by assumption) U35 wsz28_cg rfl rfl (by omega) (by omega)) fun a83 f83 => ?_
    refine L.storeRF f83 wantedN wsz28_cg hA TN.c (j := i * 10) (hy := rfl) rfl (by rw [pcells_len]; show i * 10 + 10 ≤ _; omega) rfl (by rfl) rfl fun a84 w16 f84 FS ks => ?_
    have szw16 := ks.size
    have hbon := hon b (.inr (.inr (.inr (by rw [hA]; rfl))))
    have hbw := honw b (.inr (.inr (.inr (by rw [hA]; rfl))))
    have TN2 : TmNew w w16 (t1.withC (t1.cel.set i ⟨putC t.ta x y s m.topic m.pay m.qos, Ab, cb⟩) t1.cA t1.cc) := tn_set TN hil PX hA ks FS
    replace HK := HK.trans ks (by intro x hx hlt; simp at hx; subst hx; exfalso; omega)
    replace Bg0 := Bg0.kept ks (by simp; omega)
    replace Bg3 := Bg3.kept ks (by simp; omega)
    clear f77 f78 a76 f79 a79 f80 a80 f81 a81 f82 a82 f83 a83 ks
    have hon2 : ∀ q, (t1.withC (t1.cel.set i ⟨putC t.ta x y s m.topic m.pay m.qos, Ab, cb⟩) t1.cA t1.cc).on q → q ≠ g0 ∧ q ≠ g3 := fun q hq => by have := hon q hq; omega
    have f85 := f84.sub (sub_cons (i := 5) rfl (sub_cons (i := 10) rfl sn))
    refine wpList_nil (hK10 _ _ (C.sk fun K15 hK15 => ?_))
    refine L.val f85 wantedN rfl (by decide) (E.loadB f85 U37 rfl wsz37_cg rfl (Bg0) rfl) fun a86 f86 => ?_
    refine L.storeR f86 wantedN wsz37_cg rfl rfl rfl Bg3 rfl rfl fun a87 w17 f87 NB17 ks17 => ?_
    have szw17 := ks17.size
    replace HK := HK.trans ks17 (by intro x hx hlt; simp at hx; omega)
    replace Bg0 := Bg0.kept ks17 (by simp; omega)
    replace TN2 := TN2.keptO ks17 (fun q hq => by have h1 := hon2 q hq; (try have h2 := hob q hq); (try have h3 := hgon q hq); simp only [List.mem_singleton]; omega) (fun k hk => by obtain rfl := List.mem_singleton.1 hk; exact not_typ Bg3 (by decide))
    replace Bg3 := NB17
    clear f84 f85 a84 ks17 f86 a86
    have f88 := f87.sub (sub_cons (i := 10) rfl sn)
    refine wpList_nil (hK15 _ _ (wp_ret ?_)); (try simp only [xt, xb]); refine C.retC f88 rfl rfl Bg3 U37 rfl wsz37_cg ?_
    have hok : putOk x y s m.topic m.qos = true := by simp_all [putOk]
    have hb1 : b0 = true := by simpa using h73
    clear f87
    subst hb1
    exact put_end hok hs ts HK TN2 (by have h84 : newerB xo.x (putC t.ta x y s m.topic m.pay m.qos) = false := (by simpa using h83); simp [insAt, hx, h84, List.map_set]) (by show _ = [_, _, _, Value.slice t1.cA (t1.cel.set i _).length t1.cc]; rw [List.length_set]; rfl)
  have h83 := h7
  refine C.condF f78 rfl ?_
  refine wp_skip (hK10 _ _ ?_)
  have f79 := f78.sub (sub_cons (i := 5) rfl (sub_cons (i := 10) rfl sn))
  refine C.sk fun K16 hK16 => ?_
  refine L.val f79 wantedN rfl (by decide) (E.loadB f79 U37 rfl wsz37_cg rfl (Bg0) rfl) fun a80 f80 => ?_
  refine L.storeR f80 wantedN wsz37_cg rfl rfl rfl Bg3 rfl rfl fun a81 w16 f81 NB16 ks16 => ?_
  have szw16 := ks16.size
  replace HK := HK.trans ks16 (by intro x hx hlt; simp at hx; omega)
  replace TN := TN.keptO ks16 (fun q hq => by have h1 := hon q hq; (try have h2 := hob q hq); (try have h3 := hgon q hq); simp only [List.mem_singleton]; omega) (fun k hk => by obtain rfl := List.mem_singleton.1 hk; exact not_typ Bg3 (by decide))
  replace PX := PX.kept1 ks16 Bg3 (by decide)
  replace Bg0 := Bg0.kept ks16 (by simp; omega)
  replace Bg2 := Bg2.kept ks16 (by simp; omega)
  replace Bgx := Bgx.kept ks16 (by simp; omega)
  replace Bg3 := NB16
  clear f77 f78 f79 a76 ks16 f80 a80
  have f82 := f81.sub (sub_cons (i := 10) rfl sn)
  refine wpList_nil (hK16 _ _ (wp_ret ?_)); (try simp only [xt, xb]); refine C.retC f82 rfl rfl Bg3 U37 rfl wsz37_cg ?_
  have hok : putOk x y s m.topic m.qos = true := by simp_all [putOk]
  have hb1 : b0 = true := by simpa using h73
  clear f81
  subst hb1
  exact put_end (A' := t1.cA) (c' := t1.cc) (l := t1.cel) hok hs ts HK TN (by have h84 : newerB xo.x (putC t.ta x y s m.topic m.pay m.qos) = true := (by simpa using h83); simp [insAt, hx, h84]) rfl
end Go.Proofs.YtekmhcdgmgbheaaDoor
namespace Go.Proofs.YtekmhcdgmgbheaaDoor
open Go.RowKit Go.Hub Go.Lib
theorem wsz4_ch : (Tryd.prog.info? 4).map (·.size) = some 1 := by kernel_rfl
theorem wsz26_ch : (Tryd.prog.info? 26).map (·.size) = some 1 := by kernel_rfl
theorem wsz28_ch : (Tryd.prog.info? 28).map (·.size) = some 10 := by kernel_rfl
theorem wsz35_ch : (Tryd.prog.info? 35).map (·.size) = some 1 := by kernel_rfl
theorem wbl28__ch  : Tryd.prog.built 28 [] = some #[(.int .i64 0), (.int .i64 0), (.int .i64 0), (.int .i64 0), (.int .i64 0), (.int .i64 0), (.string ⟨#[]⟩), (.slice none 0 0), (.int .i64 0), (.bool false)] := by kernel_rfl
def getC (l : List Ce) (n : ByteArray) : Option Ce := match l.find? (fun c => decide (c.topic = n)) with | some c => if c.gone then none else some c | none => none
def zcell : Array Value := #[.int .i64 0, .int .i64 0, .int .i64 0, .int .i64 0, .int .i64 0, .int .i64 0, .string ⟨#[]⟩, .slice none 0 0, .int .i64 0, .bool false]
def GetPost (t : Tm) (n : ByteArray) (w : World) (e : Ending) (w' : World) : Prop := Kept [] w w' ∧ ((getC t.ta.cel n = none ∧ e = .returned (.tuple #[.agg zcell, .bool false])) ∨ ∃ c A k, getC t.ta.cel n = some c ∧ e = .returned (.tuple #[.agg (pcell ⟨c, A, k⟩).toArray, .bool true]) ∧ PayOk w' ⟨c, A, k⟩)
theorem find_srch {l : List Cp} {n : ByteArray} {i : Nat} {b : Bool} (h : SrchC l n i b) (ha : Asc l) : (l.map Cp.x).find? (fun c => decide (c.topic = n)) = if b then (l[i]?).map Cp.x else none := by
  cases b with
  | false =>
    rw [if_neg (by simp), List.find?_eq_none]
    intro c hc hq
    obtain ⟨a, hm, rfl⟩ := List.mem_map.1 hc
    obtain ⟨k, hk⟩ := List.getElem?_of_mem hm
    simp only [decide_eq_true_eq] at hq
    by_cases hki : k < i
    · have := h.lo k a hki hk
      rw [hq] at this
      exact ltB_irrefl _ this
    have h1 := h.hi k a (by omega) hk
    by_cases e : k = i
    · subst e
      have := h.is.2 ⟨a, hk, hq⟩
      cases this
    have hkl := (List.getElem?_eq_some_iff.1 hk).1
    obtain ⟨a0, ha0⟩ : ∃ a0, l[i]? = some a0 := ⟨l[i]'(by omega), List.getElem?_eq_getElem _⟩
    have h2 := h.hi i a0 (Nat.le_refl _) ha0
    have h3 := ha i k a0 a (by omega) ha0 hk
    rw [hq] at h3
    exact h2 h3
  | true =>
    obtain ⟨a, hk, hq⟩ := h.is.1 rfl
    rw [if_pos rfl, hk, Option.map_some]
    rw [List.find?_eq_some_iff_getElem]
    obtain ⟨hi, he⟩ := List.getElem?_eq_some_iff.1 hk
    refine ⟨by simp [hq], i, by simpa using hi, by simp [he], fun j hj => ?_⟩
    have hjl : j < l.length := by omega
    have h1 := h.lo j l[j] hj (List.getElem?_eq_getElem hjl)
    simp only [List.getElem_map, Bool.not_eq_true', decide_eq_false_iff_not]
    intro e
    rw [e] at h1
    exact ltB_irrefl _ h1
section
variable {t : Tm} {n : ByteArray} {i : Nat} {b : Bool} {w w' : World} {xo : Cp}
theorem get_no (hs : SrchC t.cel n i b) (ha : Asc t.cel) (hb : b = false) (HK : Kept [] w w') : GetPost t n w (.returned (.tuple #[.agg zcell, .bool false])) w' := by
  subst hb
  refine ⟨HK, .inl ⟨?_, rfl⟩⟩
  unfold getC Tm.ta
  simp only []
  rw [find_srch hs ha]
  rfl
theorem get_is (hs : SrchC t.cel n i b) (ha : Asc t.cel) (hx : t.cel[i]? = some xo) (hb : b = true) : getC t.ta.cel n = if xo.x.gone then none else some xo.x := by
  subst hb
  unfold getC Tm.ta
  simp only []
  rw [find_srch hs ha, hx]
  rfl
theorem get_gone (hs : SrchC t.cel n i b) (ha : Asc t.cel) (hx : t.cel[i]? = some xo) (hb : b = true) (hg : xo.x.gone = true) (HK : Kept [] w w') : GetPost t n w (.returned (.tuple #[.agg zcell, .bool false])) w' :=
  ⟨HK, .inl ⟨by rw [get_is hs ha hx hb, hg]; rfl, rfl⟩⟩
theorem get_yes {A : Option Addr} {k : Nat} (hs : SrchC t.cel n i b) (ha : Asc t.cel) (hx : t.cel[i]? = some xo) (hb : b = true) (hg : xo.x.gone = false) (HK : Kept [] w w') (hp : PayOk w' ⟨xo.x, A, k⟩) : GetPost t n w (.returned (.tuple #[.agg (pcell ⟨xo.x, A, k⟩).toArray, .bool true])) w' :=
  ⟨HK, .inr ⟨xo.x, A, k, by rw [get_is hs ha hx hb, hg]; rfl, rfl, hp⟩⟩
end
set_option maxHeartbeats 1000000 in
theorem Get_any (t : Tm) (n : ByteArray) (w : World) (TO : TmOk w t) (TS : TmSm t) (hAs : Asc t.cel) : Calls Tryd.prog 10 #[.agg (tcell t).toArray, .string n] w (GetPost t n w) := by
  have HK : Kept [] w w := Kept.refl [] w
  refine C.enter Tryd.func10 rfl Tryd.ntmps10 rfl ?_
  intro a0 f0
  have f1 : Fr 37 a0 [(0, .agg (tcell t).toArray), (1, .string n)] := f0
  refine C.sk fun K0 hK0 => ?_
  refine L.box f1 wantedN (by decide) rfl rfl fun a2 w1 g0 N0 f2 => ?_
  have Bg0 := N0.blk
  have kg0 := N0.kept
  have log0 := N0.lo
  have ltg0 := Bg0.lt
  have szw1 := kg0.size
  replace HK := HK.z kg0
  clear f0 N0 kg0
  refine L.alloc f2 wantedN (by decide) (z := (.agg #[(.int .i64 0), (.int .i64 0), (.int .i64 0), (.int .i64 0), (.int .i64 0), (.int .i64 0), (.string ⟨#[]⟩), (.slice none 0 0), (.int .i64 0), (.bool false)])) (fun _ => by kernel_rfl) rfl fun a3 w2 g1 N1 f3 => ?_
  have Bg1 := N1.blk
  have kg1 := N1.kept
  have log1 := N1.lo
  have ltg1 := Bg1.lt
  have szw2 := kg1.size
  have neg0_g1 : g0 ≠ g1 := by have := Bg0.lt; omega
  replace HK := HK.z kg1
  replace Bg0 := Bg0.z kg1
  clear f1 a0 N1 kg1
  refine L.val f3 wantedN rfl (by decide) (E.assign f3 rfl) fun a4 f4 => ?_
  have f5 := f4.sub (sub_cons (i := 1) rfl (sub_cons (i := 2) rfl (sub_cons (i := 4) rfl (sub_cons (i := 5) rfl sn))))
  refine wpList_nil (hK0 _ _ (C.sk fun K1 hK1 => ?_))
  refine L.val f5 wantedN rfl (by decide) (E.fieldAddrN 3 f5 U37 rfl rfl rfl wsz35_ch) fun a6 f6 => ?_
  refine L.val f6 wantedN rfl (by decide) (E.load f6 U35 rfl rfl ((Bg0).cl rfl)) fun a7 f7 => ?_
  refine L.val f7 wantedN rfl (by decide) (E.move f7 rfl) fun a8 f8 => ?_
  refine L.call f8 wantedN rfl (by decide) (run_call Tryd.call24 (args2 f8 rfl rfl)) (find_any t.cel t.cA t.cc n w2 (TO.c.kept HK) TS.c hAs) ?_
  clear f2 a2 f3 a3 f4 f5 a4 f6 a6 f7 a7
  rintro e w3 ⟨kc3, i, b0, rfl, hs⟩
  refine ⟨_, rfl, fun a9 f9 => ?_⟩
  have szw3 := kc3.size
  replace HK := HK.z kc3
  replace Bg0 := Bg0.z kc3
  replace Bg1 := Bg1.z kc3
  clear f8 a8 kc3
  refine L.val f9 wantedN rfl (by decide) (E.move f9 rfl) fun a10 f10 => ?_
  refine L.val f10 wantedN rfl (by decide) (E.extract f10 rfl rfl) fun a11 f11 => ?_
  refine L.val f11 wantedN rfl (by decide) (E.extract f11 rfl rfl) fun a12 f12 => ?_
  refine L.val f12 wantedN rfl (by decide) (E.assign f12 rfl) fun a13 f13 => ?_
  refine L.val f13 wantedN rfl (by decide) (E.assign f13 rfl) fun a14 f14 => ?_
  refine wpList_nil (hK1 _ _ ?_)
  have f15 := f14.sub (sub_cons (i := 2) rfl (sub_cons (i := 4) rfl (sub_cons (i := 5) rfl (sub_cons (i := 6) rfl (sub_cons (i := 7) rfl sn)))))
  refine wp_seq_k fun K2 hK2 => ?_
  refine C.sk fun K3 hK3 => ?_
  refine L.val f15 wantedN rfl (by decide) (E.move f15 rfl) fun a16 f16 => ?_
  refine L.val f16 wantedN rfl (by decide) (E.not f16 rfl) fun a17 f17 => ?_
  clear f9 a9 f10 a10 f11 a11 f12 a12 f13 a13 f14 f15 a14 f16 a16
  refine L.val f17 wantedN rfl (by decide) (E.move f17 rfl) fun a18 f18 => ?_
  clear f17 a17
  refine f18.splitNB 18 rfl (fun h0 f19 => ?_) (fun h0 f19 => ?_)
  · have h18 := h0
    refine L.run f19 (rest' := []) (by kernel_rfl) fun a20 f20 => ?_
    clear f18
    refine wpList_nil (hK3 _ _ ?_)
    have f21 := f20.sub (scR f20 2 (scR f20 4 (scR f20 5 (scR f20 6 (sv 25 (.bool true) sn)))))
    refine C.condT f21 rfl ?_
    refine C.sk fun K4 hK4 => ?_
    refine L.val f21 wantedN rfl (by decide) (E.build f21 (parts0 f21) (wbl28__ch)) fun a22 f22 => ?_
    refine L.storeR f22 wantedN wsz28_ch rfl rfl rfl Bg1 rfl rfl fun a23 w4 f23 NB4 ks4 => ?_
    have szw4 := ks4.size
    replace HK := HK.trans ks4 (by intro x hx hlt; simp at hx; omega)
    replace Bg0 := Bg0.kept ks4 (by simp; omega)
    replace Bg1 := NB4
    clear f20 f19 f21 a20 ks4 f22 a22
    refine L.val f23 wantedN rfl (by decide) (E.assign f23 rfl) fun a24 f24 => ?_
    have f25 := f24.sub (sub_cons (i := 2) rfl (sub_cons (i := 4) rfl (sub_cons (i := 5) rfl (sub_cons (i := 6) rfl sn))))
    refine wpList_nil (hK4 _ _ (wp_ret ?_)); (try simp only [xt, xb]); refine C.retCT f25 rfl rfl rfl Bg1 U28 rfl wsz28_ch ?_
    exact get_no hs hAs (by simpa using h18) HK
  have h18 := h0
  obtain ⟨xo, hx, hxt⟩ := hs.is.1 (by simpa using h18)
  have hil := (List.getElem?_eq_some_iff.1 hx).1
  obtain ⟨b, off, hA⟩ := TO.c.addr hil
  refine L.val f19 (f19.yes rfl rfl) rfl (by decide) (E.fieldAddrN 3 f19 U37 rfl rfl rfl wsz35_ch) fun a20 f20 => ?_
  refine L.val f20 (f20.yes rfl rfl) rfl (by decide) (E.load f20 U35 rfl rfl ((Bg0).cl rfl)) fun a21 f21 => ?_
  refine L.val f21 (f21.yes rfl rfl) rfl (by decide) (E.move f21 rfl) fun a22 f22 => ?_
  refine L.val f22 (f22.yes rfl rfl) rfl (by decide) (E.indexA f22 (by assumption) U35 wsz28_ch rfl rfl (by omega) (by omega)) fun a23 f23 => ?_
  refine L.val f23 (f23.yes rfl rfl) rfl (by decide) (E.fieldAddrN 9 f23 U28 rfl rfl rfl wsz4_ch) fun a24 f24 => ?_
  refine L.val f24 (f24.yes rfl rfl) rfl (by decide) (E.load f24 U4 rfl rfl (((TO.kept HK).c.row hA hx 9 _ rfl))) fun a25 f25 => ?_
  refine L.val f25 wantedN rfl (by decide) (E.pickF f25 rfl rfl) fun a26 f26 => ?_
  clear f18 f19 a18 f20 a20 f21 a21 f22 a22 f23 a23 f24 a24 f25 a25
  refine wpList_nil (hK3 _ _ ?_)
  have f27 := f26.sub (sub_cons (i := 2) rfl (sub_cons (i := 4) rfl (sub_cons (i := 5) rfl (sub_cons (i := 6) rfl (sub_cons (i := 25) rfl sn)))))
  clear f26
  refine f27.split 25 rfl (fun h1 f28 => ?_) (fun h1 f28 => ?_)
  · have h25 := h1
    refine C.condT f28 rfl ?_
    refine C.sk fun K5 hK5 => ?_
    refine L.val f28 wantedN rfl (by decide) (E.build f28 (parts0 f28) (wbl28__ch)) fun a29 f29 => ?_
    refine L.storeR f29 wantedN wsz28_ch rfl rfl rfl Bg1 rfl rfl fun a30 w4 f30 NB4 ks4 => ?_
    have szw4 := ks4.size
    replace HK := HK.trans ks4 (by intro x hx hlt; simp at hx; omega)
    replace Bg0 := Bg0.kept ks4 (by simp; omega)
    replace Bg1 := NB4
    clear f27 f28 a26 ks4 f29 a29
    refine L.val f30 wantedN rfl (by decide) (E.assign f30 rfl) fun a31 f31 => ?_
    have f32 := f31.sub (sub_cons (i := 2) rfl (sub_cons (i := 4) rfl (sub_cons (i := 5) rfl (sub_cons (i := 6) rfl sn))))
    refine wpList_nil (hK5 _ _ (wp_ret ?_)); (try simp only [xt, xb]); refine C.retCT f32 rfl rfl rfl Bg1 U28 rfl wsz28_ch ?_
    exact get_gone hs hAs hx (by simpa using h18) h25 HK
  have h25 := h1
  refine C.condF f28 rfl ?_
  refine wp_skip (hK2 _ _ ?_)
  have f29 := f28.sub (sub_cons (i := 2) rfl (sub_cons (i := 4) rfl (sub_cons (i := 5) rfl (sub_cons (i := 6) rfl sn))))
  refine C.sk fun K6 hK6 => ?_
  refine L.val f29 wantedN rfl (by decide) (E.fieldAddrN 3 f29 U37 rfl rfl rfl wsz35_ch) fun a30 f30 => ?_
  refine L.val f30 wantedN rfl (by decide) (E.load f30 U35 rfl rfl ((Bg0).cl rfl)) fun a31 f31 => ?_
  refine L.val f31 wantedN rfl (by decide) (E.move f31 rfl) fun a32 f32 => ?_
  refine L.val f32 wantedN rfl (by decide) (E.indexA f32 (by assumption) U35 wsz28_ch rfl rfl (by omega) (by omega)) fun a33 f33 => ?_
  refine L.val f33 wantedN rfl (by decide) (E.loadR f33 U28 rfl wsz28_ch rfl (((TO.c.kept HK)).row hA hx) rfl) fun a34 f34 => ?_
  refine L.alloc f34 wantedN (by decide) (z := (.agg #[(.int .i64 0), (.int .i64 0), (.int .i64 0), (.int .i64 0), (.int .i64 0), (.int .i64 0), (.string ⟨#[]⟩), (.slice none 0 0), (.int .i64 0), (.bool false)])) (fun _ => by kernel_rfl) rfl fun a35 w4 g3 N3 f35 => ?_
  have Bg3 := N3.blk
  have kg3 := N3.kept
  have log3 := N3.lo
  have ltg3 := Bg3.lt
  have szw4 := kg3.size
  have neg0_g3 : g0 ≠ g3 := by have := Bg0.lt; omega
  have neg1_g3 : g1 ≠ g3 := by have := Bg1.lt; omega
  replace HK := HK.z kg3
  replace Bg0 := Bg0.z kg3
  replace Bg1 := Bg1.z kg3
  clear f27 f28 f29 a26 f30 a30 f31 a31 f32 a32 f33 a33 N3 kg3
  refine L.storeR f35 wantedN wsz28_ch rfl rfl rfl Bg3 rfl rfl fun a36 w5 f36 NB5 ks5 => ?_
  have szw5 := ks5.size
  replace HK := HK.trans ks5 (by intro x hx hlt; simp at hx; omega)
  replace Bg0 := Bg0.kept ks5 (by simp; omega)
  replace Bg1 := Bg1.kept ks5 (by simp; omega)
  replace Bg3 := NB5
  clear f34 a34 ks5 f35 a35
  have f37 := f36.sub (sub_cons (i := 4) rfl (sub_cons (i := 5) rfl (sub_cons (i := 8) rfl sn)))
  refine wpList_nil (hK6 _ _ (C.sk fun K7 hK7 => ?_))
  refine L.val f37 wantedN rfl (by decide) (E.fieldAddrN 7 f37 U28 rfl rfl rfl wsz26_ch) fun a38 f38 => ?_
  refine L.val f38 wantedN rfl (by decide) (E.load f38 U26 rfl rfl ((Bg3).cl rfl)) fun a39 f39 => ?_
  refine L.call f39 wantedN rfl (by decide) (run_call Tryd.call23 (args1 f39 rfl)) (cloneB_any xo.x.pay _ _ _ ((TO.p xo (List.mem_of_getElem? hx)).kept HK).sl (TS.p xo (List.mem_of_getElem? hx))) ?_
  clear f36 f37 a36 f38 a38
  rintro e w6 ⟨kc6, Ab, cb, rfl, FB⟩
  refine ⟨_, rfl, fun a40 f40 => ?_⟩
  have szw6 := kc6.size
  replace HK := HK.z kc6
  replace Bg0 := Bg0.z kc6
  replace Bg1 := Bg1.z kc6
  replace Bg3 := Bg3.z kc6
  clear f39 a39 kc6
  refine L.val f40 wantedN rfl (by decide) (E.fieldAddrN 7 f40 U28 rfl rfl rfl wsz26_ch) fun a41 f41 => ?_
  refine L.store f41 wantedN wsz26_ch rfl rfl rfl Bg3 (by (simp [Value.cells]; done)) fun a42 w7 f42 NB7 ks7 => ?_
  have szw7 := ks7.size
  replace HK := HK.trans ks7 (by intro x hx hlt; simp at hx; omega)
  replace Bg0 := Bg0.kept ks7 (by simp; omega)
  replace Bg1 := Bg1.kept ks7 (by simp; omega)
  replace FB := FB.kept ks7 (fun q hq => by simp only [List.mem_singleton]; exact fr_ne FB Bg3 hq (by decide))
  replace Bg3 := NB7
  simp only [Value.cells, List.setIfInBounds_toArray, List.set_cons_zero, List.set_cons_succ, Nat.reduceAdd, Nat.zero_add] at Bg3
  clear f40 a40 ks7 f41 a41
  have f43 := f42.sub (sub_cons (i := 4) rfl (sub_cons (i := 5) rfl (sub_cons (i := 8) rfl sn)))
  refine wpList_nil (hK7 _ _ (C.sk fun K8 hK8 => ?_))
  refine L.val f43 wantedN rfl (by decide) (E.loadB f43 U28 rfl wsz28_ch rfl (Bg3) rfl) fun a44 f44 => ?_
  refine L.storeR f44 wantedN wsz28_ch rfl rfl rfl Bg1 rfl rfl fun a45 w8 f45 NB8 ks8 => ?_
  have szw8 := ks8.size
  replace HK := HK.trans ks8 (by intro x hx hlt; simp at hx; omega)
  replace Bg0 := Bg0.kept ks8 (by simp; omega)
  replace FB := FB.kept ks8 (fun q hq => by simp only [List.mem_singleton]; exact fr_ne FB Bg1 hq (by decide))
  replace Bg3 := Bg3.kept ks8 (by simp; omega)
  replace Bg1 := NB8
  clear f42 f43 a42 ks8 f44 a44
  refine L.val f45 wantedN rfl (by decide) (E.assign f45 rfl) fun a46 f46 => ?_
  have f47 := f46.sub (sub_cons (i := 4) rfl (sub_cons (i := 5) rfl sn))
  refine wpList_nil (hK8 _ _ (wp_ret ?_)); (try simp only [xt, xb]); refine C.retCT f47 rfl rfl rfl Bg1 U28 rfl wsz28_ch ?_
  exact get_yes hs hAs hx (by simpa using h18) (by simpa using h25) HK (Fresh.pay FB rfl)
end Go.Proofs.YtekmhcdgmgbheaaDoor
namespace Go.Proofs.YtekmhcdgmgbheaaDoor
open Go.RowKit Go.Hub Go.Lib
theorem wsz25_ci : (Tryd.prog.info? 25).map (·.size) = some 3 := by kernel_rfl
theorem wsz28_ci : (Tryd.prog.info? 28).map (·.size) = some 10 := by kernel_rfl
theorem wsz35_ci : (Tryd.prog.info? 35).map (·.size) = some 1 := by kernel_rfl
def topS : List Ce → Sp
  | [] => ⟨0, 0, 0⟩
  | a :: r => r.foldl (fun o c => if ltS o c.s then c.s else o) a.s
theorem topS_snoc (l : List Ce) (c : Ce) : topS (l ++ [c]) = if l.length = 0 ∨ ltS (topS l) c.s then c.s else topS l := by
  cases l with
  | nil => simp [topS]
  | cons a r => simp [topS, List.foldl_append]
theorem top_take {l : List Cp} {k : Nat} {p : Cp} (h : l[k]? = some p) : topS ((l.map Cp.x).take (k + 1)) = if ((k : Nat) : Int) = 0 ∨ ltS (topS ((l.map Cp.x).take k)) p.x.s then p.x.s else topS ((l.map Cp.x).take k) := by
  have hk := (List.getElem?_eq_some_iff.1 h).1
  have e : (l.map Cp.x).take (k + 1) = (l.map Cp.x).take k ++ [p.x] := by rw [List.take_succ]; simp [h]
  have e2 : ((l.map Cp.x).take k).length = k := by simp; omega
  rw [e, topS_snoc, e2]
  simp only [Int.natCast_eq_zero]
set_option maxHeartbeats 1000000 in
theorem Top_any' (t : Tm) (w : World) (TO : TmOk w t) (TS : TmSm t) : Calls Tryd.prog 12 #[.agg (tcell t).toArray] w (fun e w' => Kept [] w w' ∧ e = .returned (.agg (scell (topS t.ta.cel)).toArray)) := by
  have HK : Kept [] w w := Kept.refl [] w
  refine C.enter Tryd.func12 rfl Tryd.ntmps12 rfl ?_
  intro a0 f0
  have f1 : Fr 26 a0 [(0, .agg (tcell t).toArray)] := f0
  refine C.sk fun K0 hK0 => ?_
  refine L.box f1 wantedN (by decide) rfl rfl fun a2 w1 g0 N0 f2 => ?_
  have Bg0 := N0.blk
  have kg0 := N0.kept
  have log0 := N0.lo
  have ltg0 := Bg0.lt
  have szw1 := kg0.size
  have frg0 : w.heap.size ≤ g0 := Nat.le_trans HK.size log0
  replace HK := HK.z kg0
  clear f0 N0 kg0
  refine L.alloc f2 wantedN (by decide) (z := (.agg #[(.int .i64 0), (.int .i64 0), (.int .i64 0)])) (fun _ => by kernel_rfl) rfl fun a3 w2 g1 N1 f3 => ?_
  have Bg1 := N1.blk
  have kg1 := N1.kept
  have log1 := N1.lo
  have ltg1 := Bg1.lt
  have szw2 := kg1.size
  have frg1 : w.heap.size ≤ g1 := Nat.le_trans HK.size log1
  have neg0_g1 : g0 ≠ g1 := by have := Bg0.lt; omega
  replace HK := HK.z kg1
  replace Bg0 := Bg0.z kg1
  clear f1 a0 N1 kg1
  have f4 := f3.sub (sub_cons (i := 1) rfl (sub_cons (i := 2) rfl sn))
  refine wpList_nil (hK0 _ _ (C.sk fun K1 hK1 => ?_))
  refine L.alloc f4 wantedN (by decide) (z := (.agg #[(.int .i64 0), (.int .i64 0), (.int .i64 0)])) (fun _ => by kernel_rfl) rfl fun a5 w3 g2 N2 f5 => ?_
  have Bg2 := N2.blk
  have kg2 := N2.kept
  have log2 := N2.lo
  have ltg2 := Bg2.lt
  have szw3 := kg2.size
  have frg2 : w.heap.size ≤ g2 := Nat.le_trans HK.size log2
  have neg0_g2 : g0 ≠ g2 := by have := Bg0.lt; omega
  have neg1_g2 : g1 ≠ g2 := by have := Bg1.lt; omega
  replace HK := HK.z kg2
  replace Bg0 := Bg0.z kg2
  replace Bg1 := Bg1.z kg2
  clear f2 a2 f3 N2 kg2
  refine wpList_nil (hK1 _ _ ?_)
  have f6 := f5.sub (sub_cons (i := 1) rfl (sub_cons (i := 2) rfl (sub_cons (i := 3) rfl sn)))
  refine wp_seq_k fun K2 hK2 => ?_
  refine C.sk fun K3 hK3 => ?_
  refine L.val f6 wantedN rfl (by decide) (E.fieldAddrN 3 f6 U37 rfl rfl rfl wsz35_ci) fun a7 f7 => ?_
  refine L.val f7 wantedN rfl (by decide) (E.load f7 U35 rfl rfl ((Bg0).cl rfl)) fun a8 f8 => ?_
  refine L.val f8 wantedN rfl (by decide) (E.lenL f8 U35 rfl) fun a9 f9 => ?_
  refine L.val f9 wantedN rfl (by decide) (E.move f9 rfl) fun a10 f10 => ?_
  refine wpList_nil (hK3 _ _ ?_)
  have f11 := f10.sub (sub_cons (i := 2) rfl (sub_cons (i := 3) rfl (sub_cons (i := 7) rfl (sub_cons (i := 8) rfl (sub_cons (i := 9) rfl sn)))))
  refine wp_block ?_
  clear f4 a3 f5 f6 a5 f7 a7 f8 a8 f9 a9 f10
  refine C.loop (fun gk a W => ∃ k : Nat, k + gk = t.cel.length ∧ Kept [] w W ∧ Blk W g1 25 #[.int .i64 0, .int .i64 0, .int .i64 0] ∧ Blk W g2 25 (scell (topS ((t.cel.map Cp.x).take k))).toArray ∧ Fr 26 a [(2, .pointer (some ⟨g1, 0, none⟩)), (3, .pointer (some ⟨g2, 0, none⟩)), (7, .slice t.cA t.cel.length t.cc), (8, .int .i64 t.cel.length), (9, .int .i64 k)]) (t.cel.length) ?_ ?_
  · exact ⟨0, by omega, HK, Bg1, Bg2, f11.sub (sx (sx (sx (sx (sx sn)))))⟩
  intro gk5 a12 w4 hI KL4 hKL4
  obtain ⟨k, hk, HK, Bg1, Bg2, f12⟩ := hI
  try clear f11
  have hSc := TS.c
  refine C.sk fun K5 hK5 => ?_
  refine L.val f12 wantedN rfl (by decide) (E.lss f12 rfl rfl) fun a13 f13 => ?_
  refine wpList_nil (hK5 _ _ ?_)
  have f14 := f13.sub (sub_cons (i := 2) rfl (sub_cons (i := 3) rfl (sub_cons (i := 7) rfl (sub_cons (i := 8) rfl (sub_cons (i := 9) rfl (sub_cons (i := 10) rfl sn))))))
  refine wp_seq_k fun K6 hK6 => ?_
  clear f12 a12 f13
  refine f14.splitD 10 rfl (fun h0 f15 => ?_) (fun h0 f15 => ?_)
  · obtain ⟨p, hx⟩ : ∃ p, t.cel[k]? = some p := ⟨t.cel[k]'(by omega), List.getElem?_eq_getElem _⟩
    obtain ⟨b, off, hA⟩ := TO.c.addr (i := k) (by omega)
    refine C.condT f15 rfl ?_
    refine wp_skip (hK6 _ _ ?_)
    have f16 := f15.sub (sub_cons (i := 2) rfl (sub_cons (i := 3) rfl (sub_cons (i := 7) rfl (sub_cons (i := 8) rfl (sub_cons (i := 9) rfl (sub_cons (i := 10) rfl sn))))))
    refine wp_seq_k fun K7 hK7 => ?_
    refine wp_block ?_
    refine C.sk fun K8 hK8 => ?_
    refine L.val f16 wantedN rfl (by decide) (E.move f16 rfl) fun a17 f17 => ?_
    refine L.val f17 wantedN rfl (by decide) (E.indexA f17 (by assumption) U35 wsz28_ci rfl rfl (by omega) (by omega)) fun a18 f18 => ?_
    refine L.val f18 wantedN rfl (by decide) (E.loadR f18 U28 rfl wsz28_ci rfl (((TO.kept HK)).row hA hx) rfl) fun a19 f19 => ?_
    refine L.alloc f19 wantedN (by decide) (z := (.agg #[(.int .i64 0), (.int .i64 0), (.int .i64 0), (.int .i64 0), (.int .i64 0), (.int .i64 0), (.string ⟨#[]⟩), (.slice none 0 0), (.int .i64 0), (.bool false)])) (fun _ => by kernel_rfl) rfl fun a20 w5 g4 N4 f20 => ?_
    have Bg4 := N4.blk
    have kg4 := N4.kept
    have log4 := N4.lo
    have ltg4 := Bg4.lt
    have szw5 := kg4.size
    have frg4 : w.heap.size ≤ g4 := Nat.le_trans HK.size log4
    have neg1_g4 : g1 ≠ g4 := by have := Bg1.lt; omega
    have neg2_g4 : g2 ≠ g4 := by have := Bg2.lt; omega
    replace HK := HK.z kg4
    replace Bg1 := Bg1.z kg4
    replace Bg2 := Bg2.z kg4
    clear f14 f15 f16 a13 f17 a17 f18 a18 N4 kg4
    refine L.val f20 wantedN rfl (by decide) (E.assign f20 rfl) fun a21 f21 => ?_
    refine L.storeR f21 wantedN wsz28_ci rfl rfl rfl Bg4 rfl rfl fun a22 w6 f22 NB6 ks6 => ?_
    have szw6 := ks6.size
    replace HK := HK.trans ks6 (by intro x hx hlt; simp at hx; subst hx; (exfalso; omega))
    replace Bg1 := Bg1.kept ks6 (by simp; omega)
    replace Bg2 := Bg2.kept ks6 (by simp; omega)
    replace Bg4 := NB6
    clear f19 a19 f20 a20 ks6 f21 a21
    refine wpList_nil (hK8 _ _ ?_)
    have f23 := f22.sub (sub_cons (i := 2) rfl (sub_cons (i := 3) rfl (sub_cons (i := 4) rfl (sub_cons (i := 5) rfl (sub_cons (i := 7) rfl (sub_cons (i := 8) rfl (sub_cons (i := 9) rfl (sub_cons (i := 10) rfl (sub_cons (i := 11) rfl (sub_cons (i := 12) rfl (sub_cons (i := 13) rfl sn)))))))))))
    refine wp_seq_k fun K9 hK9 => ?_
    have BgC := Bg4
    refine C.region ?_
    refine L.val f23 wantedN rfl (by decide) (E.move f23 rfl) fun a24 f24 => ?_
    refine L.val f24 wantedN rfl (by decide) (E.eql f24 rfl rfl) fun a25 f25 => ?_
    refine L.val f25 wantedN rfl (by decide) (E.move f25 rfl) fun a26 f26 => ?_
    clear f22 f23 a22 f24 a24 f25 a25
    refine f26.splitD 16 rfl (fun h1 f27 => ?_) (fun h1 f27 => ?_)
    · have h16 := h1
      refine L.run f27 (rest' := []) (by kernel_rfl) fun a28 f28 => ?_
      clear f26
      refine wpList_nil (hK9 _ _ ?_)
      have f29 := f28.sub (scR f28 2 (scR f28 3 (scR f28 4 (scR f28 5 (scR f28 7 (scR f28 8 (scR f28 9 (scR f28 10 (scR f28 11 (scR f28 12 (scR f28 13 (scR f28 14 (scR f28 15 (scR f28 16 (sub_cons (i := 17) rfl (sub_cons (i := 18) rfl (sub_cons (i := 19) rfl (sub_cons (i := 20) rfl (sv 21 (.bool true) sn)))))))))))))))))))
      refine C.condT f29 rfl ?_
      have BgC := Bg4
      refine C.region ?_
      refine L.val f29 wantedN rfl (by decide) (E.fieldAddrN 3 f29 U28 rfl rfl rfl wsz25_ci) fun a30 f30 => ?_
      refine L.val f30 wantedN rfl (by decide) (E.loadR f30 U25 rfl wsz25_ci rfl ((BgC.part 3 (scell p.x.s) rfl)) rfl) fun a31 f31 => ?_
      refine L.storeR f31 wantedN wsz25_ci rfl rfl rfl Bg2 rfl rfl fun a32 w7 f32 NB7 ks7 => ?_
      have szw7 := ks7.size
      replace HK := HK.trans ks7 (by intro x hx hlt; simp at hx; subst hx; (exfalso; omega))
      replace Bg1 := Bg1.kept ks7 (by simp; omega)
      replace Bg4 := Bg4.kept ks7 (by simp; omega)
      replace Bg2 := NB7
      clear f28 f27 f29 a28 f30 a30 ks7 f31 a31
      refine wpList_nil (hK7 _ _ ?_)
      have f33 := f32.sub (sub_cons (i := 2) rfl (sub_cons (i := 3) rfl (sub_cons (i := 4) rfl (sub_cons (i := 5) rfl (sub_cons (i := 7) rfl (sub_cons (i := 8) rfl (sub_cons (i := 9) rfl (sub_cons (i := 10) rfl (sub_cons (i := 11) rfl (sub_cons (i := 12) rfl (sub_cons (i := 13) rfl (sub_cons (i := 14) rfl (sub_cons (i := 15) rfl (sub_cons (i := 16) rfl (sub_cons (i := 17) rfl (sub_cons (i := 18) rfl (sub_cons (i := 19) rfl (sub_cons (i := 20) rfl (sub_cons (i := 21) rfl (sub_cons (i := 22) rfl (sub_cons (i := 23) rfl sn)))))))))))))))))))))
      refine C.region ?_
      refine L.val f33 wantedN rfl (by decide) (E.add f33 rfl rfl (IntWalk.i64_in _ (by omega))) fun a34 f34 => ?_
      refine L.val f34 wantedN rfl (by decide) (E.move f34 rfl) fun a35 f35 => ?_
      clear f32 f33 a32 f34 a34
      refine wpList_nil (hKL4 _ _ (gk5 - 1) ?_ ?_)
      · omega
      exact ⟨k + 1, by omega, HK, Bg1, by rw [top_take hx, if_pos (by simp [*])]; exact Bg2, f35.sub (sx (sx (sx (sx (sx sn)))))⟩
    have h16 := h1
    refine L.val f27 (f27.yes rfl rfl) rfl (by decide) (E.loadB f27 U25 rfl wsz25_ci rfl (Bg2) rfl) fun a28 f28 => ?_
    refine L.val f28 (f28.yes rfl rfl) rfl (by decide) (E.fieldAddrN 3 f28 U28 rfl rfl rfl wsz25_ci) fun a29 f29 => ?_
    refine L.val f29 (f29.yes rfl rfl) rfl (by decide) (E.loadR f29 U25 rfl wsz25_ci rfl ((BgC.part 3 (scell p.x.s) rfl)) rfl) fun a30 f30 => ?_
    refine L.call f30 (f30.yes rfl rfl) rfl (by decide) (run_call Tryd.call14 (args2 f30 rfl rfl)) (Less_any (topS ((t.cel.map Cp.x).take k)) p.x.s _) ?_
    clear f26 f27 a26 f28 a28 f29 a29
    rintro e w7 ⟨kc7, rfl⟩
    refine ⟨_, rfl, fun a31 f31 => ?_⟩
    have szw7 := kc7.size
    replace HK := HK.z kc7
    replace Bg1 := Bg1.z kc7
    replace Bg2 := Bg2.z kc7
    replace Bg4 := Bg4.z kc7
    clear f30 a30 kc7
    refine L.val f31 wantedN rfl (by decide) (E.pickF f31 rfl rfl) fun a32 f32 => ?_
    refine wpList_nil (hK9 _ _ ?_)
    have f33 := f32.sub (sub_cons (i := 2) rfl (sub_cons (i := 3) rfl (sub_cons (i := 4) rfl (sub_cons (i := 5) rfl (sub_cons (i := 7) rfl (sub_cons (i := 8) rfl (sub_cons (i := 9) rfl (sub_cons (i := 10) rfl (sub_cons (i := 11) rfl (sub_cons (i := 12) rfl (sub_cons (i := 13) rfl (sub_cons (i := 14) rfl (sub_cons (i := 15) rfl (sub_cons (i := 16) rfl (sub_cons (i := 17) rfl (sub_cons (i := 18) rfl (sub_cons (i := 19) rfl (sub_cons (i := 20) rfl (sub_cons (i := 21) rfl sn)))))))))))))))))))
    clear f31 a31 f32
    refine f33.splitD 21 rfl (fun h2 f34 => ?_) (fun h2 f34 => ?_)
    · have h21 := h2
      refine C.condT f34 rfl ?_
      have BgC := Bg4
      refine C.region ?_
      refine L.val f34 wantedN rfl (by decide) (E.fieldAddrN 3 f34 U28 rfl rfl rfl wsz25_ci) fun a35 f35 => ?_
      refine L.val f35 wantedN rfl (by decide) (E.loadR f35 U25 rfl wsz25_ci rfl ((BgC.part 3 (scell p.x.s) rfl)) rfl) fun a36 f36 => ?_
      refine L.storeR f36 wantedN wsz25_ci rfl rfl rfl Bg2 rfl rfl fun a37 w8 f37 NB8 ks8 => ?_
      have szw8 := ks8.size
      replace HK := HK.trans ks8 (by intro x hx hlt; simp at hx; subst hx; (exfalso; omega))
      replace Bg1 := Bg1.kept ks8 (by simp; omega)
      replace Bg4 := Bg4.kept ks8 (by simp; omega)
      replace Bg2 := NB8
      clear f33 f34 a32 f35 a35 ks8 f36 a36
      refine wpList_nil (hK7 _ _ ?_)
      have f38 := f37.sub (sub_cons (i := 2) rfl (sub_cons (i := 3) rfl (sub_cons (i := 4) rfl (sub_cons (i := 5) rfl (sub_cons (i := 7) rfl (sub_cons (i := 8) rfl (sub_cons (i := 9) rfl (sub_cons (i := 10) rfl (sub_cons (i := 11) rfl (sub_cons (i := 12) rfl (sub_cons (i := 13) rfl (sub_cons (i := 14) rfl (sub_cons (i := 15) rfl (sub_cons (i := 16) rfl (sub_cons (i := 17) rfl (sub_cons (i := 18) rfl (sub_cons (i := 19) rfl (sub_cons (i := 20) rfl (sub_cons (i := 21) rfl (sub_cons (i := 22) rfl (sub_cons (i := 23) rfl sn)))))))))))))))))))))
      refine C.region ?_
      refine L.val f38 wantedN rfl (by decide) (E.add f38 rfl rfl (IntWalk.i64_in _ (by omega))) fun a39 f39 => ?_
      refine L.val f39 wantedN rfl (by decide) (E.move f39 rfl) fun a40 f40 => ?_
      clear f37 f38 a37 f39 a39
      refine wpList_nil (hKL4 _ _ (gk5 - 1) ?_ ?_)
      · omega
      exact ⟨k + 1, by omega, HK, Bg1, by rw [top_take hx, if_pos (by simp [*])]; exact Bg2, f40.sub (sx (sx (sx (sx (sx sn)))))⟩
    have h21 := h2
    refine C.condF f34 rfl ?_
    refine wp_skip (hK7 _ _ ?_)
    have f35 := f34.sub (sub_cons (i := 2) rfl (sub_cons (i := 3) rfl (sub_cons (i := 4) rfl (sub_cons (i := 5) rfl (sub_cons (i := 7) rfl (sub_cons (i := 8) rfl (sub_cons (i := 9) rfl (sub_cons (i := 10) rfl (sub_cons (i := 11) rfl (sub_cons (i := 12) rfl (sub_cons (i := 13) rfl (sub_cons (i := 14) rfl (sub_cons (i := 15) rfl (sub_cons (i := 16) rfl (sub_cons (i := 17) rfl (sub_cons (i := 18) rfl (sub_cons (i := 19) rfl (sub_cons (i := 20) rfl (sub_cons (i := 21) rfl sn)))))))))))))))))))
    refine C.region ?_
    refine L.val f35 wantedN rfl (by decide) (E.add f35 rfl rfl (IntWalk.i64_in _ (by omega))) fun a36 f36 => ?_
    refine L.val f36 wantedN rfl (by decide) (E.move f36 rfl) fun a37 f37 => ?_
    clear f33 f34 f35 a32 f36 a36
    refine wpList_nil (hKL4 _ _ (gk5 - 1) ?_ ?_)
    · omega
    exact ⟨k + 1, by omega, HK, Bg1, by rw [top_take hx, if_neg (by simp [*]; omega)]; exact Bg2, f37.sub (sx (sx (sx (sx (sx sn)))))⟩
  have hend := h0
  refine C.condF f15 rfl ?_
  refine wp_exit (hK2 _ _ ?_)
  have f16 := f15.sub (sub_cons (i := 2) rfl (sub_cons (i := 3) rfl sn))
  refine C.sk fun K10 hK10 => ?_
  refine L.val f16 wantedN rfl (by decide) (E.loadB f16 U25 rfl wsz25_ci rfl (Bg2) rfl) fun a17 f17 => ?_
  refine L.storeR f17 wantedN wsz25_ci rfl rfl rfl Bg1 rfl rfl fun a18 w5 f18 NB5 ks5 => ?_
  have szw5 := ks5.size
  replace HK := HK.trans ks5 (by intro x hx hlt; simp at hx; subst hx; (exfalso; omega))
  replace Bg2 := Bg2.kept ks5 (by simp; omega)
  replace Bg1 := NB5
  clear f14 f15 f16 a13 ks5 f17 a17
  have f19 := f18.sub (sub_cons (i := 2) rfl sn)
  refine wpList_nil (hK10 _ _ (wp_ret ?_)); (try simp only [xt, xb]); refine C.retC f19 rfl rfl Bg1 U25 rfl wsz25_ci ?_
  exact ⟨HK, by rw [List.take_of_length_le (by simp; omega)]; rfl⟩
end Go.Proofs.YtekmhcdgmgbheaaDoor
namespace Go.Proofs.YtekmhcdgmgbheaaDoor
open Go.RowKit Go.Hub Go.Lib
theorem wzib28_cj : (Tryd.prog.info? 28).map (fun i => (i.zero, i.size, i.bytes)) = some (some (.agg #[(.int .i64 0), (.int .i64 0), (.int .i64 0), (.int .i64 0), (.int .i64 0), (.int .i64 0), (.string ⟨#[]⟩), (.slice none 0 0), (.int .i64 0), (.bool false)]), 10, 104) := by kernel_rfl
theorem wzi28_cj : (Tryd.prog.info? 28).map (fun i => (i.zero, i.size)) = some (some (.agg #[(.int .i64 0), (.int .i64 0), (.int .i64 0), (.int .i64 0), (.int .i64 0), (.int .i64 0), (.string ⟨#[]⟩), (.slice none 0 0), (.int .i64 0), (.bool false)]), 10) := by kernel_rfl
theorem wbs35_1_cj (x0_0 x0_1 x0_2 x0_3 x0_4 x0_5 x0_6 x0_7 x0_8 x0_9 : Value) : Instr.fill (fun i => some (i * 10, 10)) ((Array.range (1 * 10)).map fun j => (Value.cells (.agg #[(.int .i64 0), (.int .i64 0), (.int .i64 0), (.int .i64 0), (.int .i64 0), (.int .i64 0), (.string ⟨#[]⟩), (.slice none 0 0), (.int .i64 0), (.bool false)]))[j % (Value.cells (.agg #[(.int .i64 0), (.int .i64 0), (.int .i64 0), (.int .i64 0), (.int .i64 0), (.int .i64 0), (.string ⟨#[]⟩), (.slice none 0 0), (.int .i64 0), (.bool false)])).size]!) [(0, .agg #[x0_0, x0_1, x0_2, x0_3, x0_4, x0_5, x0_6, x0_7, x0_8, x0_9])] = some #[x0_0, x0_1, x0_2, x0_3, x0_4, x0_5, x0_6, x0_7, x0_8, x0_9] := by kernel_rfl
theorem wsz4_cj : (Tryd.prog.info? 4).map (·.size) = some 1 := by kernel_rfl
theorem wsz9_cj : (Tryd.prog.info? 9).map (·.size) = some 1 := by kernel_rfl
theorem wsz26_cj : (Tryd.prog.info? 26).map (·.size) = some 1 := by kernel_rfl
theorem wsz28_cj : (Tryd.prog.info? 28).map (·.size) = some 10 := by kernel_rfl
theorem wsz35_cj : (Tryd.prog.info? 35).map (·.size) = some 1 := by kernel_rfl
def showB (u : ByteArray) (c : Ce) : Bool := !c.gone && matchB u c.topic
def MatchPost (t : Tm) (u : ByteArray) (w : World) (e : Ending) (w' : World) : Prop := Kept [] w w' ∧ ∃ A c lo, e = .returned (.slice A lo.length c) ∧ lo.map Cp.x = t.ta.cel.filter (showB u) ∧ Fresh w w' 28 10 A lo.length c (pcells lo) ∧ ∀ q ∈ lo, PayOk w' q
theorem _root_.Go.Hub.PayOk.kept_own {w0 w w' : World} {p : Cp} {n c : Nat} {A : Option Addr} {xs : List Value} (h : PayOk w p) (F : Fresh w0 w 28 10 A n c xs) (hk : Kept ((Value.slice A n c).ownBlock.toList) w w') : PayOk w' p := h.keptF hk fun q hq => by
  obtain ⟨_, cs, hc⟩ := F.own.blk q (by simpa using hq)
  exact not_typ hc (by decide)
theorem app_all {P : Cp → Prop} {l : List Cp} {p : Cp} (h : ∀ q ∈ l, P q) (hp : P p) : ∀ q ∈ l ++ [p], P q := fun q hq => by
  simp at hq
  rcases hq with hq | rfl
  · exact h q hq
  exact hp
theorem show_take {l : List Cp} {k : Nat} {p : Cp} {u : ByteArray} (h : l[k]? = some p) : ((l.map Cp.x).take (k + 1)).filter (showB u) = ((l.map Cp.x).take k).filter (showB u) ++ if showB u p.x then [p.x] else [] := by
  rw [List.take_succ]
  simp [h, List.filter_append]
  split <;> simp_all
theorem show_yes {l : List Cp} {k : Nat} {p : Cp} {u : ByteArray} (h : l[k]? = some p) (hs : showB u p.x = true) : ((l.map Cp.x).take (k + 1)).filter (showB u) = ((l.map Cp.x).take k).filter (showB u) ++ [p.x] := by rw [show_take h, if_pos hs]
theorem show_no {l : List Cp} {k : Nat} {p : Cp} {u : ByteArray} (h : l[k]? = some p) (hs : showB u p.x = false) : ((l.map Cp.x).take (k + 1)).filter (showB u) = ((l.map Cp.x).take k).filter (showB u) := by rw [show_take h, hs]; simp
set_option maxHeartbeats 1000000 in
theorem Match_any (t : Tm) (u : ByteArray) (w : World) (TO : TmOk w t) (TS : TmSm t) (G : Glob w) (hu : u.size ≤ 100000) (hT : ∀ x ∈ t.cel, x.x.topic.size ≤ 100000) : Calls Tryd.prog 13 #[.agg (tcell t).toArray, .string u] w (MatchPost t u w) := by
  have HK : Kept [] w w := Kept.refl [] w
  refine C.enter Tryd.func13 rfl Tryd.ntmps13 rfl ?_
  intro a0 f0
  have f1 : Fr 34 a0 [(0, .agg (tcell t).toArray), (1, .string u)] := f0
  refine C.sk fun K0 hK0 => ?_
  refine L.box f1 wantedN (by decide) rfl rfl fun a2 w1 g0 N0 f2 => ?_
  have Bg0 := N0.blk
  have kg0 := N0.kept
  have log0 := N0.lo
  have ltg0 := Bg0.lt
  have szw1 := kg0.size
  have frg0 : w.heap.size ≤ g0 := Nat.le_trans HK.size log0
  replace HK := HK.z kg0
  clear f0 N0 kg0
  refine L.val f2 wantedN rfl (by decide) (E.assign f2 rfl) fun a3 f3 => ?_
  have f4 := f3.sub (sub_cons (i := 1) rfl (sub_cons (i := 2) rfl (sub_cons (i := 4) rfl sn)))
  refine wpList_nil (hK0 _ _ (C.sk fun K1 hK1 => ?_))
  refine L.val f4 wantedN rfl (by decide) (E.assign f4 rfl) fun a5 f5 => ?_
  refine wpList_nil (hK1 _ _ ?_)
  have f6 := f5.sub (sub_cons (i := 1) rfl (sub_cons (i := 2) rfl (sub_cons (i := 4) rfl (sub_cons (i := 5) rfl sn))))
  refine wp_seq_k fun K2 hK2 => ?_
  refine C.sk fun K3 hK3 => ?_
  refine L.val f6 wantedN rfl (by decide) (E.fieldAddrN 3 f6 U37 rfl rfl rfl wsz35_cj) fun a7 f7 => ?_
  refine L.val f7 wantedN rfl (by decide) (E.load f7 U35 rfl rfl ((Bg0).cl rfl)) fun a8 f8 => ?_
  refine L.val f8 wantedN rfl (by decide) (E.lenL f8 U35 rfl) fun a9 f9 => ?_
  clear f1 a0 f2 a2 f3 f4 a3 f5 f6 a5 f7 a7 f8 a8
  refine L.val f9 wantedN rfl (by decide) (E.move f9 rfl) fun a10 f10 => ?_
  refine wpList_nil (hK3 _ _ ?_)
  have f11 := f10.sub (sub_cons (i := 1) rfl (sub_cons (i := 4) rfl (sub_cons (i := 5) rfl (sub_cons (i := 9) rfl (sub_cons (i := 10) rfl (sub_cons (i := 11) rfl sn))))))
  refine wp_block ?_
  clear f9 a9 f10
  refine C.loop (fun gk a W => ∃ (k : Nat) (A : Option Addr) (c : Nat) (lo : List Cp), k + gk = t.cel.length ∧ lo.map Cp.x = ((t.cel.map Cp.x).take k).filter (showB u) ∧ lo.length ≤ k ∧ (∀ q ∈ lo, PayOk W q) ∧ Fresh w W 28 10 A lo.length c (pcells lo) ∧ Kept [] w W ∧ Fr 34 a [(1, .string u), (5, .slice A lo.length c), (9, .slice t.cA t.cel.length t.cc), (10, .int .i64 t.cel.length), (11, .int .i64 k)]) (t.cel.length) ?_ ?_
  · exact ⟨0, none, 0, [], by omega, rfl, by simp, by simp, Fresh.nil _ _ _ _, HK, f11.sub (sx (sx (sx (sx (sx sn)))))⟩
  intro gk5 a12 w2 hI KL4 hKL4
  obtain ⟨k, A, c, lo, hk, hl, hlk, hP, F, HK, f12⟩ := hI
  try clear f11
  have hSc := TS.c
  have hFb : ∀ q, A.map (·.block) = some q → q < w2.heap.size := fun q hq => fr_hi F hq
  refine C.sk fun K5 hK5 => ?_
  refine L.val f12 wantedN rfl (by decide) (E.lss f12 rfl rfl) fun a13 f13 => ?_
  refine wpList_nil (hK5 _ _ ?_)
  have f14 := f13.sub (sub_cons (i := 1) rfl (sub_cons (i := 5) rfl (sub_cons (i := 9) rfl (sub_cons (i := 10) rfl (sub_cons (i := 11) rfl (sub_cons (i := 12) rfl sn))))))
  refine wp_seq_k fun K6 hK6 => ?_
  clear f12 a12 f13
  refine f14.splitD 12 rfl (fun h0 f15 => ?_) (fun h0 f15 => ?_)
  · obtain ⟨p, hx⟩ : ∃ p, t.cel[k]? = some p := ⟨t.cel[k]'(by omega), List.getElem?_eq_getElem _⟩
    obtain ⟨b, off, hA⟩ := TO.c.addr (i := k) (by omega)
    refine C.condT f15 rfl ?_
    refine wp_skip (hK6 _ _ ?_)
    have f16 := f15.sub (sub_cons (i := 1) rfl (sub_cons (i := 5) rfl (sub_cons (i := 9) rfl (sub_cons (i := 10) rfl (sub_cons (i := 11) rfl (sub_cons (i := 12) rfl sn))))))
    refine wp_seq_k fun K7 hK7 => ?_
    refine wp_block ?_
    refine C.sk fun K8 hK8 => ?_
    refine L.val f16 wantedN rfl (by decide) (E.indexA f16 (by assumption) U35 wsz28_cj rfl rfl (by omega) (by omega)) fun a17 f17 => ?_
    refine L.val f17 wantedN rfl (by decide) (E.loadR f17 U28 rfl wsz28_cj rfl (((TO.kept HK)).row hA hx) rfl) fun a18 f18 => ?_
    refine L.alloc f18 wantedN (by decide) (z := (.agg #[(.int .i64 0), (.int .i64 0), (.int .i64 0), (.int .i64 0), (.int .i64 0), (.int .i64 0), (.string ⟨#[]⟩), (.slice none 0 0), (.int .i64 0), (.bool false)])) (fun _ => by kernel_rfl) rfl fun a19 w3 g2 N2 f19 => ?_
    have Bg2 := N2.blk
    have kg2 := N2.kept
    have log2 := N2.lo
    have ltg2 := Bg2.lt
    have szw3 := kg2.size
    have frg2 : w.heap.size ≤ g2 := Nat.le_trans HK.size log2
    replace HK := HK.z kg2
    replace F := F.kept0 kg2
    replace hP := fun q hq => (hP q hq).kept kg2
    clear f14 f15 f16 a13 f17 a17 N2 kg2
    refine L.storeR f19 wantedN wsz28_cj rfl rfl rfl Bg2 rfl rfl fun a20 w4 f20 NB4 ks4 => ?_
    have szw4 := ks4.size
    replace HK := HK.trans ks4 (by intro x hx hlt; simp at hx; subst hx; (exfalso; omega))
    replace F := F.kept ks4 (fun q hq => by have := hFb q hq; simp only [List.mem_singleton]; omega)
    replace hP := fun q hq => (hP q hq).kept1 ks4 Bg2 (by decide)
    replace Bg2 := NB4
    clear f18 a18 ks4 f19 a19
    have f21 := f20.sub (sub_cons (i := 1) rfl (sub_cons (i := 5) rfl (sub_cons (i := 7) rfl (sub_cons (i := 9) rfl (sub_cons (i := 10) rfl (sub_cons (i := 11) rfl (sub_cons (i := 12) rfl (sub_cons (i := 13) rfl (sub_cons (i := 14) rfl sn)))))))))
    refine wpList_nil (hK8 _ _ (C.sk fun K9 hK9 => ?_))
    refine L.val f21 wantedN rfl (by decide) (E.fieldAddrN 9 f21 U28 rfl rfl rfl wsz4_cj) fun a22 f22 => ?_
    refine L.val f22 wantedN rfl (by decide) (E.load f22 U4 rfl rfl ((Bg2).cl rfl)) fun a23 f23 => ?_
    refine L.val f23 wantedN rfl (by decide) (E.not f23 rfl) fun a24 f24 => ?_
    refine L.val f24 wantedN rfl (by decide) (E.move f24 rfl) fun a25 f25 => ?_
    clear f20 f21 a20 f22 a22 f23 a23 f24 a24
    refine f25.splitNB 18 rfl (fun h1 f26 => ?_) (fun h1 f26 => ?_)
    · have h18 := h1
      refine L.val f26 (f26.yes rfl rfl) rfl (by decide) (E.move f26 rfl) fun a27 f27 => ?_
      refine L.val f27 (f27.yes rfl rfl) rfl (by decide) (E.fieldAddrN 6 f27 U28 rfl rfl rfl wsz9_cj) fun a28 f28 => ?_
      refine L.val f28 (f28.yes rfl rfl) rfl (by decide) (E.load f28 U9 rfl rfl ((Bg2).cl rfl)) fun a29 f29 => ?_
      refine L.call f29 (f29.yes rfl rfl) rfl (by decide) (run_call Tryd.call31 (args2 f29 rfl rfl)) (match_any u p.x.topic w4 (G.kept HK) hu (hT p (List.mem_of_getElem? hx))) ?_
      clear f25 f26 a25 f27 a27 f28 a28
      rintro e w5 ⟨kc5, rfl⟩
      refine ⟨_, rfl, fun a30 f30 => ?_⟩
      have szw5 := kc5.size
      replace HK := HK.z kc5
      replace F := F.kept0 kc5
      replace hP := fun q hq => (hP q hq).kept kc5
      replace Bg2 := Bg2.z kc5
      clear f29 a29 kc5
      refine L.val f30 wantedN rfl (by decide) (E.pickT f30 rfl rfl) fun a31 f31 => ?_
      refine wpList_nil (hK9 _ _ ?_)
      have f32 := f31.sub (sub_cons (i := 1) rfl (sub_cons (i := 5) rfl (sub_cons (i := 7) rfl (sub_cons (i := 9) rfl (sub_cons (i := 10) rfl (sub_cons (i := 11) rfl (sub_cons (i := 12) rfl (sub_cons (i := 13) rfl (sub_cons (i := 14) rfl (sub_cons (i := 15) rfl (sub_cons (i := 16) rfl (sub_cons (i := 17) rfl (sub_cons (i := 18) rfl (sub_cons (i := 19) rfl (sub_cons (i := 20) rfl (sub_cons (i := 21) rfl (sub_cons (i := 22) rfl (sub_cons (i := 23) rfl sn))))))))))))))))))
      clear f30 a30 f31
      refine f32.split 23 rfl (fun h2 f33 => ?_) (fun h2 f33 => ?_)
      · have h23 := h2
        refine C.condT f33 rfl ?_
        refine C.sk fun K10 hK10 => ?_
        refine L.val f33 wantedN rfl (by decide) (E.fieldAddrN 7 f33 U28 rfl rfl rfl wsz26_cj) fun a34 f34 => ?_
        refine L.val f34 wantedN rfl (by decide) (E.load f34 U26 rfl rfl ((Bg2).cl rfl)) fun a35 f35 => ?_
        refine L.call f35 wantedN rfl (by decide) (run_call Tryd.call23 (args1 f35 rfl)) (cloneB_any p.x.pay _ _ _ ((TO.p p (List.mem_of_getElem? hx)).kept HK).sl (TS.p p (List.mem_of_getElem? hx))) ?_
        clear f32 f33 a31 f34 a34
        rintro e w6 ⟨kc6, Ab, cb, rfl, FB⟩
        refine ⟨_, rfl, fun a36 f36 => ?_⟩
        have szw6 := kc6.size
        replace HK := HK.z kc6
        replace F := F.kept0 kc6
        replace hP := fun q hq => (hP q hq).kept kc6
        replace Bg2 := Bg2.z kc6
        clear f35 a35 kc6
        refine L.val f36 wantedN rfl (by decide) (E.fieldAddrN 7 f36 U28 rfl rfl rfl wsz26_cj) fun a37 f37 => ?_
        refine L.store f37 wantedN wsz26_cj rfl rfl rfl Bg2 (by (simp [Value.cells]; done)) fun a38 w7 f38 NB7 ks7 => ?_
        have szw7 := ks7.size
        replace HK := HK.trans ks7 (by intro x hx hlt; simp at hx; subst hx; (exfalso; omega))
        replace F := F.kept ks7 (fun q hq => by have := hFb q hq; simp only [List.mem_singleton]; omega)
        replace hP := fun q hq => (hP q hq).kept1 ks7 Bg2 (by decide)
        replace FB := FB.kept ks7 (fun q hq => by simp only [List.mem_singleton]; exact fr_ne FB Bg2 hq (by decide))
        replace Bg2 := NB7
        simp only [Value.cells, List.setIfInBounds_toArray, List.set_cons_zero, List.set_cons_succ, Nat.reduceAdd, Nat.zero_add] at Bg2
        clear f36 a36 ks7 f37 a37
        refine wpList_nil (hK10 _ _ ?_)
        have f39 := f38.sub (sub_cons (i := 1) rfl (sub_cons (i := 5) rfl (sub_cons (i := 7) rfl (sub_cons (i := 9) rfl (sub_cons (i := 10) rfl (sub_cons (i := 11) rfl (sub_cons (i := 12) rfl (sub_cons (i := 13) rfl (sub_cons (i := 14) rfl (sub_cons (i := 15) rfl (sub_cons (i := 16) rfl (sub_cons (i := 17) rfl (sub_cons (i := 18) rfl (sub_cons (i := 19) rfl (sub_cons (i := 20) rfl (sub_cons (i := 21) rfl (sub_cons (i := 22) rfl (sub_cons (i := 23) rfl (sub_cons (i := 24) rfl (sub_cons (i := 25) rfl (sub_cons (i := 26) rfl (sub_cons (i := 27) rfl sn))))))))))))))))))))))
        have hPx : PayOk w7 ⟨p.x, Ab, cb⟩ := Fresh.pay FB rfl
        clear f38
        refine C.region ?_
        refine L.val f39 wantedN rfl (by decide) (E.move f39 rfl) fun a40 f40 => ?_
        refine L.val f40 wantedN rfl (by decide) (E.loadB f40 U28 rfl wsz28_cj rfl (Bg2) rfl) fun a41 f41 => ?_
        refine L.buildSlice f41 wantedN (by decide) (parts1 f41 rfl) U35 wzi28_cj rfl rfl (wbs35_1_cj _ _ _ _ _ _ _ _ _ _) fun a42 w8 g7 N7 f42 => ?_
        have Bg7 := N7.blk
        have kg7 := N7.kept
        have log7 := N7.lo
        have ltg7 := Bg7.lt
        have szw8 := kg7.size
        have frg7 : w.heap.size ≤ g7 := Nat.le_trans HK.size log7
        have neg2_g7 : g2 ≠ g7 := by have := Bg2.lt; omega
        replace HK := HK.z kg7
        replace F := F.kept0 kg7
        replace hP := fun q hq => (hP q hq).kept kg7
        replace Bg2 := Bg2.z kg7
        replace hPx := hPx.kept kg7
        clear f39 a38 f40 a40 N7 kg7
        refine L.append f42 wantedN (by decide) U35 wzib28_cj rfl rfl rfl rfl (F.own) ((sl_oneC _ _ ⟨p.x, Ab, cb⟩ Bg7)) (fun u hu => pcells_one [⟨p.x, Ab, cb⟩] u (by show u ∈ pcell _ ++ []; rw [List.append_nil]; exact hu)) (by unfold maxLen; omega) (by omega) fun a43 w9 Ay cy AP9 f43 => ?_
        have hPn := PayOk.kept_own hPx F AP9.kept
        have hPa : ∀ q ∈ lo, PayOk w9 q := fun q hq => PayOk.kept_own (hP q hq) F AP9.kept
        have FY : Fresh w w9 28 10 Ay (lo.length + 1) cy (pcells lo ++ pcells [⟨p.x, Ab, cb⟩]) := AP9.next F HK.size
        replace HK := AP9.grow F HK
        have kap9 := AP9.kept
        have szw9 := kap9.size
        clear f41 a41 f42 a42 kap9
        refine L.val f43 wantedN rfl (by decide) (E.assign f43 rfl) fun a44 f44 => ?_
        refine wpList_nil (hK7 _ _ ?_)
        have f45 := f44.sub (sub_cons (i := 1) rfl (sub_cons (i := 5) rfl (sub_cons (i := 7) rfl (sub_cons (i := 9) rfl (sub_cons (i := 10) rfl (sub_cons (i := 11) rfl (sub_cons (i := 12) rfl (sub_cons (i := 13) rfl (sub_cons (i := 14) rfl (sub_cons (i := 15) rfl (sub_cons (i := 16) rfl (sub_cons (i := 17) rfl (sub_cons (i := 18) rfl (sub_cons (i := 19) rfl (sub_cons (i := 20) rfl (sub_cons (i := 21) rfl (sub_cons (i := 22) rfl (sub_cons (i := 23) rfl (sub_cons (i := 24) rfl (sub_cons (i := 25) rfl (sub_cons (i := 26) rfl (sub_cons (i := 27) rfl (sub_cons (i := 28) rfl (sub_cons (i := 29) rfl (sub_cons (i := 30) rfl (sub_cons (i := 31) rfl sn))))))))))))))))))))))))))
        refine C.region ?_
        refine L.val f45 wantedN rfl (by decide) (E.add f45 rfl rfl (IntWalk.i64_in _ (by omega))) fun a46 f46 => ?_
        refine L.val f46 wantedN rfl (by decide) (E.move f46 rfl) fun a47 f47 => ?_
        clear f43 a43 f44 f45 a44 f46 a46
        refine wpList_nil (hKL4 _ _ (gk5 - 1) ?_ ?_)
        · omega
        exact ⟨k + 1, Ay, cy, lo ++ [⟨p.x, Ab, cb⟩], by omega, by rw [show_yes hx (by simp [showB, *]), ← hl]; simp, by simp; omega, app_all hPa hPn, by rw [pcells_append]; simpa using FY, HK, f47.sub (sx (sub_cons (by rw [List.length_append]; rfl) (sx (sx (sx sn)))))⟩
      have h23 := h2
      refine C.condF f33 rfl ?_
      refine wp_skip (hK7 _ _ ?_)
      have f34 := f33.sub (sub_cons (i := 1) rfl (sub_cons (i := 5) rfl (sub_cons (i := 7) rfl (sub_cons (i := 9) rfl (sub_cons (i := 10) rfl (sub_cons (i := 11) rfl (sub_cons (i := 12) rfl (sub_cons (i := 13) rfl (sub_cons (i := 14) rfl (sub_cons (i := 15) rfl (sub_cons (i := 16) rfl (sub_cons (i := 17) rfl (sub_cons (i := 18) rfl (sub_cons (i := 19) rfl (sub_cons (i := 20) rfl (sub_cons (i := 21) rfl (sub_cons (i := 22) rfl (sub_cons (i := 23) rfl sn))))))))))))))))))
      refine C.region ?_
      refine L.val f34 wantedN rfl (by decide) (E.add f34 rfl rfl (IntWalk.i64_in _ (by omega))) fun a35 f35 => ?_
      refine L.val f35 wantedN rfl (by decide) (E.move f35 rfl) fun a36 f36 => ?_
      clear f32 f33 f34 a31 f35 a35
      refine wpList_nil (hKL4 _ _ (gk5 - 1) ?_ ?_)
      · omega
      exact ⟨k + 1, A, c, lo, by omega, by rw [show_no hx (by simp [showB, *])]; exact hl, by omega, hP, F, HK, f36.sub (sx (sx (sx (sx (sx sn)))))⟩
    have h18 := h1
    refine L.run f26 (rest' := []) (by kernel_rfl) fun a27 f27 => ?_
    clear f25
    refine wpList_nil (hK9 _ _ ?_)
    have f28 := f27.sub (scR f27 1 (scR f27 5 (scR f27 7 (scR f27 9 (scR f27 10 (scR f27 11 (scR f27 12 (scR f27 13 (scR f27 14 (scR f27 15 (scR f27 16 (scR f27 17 (scR f27 18 (sub_cons (i := 19) rfl (sub_cons (i := 20) rfl (sub_cons (i := 21) rfl (sub_cons (i := 22) rfl (sv 23 (.bool false) sn))))))))))))))))))
    refine C.condF f28 rfl ?_
    refine wp_skip (hK7 _ _ ?_)
    have f29 := f28.sub (sub_cons (i := 1) rfl (sub_cons (i := 5) rfl (sub_cons (i := 7) rfl (sub_cons (i := 9) rfl (sub_cons (i := 10) rfl (sub_cons (i := 11) rfl (sub_cons (i := 12) rfl (sub_cons (i := 13) rfl (sub_cons (i := 14) rfl (sub_cons (i := 15) rfl (sub_cons (i := 16) rfl (sub_cons (i := 17) rfl (sub_cons (i := 18) rfl (sub_cons (i := 19) rfl (sub_cons (i := 20) rfl (sub_cons (i := 21) rfl (sub_cons (i := 22) rfl (sub_cons (i := 23) rfl sn))))))))))))))))))
    refine C.region ?_
    refine L.val f29 wantedN rfl (by decide) (E.add f29 rfl rfl (IntWalk.i64_in _ (by omega))) fun a30 f30 => ?_
    refine L.val f30 wantedN rfl (by decide) (E.move f30 rfl) fun a31 f31 => ?_
    clear f27 f26 f28 f29 a27 f30 a30
    refine wpList_nil (hKL4 _ _ (gk5 - 1) ?_ ?_)
    · omega
    exact ⟨k + 1, A, c, lo, by omega, by rw [show_no hx (by simp [showB, *])]; exact hl, by omega, hP, F, HK, f31.sub (sx (sx (sx (sx (sx sn)))))⟩
  have hend := h0
  refine C.condF f15 rfl ?_
  refine wp_exit (hK2 _ _ ?_)
  have f16 := f15.sub (sub_cons (i := 5) rfl sn)
  refine C.sk fun K11 hK11 => ?_
  refine L.val f16 wantedN rfl (by decide) (E.move f16 rfl) fun a17 f17 => ?_
  refine L.val f17 wantedN rfl (by decide) (E.assign f17 rfl) fun a18 f18 => ?_
  have f19 := f18.sub (sub_cons (i := 4) rfl sn)
  refine wpList_nil (hK11 _ _ (wp_ret ?_)); (try simp only [xt, xb]); refine C.ret f19 rfl rfl ?_
  exact ⟨HK, A, c, lo, rfl, by rw [hl, List.take_of_length_le (by simp; omega)]; rfl, F, hP⟩
end Go.Proofs.YtekmhcdgmgbheaaDoor
namespace Go.Proofs.YtekmhcdgmgbheaaDoor
open Go.RowKit Go.Hub Go.Lib
theorem wsz23_ck : (Tryd.prog.info? 23).map (·.size) = some 3 := by kernel_rfl
theorem wsz32_ck : (Tryd.prog.info? 32).map (·.size) = some 1 := by kernel_rfl
theorem wsz4_ck : (Tryd.prog.info? 4).map (·.size) = some 1 := by kernel_rfl
structure _root_.Go.Hub.Rw where
  l : List Dt
  A : Option Addr
  c : Nat
def RwsOk (w : World) (RA : Option Addr) (rs : List Rw) : Prop := Sl w RA rs.length 1 (rs.map fun r => .slice r.A r.l.length r.c) ∧ ∀ r ∈ rs, Ds w r.A r.l ∧ r.l.length ≤ 1000000
theorem RwsOk.kept {w w' : World} {RA : Option Addr} {rs : List Rw} (h : RwsOk w RA rs) (hk : Kept [] w w') : RwsOk w' RA rs := ⟨h.1.kept hk, fun r hr => ⟨(h.2 r hr).1.kept hk, (h.2 r hr).2⟩⟩
theorem _root_.Go.Hub.Sl.cell_at {w : World} {A : Option Addr} {rs : List Rw} (h : Sl w A rs.length 1 (rs.map fun r => .slice r.A r.l.length r.c)) {b off k : Nat} {r : Rw} (hA : A = some ⟨b, off, none⟩) (hx : rs[k]? = some r) : w.cell? ⟨b, off + Int.toNat (k : Int) * 1, none⟩ = some (.slice r.A r.l.length r.c) := by
  have hk := (List.getElem?_eq_some_iff.1 hx).1
  rw [Int.toNat_natCast, Nat.mul_one]
  exact Sl.cell h (by omega) hA (by simp [hx])
def seenB (rs : List Rw) (d : Dt) : Bool := rs.all fun r => Go.Hub.hasB r.l d
def goesC (rs : List Rw) (c : Ce) : Bool := c.gone && seenB rs c.d
def IdxIs (rs : List Rw) (d : Dt) (i : Int) : Prop := (0 ≤ i ∧ seenB rs d = false) ∨ (i < 0 ∧ seenB rs d = true)
def IdxR (rs : List Rw) (d : Dt) (w : World) (e : Ending) (w' : World) : Prop := Kept [] w w' ∧ ∃ i : Int, e = .returned (.int .i64 i) ∧ IdxIs rs d i
theorem IdxIs.is {rs : List Rw} {d : Dt} {i : Int} (h : IdxIs rs d i) : decide (0 ≤ i) = !seenB rs d := by
  rcases h with ⟨h1, h2⟩ | ⟨h1, h2⟩
  · simp [h1, h2]
  simp [h2]; omega
theorem take_allR {rs : List Rw} {P : Rw → Prop} {k : Nat} {r : Rw} (h : ∀ x ∈ rs.take k, P x) (hx : rs[k]? = some r) (hp : P r) : ∀ x ∈ rs.take (k + 1), P x := fun x hm => by
  rw [List.take_succ, hx] at hm
  simp at hm
  rcases hm with hm | rfl
  · exact h x hm
  exact hp
theorem idxR_hit {rs : List Rw} {d : Dt} {k : Nat} {r : Rw} (hx : rs[k]? = some r) (h : Go.Hub.hasB r.l d = false) : IdxIs rs d (k : Int) := .inl ⟨by omega, by
  unfold seenB
  rw [List.all_eq_false]
  exact ⟨r, List.mem_of_getElem? hx, by simp [h]⟩⟩
theorem idxR_no {rs : List Rw} {d : Dt} (h : ∀ r ∈ rs, Go.Hub.hasB r.l d = true) : IdxIs rs d (-1) := .inr ⟨by omega, List.all_eq_true.2 h⟩
set_option maxHeartbeats 1000000 in
theorem pr11_any (r : Rw) (p : Cp) (g : Nat) (w : World) (B : Blk w g 28 (pcell p).toArray) (R1 : Ds w r.A r.l) (hr : r.l.length ≤ 1000000) : Calls Tryd.prog 29 #[.slice r.A r.l.length r.c, .pointer (some ⟨g, 0, none⟩)] w (fun e w' => Kept [] w w' ∧ e = .returned (.bool (!Go.Hub.hasB r.l p.x.d))) := by
  have HK : Kept [] w w := Kept.refl [] w
  refine C.enter Tryd.func29 rfl Tryd.ntmps29 rfl ?_
  intro a0 f0
  have f1 : Fr 9 a0 [(0, .slice r.A r.l.length r.c), (1, .pointer (some ⟨g, 0, none⟩))] := f0
  refine C.sk fun K0 hK0 => ?_
  refine L.val f1 wantedN rfl (by decide) (E.assign f1 rfl) fun a2 f2 => ?_
  have f3 := f2.sub (sub_cons (i := 0) rfl (sub_cons (i := 1) rfl (sub_cons (i := 3) rfl sn)))
  refine wpList_nil (hK0 _ _ (C.sk fun K1 hK1 => ?_))
  refine L.val f3 wantedN rfl (by decide) (E.move f3 rfl) fun a4 f4 => ?_
  refine L.val f4 wantedN rfl (by decide) (E.fieldAddrN 0 f4 U28 rfl rfl rfl wsz23_ck) fun a5 f5 => ?_
  refine L.val f5 wantedN rfl (by decide) (E.loadR f5 U23 rfl wsz23_ck rfl ((B.part 0 (dcell p.x.d) rfl)) rfl) fun a6 f6 => ?_
  refine L.call f6 wantedN rfl (by decide) (run_call Tryd.call30 (args2 f6 rfl rfl)) (Has_any r.l r.A r.c p.x.d _ (R1.kept HK) hr) ?_
  clear f0 f1 a0 f2 f3 a2 f4 a4 f5 a5
  rintro e w1 ⟨kc1, rfl⟩
  refine ⟨_, rfl, fun a7 f7 => ?_⟩
  have szw1 := kc1.size
  replace HK := HK.z kc1
  replace B := B.z kc1
  clear f6 a6 kc1
  refine L.val f7 wantedN rfl (by decide) (E.not f7 rfl) fun a8 f8 => ?_
  refine L.val f8 wantedN rfl (by decide) (E.assign f8 rfl) fun a9 f9 => ?_
  have f10 := f9.sub (sub_cons (i := 3) rfl sn)
  refine wpList_nil (hK1 _ _ (wp_ret ?_)); (try simp only [xt, xb]); refine C.ret f10 rfl rfl ?_
  exact ⟨HK, rfl⟩
set_option maxHeartbeats 1000000 in
theorem idxR_any (rs : List Rw) (RA : Option Addr) (rc : Nat) (p : Cp) (g : Nat) (w : World) (B : Blk w g 28 (pcell p).toArray) (RO : RwsOk w RA rs) (hm : rs.length ≤ 1000000) : Calls Tryd.prog 52 #[.slice RA rs.length rc, .func (.func 29) #[] #[.pointer (some ⟨g, 0, none⟩)]] w (IdxR rs p.x.d w) := by
  have HK : Kept [] w w := Kept.refl [] w
  refine C.enter Tryd.func52 rfl Tryd.ntmps52 rfl ?_
  intro a0 f0
  have f1 : Fr 19 a0 [(0, .slice RA rs.length rc), (1, .func (.func 29) #[] #[.pointer (some ⟨g, 0, none⟩)])] := f0
  refine C.sk fun K0 hK0 => ?_
  refine L.val f1 wantedN rfl (by decide) (E.assign f1 rfl) fun a2 f2 => ?_
  refine wpList_nil (hK0 _ _ ?_)
  have f3 := f2.sub (sub_cons (i := 0) rfl (sub_cons (i := 1) rfl (sub_cons (i := 4) rfl sn)))
  refine wp_seq_k fun K1 hK1 => ?_
  refine C.sk fun K2 hK2 => ?_
  refine L.val f3 wantedN rfl (by decide) (E.move f3 rfl) fun a4 f4 => ?_
  refine L.val f4 wantedN rfl (by decide) (E.lenL f4 Tryd.underlying61 rfl) fun a5 f5 => ?_
  refine L.val f5 wantedN rfl (by decide) (E.move f5 rfl) fun a6 f6 => ?_
  refine wpList_nil (hK2 _ _ ?_)
  have f7 := f6.sub (sub_cons (i := 0) rfl (sub_cons (i := 1) rfl (sub_cons (i := 4) rfl (sub_cons (i := 7) rfl (sub_cons (i := 8) rfl sn)))))
  refine wp_block ?_
  clear f0 f1 a0 f2 f3 a2 f4 a4 f5 a5 f6
  refine C.loop (fun gk a W => ∃ k : Nat, k + gk = rs.length ∧ (∀ r ∈ rs.take k, Go.Hub.hasB r.l p.x.d = true) ∧ Kept [] w W ∧ Blk W g 28 (pcell p).toArray ∧ Fr 19 a [(0, .slice RA rs.length rc), (1, .func (.func 29) #[] #[.pointer (some ⟨g, 0, none⟩)]), (7, .int .i64 rs.length), (8, .int .i64 k)]) (rs.length) ?_ ?_
  · exact ⟨0, by omega, by simp, HK, B, f7.sub (sx (sx (sx (sx sn))))⟩
  intro gk4 a8 w1 hI KL3 hKL3
  obtain ⟨k, hk, hq, HK, B, f8⟩ := hI
  try clear f7
  refine C.sk fun K4 hK4 => ?_
  refine L.val f8 wantedN rfl (by decide) (E.lss f8 rfl rfl) fun a9 f9 => ?_
  refine wpList_nil (hK4 _ _ ?_)
  have f10 := f9.sub (sub_cons (i := 0) rfl (sub_cons (i := 1) rfl (sub_cons (i := 7) rfl (sub_cons (i := 8) rfl (sub_cons (i := 9) rfl sn)))))
  refine wp_seq_k fun K5 hK5 => ?_
  clear f8 a8 f9
  refine f10.splitD 9 rfl (fun h0 f11 => ?_) (fun h0 f11 => ?_)
  · obtain ⟨r, hx⟩ : ∃ r, rs[k]? = some r := ⟨rs[k]'(by omega), List.getElem?_eq_getElem _⟩
    obtain ⟨b', off, hA⟩ := Sl.addr RO.1 (by omega)
    refine C.condT f11 rfl ?_
    refine wp_skip (hK5 _ _ ?_)
    have f12 := f11.sub (sub_cons (i := 0) rfl (sub_cons (i := 1) rfl (sub_cons (i := 7) rfl (sub_cons (i := 8) rfl (sub_cons (i := 9) rfl sn)))))
    refine wp_seq_k fun K6 hK6 => ?_
    refine wp_block ?_
    refine C.sk fun K7 hK7 => ?_
    refine L.val f12 wantedN rfl (by decide) (E.move f12 rfl) fun a13 f13 => ?_
    refine L.val f13 wantedN rfl (by decide) (E.assign f13 rfl) fun a14 f14 => ?_
    have f15 := f14.sub (sub_cons (i := 0) rfl (sub_cons (i := 1) rfl (sub_cons (i := 5) rfl (sub_cons (i := 7) rfl (sub_cons (i := 8) rfl (sub_cons (i := 9) rfl (sub_cons (i := 10) rfl sn)))))))
    refine wpList_nil (hK7 _ _ (C.sk fun K8 hK8 => ?_))
    refine L.val f15 wantedN rfl (by decide) (E.move f15 rfl) fun a16 f16 => ?_
    refine L.val f16 wantedN rfl (by decide) (E.move f16 rfl) fun a17 f17 => ?_
    refine L.val f17 wantedN rfl (by decide) (E.move f17 rfl) fun a18 f18 => ?_
    refine L.val f18 wantedN rfl (by decide) (E.indexA f18 (by assumption) Tryd.underlying61 wsz32_ck rfl rfl (by omega) (by omega)) fun a19 f19 => ?_
    clear f10 f11 f12 a9 f13 a13 f14 f15 a14 f16 a16 f17 a17 f18 a18
    refine L.val f19 wantedN rfl (by decide) (E.load f19 U32 rfl rfl ((RO.1.kept HK).cell_at hA hx)) fun a20 f20 => ?_
    refine L.call f20 wantedN rfl (by decide) (cv1_1 f20 rfl Tryd.call29 rfl) (pr11_any r p g _ B ((RO.2 r (List.mem_of_getElem? hx)).1.kept HK) (RO.2 r (List.mem_of_getElem? hx)).2) ?_
    clear f19 a19
    rintro e w2 ⟨kc2, rfl⟩
    refine ⟨_, rfl, fun a21 f21 => ?_⟩
    have szw2 := kc2.size
    replace HK := HK.z kc2
    replace B := B.z kc2
    clear f20 a20 kc2
    refine wpList_nil (hK8 _ _ ?_)
    have f22 := f21.sub (sub_cons (i := 0) rfl (sub_cons (i := 1) rfl (sub_cons (i := 5) rfl (sub_cons (i := 7) rfl (sub_cons (i := 8) rfl (sub_cons (i := 9) rfl (sub_cons (i := 10) rfl (sub_cons (i := 11) rfl (sub_cons (i := 12) rfl (sub_cons (i := 13) rfl (sub_cons (i := 14) rfl (sub_cons (i := 15) rfl (sub_cons (i := 16) rfl sn)))))))))))))
    clear f21
    refine f22.splitNB 16 rfl (fun h1 f23 => ?_) (fun h1 f23 => ?_)
    · have h16 := h1
      refine C.condT f23 rfl ?_
      refine C.sk fun K9 hK9 => ?_
      refine L.val f23 wantedN rfl (by decide) (E.move f23 rfl) fun a24 f24 => ?_
      refine L.val f24 wantedN rfl (by decide) (E.assign f24 rfl) fun a25 f25 => ?_
      have f26 := f25.sub (sub_cons (i := 0) rfl (sub_cons (i := 1) rfl (sub_cons (i := 4) rfl (sub_cons (i := 5) rfl (sub_cons (i := 7) rfl (sub_cons (i := 8) rfl (sub_cons (i := 9) rfl (sub_cons (i := 10) rfl (sub_cons (i := 11) rfl (sub_cons (i := 12) rfl (sub_cons (i := 13) rfl (sub_cons (i := 14) rfl (sub_cons (i := 15) rfl (sub_cons (i := 16) rfl (sub_cons (i := 17) rfl sn)))))))))))))))
      refine wpList_nil (hK9 _ _ (wp_ret ?_)); (try simp only [xt, xb]); refine C.ret f26 rfl rfl ?_
      exact ⟨HK, _, rfl, idxR_hit hx (by simpa using h16)⟩
    have h16 := h1
    refine C.condF f23 rfl ?_
    refine wp_skip (hK6 _ _ ?_)
    have f24 := f23.sub (sub_cons (i := 0) rfl (sub_cons (i := 1) rfl (sub_cons (i := 5) rfl (sub_cons (i := 7) rfl (sub_cons (i := 8) rfl (sub_cons (i := 9) rfl (sub_cons (i := 10) rfl (sub_cons (i := 11) rfl (sub_cons (i := 12) rfl (sub_cons (i := 13) rfl (sub_cons (i := 14) rfl (sub_cons (i := 15) rfl (sub_cons (i := 16) rfl sn)))))))))))))
    refine C.region ?_
    refine L.val f24 wantedN rfl (by decide) (E.add f24 rfl rfl (IntWalk.i64_in _ (by omega))) fun a25 f25 => ?_
    refine L.val f25 wantedN rfl (by decide) (E.move f25 rfl) fun a26 f26 => ?_
    clear f22 f23 f24 a21 f25 a25
    refine wpList_nil (hKL3 _ _ (gk4 - 1) ?_ ?_)
    · omega
    exact ⟨k + 1, by omega, take_allR hq hx (by simpa using h16), HK, B, f26.sub (sx (sx (sx (sx sn))))⟩
  have hend := h0
  refine C.condF f11 rfl ?_
  refine wp_exit (hK1 _ _ ?_)
  have f12 := f11.sub sn
  refine C.sk fun K10 hK10 => ?_
  refine L.val f12 wantedN rfl (by decide) (E.assign f12 rfl) fun a13 f13 => ?_
  have f14 := f13.sub (sub_cons (i := 4) rfl sn)
  refine wpList_nil (hK10 _ _ (wp_ret ?_)); (try simp only [xt, xb]); refine C.ret f14 rfl rfl ?_
  exact ⟨HK, _, rfl, idxR_no (by rw [List.take_of_length_le (by omega)] at hq; exact hq)⟩
set_option maxHeartbeats 1000000 in
theorem conR_any (rs : List Rw) (RA : Option Addr) (rc : Nat) (p : Cp) (g : Nat) (w : World) (B : Blk w g 28 (pcell p).toArray) (RO : RwsOk w RA rs) (hm : rs.length ≤ 1000000) : Calls Tryd.prog 28 #[.slice RA rs.length rc, .func (.func 29) #[] #[.pointer (some ⟨g, 0, none⟩)]] w (fun e w' => Kept [] w w' ∧ e = .returned (.bool (!seenB rs p.x.d))) := by
  have HK : Kept [] w w := Kept.refl [] w
  refine C.enter Tryd.func28 rfl Tryd.ntmps28 rfl ?_
  intro a0 f0
  have f1 : Fr 9 a0 [(0, .slice RA rs.length rc), (1, .func (.func 29) #[] #[.pointer (some ⟨g, 0, none⟩)])] := f0
  refine C.sk fun K0 hK0 => ?_
  refine L.val f1 wantedN rfl (by decide) (E.assign f1 rfl) fun a2 f2 => ?_
  have f3 := f2.sub (sub_cons (i := 0) rfl (sub_cons (i := 1) rfl (sub_cons (i := 4) rfl sn)))
  refine wpList_nil (hK0 _ _ (C.sk fun K1 hK1 => ?_))
  refine L.val f3 wantedN rfl (by decide) (E.move f3 rfl) fun a4 f4 => ?_
  refine L.val f4 wantedN rfl (by decide) (E.move f4 rfl) fun a5 f5 => ?_
  refine L.call f5 wantedN rfl (by decide) (run_call Tryd.call52 (args2 f5 rfl rfl)) (idxR_any rs RA rc p g _ B RO hm) ?_
  clear f0 f1 a0 f2 f3 a2 f4 a4
  rintro e w1 ⟨kc1, ix, rfl, hix⟩
  refine ⟨_, rfl, fun a6 f6 => ?_⟩
  have szw1 := kc1.size
  replace HK := HK.z kc1
  replace B := B.z kc1
  clear f5 a5 kc1
  refine L.val f6 wantedN rfl (by decide) (E.geq f6 rfl rfl) fun a7 f7 => ?_
  refine L.val f7 wantedN rfl (by decide) (E.assign f7 rfl) fun a8 f8 => ?_
  have f9 := f8.sub (sub_cons (i := 4) rfl sn)
  refine wpList_nil (hK1 _ _ (wp_ret ?_)); (try simp only [xt, xb]); refine C.ret f9 rfl rfl ?_
  exact ⟨HK, by rw [hix.is]⟩
set_option maxHeartbeats 1000000 in
theorem pr1_any (rs : List Rw) (RA : Option Addr) (rc : Nat) (p : Cp) (gr : Nat) (w : World) (BR : Blk w gr 61 #[.slice RA rs.length rc]) (RO : RwsOk w RA rs) (hm : rs.length ≤ 1000000) : Calls Tryd.prog 27 #[.agg (pcell p).toArray, .pointer (some ⟨gr, 0, none⟩)] w (fun e w' => Kept [] w w' ∧ e = .returned (.bool (goesC rs p.x))) := by
  have HK : Kept [] w w := Kept.refl [] w
  refine C.enter Tryd.func27 rfl Tryd.ntmps27 rfl ?_
  intro a0 f0
  have f1 : Fr 12 a0 [(0, .agg (pcell p).toArray), (1, .pointer (some ⟨gr, 0, none⟩))] := f0
  refine C.sk fun K0 hK0 => ?_
  refine L.box f1 wantedN (by decide) rfl rfl fun a2 w1 g0 N0 f2 => ?_
  have Bg0 := N0.blk
  have kg0 := N0.kept
  have log0 := N0.lo
  have ltg0 := Bg0.lt
  have szw1 := kg0.size
  have frg0 : w.heap.size ≤ g0 := Nat.le_trans HK.size log0
  have negr_g0 : gr ≠ g0 := by have := BR.lt; omega
  replace HK := HK.z kg0
  replace BR := BR.z kg0
  clear f0 N0 kg0
  refine L.val f2 wantedN rfl (by decide) (E.assign f2 rfl) fun a3 f3 => ?_
  have f4 := f3.sub (sub_cons (i := 1) rfl (sub_cons (i := 2) rfl (sub_cons (i := 3) rfl sn)))
  refine wpList_nil (hK0 _ _ (C.sk fun K1 hK1 => ?_))
  refine L.val f4 wantedN rfl (by decide) (E.fieldAddrN 9 f4 U28 rfl rfl rfl wsz4_ck) fun a5 f5 => ?_
  refine L.val f5 wantedN rfl (by decide) (E.load f5 U4 rfl rfl ((Bg0).cl rfl)) fun a6 f6 => ?_
  refine L.val f6 wantedN rfl (by decide) (E.move f6 rfl) fun a7 f7 => ?_
  clear f1 a0 f2 a2 f3 f4 a3 f5 a5 f6 a6
  refine f7.split 6 rfl (fun h0 f8 => ?_) (fun h0 f8 => ?_)
  · refine L.val f8 (f8.yes rfl rfl) rfl (by decide) (E.load f8 Tryd.underlying61 rfl rfl ((BR).cl rfl)) fun a9 f9 => ?_
    refine L.val f9 (f9.yes rfl rfl) rfl (by decide) (E.makeFunc1 f9 rfl) fun a10 f10 => ?_
    refine L.call f10 (f10.yes rfl rfl) rfl (by decide) (run_call Tryd.call28 (args2 f10 rfl rfl)) (conR_any rs RA rc p g0 _ Bg0 (RO.kept HK) hm) ?_
    clear f7 f8 a7 f9 a9
    rintro e w2 ⟨kc2, rfl⟩
    refine ⟨_, rfl, fun a11 f11 => ?_⟩
    have szw2 := kc2.size
    replace HK := HK.z kc2
    replace BR := BR.z kc2
    replace Bg0 := Bg0.z kc2
    clear f10 a10 kc2
    refine L.val f11 (f11.yes rfl rfl) rfl (by decide) (E.not f11 rfl) fun a12 f12 => ?_
    refine L.val f12 wantedN rfl (by decide) (E.pickT f12 rfl rfl) fun a13 f13 => ?_
    refine L.val f13 wantedN rfl (by decide) (E.assign f13 rfl) fun a14 f14 => ?_
    have f15 := f14.sub (sub_cons (i := 3) rfl sn)
    refine wpList_nil (hK1 _ _ (wp_ret ?_)); (try simp only [xt, xb]); refine C.ret f15 rfl rfl ?_
    exact ⟨HK, by simp [goesC, *]⟩
  refine L.run f8 (rest' := []) (by kernel_rfl) fun a9 f9 => ?_
  clear f7
  have f10 := f9.sub (sv 3 (.bool false) sn)
  refine wpList_nil (hK1 _ _ (wp_ret ?_)); (try simp only [xt, xb]); refine C.ret f10 rfl rfl ?_
  exact ⟨HK, by simp [goesC, *]⟩
end Go.Proofs.YtekmhcdgmgbheaaDoor
namespace Go.Proofs.YtekmhcdgmgbheaaDoor
open Go.RowKit Go.Hub Go.Lib
theorem wsz28_cl : (Tryd.prog.info? 28).map (·.size) = some 10 := by kernel_rfl
def IdxC (l : List Cp) (rs : List Rw) (w : World) (e : Ending) (w' : World) : Prop := Kept [] w w' ∧ ∃ i : Int, e = .returned (.int .i64 i) ∧ ((i = -1 ∧ ∀ q ∈ l, goesC rs q.x = false) ∨ ∃ (k : Nat) (p : Cp), i = k ∧ l[k]? = some p ∧ goesC rs p.x = true ∧ ∀ q ∈ l.take k, goesC rs q.x = false)
theorem take_allC {l : List Cp} {P : Cp → Prop} {k : Nat} {p : Cp} (h : ∀ x ∈ l.take k, P x) (hx : l[k]? = some p) (hp : P p) : ∀ x ∈ l.take (k + 1), P x := fun x hm => by
  rw [List.take_succ, hx] at hm
  simp at hm
  rcases hm with hm | rfl
  · exact h x hm
  exact hp
set_option maxHeartbeats 1000000 in
theorem idxC_any (l : List Cp) (A : Option Addr) (c : Nat) (rs : List Rw) (RA : Option Addr) (rc : Nat) (gr : Nat) (w : World) (A1 : Cs w A l) (hl : l.length ≤ 1000000) (BR : Blk w gr 61 #[.slice RA rs.length rc]) (RO : RwsOk w RA rs) (hm : rs.length ≤ 1000000) : Calls Tryd.prog 51 #[.slice A l.length c, .func (.func 27) #[] #[.pointer (some ⟨gr, 0, none⟩)]] w (IdxC l rs w) := by
  have HK : Kept [] w w := Kept.refl [] w
  refine C.enter Tryd.func51 rfl Tryd.ntmps51 rfl ?_
  intro a0 f0
  have f1 : Fr 19 a0 [(0, .slice A l.length c), (1, .func (.func 27) #[] #[.pointer (some ⟨gr, 0, none⟩)])] := f0
  refine C.sk fun K0 hK0 => ?_
  refine L.val f1 wantedN rfl (by decide) (E.assign f1 rfl) fun a2 f2 => ?_
  refine wpList_nil (hK0 _ _ ?_)
  have f3 := f2.sub (sub_cons (i := 0) rfl (sub_cons (i := 1) rfl (sub_cons (i := 4) rfl sn)))
  refine wp_seq_k fun K1 hK1 => ?_
  refine C.sk fun K2 hK2 => ?_
  refine L.val f3 wantedN rfl (by decide) (E.move f3 rfl) fun a4 f4 => ?_
  refine L.val f4 wantedN rfl (by decide) (E.lenL f4 U35 rfl) fun a5 f5 => ?_
  refine L.val f5 wantedN rfl (by decide) (E.move f5 rfl) fun a6 f6 => ?_
  refine wpList_nil (hK2 _ _ ?_)
  have f7 := f6.sub (sub_cons (i := 0) rfl (sub_cons (i := 1) rfl (sub_cons (i := 4) rfl (sub_cons (i := 7) rfl (sub_cons (i := 8) rfl sn)))))
  refine wp_block ?_
  clear f0 f1 a0 f2 f3 a2 f4 a4 f5 a5 f6
  refine C.loop (fun gk a W => ∃ k : Nat, k + gk = l.length ∧ (∀ q ∈ l.take k, goesC rs q.x = false) ∧ Kept [] w W ∧ Blk W gr 61 #[.slice RA rs.length rc] ∧ Fr 19 a [(0, .slice A l.length c), (1, .func (.func 27) #[] #[.pointer (some ⟨gr, 0, none⟩)]), (7, .int .i64 l.length), (8, .int .i64 k)]) (l.length) ?_ ?_
  · exact ⟨0, by omega, by simp, HK, BR, f7.sub (sx (sx (sx (sx sn))))⟩
  intro gk4 a8 w1 hI KL3 hKL3
  obtain ⟨k, hk, hq, HK, BR, f8⟩ := hI
  try clear f7
  refine C.sk fun K4 hK4 => ?_
  refine L.val f8 wantedN rfl (by decide) (E.lss f8 rfl rfl) fun a9 f9 => ?_
  refine wpList_nil (hK4 _ _ ?_)
  have f10 := f9.sub (sub_cons (i := 0) rfl (sub_cons (i := 1) rfl (sub_cons (i := 7) rfl (sub_cons (i := 8) rfl (sub_cons (i := 9) rfl sn)))))
  refine wp_seq_k fun K5 hK5 => ?_
  clear f8 a8 f9
  refine f10.splitD 9 rfl (fun h0 f11 => ?_) (fun h0 f11 => ?_)
  · obtain ⟨p, hx⟩ : ∃ p, l[k]? = some p := ⟨l[k]'(by omega), List.getElem?_eq_getElem _⟩
    obtain ⟨b', off, hA⟩ := A1.addr (i := k) (by omega)
    refine C.condT f11 rfl ?_
    refine wp_skip (hK5 _ _ ?_)
    have f12 := f11.sub (sub_cons (i := 0) rfl (sub_cons (i := 1) rfl (sub_cons (i := 7) rfl (sub_cons (i := 8) rfl (sub_cons (i := 9) rfl sn)))))
    refine wp_seq_k fun K6 hK6 => ?_
    refine wp_block ?_
    refine C.sk fun K7 hK7 => ?_
    refine L.val f12 wantedN rfl (by decide) (E.move f12 rfl) fun a13 f13 => ?_
    refine L.val f13 wantedN rfl (by decide) (E.assign f13 rfl) fun a14 f14 => ?_
    have f15 := f14.sub (sub_cons (i := 0) rfl (sub_cons (i := 1) rfl (sub_cons (i := 5) rfl (sub_cons (i := 7) rfl (sub_cons (i := 8) rfl (sub_cons (i := 9) rfl (sub_cons (i := 10) rfl sn)))))))
    refine wpList_nil (hK7 _ _ (C.sk fun K8 hK8 => ?_))
    refine L.val f15 wantedN rfl (by decide) (E.move f15 rfl) fun a16 f16 => ?_
    refine L.val f16 wantedN rfl (by decide) (E.move f16 rfl) fun a17 f17 => ?_
    refine L.val f17 wantedN rfl (by decide) (E.move f17 rfl) fun a18 f18 => ?_
    refine L.val f18 wantedN rfl (by decide) (E.indexA f18 (by assumption) U35 wsz28_cl rfl rfl (by omega) (by omega)) fun a19 f19 => ?_
    clear f10 f11 f12 a9 f13 a13 f14 f15 a14 f16 a16 f17 a17 f18 a18
    refine L.val f19 wantedN rfl (by decide) (E.loadR f19 U28 rfl wsz28_cl rfl ((A1.kept HK).row hA hx) rfl) fun a20 f20 => ?_
    refine L.call f20 wantedN rfl (by decide) (cv1_1 f20 rfl Tryd.call27 rfl) (pr1_any rs RA rc p gr _ BR (RO.kept HK) hm) ?_
    clear f19 a19
    rintro e w2 ⟨kc2, rfl⟩
    refine ⟨_, rfl, fun a21 f21 => ?_⟩
    have szw2 := kc2.size
    replace HK := HK.z kc2
    replace BR := BR.z kc2
    clear f20 a20 kc2
    refine wpList_nil (hK8 _ _ ?_)
    have f22 := f21.sub (sub_cons (i := 0) rfl (sub_cons (i := 1) rfl (sub_cons (i := 5) rfl (sub_cons (i := 7) rfl (sub_cons (i := 8) rfl (sub_cons (i := 9) rfl (sub_cons (i := 10) rfl (sub_cons (i := 11) rfl (sub_cons (i := 12) rfl (sub_cons (i := 13) rfl (sub_cons (i := 14) rfl (sub_cons (i := 15) rfl (sub_cons (i := 16) rfl sn)))))))))))))
    clear f21
    refine f22.split 16 rfl (fun h1 f23 => ?_) (fun h1 f23 => ?_)
    · have h16 := h1
      refine C.condT f23 rfl ?_
      refine C.sk fun K9 hK9 => ?_
      refine L.val f23 wantedN rfl (by decide) (E.move f23 rfl) fun a24 f24 => ?_
      refine L.val f24 wantedN rfl (by decide) (E.assign f24 rfl) fun a25 f25 => ?_
      have f26 := f25.sub (sub_cons (i := 0) rfl (sub_cons (i := 1) rfl (sub_cons (i := 4) rfl (sub_cons (i := 5) rfl (sub_cons (i := 7) rfl (sub_cons (i := 8) rfl (sub_cons (i := 9) rfl (sub_cons (i := 10) rfl (sub_cons (i := 11) rfl (sub_cons (i := 12) rfl (sub_cons (i := 13) rfl (sub_cons (i := 14) rfl (sub_cons (i := 15) rfl (sub_cons (i := 16) rfl (sub_cons (i := 17) rfl sn)))))))))))))))
      refine wpList_nil (hK9 _ _ (wp_ret ?_)); (try simp only [xt, xb]); refine C.ret f26 rfl rfl ?_
      exact ⟨HK, _, rfl, .inr ⟨k, p, rfl, hx, h16, hq⟩⟩
    have h16 := h1
    refine C.condF f23 rfl ?_
    refine wp_skip (hK6 _ _ ?_)
    have f24 := f23.sub (sub_cons (i := 0) rfl (sub_cons (i := 1) rfl (sub_cons (i := 5) rfl (sub_cons (i := 7) rfl (sub_cons (i := 8) rfl (sub_cons (i := 9) rfl (sub_cons (i := 10) rfl (sub_cons (i := 11) rfl (sub_cons (i := 12) rfl (sub_cons (i := 13) rfl (sub_cons (i := 14) rfl (sub_cons (i := 15) rfl (sub_cons (i := 16) rfl sn)))))))))))))
    refine C.region ?_
    refine L.val f24 wantedN rfl (by decide) (E.add f24 rfl rfl (IntWalk.i64_in _ (by omega))) fun a25 f25 => ?_
    refine L.val f25 wantedN rfl (by decide) (E.move f25 rfl) fun a26 f26 => ?_
    clear f22 f23 f24 a21 f25 a25
    refine wpList_nil (hKL3 _ _ (gk4 - 1) ?_ ?_)
    · omega
    exact ⟨k + 1, by omega, take_allC hq hx (by simpa using h16), HK, BR, f26.sub (sx (sx (sx (sx sn))))⟩
  have hend := h0
  refine C.condF f11 rfl ?_
  refine wp_exit (hK1 _ _ ?_)
  have f12 := f11.sub sn
  refine C.sk fun K10 hK10 => ?_
  refine L.val f12 wantedN rfl (by decide) (E.assign f12 rfl) fun a13 f13 => ?_
  have f14 := f13.sub (sub_cons (i := 4) rfl sn)
  refine wpList_nil (hK10 _ _ (wp_ret ?_)); (try simp only [xt, xb]); refine C.ret f14 rfl rfl ?_
  exact ⟨HK, _, rfl, .inl ⟨rfl, by rw [List.take_of_length_le (by omega)] at hq; exact hq⟩⟩
end Go.Proofs.YtekmhcdgmgbheaaDoor
namespace Go.Hub
open Go.RowKit
section
variable {P : Program} {w : World}
theorem run_clear_n (t e ty : TypeId) (z : Value) (ht : P.underlying t = some (.slice e)) (hv : ∀ w, (zeroValue e).run P w = .ok z w) (b o n c : Nat) (hn : 0 < n) (h1 : ∀ u ∈ (Builtin.zeroCells z.cells n).toList, u.oneCell' = true)
    (hc : ∀ j, j < (Builtin.zeroCells z.cells n).toList.length → (w.cell? ⟨b, o + j, none⟩).isSome = true) (hf : ∀ j, j < (Builtin.zeroCells z.cells n).toList.length → w.frozen? ⟨b, o + j, none⟩ = false) :
    (Builtin.clear_ #[t] ty #[.slice (some ⟨b, o, none⟩) n c]).run P w = .ok (.tuple #[]) (w.setCells b o (Builtin.zeroCells z.cells n).toList) := by
  have hst := run_storeCells_cells (P := P) b o (Builtin.zeroCells z.cells n).toList 0 w (by simpa using hc) (by simpa using hf) h1
  simp only [Nat.add_zero] at hst
  obtain ⟨m, rfl⟩ : ∃ m, n = m + 1 := ⟨n - 1, by omega⟩
  simp [Builtin.clear_, run_underlying ht, hv, hst]
end
section
variable {P : Program} {ops : Array Oper} {rest : List Oper} {a : Act} {w w0 : World} {Q : Exit → Act → World → Prop} {n d : Nat} {l : FL} {ty t : TypeId} {ps : String} {af : Array Edge} {g : Option (Nat × Bool)} {x : Operand}
theorem zc_len (z : Value) (m : Nat) : (Builtin.zeroCells z.cells m).toList.length = m * z.cells.size := by simp [Builtin.zeroCells]
theorem L.clear (f : Fr n a l) (hw : Region.wanted ⟨none, .call { callee := .builtin .clear, args := #[x], argTypes := #[t] }, ty, ps, af, g⟩ (yielded ops a.tmps) = true) {e size b off k c c2 i m : Nat} {z : Value} {xs : List Value} (ht : P.underlying t = some (.slice e)) (hv : ∀ w, (zeroValue e).run P w = .ok z w) (hs : z.cells.size = size)
    (h1 : ∀ u ∈ (Builtin.zeroCells z.cells m).toList, u.oneCell' = true) (F : Fresh w0 w e size (some ⟨b, off, none⟩) k c xs) (hx : evl l x = some (.slice (some ⟨b, off + i * size, none⟩) m c2)) (hm : 0 < m) (hi : i + m = k)
    (hK : ∀ a' w', Fr n a' l → Fresh w0 w' e size (some ⟨b, off, none⟩) k c (setSeg xs (i * size) (Builtin.zeroCells z.cells m).toList) → Kept [b] w w' → wpList P ops Q rest a' w') : wpList P ops Q (⟨none, .call { callee := .builtin .clear, args := #[x], argTypes := #[t] }, ty, ps, af, g⟩ :: rest) a w := by
  have hx1 := F.own.1
  have hz := zc_len z m
  have hk : i * size + m * size = k * size := by rw [← Nat.add_mul, hi]
  obtain ⟨h2, h3⟩ := F.own.seg (j := i * size) (Builtin.zeroCells z.cells m).toList (by rw [hz, hs]; omega)
  have hroom : ∀ j, j < (Builtin.zeroCells z.cells m).toList.length → (w.cell? ⟨b, off + i * size + j, none⟩).isSome = true ∧ w.frozen? ⟨b, off + i * size + j, none⟩ = false := fun j hj => by
    have hkc : k ≤ c := by
      obtain ⟨A', c', e', h1', _⟩ := F.own.form
      injection e' with _ _ e3
      omega
    have := Nat.mul_le_mul_right size hkc
    have := F.own.room (j := i * size + j) (by rw [hz, hs] at hj; omega)
    rwa [← Nat.add_assoc] at this
  have hr := run_clear_n (P := P) (w := w) t e ty z ht hv b (off + i * size) m c2 hm h1 (fun j hj => (hroom j hj).1) (fun j hj => (hroom j hj).2)
  exact L.drop (v := .tuple #[]) f hw rfl (by simp [execOp, resolve, invoke, builtin, f.ev hx, hr]) fun a' f' => hK a' _ f' ⟨h2, F.lo⟩ h3
end
end Go.Hub
namespace Go.Proofs.YtekmhcdgmgbheaaDoor
open Go.RowKit Go.Hub Go.Lib
theorem wsz28_cm : (Tryd.prog.info? 28).map (·.size) = some 10 := by kernel_rfl
def DelC (l : List Cp) (A : Option Addr) (c : Nat) (rs : List Rw) (w0 w : World) (e : Ending) (w' : World) : Prop := ∃ l' : List Cp, e = .returned (.slice A l'.length c) ∧ Fresh w0 w' 28 10 A l'.length c (pcells l') ∧ l' = l.filter (fun q => !goesC rs q.x) ∧ Kept [] w0 w' ∧ Kept ((Value.slice A l.length c).ownBlock.toList) w w'
def zcV : Value := .agg #[.int .i64 0, .int .i64 0, .int .i64 0, .int .i64 0, .int .i64 0, .int .i64 0, .string ⟨#[]⟩, .slice none 0 0, .int .i64 0, .bool false]
theorem zc_one (m : Nat) : ∀ u ∈ (Builtin.zeroCells zcV.cells m).toList, u.oneCell' = true := fun u hu => by
  have h10 : ∀ k, k < 10 → (zcV.cells[k]!).oneCell' = true := by
    intro k hk
    rcases (show k = 0 ∨ k = 1 ∨ k = 2 ∨ k = 3 ∨ k = 4 ∨ k = 5 ∨ k = 6 ∨ k = 7 ∨ k = 8 ∨ k = 9 by omega) with rfl | rfl | rfl | rfl | rfl | rfl | rfl | rfl | rfl | rfl <;> rfl
  simp [Builtin.zeroCells] at hu
  obtain ⟨i, _, rfl⟩ := hu
  exact h10 _ (Nat.mod_lt _ (by decide))
section
variable {l lo : List Cp} {i j k : Nat} {p : Cp} {rs : List Rw}
theorem del_start (h : l[k]? = some p) (hg : goesC rs p.x = true) (hq : ∀ q ∈ l.take k, goesC rs q.x = false) : l.take k = (l.take (k + 1)).filter (fun q => !goesC rs q.x) := by
  rw [List.take_succ, h, List.filter_append, List.filter_eq_self.2 (fun q hm => by simp [hq q hm])]
  simp [hg]
theorem del_at (h : lo[j]? = some p) (hd : lo.drop j = l.drop j) : l[j]? = some p := by
  have : (lo.drop j)[0]? = (l.drop j)[0]? := by rw [hd]
  simp at this
  rw [← this, h]
theorem del_keep (hij : i < j) (hi : i < lo.length) (hx : lo[j]? = some p) (ht : lo.take i = (l.take j).filter (fun q => !goesC rs q.x)) (hd : lo.drop j = l.drop j) (hg : goesC rs p.x = false) : (lo.set i p).take (i + 1) = (l.take (j + 1)).filter (fun q => !goesC rs q.x) := by
  rw [List.take_succ, List.take_succ, del_at hx hd, List.filter_append, ← ht]
  have e1 : (lo.set i p).take i = lo.take i := by rw [List.take_set_of_le (Nat.le_refl _)]
  have e2 : (lo.set i p)[i]? = some p := by simp [hi]
  rw [e1, e2]
  simp [hg]
theorem del_drop (hij : i < j) (hd : lo.drop j = l.drop j) : (lo.set i p).drop (j + 1) = l.drop (j + 1) := by
  rw [List.drop_set_of_lt (by omega), ← List.drop_drop, ← List.drop_drop, hd]
theorem del_more (hd : lo.drop j = l.drop j) : lo.drop (j + 1) = l.drop (j + 1) := by rw [← List.drop_drop, ← List.drop_drop, hd]
theorem del_skip (hx : lo[j]? = some p) (ht : lo.take i = (l.take j).filter (fun q => !goesC rs q.x)) (hd : lo.drop j = l.drop j) (hg : goesC rs p.x = true) : lo.take i = (l.take (j + 1)).filter (fun q => !goesC rs q.x) := by
  rw [List.take_succ, del_at hx hd, List.filter_append, ← ht]
  simp [hg]
theorem del_head {w0 w : World} {A : Option Addr} {n c : Nat} {zs : List Value} (F : Fresh w0 w 28 10 A n c (setSeg (pcells lo) (i * 10) zs)) (hi : i ≤ n) (hl : lo.length = n) (hz : zs.length = (n - i) * 10) : Fresh w0 w 28 10 A i c (pcells (lo.take i)) := by
  have h := F.own.head hi
  have e : (setSeg (pcells lo) (i * 10) zs).take (i * 10) = pcells (lo.take i) := by
    rw [← pcells_take]
    apply List.ext_getElem?
    intro q
    rw [List.getElem?_take, List.getElem?_take]
    split
    · rw [setSeg_at _ _ _ _ (by rw [pcells_len, hl, hz, ← Nat.add_mul]; exact Nat.le_of_eq (by congr 1; omega)), if_neg (by omega)]
    rfl
  rw [e] at h
  exact ⟨h, F.lo⟩
end
set_option maxHeartbeats 1000000 in
theorem delC_any (l : List Cp) (A : Option Addr) (c : Nat) (rs : List Rw) (RA : Option Addr) (rc : Nat) (gr : Nat) (w0 w : World) (F : Fresh w0 w 28 10 A l.length c (pcells l)) (HK : Kept [] w0 w) (hl : l.length ≤ 1000000) (BR : Blk w gr 61 #[.slice RA rs.length rc]) (RO : RwsOk w0 RA rs) (hm : rs.length ≤ 1000000) : Calls Tryd.prog 26 #[.slice A l.length c, .func (.func 27) #[] #[.pointer (some ⟨gr, 0, none⟩)]] w (DelC l A c rs w0 w) := by
  have KO := Kept.refl (Value.slice A l.length c).ownBlock.toList w
  have hcl : l.length ≤ c := own_cap F.own
  refine C.enter Tryd.func26 rfl Tryd.ntmps26 rfl ?_
  intro a0 f0
  have f1 : Fr 42 a0 [(0, .slice A l.length c), (1, .func (.func 27) #[] #[.pointer (some ⟨gr, 0, none⟩)])] := f0
  refine C.sk fun K0 hK0 => ?_
  refine L.val f1 wantedN rfl (by decide) (E.assign f1 rfl) fun a2 f2 => ?_
  have f3 := f2.sub (sub_cons (i := 0) rfl (sub_cons (i := 1) rfl (sub_cons (i := 4) rfl sn)))
  refine wpList_nil (hK0 _ _ (C.sk fun K1 hK1 => ?_))
  refine L.val f3 wantedN rfl (by decide) (E.move f3 rfl) fun a4 f4 => ?_
  refine L.val f4 wantedN rfl (by decide) (E.move f4 rfl) fun a5 f5 => ?_
  refine L.call f5 wantedN rfl (by decide) (run_call Tryd.call51 (args2 f5 rfl rfl)) (idxC_any l A c rs RA rc gr _ F.sl hl BR (RO.kept HK) hm) ?_
  clear f0 f1 a0 f2 f3 a2 f4 a4
  rintro e w1 ⟨kc1, ix, rfl, hix⟩
  refine ⟨_, rfl, fun a6 f6 => ?_⟩
  have szw1 := kc1.size
  replace HK := HK.z kc1
  replace KO := KO.trans kc1 (by simp)
  replace F := F.kept0 kc1
  replace BR := BR.z kc1
  clear f5 a5 kc1
  refine L.val f6 wantedN rfl (by decide) (E.assign f6 rfl) fun a7 f7 => ?_
  refine wpList_nil (hK1 _ _ ?_)
  have f8 := f7.sub (sub_cons (i := 0) rfl (sub_cons (i := 1) rfl (sub_cons (i := 4) rfl (sub_cons (i := 5) rfl sn))))
  refine wp_seq_k fun K2 hK2 => ?_
  refine C.sk fun K3 hK3 => ?_
  refine L.val f8 wantedN rfl (by decide) (E.move f8 rfl) fun a9 f9 => ?_
  refine L.val f9 wantedN rfl (by decide) (E.eql f9 rfl rfl) fun a10 f10 => ?_
  refine wpList_nil (hK3 _ _ ?_)
  have f11 := f10.sub (sub_cons (i := 0) rfl (sub_cons (i := 1) rfl (sub_cons (i := 4) rfl (sub_cons (i := 5) rfl (sub_cons (i := 12) rfl sn)))))
  clear f6 a6 f7 f8 a7 f9 a9 f10
  refine f11.splitD 12 rfl (fun h0 f12 => ?_) (fun h0 f12 => ?_)
  · have hno := hix.resolve_right (fun ⟨k, p, e, _⟩ => by omega)
    refine C.condT f12 rfl ?_
    refine C.sk fun K4 hK4 => ?_
    refine L.val f12 wantedN rfl (by decide) (E.move f12 rfl) fun a13 f13 => ?_
    refine L.val f13 wantedN rfl (by decide) (E.assign f13 rfl) fun a14 f14 => ?_
    have f15 := f14.sub (sub_cons (i := 0) rfl (sub_cons (i := 1) rfl (sub_cons (i := 4) rfl (sub_cons (i := 5) rfl sn))))
    refine wpList_nil (hK4 _ _ (wp_ret ?_)); (try simp only [xt, xb]); refine C.ret f15 rfl rfl ?_
    exact ⟨l, rfl, F, by rw [List.filter_eq_self.2 (fun q hq => by simp [hno.2 q hq])], HK, KO⟩
  obtain ⟨k0, p0, rfl, hk0, hg0, hq0⟩ := hix.resolve_left (fun e => h0 (by omega))
  have hkl := (List.getElem?_eq_some_iff.1 hk0).1
  obtain ⟨b, off, hA⟩ := F.sl.addr (by omega)
  refine C.condF f12 rfl ?_
  refine wp_skip (hK2 _ _ ?_)
  have f13 := f12.sub (sub_cons (i := 0) rfl (sub_cons (i := 1) rfl (sub_cons (i := 4) rfl (sub_cons (i := 5) rfl sn))))
  refine wp_seq_k fun K5 hK5 => ?_
  refine C.sk fun K6 hK6 => ?_
  refine L.val f13 wantedN rfl (by decide) (E.move f13 rfl) fun a14 f14 => ?_
  refine L.val f14 wantedN rfl (by decide) (E.add f14 rfl rfl (IntWalk.i64_in _ (by omega))) fun a15 f15 => ?_
  refine L.val f15 wantedN rfl (by decide) (E.assign f15 rfl) fun a16 f16 => ?_
  refine wpList_nil (hK6 _ _ ?_)
  have f17 := f16.sub (sub_cons (i := 0) rfl (sub_cons (i := 1) rfl (sub_cons (i := 4) rfl (sub_cons (i := 5) rfl (sub_cons (i := 6) rfl sn)))))
  refine wp_block ?_
  clear f11 f12 f13 a10 f14 a14 f15 a15 f16
  refine C.loop (fun gk a W => ∃ (i j : Nat) (lo : List Cp), i < j ∧ j + gk = l.length ∧ lo.length = l.length ∧ lo.take i = (l.take j).filter (fun q : Cp => !goesC rs q.x) ∧ lo.drop j = l.drop j ∧ Kept [] w0 W ∧ Kept (Value.slice A l.length c).ownBlock.toList w W ∧ Fresh w0 W 28 10 A l.length c (pcells lo) ∧ Blk W gr 61 #[.slice RA rs.length rc] ∧ Fr 42 a [(0, .slice A l.length c), (1, .func (.func 27) #[] #[.pointer (some ⟨gr, 0, none⟩)]), (5, .int .i64 i), (6, .int .i64 j)]) (l.length - (k0 + 1)) ?_ ?_
  · exact ⟨k0, k0 + 1, l, by omega, by omega, rfl, del_start hk0 hg0 hq0, rfl, HK, KO, F, BR, f17.sub (sx (sx (sx (sx sn))))⟩
  intro gk8 a18 w2 hI KL7 hKL7
  obtain ⟨i, j, lo, hij, hj, hll, ht, hd, HK, KO, F, BR, f18⟩ := hI
  try clear f17
  have szw0 := HK.size
  have szKO := KO.size
  have hFb : ∀ q, A.map (·.block) = some q → q < w2.heap.size := fun q hq => fr_hi F hq
  have hbw := F.lo b (by rw [hA]; rfl)
  have hbL : b ∈ (Value.slice A l.length c).ownBlock.toList := by rw [hA]; simp [Value.ownBlock]
  have hbr : ¬ b = gr := fun e => by have := fr_neB F BR (q := b) (by rw [hA]; rfl) (by decide); exact this e
  refine wp_seq_k fun K8 hK8 => ?_
  refine C.sk fun K9 hK9 => ?_
  refine L.val f18 wantedN rfl (by decide) (E.move f18 rfl) fun a19 f19 => ?_
  refine L.val f19 wantedN rfl (by decide) (E.move f19 rfl) fun a20 f20 => ?_
  refine L.val f20 wantedN rfl (by decide) (E.lenL f20 U35 rfl) fun a21 f21 => ?_
  refine L.val f21 wantedN rfl (by decide) (E.lss f21 rfl rfl) fun a22 f22 => ?_
  refine wpList_nil (hK9 _ _ ?_)
  have f23 := f22.sub (sub_cons (i := 0) rfl (sub_cons (i := 1) rfl (sub_cons (i := 5) rfl (sub_cons (i := 6) rfl (sub_cons (i := 16) rfl (sub_cons (i := 17) rfl (sub_cons (i := 18) rfl (sub_cons (i := 19) rfl sn))))))))
  clear f18 a18 f19 a19 f20 a20 f21 a21 f22
  refine f23.splitD 19 rfl (fun h1 f24 => ?_) (fun h1 f24 => ?_)
  · obtain ⟨p, hx⟩ : ∃ p, lo[j]? = some p := ⟨lo[j]'(by omega), List.getElem?_eq_getElem _⟩
    refine C.condT f24 rfl ?_
    refine wp_skip (hK8 _ _ ?_)
    have f25 := f24.sub (sub_cons (i := 0) rfl (sub_cons (i := 1) rfl (sub_cons (i := 5) rfl (sub_cons (i := 6) rfl (sub_cons (i := 16) rfl (sub_cons (i := 17) rfl (sub_cons (i := 18) rfl (sub_cons (i := 19) rfl sn))))))))
    refine wp_seq_k fun K10 hK10 => ?_
    refine wp_block ?_
    refine C.sk fun K11 hK11 => ?_
    refine L.val f25 wantedN rfl (by decide) (E.move f25 rfl) fun a26 f26 => ?_
    refine L.val f26 wantedN rfl (by decide) (E.move f26 rfl) fun a27 f27 => ?_
    refine L.val f27 wantedN rfl (by decide) (E.indexA f27 (by assumption) U35 wsz28_cm rfl rfl (by omega) (by omega)) fun a28 f28 => ?_
    refine L.val f28 wantedN rfl (by decide) (E.loadR f28 U28 rfl wsz28_cm rfl (F.sl.row (by omega) hA (pcells_at lo j p hx)) rfl) fun a29 f29 => ?_
    refine L.alloc f29 wantedN (by decide) (z := (.agg #[(.int .i64 0), (.int .i64 0), (.int .i64 0), (.int .i64 0), (.int .i64 0), (.int .i64 0), (.string ⟨#[]⟩), (.slice none 0 0), (.int .i64 0), (.bool false)])) (fun _ => by kernel_rfl) rfl fun a30 w3 g2 N2 f30 => ?_
    have Bg2 := N2.blk
    have kg2 := N2.kept
    have log2 := N2.lo
    have ltg2 := Bg2.lt
    have szw3 := kg2.size
    have negr_g2 : gr ≠ g2 := by have := BR.lt; omega
    replace HK := HK.z kg2
    replace KO := KO.trans kg2 (by simp)
    replace F := F.kept0 kg2
    replace BR := BR.z kg2
    clear f23 f24 f25 a22 f26 a26 f27 a27 f28 a28 N2 kg2
    refine L.storeR f30 wantedN wsz28_cm rfl rfl rfl Bg2 rfl rfl fun a31 w4 f31 NB4 ks4 => ?_
    have szw4 := ks4.size
    replace HK := HK.trans ks4 (by intro x hx hlt; simp at hx; subst hx; exfalso; omega)
    replace KO := KO.trans ks4 (fun x hx hlt => by obtain rfl := List.mem_singleton.1 hx; (exfalso; omega))
    replace F := F.kept ks4 (fun q hq => by have := hFb q hq; simp only [List.mem_singleton]; omega)
    replace BR := BR.kept ks4 (by simp; omega)
    replace Bg2 := NB4
    clear f29 a29 ks4 f30 a30
    have f32 := f31.sub (sub_cons (i := 0) rfl (sub_cons (i := 1) rfl (sub_cons (i := 5) rfl (sub_cons (i := 6) rfl (sub_cons (i := 7) rfl (sub_cons (i := 16) rfl (sub_cons (i := 17) rfl (sub_cons (i := 18) rfl (sub_cons (i := 19) rfl (sub_cons (i := 22) rfl (sub_cons (i := 23) rfl (sub_cons (i := 24) rfl (sub_cons (i := 25) rfl sn)))))))))))))
    refine wpList_nil (hK11 _ _ (C.sk fun K12 hK12 => ?_))
    refine L.val f32 wantedN rfl (by decide) (E.move f32 rfl) fun a33 f33 => ?_
    refine L.val f33 wantedN rfl (by decide) (E.loadB f33 U28 rfl wsz28_cm rfl (Bg2) rfl) fun a34 f34 => ?_
    refine L.call f34 wantedN rfl (by decide) (cv1_1 f34 rfl Tryd.call27 rfl) (pr1_any rs RA rc p gr _ BR (RO.kept HK) hm) ?_
    clear f31 f32 a31 f33 a33
    rintro e w5 ⟨kc5, rfl⟩
    refine ⟨_, rfl, fun a35 f35 => ?_⟩
    have szw5 := kc5.size
    replace HK := HK.z kc5
    replace KO := KO.trans kc5 (by simp)
    replace F := F.kept0 kc5
    replace BR := BR.z kc5
    replace Bg2 := Bg2.z kc5
    clear f34 a34 kc5
    refine L.val f35 wantedN rfl (by decide) (E.not f35 rfl) fun a36 f36 => ?_
    refine wpList_nil (hK12 _ _ ?_)
    have f37 := f36.sub (sub_cons (i := 0) rfl (sub_cons (i := 1) rfl (sub_cons (i := 5) rfl (sub_cons (i := 6) rfl (sub_cons (i := 7) rfl (sub_cons (i := 16) rfl (sub_cons (i := 17) rfl (sub_cons (i := 18) rfl (sub_cons (i := 19) rfl (sub_cons (i := 22) rfl (sub_cons (i := 23) rfl (sub_cons (i := 24) rfl (sub_cons (i := 25) rfl (sub_cons (i := 26) rfl (sub_cons (i := 27) rfl (sub_cons (i := 28) rfl (sub_cons (i := 29) rfl sn)))))))))))))))))
    clear f35 a35 f36
    refine f37.splitNB 29 rfl (fun h2 f38 => ?_) (fun h2 f38 => ?_)
    · have h29 := h2
      refine C.condT f38 rfl ?_
      refine C.sk fun K13 hK13 => ?_
      refine L.val f38 wantedN rfl (by decide) (E.move f38 rfl) fun a39 f39 => ?_
      refine L.val f39 wantedN rfl (by decide) (E.move f39 rfl) fun a40 f40 => ?_
      refine L.val f40 wantedN rfl (by decide) (E.loadB f40 U28 rfl wsz28_cm rfl (Bg2) rfl) fun a41 f41 => ?_
      refine L.val f41 wantedN rfl (by decide) (E.indexA f41 (by assumption) U35 wsz28_cm rfl rfl (by omega) (by omega)) fun a42 f42 => ?_
      refine L.storeRF f42 wantedN wsz28_cm hA F (j := i * 10) (hy := rfl) rfl (by rw [pcells_len]; show i * 10 + 10 ≤ _; omega) rfl (by rfl) rfl fun a43 w6 f43 FS ks => ?_
      have szw6 := ks.size
      rw [show setSeg (pcells lo) (i * 10) (pcell p) = pcells (lo.set i p) from flat_seg pcell 10 (fun _ => rfl) (by decide) lo i p (by omega)] at FS
      replace HK := HK.trans ks (by intro x hx hlt; simp at hx; subst hx; exfalso; omega)
      replace KO := KO.trans ks (fun x hx hlt => by obtain rfl := List.mem_singleton.1 hx; exact hbL)
      replace BR := BR.kept ks (by simp only [List.mem_singleton]; exact fun e => hbr e.symm)
      clear f37 f38 a36 f39 a39 f40 a40 f41 a41 f42 a42 ks
      refine wpList_nil (hK13 _ _ ?_)
      have f44 := f43.sub (sub_cons (i := 0) rfl (sub_cons (i := 1) rfl (sub_cons (i := 5) rfl (sub_cons (i := 6) rfl (sub_cons (i := 7) rfl (sub_cons (i := 16) rfl (sub_cons (i := 17) rfl (sub_cons (i := 18) rfl (sub_cons (i := 19) rfl (sub_cons (i := 22) rfl (sub_cons (i := 23) rfl (sub_cons (i := 24) rfl (sub_cons (i := 25) rfl (sub_cons (i := 26) rfl (sub_cons (i := 27) rfl (sub_cons (i := 28) rfl (sub_cons (i := 29) rfl (sub_cons (i := 30) rfl (sub_cons (i := 31) rfl (sub_cons (i := 32) rfl (sub_cons (i := 33) rfl sn)))))))))))))))))))))
      refine C.region ?_
      refine L.val f44 wantedN rfl (by decide) (E.move f44 rfl) fun a45 f45 => ?_
      refine L.val f45 wantedN rfl (by decide) (E.add f45 rfl rfl (IntWalk.i64_in _ (by omega))) fun a46 f46 => ?_
      refine L.val f46 wantedN rfl (by decide) (E.assign f46 rfl) fun a47 f47 => ?_
      refine wpList_nil (hK10 _ _ ?_)
      have f48 := f47.sub (sub_cons (i := 0) rfl (sub_cons (i := 1) rfl (sub_cons (i := 5) rfl (sub_cons (i := 6) rfl (sub_cons (i := 7) rfl (sub_cons (i := 16) rfl (sub_cons (i := 17) rfl (sub_cons (i := 18) rfl (sub_cons (i := 19) rfl (sub_cons (i := 22) rfl (sub_cons (i := 23) rfl (sub_cons (i := 24) rfl (sub_cons (i := 25) rfl (sub_cons (i := 26) rfl (sub_cons (i := 27) rfl (sub_cons (i := 28) rfl (sub_cons (i := 29) rfl (sub_cons (i := 30) rfl (sub_cons (i := 31) rfl (sub_cons (i := 32) rfl (sub_cons (i := 33) rfl (sub_cons (i := 34) rfl (sub_cons (i := 35) rfl sn)))))))))))))))))))))))
      refine C.region ?_
      refine L.val f48 wantedN rfl (by decide) (E.move f48 rfl) fun a49 f49 => ?_
      refine L.val f49 wantedN rfl (by decide) (E.add f49 rfl rfl (IntWalk.i64_in _ (by omega))) fun a50 f50 => ?_
      refine L.val f50 wantedN rfl (by decide) (E.assign f50 rfl) fun a51 f51 => ?_
      clear f43 f44 a43 f45 a45 f46 a46 f47 f48 a47 f49 a49 f50 a50
      refine wpList_nil (hKL7 _ _ (gk8 - 1) ?_ ?_)
      · omega
      exact ⟨i + 1, j + 1, lo.set i p, by omega, by omega, by simpa using hll, del_keep hij (by omega) hx ht hd (by simpa using h29), del_drop hij hd, HK, KO, by simpa using FS, BR, f51.sub (sx (sx (sx (sx sn))))⟩
    have h29 := h2
    refine C.condF f38 rfl ?_
    refine wp_skip (hK10 _ _ ?_)
    have f39 := f38.sub (sub_cons (i := 0) rfl (sub_cons (i := 1) rfl (sub_cons (i := 5) rfl (sub_cons (i := 6) rfl (sub_cons (i := 7) rfl (sub_cons (i := 16) rfl (sub_cons (i := 17) rfl (sub_cons (i := 18) rfl (sub_cons (i := 19) rfl (sub_cons (i := 22) rfl (sub_cons (i := 23) rfl (sub_cons (i := 24) rfl (sub_cons (i := 25) rfl (sub_cons (i := 26) rfl (sub_cons (i := 27) rfl (sub_cons (i := 28) rfl (sub_cons (i := 29) rfl sn)))))))))))))))))
    refine C.region ?_
    refine L.val f39 wantedN rfl (by decide) (E.move f39 rfl) fun a40 f40 => ?_
    refine L.val f40 wantedN rfl (by decide) (E.add f40 rfl rfl (IntWalk.i64_in _ (by omega))) fun a41 f41 => ?_
    refine L.val f41 wantedN rfl (by decide) (E.assign f41 rfl) fun a42 f42 => ?_
    clear f37 f38 f39 a36 f40 a40 f41 a41
    refine wpList_nil (hKL7 _ _ (gk8 - 1) ?_ ?_)
    · omega
    exact ⟨i, j + 1, lo, by omega, by omega, hll, del_skip hx ht hd (by simpa using h29), del_more hd, HK, KO, F, BR, f42.sub (sx (sx (sx (sx sn))))⟩
  have hend := h1
  refine C.condF f24 rfl ?_
  refine wp_exit (hK5 _ _ ?_)
  have f25 := f24.sub (sub_cons (i := 0) rfl (sub_cons (i := 5) rfl sn))
  refine wp_seq_k fun K14 hK14 => ?_
  clear f23 f24
  subst hA
  refine C.region ?_
  refine L.val f25 wantedN rfl (by decide) (E.move f25 rfl) fun a26 f26 => ?_
  refine L.val f26 wantedN rfl (by decide) (E.move f26 rfl) fun a27 f27 => ?_
  refine L.val f27 wantedN rfl (by decide) (E.slA f27 U35 wsz28_cm rfl rfl rfl (k := i) (by omega) (by omega)) fun a28 f28 => ?_
  refine L.clear f28 wantedN U35 (z := zcV) (fun _ => by kernel_rfl) rfl (zc_one _) F (i := i) rfl (by omega) (by omega) fun a29 w3 f29 FS ks => ?_
  have szw3 := ks.size
  have FH := del_head FS (lo := lo) (i := i) (by omega) hll (by rw [zc_len]; rfl)
  replace HK := HK.trans ks (by intro x hx hlt; simp at hx; subst hx; exfalso; omega)
  replace KO := KO.trans ks (fun x hx hlt => by obtain rfl := List.mem_singleton.1 hx; exact hbL)
  clear f25 a22 f26 a26 f27 a27 f28 a28 ks
  have f30 := f29.sub (sub_cons (i := 0) rfl (sub_cons (i := 5) rfl sn))
  refine wpList_nil (hK14 _ _ (C.sk fun K15 hK15 => ?_))
  refine L.val f30 wantedN rfl (by decide) (E.move f30 rfl) fun a31 f31 => ?_
  refine L.val f31 wantedN rfl (by decide) (E.move f31 rfl) fun a32 f32 => ?_
  refine L.val f32 wantedN rfl (by decide) (E.slLhi f32 U35 wsz28_cm rfl rfl (by omega) (by omega) ) fun a33 f33 => ?_
  refine L.val f33 wantedN rfl (by decide) (E.assign f33 rfl) fun a34 f34 => ?_
  have f35 := f34.sub (sub_cons (i := 4) rfl sn)
  refine wpList_nil (hK15 _ _ (wp_ret ?_)); (try simp only [xt, xb]); refine C.ret f35 rfl rfl ?_
  exact ⟨lo.take i, by rw [List.length_take, Nat.min_eq_left (by omega)]; rfl, by rw [List.length_take, Nat.min_eq_left (by omega)]; exact FH, by rw [ht, List.take_of_length_le (by omega)], HK, KO⟩
end Go.Proofs.YtekmhcdgmgbheaaDoor
namespace Go.Proofs.YtekmhcdgmgbheaaDoor
open Go.RowKit Go.Hub Go.Lib
theorem wsz35_cn : (Tryd.prog.info? 35).map (·.size) = some 1 := by kernel_rfl
theorem wsz37_cn : (Tryd.prog.info? 37).map (·.size) = some 4 := by kernel_rfl
def PrunePost (t : Tm) (rs : List Rw) (w : World) (e : Ending) (w' : World) : Prop := Kept [] w w' ∧ ∃ t' : Tm, e = .returned (.agg (tcell t').toArray) ∧ TmNew w w' t' ∧ t'.ta = { t.ta with cel := t.ta.cel.filter fun c => !goesC rs c }
theorem prune_is {t t1 : Tm} {rs : List Rw} {l' : List Cp} (ts : t.same t1) (hl : l' = t1.cel.filter fun q => !goesC rs q.x) : (t1.withC l' t1.cA t1.cc).ta = { t.ta with cel := t.ta.cel.filter fun c => !goesC rs c } := by
  subst hl
  show Ta.mk t1.seen t1.fen t1.rou ((t1.cel.filter fun q => !goesC rs q.x).map Cp.x) = Ta.mk t.seen t.fen t.rou ((t.cel.map Cp.x).filter fun c => !goesC rs c)
  rw [ts.1, ts.2.1, ts.2.2.1, ← ts.2.2.2, List.filter_map]
  rfl
theorem delT_any (t1 : Tm) (rs : List Rw) (RA : Option Addr) (rc gr : Nat) (w0 w : World) (TN : TmNew w0 w t1) (HK : Kept [] w0 w) (hSc : t1.cel.length ≤ 1000000) (BR : Blk w gr 61 #[.slice RA rs.length rc]) (RO : RwsOk w0 RA rs) (hm : rs.length ≤ 1000000) :
    Calls Tryd.prog 26 #[.slice t1.cA t1.cel.length t1.cc, .func (.func 27) #[] #[.pointer (some ⟨gr, 0, none⟩)]] w (fun e w' => ∃ (l' : List Cp) (LB : List Nat), Kept LB w w' ∧ (∀ q ∈ LB, t1.on q) ∧ e = .returned (.slice t1.cA l'.length t1.cc) ∧ TmNew w0 w' (t1.withC l' t1.cA t1.cc) ∧ l' = t1.cel.filter fun q => !goesC rs q.x) := by
  refine Calls.mono (delC_any t1.cel t1.cA t1.cc rs RA rc gr w0 w TN.c HK hSc BR RO hm) ?_
  rintro e w' ⟨l', rfl, F, hl, _, k⟩
  have hL : ∀ q ∈ (Value.slice t1.cA t1.cel.length t1.cc).ownBlock.toList, t1.cA.map (·.block) = some q := fun q hq => (own_block _ _ _ q).1 (by simpa using hq)
  have hT : ∀ q ∈ (Value.slice t1.cA t1.cel.length t1.cc).ownBlock.toList, ∃ cs, w.heap[q]? = some (.cells cs 28 (0, 0)) := fun q hq => (TN.c.own.blk q (by simpa using hq)).2
  have h5 : ∀ q ∈ (Value.slice t1.cA t1.cel.length t1.cc).ownBlock.toList, ¬ Typ w q [5] := fun q hq => by
    obtain ⟨cs, hc⟩ := hT q hq
    exact not_typ hc (by decide)
  have hne : ∀ {e size n c : Nat} {A : Option Addr} {xs : List Value}, Fresh w0 w e size A n c xs → e ≠ 28 → ∀ q, A.map (·.block) = some q → q ∉ (Value.slice t1.cA t1.cel.length t1.cc).ownBlock.toList := fun F he q hq hm => by
    obtain ⟨cs, hc⟩ := hT q hm
    exact fr_ne F hc hq he rfl
  exact ⟨l', _, k, fun q hq => .inr (.inr (.inr (hL q hq))), rfl, ⟨TN.s.kept k (hne TN.s (by decide)), TN.f.kept k (hne TN.f (by decide)), TN.r.kept k (hne TN.r (by decide)), F, fun x hx => (TN.p x (by
    have hx' : x ∈ l' := hx
    rw [hl] at hx'
    exact (List.mem_filter.1 hx').1)).keptF k h5⟩, hl⟩
set_option maxHeartbeats 1000000 in
theorem Prune_any (t : Tm) (rs : List Rw) (RA : Option Addr) (rc : Nat) (w : World) (TO : TmOk w t) (TS : TmSm t) (RO : RwsOk w RA rs) (hm : rs.length ≤ 1000000) : Calls Tryd.prog 11 #[.agg (tcell t).toArray, .slice RA rs.length rc] w (PrunePost t rs w) := by
  have HK : Kept [] w w := Kept.refl [] w
  refine C.enter Tryd.func11 rfl Tryd.ntmps11 rfl ?_
  intro a0 f0
  have f1 : Fr 13 a0 [(0, .agg (tcell t).toArray), (1, .slice RA rs.length rc)] := f0
  refine C.sk fun K0 hK0 => ?_
  refine L.box f1 wantedN (by decide) rfl rfl fun a2 w1 g0 N0 f2 => ?_
  have Bg0 := N0.blk
  have kg0 := N0.kept
  have log0 := N0.lo
  have ltg0 := Bg0.lt
  have szw1 := kg0.size
  replace HK := HK.z kg0
  clear f0 N0 kg0
  refine L.box f2 wantedN (by decide) rfl rfl fun a3 w2 g1 N1 f3 => ?_
  have Bg1 := N1.blk
  have kg1 := N1.kept
  have log1 := N1.lo
  have ltg1 := Bg1.lt
  have szw2 := kg1.size
  have neg0_g1 : g0 ≠ g1 := by have := Bg0.lt; omega
  replace HK := HK.z kg1
  replace Bg0 := Bg0.z kg1
  clear f1 a0 N1 kg1
  refine L.alloc f3 wantedN (by decide) (z := (.agg #[(.slice none 0 0), (.slice none 0 0), (.slice none 0 0), (.slice none 0 0)])) (fun _ => by kernel_rfl) rfl fun a4 w3 g2 N2 f4 => ?_
  have Bg2 := N2.blk
  have kg2 := N2.kept
  have log2 := N2.lo
  have ltg2 := Bg2.lt
  have szw3 := kg2.size
  have neg0_g2 : g0 ≠ g2 := by have := Bg0.lt; omega
  have neg1_g2 : g1 ≠ g2 := by have := Bg1.lt; omega
  replace HK := HK.z kg2
  replace Bg0 := Bg0.z kg2
  replace Bg1 := Bg1.z kg2
  clear f2 a2 N2 kg2
  have f5 := f4.sub (sub_cons (i := 2) rfl (sub_cons (i := 3) rfl (sub_cons (i := 4) rfl sn)))
  refine wpList_nil (hK0 _ _ (C.sk fun K1 hK1 => ?_))
  refine L.val f5 wantedN rfl (by decide) (E.loadB f5 U37 rfl wsz37_cn rfl (Bg0) rfl) fun a6 f6 => ?_
  refine L.call f6 wantedN rfl (by decide) (run_call Tryd.call21 (args1 f6 rfl)) (Copy_any t w3 (TO.kept HK) TS) ?_
  clear f3 a3 f4 f5 a4
  rintro e w4 ⟨kc4, t1, rfl, TN, ts⟩
  have hon : ∀ q, t1.on q → q ≠ g0 ∧ q ≠ g1 ∧ q ≠ g2 := fun q hq => by have := TN.lo q hq; omega
  have TN := TN.lower (w1 := w) (by have := HK.size; omega)
  have honw : ∀ q, t1.on q → w.heap.size ≤ q := TN.lo
  have hSc : t1.cel.length ≤ 1000000 := by have := congrArg List.length ts.2.2.2; simp at this; have := TS.c; omega
  refine ⟨_, rfl, fun a7 f7 => ?_⟩
  have szw4 := kc4.size
  replace HK := HK.z kc4
  replace Bg0 := Bg0.z kc4
  replace Bg1 := Bg1.z kc4
  replace Bg2 := Bg2.z kc4
  clear f6 a6 kc4
  refine L.storeR f7 wantedN wsz37_cn rfl rfl rfl Bg0 rfl rfl fun a8 w5 f8 NB5 ks5 => ?_
  have szw5 := ks5.size
  replace HK := HK.trans ks5 (by intro x hx hlt; simp at hx; omega)
  replace Bg1 := Bg1.kept ks5 (by simp; omega)
  replace Bg2 := Bg2.kept ks5 (by simp; omega)
  replace TN := TN.keptO ks5 (fun q hq => by have h1 := hon q hq; (try have h2 := hob q hq); (try have h3 := hgon q hq); simp only [List.mem_singleton]; omega) (fun k hk => by obtain rfl := List.mem_singleton.1 hk; exact not_typ Bg0 (by decide))
  replace Bg0 := NB5
  clear ks5 f7 a7
  have f9 := f8.sub (sub_cons (i := 2) rfl (sub_cons (i := 3) rfl (sub_cons (i := 4) rfl sn)))
  refine wpList_nil (hK1 _ _ (C.sk fun K2 hK2 => ?_))
  refine L.val f9 wantedN rfl (by decide) (E.fieldAddrN 3 f9 U37 rfl rfl rfl wsz35_cn) fun a10 f10 => ?_
  refine L.val f10 wantedN rfl (by decide) (E.load f10 U35 rfl rfl ((Bg0).cl rfl)) fun a11 f11 => ?_
  refine L.val f11 wantedN rfl (by decide) (E.makeFunc1 f11 rfl) fun a12 f12 => ?_
  refine L.call f12 wantedN rfl (by decide) (run_call Tryd.call26 (args2 f12 rfl rfl)) (delT_any t1 rs RA rc g1 w w5 TN HK hSc Bg1 RO hm) ?_
  clear f8 f9 a8 f10 a10 f11 a11
  rintro e w6 ⟨l', LB, kc6, hLB, rfl, TN2, hl'⟩
  have hon2 : ∀ q, (t1.withC l' t1.cA t1.cc).on q → q ≠ g0 ∧ q ≠ g1 ∧ q ≠ g2 := fun q hq => hon q hq
  refine ⟨_, rfl, fun a13 f13 => ?_⟩
  have szw6 := kc6.size
  replace HK := HK.trans kc6 (fun x hx hlt => by have := honw x (hLB x hx); exfalso; omega)
  replace Bg1 := Bg1.kept kc6 (fun hq => by have := hon _ (hLB _ hq); omega)
  replace Bg2 := Bg2.kept kc6 (fun hq => by have := hon _ (hLB _ hq); omega)
  replace Bg0 := Bg0.kept kc6 (fun hq => by have := hon _ (hLB _ hq); omega)
  clear f12 a12 kc6
  refine L.val f13 wantedN rfl (by decide) (E.fieldAddrN 3 f13 U37 rfl rfl rfl wsz35_cn) fun a14 f14 => ?_
  refine L.store f14 wantedN wsz35_cn rfl rfl rfl Bg0 (by (simp [Value.cells]; done)) fun a15 w7 f15 NB7 ks7 => ?_
  have szw7 := ks7.size
  replace HK := HK.trans ks7 (by intro x hx hlt; simp at hx; omega)
  replace Bg1 := Bg1.kept ks7 (by simp; omega)
  replace Bg2 := Bg2.kept ks7 (by simp; omega)
  replace TN2 := TN2.keptO ks7 (fun q hq => by have h1 := hon2 q hq; (try have h2 := hob q hq); (try have h3 := hgon q hq); simp only [List.mem_singleton]; omega) (fun k hk => by obtain rfl := List.mem_singleton.1 hk; exact not_typ Bg0 (by decide))
  replace Bg0 := NB7
  simp only [Value.cells, List.setIfInBounds_toArray, List.set_cons_zero, List.set_cons_succ, Nat.reduceAdd, Nat.zero_add] at Bg0
  clear f13 a13 ks7 f14 a14
  have f16 := f15.sub (sub_cons (i := 2) rfl (sub_cons (i := 4) rfl sn))
  refine wpList_nil (hK2 _ _ (C.sk fun K3 hK3 => ?_))
  refine L.val f16 wantedN rfl (by decide) (E.loadB f16 U37 rfl wsz37_cn rfl (Bg0) rfl) fun a17 f17 => ?_
  refine L.storeR f17 wantedN wsz37_cn rfl rfl rfl Bg2 rfl rfl fun a18 w8 f18 NB8 ks8 => ?_
  have szw8 := ks8.size
  replace HK := HK.trans ks8 (by intro x hx hlt; simp at hx; omega)
  replace Bg1 := Bg1.kept ks8 (by simp; omega)
  replace TN2 := TN2.keptO ks8 (fun q hq => by have h1 := hon2 q hq; (try have h2 := hob q hq); (try have h3 := hgon q hq); simp only [List.mem_singleton]; omega) (fun k hk => by obtain rfl := List.mem_singleton.1 hk; exact not_typ Bg2 (by decide))
  replace Bg0 := Bg0.kept ks8 (by simp; omega)
  replace Bg2 := NB8
  clear f15 f16 a15 ks8 f17 a17
  have f19 := f18.sub (sub_cons (i := 4) rfl sn)
  refine wpList_nil (hK3 _ _ (wp_ret ?_)); (try simp only [xt, xb]); refine C.retC f19 rfl rfl Bg2 U37 rfl wsz37_cn ?_
  exact ⟨HK, _, rfl, TN2, prune_is ts hl'⟩
end Go.Proofs.YtekmhcdgmgbheaaDoor
namespace Go.Proofs.YtekmhcdgmgbheaaDoor
open Go.RowKit Go.Hub Go.Lib
theorem wzi5_co : (Tryd.prog.info? 5).map (fun i => (i.zero, i.size)) = some (some (.int .u8 0), 1) := by kernel_rfl
theorem wbs26_1_co (x0 : Int) : Instr.fill (fun i => some (i * 1, 1)) ((Array.range (1 * 1)).map fun j => (Value.cells (.int .u8 0))[j % (Value.cells (.int .u8 0)).size]!) [(0, .int .u8 x0)] = some #[.int .u8 x0] := by kernel_rfl
theorem wsz3_co : (Tryd.prog.info? 3).map (·.size) = some 1 := by kernel_rfl
theorem wsz4_co : (Tryd.prog.info? 4).map (·.size) = some 1 := by kernel_rfl
theorem wsz26_co : (Tryd.prog.info? 26).map (·.size) = some 1 := by kernel_rfl
theorem wsz28_co : (Tryd.prog.info? 28).map (·.size) = some 10 := by kernel_rfl
theorem wsz35_co : (Tryd.prog.info? 35).map (·.size) = some 1 := by kernel_rfl
theorem wsz37_co : (Tryd.prog.info? 37).map (·.size) = some 4 := by kernel_rfl
theorem wbl25_0_2_co (x0 : Int) (x1 : Int) : Tryd.prog.built 25 [(0, .int .i64 x0), (2, .int .i64 x1)] = some #[.int .i64 x0, (.int .i64 0), .int .i64 x1] := by kernel_rfl
theorem wbl37__co  : Tryd.prog.built 37 [] = some #[(.slice none 0 0), (.slice none 0 0), (.slice none 0 0), (.slice none 0 0)] := by kernel_rfl
theorem wbl40_0_1_2_co (x0 : ByteArray) (x1 : Option Addr) (y1 z1 : Nat) (x2 : Int) : Tryd.prog.built 40 [(0, .string x0), (1, .slice x1 y1 z1), (2, .int .i64 x2)] = some #[.string x0, .slice x1 y1 z1, .int .i64 x2, (.bool false)] := by kernel_rfl
theorem wbl40_0_2_co (x0 : ByteArray) (x1 : Int) : Tryd.prog.built 40 [(0, .string x0), (2, .int .i64 x1)] = some #[.string x0, (.slice none 0 0), .int .i64 x1, (.bool false)] := by kernel_rfl
theorem run_mark {P : Program} {w : World} {g : Nat} {t e : TypeId} {cs : Array Value} {n c : Nat} (h : Blk w g e cs) (ht : P.underlying t = some (.slice e)) (he : P.underlying e = some (.int .u8)) : ∃ w', (convert t t (.slice (some ⟨g, 0, none⟩) n c)).run P w = .ok (.slice (some ⟨g, 0, none⟩) n c) w' ∧ Kept [g] w w' ∧ w'.heap[g]? = some (.cells cs e (cs.size, cs.size + 1)) := by
  have hsh : w.shape? g = some (e, cs.size) := by
    unfold World.shape?
    rw [h]
  refine ⟨w.freeze ⟨g, cs.size, none⟩ 1, by simp [convert, run_underlying ht, run_underlying he, markStringish, hsh], ?_, ?_⟩
  · unfold World.freeze
    rw [if_neg (by decide)]
    exact ⟨rfl, rfl, rfl, by simp, fun i hi hx => by
      show (w.heap.modify g _)[i]? = _
      rw [Array.getElem?_modify, if_neg (fun c => hx (by simp [c]))]⟩
  unfold World.freeze
  rw [if_neg (by decide)]
  show (w.heap.modify g _)[g]? = _
  rw [Array.getElem?_modify, if_pos rfl, h]
  rfl
theorem sl_mark {W : World} {g : Nat} {x : UInt8} {fz : Nat × Nat} (h : W.heap[g]? = some (.cells #[.int .u8 (x.toNat : Nat)] 5 fz)) : Sl W (some ⟨g, 0, none⟩) ([x] : List UInt8).length 1 ([x].map u8) :=
  ⟨rfl, fun _ => ⟨g, 0, rfl, (Array.getElem?_eq_some_iff.1 h).1, fun j y hj => by
    match j, hj with
    | 0, hj => simp at hj; subst hj; simp [World.cell?, h, u8]⟩⟩
def tz : Tm := ⟨[], [], [], [], none, 0, none, 0, none, 0, none, 0⟩
theorem tz_ok (w : World) : TmOk w tz := ⟨Ds.nil _ _, Sl.nil _ _ _, Sl.nil _ _ _, Cs.nil _ _, fun x hx => by cases hx⟩
structure SmT (T : Ta) : Prop where
  s : T.seen.length ≤ 1000000
  f : T.fen.length ≤ 1000000
  r : T.rou.length ≤ 1000000
  c : T.cel.length ≤ 1000000
  p : ∀ x ∈ T.cel, x.pay.length ≤ 1000000
def smB (T : Ta) : Bool := Nat.ble T.seen.length 1000000 && Nat.ble T.fen.length 1000000 && Nat.ble T.rou.length 1000000 && Nat.ble T.cel.length 1000000 && T.cel.all fun c => Nat.ble c.pay.length 1000000
theorem sm_of {T : Ta} (h : smB T = true) : SmT T := by
  unfold smB at h
  simp only [Bool.and_eq_true, List.all_eq_true] at h
  obtain ⟨⟨⟨⟨h1, h2⟩, h3⟩, h4⟩, h5⟩ := h
  exact ⟨Nat.le_of_ble_eq_true h1, Nat.le_of_ble_eq_true h2, Nat.le_of_ble_eq_true h3, Nat.le_of_ble_eq_true h4, fun x hx => Nat.le_of_ble_eq_true (h5 x hx)⟩
def AscT (l : List Ce) : Prop := ∀ (i j : Nat) (a b : Ce), i < j → l[i]? = some a → l[j]? = some b → ltB a.topic b.topic
theorem asc_len {l : List Ce} (h : l.length ≤ 1) : AscT l := fun i j a b hij _ hb => by
  have := (List.getElem?_eq_some_iff.1 hb).1
  omega
section
variable {t : Tm} {T : Ta} {w : World}
theorem ta_len (h : t.ta = T) : t.cel.length = T.cel.length := by
  rw [← h]
  unfold Tm.ta
  simp
theorem ta_at (h : t.ta = T) {i : Nat} {c : Ce} (hc : T.cel[i]? = some c) : ∃ p, t.cel[i]? = some p ∧ p.x = c := by
  rw [← h] at hc
  unfold Tm.ta at hc
  simp only [List.getElem?_map] at hc
  exact Option.map_eq_some_iff.1 hc
theorem sm_t (h : t.ta = T) (s : SmT T) : TmSm t := by
  subst h
  exact ⟨s.s, s.f, s.r, by simpa [Tm.ta] using s.c, fun x hx => s.p x.x (List.mem_map_of_mem hx)⟩
theorem asc_t (h : t.ta = T) (s : AscT T.cel) : Asc t.cel := by
  subst h
  exact fun i j a b hij ha hb => s i j a.x b.x hij (by simp [Tm.ta, ha]) (by simp [Tm.ta, hb])
theorem len_of_map {α β : Type} {f : α → β} {l : List α} {m : List β} (h : l.map f = m) : l.length = m.length := by rw [← h, List.length_map]
structure Tk (w : World) (t : Tm) (T : Ta) : Prop where
  ok : TmOk w t
  is : t.ta = T
end
section
variable (t : Tm) (T : Ta) (w : World) (TO : TmOk w t) (hT : t.ta = T) (S : SmT T)
theorem putK (x y : Int) (s : Sp) (m : Ms) (n : Nat) (hn : n = m.pay.length) (T' : Ta) (w : World) (TO : TmOk w t) (hT : t.ta = T) (S : SmT T) (hN : topR T.seen x y ≤ 1000000000) (hA : AscT T.cel) (G : Glob w) (hmt : Nat.ble m.topic.size 1000000 = true) (hmp : Sl w m.A n 1 (m.pay.map u8)) (hml : n ≤ 1000000) (hp : putT T x y s m.topic m.pay m.qos = T') :
    Calls Tryd.prog 9 #[.agg (tcell t).toArray, .int .i64 x, .int .i64 y, .agg (scell s).toArray, .agg #[.string m.topic, .slice m.A n m.c, .int .i64 m.qos, .bool m.ret]] w (fun e w' => Kept [] w w' ∧ ∃ t', e = .returned (.agg (tcell t').toArray) ∧ TmNew w w' t' ∧ t'.ta = T') := by
  subst hn
  refine Calls.mono (Put_any t x y s m w TO (sm_t hT S) (by rw [← hT] at hN; exact hN) (asc_t hT hA) G (Nat.le_of_ble_eq_true hmt) hmp hml) ?_
  rintro e w' ⟨k, t', rfl, TN, h⟩
  exact ⟨k, t', rfl, TN, by rw [h, hT, hp]⟩
theorem getK_yes (n : ByteArray) (c : Ce) (w : World) (TO : TmOk w t) (hT : t.ta = T) (S : SmT T) (hA : AscT T.cel) (hg : getC T.cel n = some c) :
    Calls Tryd.prog 10 #[.agg (tcell t).toArray, .string n] w (fun e w' => Kept [] w w' ∧ ∃ A k, e = .returned (.tuple #[.agg (pcell ⟨c, A, k⟩).toArray, .bool true]) ∧ PayOk w' ⟨c, A, k⟩) := by
  refine Calls.mono (Get_any t n w TO (sm_t hT S) (asc_t hT hA)) ?_
  rintro e w' ⟨k, h⟩
  rw [hT, hg] at h
  rcases h with ⟨h, _⟩ | ⟨c', A, j, h, rfl, P⟩
  · cases h
  injection h with h
  subst h
  exact ⟨k, A, j, rfl, P⟩
theorem getK_no (n : ByteArray) (w : World) (TO : TmOk w t) (hT : t.ta = T) (S : SmT T) (hA : AscT T.cel) (hg : getC T.cel n = none) :
    Calls Tryd.prog 10 #[.agg (tcell t).toArray, .string n] w (fun e w' => Kept [] w w' ∧ e = .returned (.tuple #[.agg zcell, .bool false])) := by
  refine Calls.mono (Get_any t n w TO (sm_t hT S) (asc_t hT hA)) ?_
  rintro e w' ⟨k, h⟩
  rw [hT, hg] at h
  rcases h with ⟨_, rfl⟩ | ⟨c', A, j, h, rfl, P⟩
  · exact ⟨k, rfl⟩
  cases h
theorem pruneK (rs : List Rw) (RA : Option Addr) (rc : Nat) (w : World) (TO : TmOk w t) (hT : t.ta = T) (S : SmT T) (RO : RwsOk w RA rs) (hm : rs.length ≤ 1000000) :
    Calls Tryd.prog 11 #[.agg (tcell t).toArray, .slice RA rs.length rc] w (fun e w' => Kept [] w w' ∧ ∃ t', e = .returned (.agg (tcell t').toArray) ∧ Tk w' t' { T with cel := T.cel.filter fun c => !goesC rs c }) := by
  refine Calls.mono (Prune_any t rs RA rc w TO (sm_t hT S) RO hm) ?_
  rintro e w' ⟨k, t', rfl, TN, h⟩
  exact ⟨k, t', rfl, TN.ok, by rw [h, hT]⟩
theorem topK (w : World) (TO : TmOk w t) (hT : t.ta = T) (S : SmT T) : Calls Tryd.prog 12 #[.agg (tcell t).toArray] w (fun e w' => Kept [] w w' ∧ e = .returned (.agg (scell (topS T.cel)).toArray)) := by
  refine Calls.mono (Top_any' t w TO (sm_t hT S)) ?_
  rintro e w' ⟨k, rfl⟩
  exact ⟨k, by rw [hT]⟩
theorem matchK (u : ByteArray) (w : World) (TO : TmOk w t) (hT : t.ta = T) (S : SmT T) (G : Glob w) (hu : u.size ≤ 100000) (hs : ∀ c ∈ T.cel, c.topic.size ≤ 100000) :
    Calls Tryd.prog 13 #[.agg (tcell t).toArray, .string u] w (fun e w' => Kept [] w w' ∧ ∃ A c lo, e = .returned (.slice A lo.length c) ∧ lo.map Cp.x = T.cel.filter (showB u) ∧ Fresh w w' 28 10 A lo.length c (pcells lo) ∧ ∀ q ∈ lo, PayOk w' q) := by
  refine Calls.mono (Match_any t u w TO (sm_t hT S) G hu (fun x hx => hs x.x (by rw [← hT]; exact List.mem_map_of_mem hx))) ?_
  rintro e w' ⟨k, A, c, lo, rfl, hl, F, P⟩
  exact ⟨k, A, c, lo, rfl, by rw [hl, hT], F, P⟩
end
def k0 : Ta := ⟨[], [], [], []⟩
def c1 : Ce := ⟨⟨1, 1, 1⟩, ⟨5, 0, 1⟩, ⟨#[97]⟩, [120], 1, false⟩
def c2 : Ce := ⟨⟨1, 1, 2⟩, ⟨6, 0, 1⟩, ⟨#[97]⟩, [], 0, true⟩
def k1 : Ta := ⟨[⟨1, 1, 1⟩], [], [], [c1]⟩
def k2 : Ta := ⟨[⟨1, 1, 2⟩], [], [], [c2]⟩
theorem k1_is : putT k0 1 1 ⟨5, 0, 1⟩ ⟨#[97]⟩ [120] 1 = k1 := by kernel_rfl
theorem k2_is : putT k1 1 1 ⟨6, 0, 1⟩ ⟨#[97]⟩ [] 2 = k2 := by kernel_rfl
theorem k1_get : getC k1.cel ⟨#[97]⟩ = some c1 := by kernel_rfl
theorem k2_get : getC k2.cel ⟨#[97]⟩ = none := by kernel_rfl
set_option maxRecDepth 100000 in
set_option maxHeartbeats 1000000 in
theorem known_any (w : World) (G : Glob w) : Calls Tryd.prog 6 #[] w (fun e w' => Kept [] w w' ∧ e = .returned (.bool true)) := by
  have HK : Kept [] w w := Kept.refl [] w
  refine C.enter Tryd.func6 rfl Tryd.ntmps6 rfl ?_
  intro a0 f0
  have f1 : Fr 83 a0 [] := f0
  refine C.sk fun K0 hK0 => ?_
  refine L.val f1 wantedN rfl (by decide) (E.assign f1 rfl) fun a2 f2 => ?_
  have f3 := f2.sub (sub_cons (i := 0) rfl sn)
  refine wpList_nil (hK0 _ _ (C.sk fun K1 hK1 => ?_))
  refine L.val f3 wantedN rfl (by decide) (E.build f3 (parts0 f3) (wbl37__co)) fun a4 f4 => ?_
  refine L.val f4 wantedN rfl (by decide) (E.build f4 (parts2 f4 rfl rfl) (wbl25_0_2_co _ _)) fun a5 f5 => ?_
  refine L.buildSlice f5 wantedN (by decide) (parts1 f5 rfl) U26 wzi5_co rfl rfl (wbs26_1_co _) fun a6 w1 g0 N0 f6 => ?_
  have Bg0 := N0.blk
  have kg0 := N0.kept
  have log0 := N0.lo
  have ltg0 := Bg0.lt
  have szw1 := kg0.size
  have frg0 : w.heap.size ≤ g0 := Nat.le_trans HK.size log0
  replace HK := HK.z kg0
  clear f0 f1 a0 f2 f3 a2 f4 a4 N0 kg0
  obtain ⟨w2, hcv, ks, HM⟩ := run_mark (n := 1) (c := 1) Bg0 U26 U5
  refine L.val f6 wantedN rfl (by decide) (E.convV f6 rfl hcv) fun a7 f7 => ?_
  have szw2 := ks.size
  replace HK := HK.trans ks (by intro x hx hlt; simp at hx; subst hx; (exfalso; omega))
  have SX : Sl w2 (some ⟨g0, 0, none⟩) ([120] : List UInt8).length 1 (([120] : List UInt8).map u8) := sl_mark (x := 120) HM
  clear f5 a5 hcv ks HM f6 a6
  refine L.val f7 wantedN rfl (by decide) (E.build f7 (parts3 f7 rfl rfl rfl) (wbl40_0_1_2_co _ _ _ _ _)) fun a8 f8 => ?_
  refine L.call f8 wantedN rfl (by decide) (run_call Tryd.call9 (args5 f8 rfl rfl rfl rfl rfl)) (putK tz k0 1 1 ⟨5, 0, 1⟩ ⟨⟨#[97]⟩, [120], 1, false, some ⟨g0, 0, none⟩, 1⟩ 1 rfl k1 w2 (tz_ok _) rfl (sm_of (by kernel_rfl)) (by decide) (asc_len (by decide)) (G.kept HK) rfl SX (by decide) k1_is) ?_
  clear f7 a7
  rintro e w3 ⟨kc3, t1, rfl, Tt1n, Tt1i⟩
  have Tt1 := Tk.mk Tt1n.ok Tt1i
  refine ⟨_, rfl, fun a9 f9 => ?_⟩
  have szw3 := kc3.size
  replace HK := HK.z kc3
  clear f8 a8 kc3
  have HKt1 := Kept.refl [] w3
  refine L.alloc f9 wantedN (by decide) (z := (.agg #[(.slice none 0 0), (.slice none 0 0), (.slice none 0 0), (.slice none 0 0)])) (fun _ => by kernel_rfl) rfl fun a10 w4 g3 N3 f10 => ?_
  have Bg3 := N3.blk
  have kg3 := N3.kept
  have log3 := N3.lo
  have ltg3 := Bg3.lt
  have szw4 := kg3.size
  have frg3 : w.heap.size ≤ g3 := Nat.le_trans HK.size log3
  have frg3_HKt1 : w3.heap.size ≤ g3 := Nat.le_trans HKt1.size log3
  replace HK := HK.z kg3
  replace HKt1 := HKt1.z kg3
  clear N3 kg3
  refine L.storeR f10 wantedN wsz37_co rfl rfl rfl Bg3 rfl rfl fun a11 w5 f11 NB5 ks5 => ?_
  have szw5 := ks5.size
  replace HK := HK.trans ks5 (by intro x hx hlt; simp at hx; subst hx; (exfalso; omega))
  replace HKt1 := HKt1.trans ks5 (by intro x hx hlt; simp at hx; subst hx; (exfalso; omega))
  replace Bg3 := NB5
  clear f9 a9 ks5 f10 a10
  have f12 := f11.sub (sub_cons (i := 0) rfl (sub_cons (i := 1) rfl sn))
  refine wpList_nil (hK1 _ _ (C.sk fun K2 hK2 => ?_))
  refine L.val f12 wantedN rfl (by decide) (E.loadB f12 U37 rfl wsz37_co rfl (Bg3) rfl) fun a13 f13 => ?_
  refine L.val f13 wantedN rfl (by decide) (E.build f13 (parts2 f13 rfl rfl) (wbl25_0_2_co _ _)) fun a14 f14 => ?_
  refine L.val f14 wantedN rfl (by decide) (E.build f14 (parts2 f14 rfl rfl) (wbl40_0_2_co _ _)) fun a15 f15 => ?_
  refine L.call f15 wantedN rfl (by decide) (run_call Tryd.call9 (args5 f15 rfl rfl rfl rfl rfl)) (putK t1 k1 1 1 ⟨6, 0, 1⟩ ⟨⟨#[97]⟩, [], 2, false, none, 0⟩ 0 rfl k2 w5 (Tt1.ok.kept HKt1) Tt1.is (sm_of (by kernel_rfl)) (by decide) (asc_len (by decide)) (G.kept HK) rfl (Sl.nil _ _ _) (by decide) k2_is) ?_
  clear f11 f12 a11 f13 a13 f14 a14
  rintro e w6 ⟨kc6, t2, rfl, Tt2n, Tt2i⟩
  have Tt2 := Tk.mk Tt2n.ok Tt2i
  refine ⟨_, rfl, fun a16 f16 => ?_⟩
  have szw6 := kc6.size
  replace HK := HK.z kc6
  replace HKt1 := HKt1.z kc6
  replace Bg3 := Bg3.z kc6
  clear f15 a15 kc6
  have HKt2 := Kept.refl [] w6
  refine L.alloc f16 wantedN (by decide) (z := (.agg #[(.slice none 0 0), (.slice none 0 0), (.slice none 0 0), (.slice none 0 0)])) (fun _ => by kernel_rfl) rfl fun a17 w7 g6 N6 f17 => ?_
  have Bg6 := N6.blk
  have kg6 := N6.kept
  have log6 := N6.lo
  have ltg6 := Bg6.lt
  have szw7 := kg6.size
  have frg6 : w.heap.size ≤ g6 := Nat.le_trans HK.size log6
  have frg6_HKt1 : w3.heap.size ≤ g6 := Nat.le_trans HKt1.size log6
  have frg6_HKt2 : w6.heap.size ≤ g6 := Nat.le_trans HKt2.size log6
  have neg3_g6 : g3 ≠ g6 := by have := Bg3.lt; omega
  replace HK := HK.z kg6
  replace HKt1 := HKt1.z kg6
  replace Bg3 := Bg3.z kg6
  replace HKt2 := HKt2.z kg6
  clear N6 kg6
  refine L.storeR f17 wantedN wsz37_co rfl rfl rfl Bg6 rfl rfl fun a18 w8 f18 NB8 ks8 => ?_
  have szw8 := ks8.size
  replace HK := HK.trans ks8 (by intro x hx hlt; simp at hx; subst hx; (exfalso; omega))
  replace HKt1 := HKt1.trans ks8 (by intro x hx hlt; simp at hx; subst hx; (exfalso; omega))
  replace Bg3 := Bg3.kept ks8 (by simp; omega)
  replace HKt2 := HKt2.trans ks8 (by intro x hx hlt; simp at hx; subst hx; (exfalso; omega))
  replace Bg6 := NB8
  clear f16 a16 ks8 f17 a17
  have f19 := f18.sub (sub_cons (i := 0) rfl (sub_cons (i := 1) rfl (sub_cons (i := 2) rfl sn)))
  refine wpList_nil (hK2 _ _ (C.sk fun K3 hK3 => ?_))
  refine L.val f19 wantedN rfl (by decide) (E.loadB f19 U37 rfl wsz37_co rfl (Bg3) rfl) fun a20 f20 => ?_
  refine L.call f20 wantedN rfl (by decide) (run_call Tryd.call10 (args2 f20 rfl rfl)) (getK_yes t1 k1 ⟨#[97]⟩ c1 w8 (Tt1.ok.kept HKt1) Tt1.is (sm_of (by kernel_rfl)) (asc_len (by decide)) k1_get) ?_
  clear f18 f19 a18
  rintro e w9 ⟨kc9, A1, j1, rfl, P1⟩
  refine ⟨_, rfl, fun a21 f21 => ?_⟩
  have szw9 := kc9.size
  replace HK := HK.z kc9
  replace HKt1 := HKt1.z kc9
  replace Bg3 := Bg3.z kc9
  replace HKt2 := HKt2.z kc9
  replace Bg6 := Bg6.z kc9
  clear f20 a20 kc9
  refine L.val f21 wantedN rfl (by decide) (E.move f21 rfl) fun a22 f22 => ?_
  refine L.val f22 wantedN rfl (by decide) (E.extract f22 rfl rfl) fun a23 f23 => ?_
  refine L.val f23 wantedN rfl (by decide) (E.extract f23 rfl rfl) fun a24 f24 => ?_
  have f25 := f24.as (i := 21) (v' := .bool true) rfl (by rfl)
  refine L.alloc f25 wantedN (by decide) (z := (.agg #[(.int .i64 0), (.int .i64 0), (.int .i64 0), (.int .i64 0), (.int .i64 0), (.int .i64 0), (.string ⟨#[]⟩), (.slice none 0 0), (.int .i64 0), (.bool false)])) (fun _ => by kernel_rfl) rfl fun a26 w10 g9 N9 f26 => ?_
  have Bg9 := N9.blk
  have kg9 := N9.kept
  have log9 := N9.lo
  have ltg9 := Bg9.lt
  have szw10 := kg9.size
  have frg9 : w.heap.size ≤ g9 := Nat.le_trans HK.size log9
  have frg9_HKt1 : w3.heap.size ≤ g9 := Nat.le_trans HKt1.size log9
  have frg9_HKt2 : w6.heap.size ≤ g9 := Nat.le_trans HKt2.size log9
  have neg3_g9 : g3 ≠ g9 := by have := Bg3.lt; omega
  have neg6_g9 : g6 ≠ g9 := by have := Bg6.lt; omega
  replace HK := HK.z kg9
  replace HKt1 := HKt1.z kg9
  replace Bg3 := Bg3.z kg9
  replace HKt2 := HKt2.z kg9
  replace Bg6 := Bg6.z kg9
  replace P1 := P1.kept kg9
  clear f21 a21 f22 a22 f23 a23 f24 N9 kg9
  refine L.storeR f26 wantedN wsz28_co rfl rfl rfl Bg9 rfl rfl fun a27 w11 f27 NB11 ks11 => ?_
  have szw11 := ks11.size
  replace HK := HK.trans ks11 (by intro x hx hlt; simp at hx; subst hx; (exfalso; omega))
  replace HKt1 := HKt1.trans ks11 (by intro x hx hlt; simp at hx; subst hx; (exfalso; omega))
  replace Bg3 := Bg3.kept ks11 (by simp; omega)
  replace HKt2 := HKt2.trans ks11 (by intro x hx hlt; simp at hx; subst hx; (exfalso; omega))
  replace Bg6 := Bg6.kept ks11 (by simp; omega)
  replace P1 := P1.kept1 ks11 Bg9 (by decide)
  replace Bg9 := NB11
  clear f25 a24 ks11 f26 a26
  refine L.val f27 wantedN rfl (by decide) (E.assign f27 rfl) fun a28 f28 => ?_
  have f29 := f28.sub (sub_cons (i := 0) rfl (sub_cons (i := 1) rfl (sub_cons (i := 2) rfl (sub_cons (i := 3) rfl (sub_cons (i := 4) rfl sn)))))
  refine wpList_nil (hK3 _ _ (C.sk fun K4 hK4 => ?_))
  refine L.val f29 wantedN rfl (by decide) (E.loadB f29 U37 rfl wsz37_co rfl (Bg6) rfl) fun a30 f30 => ?_
  refine L.call f30 wantedN rfl (by decide) (run_call Tryd.call10 (args2 f30 rfl rfl)) (getK_no t2 k2 ⟨#[97]⟩ w11 (Tt2.ok.kept HKt2) Tt2.is (sm_of (by kernel_rfl)) (asc_len (by decide)) k2_get) ?_
  clear f27 a27 f28 f29 a28
  rintro e w12 ⟨kc12, rfl⟩
  refine ⟨_, rfl, fun a31 f31 => ?_⟩
  have szw12 := kc12.size
  replace HK := HK.z kc12
  replace HKt1 := HKt1.z kc12
  replace Bg3 := Bg3.z kc12
  replace HKt2 := HKt2.z kc12
  replace Bg6 := Bg6.z kc12
  replace P1 := P1.kept kc12
  replace Bg9 := Bg9.z kc12
  clear f30 a30 kc12
  refine L.val f31 wantedN rfl (by decide) (E.move f31 rfl) fun a32 f32 => ?_
  refine L.val f32 wantedN rfl (by decide) (E.extract f32 rfl rfl) fun a33 f33 => ?_
  refine L.val f33 wantedN rfl (by decide) (E.extract f33 rfl rfl) fun a34 f34 => ?_
  have f35 := f34.as (i := 26) (v' := .bool false) rfl (by rfl)
  refine L.alloc f35 wantedN (by decide) (z := (.agg #[(.int .i64 0), (.int .i64 0), (.int .i64 0), (.int .i64 0), (.int .i64 0), (.int .i64 0), (.string ⟨#[]⟩), (.slice none 0 0), (.int .i64 0), (.bool false)])) (fun _ => by kernel_rfl) rfl fun a36 w13 g12 N12 f36 => ?_
  have Bg12 := N12.blk
  have kg12 := N12.kept
  have log12 := N12.lo
  have ltg12 := Bg12.lt
  have szw13 := kg12.size
  have frg12 : w.heap.size ≤ g12 := Nat.le_trans HK.size log12
  have frg12_HKt1 : w3.heap.size ≤ g12 := Nat.le_trans HKt1.size log12
  have frg12_HKt2 : w6.heap.size ≤ g12 := Nat.le_trans HKt2.size log12
  have neg3_g12 : g3 ≠ g12 := by have := Bg3.lt; omega
  have neg6_g12 : g6 ≠ g12 := by have := Bg6.lt; omega
  have neg9_g12 : g9 ≠ g12 := by have := Bg9.lt; omega
  replace HK := HK.z kg12
  replace HKt1 := HKt1.z kg12
  replace Bg3 := Bg3.z kg12
  replace HKt2 := HKt2.z kg12
  replace Bg6 := Bg6.z kg12
  replace P1 := P1.kept kg12
  replace Bg9 := Bg9.z kg12
  clear f31 a31 f32 a32 f33 a33 f34 N12 kg12
  refine L.storeR f36 wantedN wsz28_co rfl rfl rfl Bg12 rfl rfl fun a37 w14 f37 NB14 ks14 => ?_
  have szw14 := ks14.size
  replace HK := HK.trans ks14 (by intro x hx hlt; simp at hx; subst hx; (exfalso; omega))
  replace HKt1 := HKt1.trans ks14 (by intro x hx hlt; simp at hx; subst hx; (exfalso; omega))
  replace Bg3 := Bg3.kept ks14 (by simp; omega)
  replace HKt2 := HKt2.trans ks14 (by intro x hx hlt; simp at hx; subst hx; (exfalso; omega))
  replace Bg6 := Bg6.kept ks14 (by simp; omega)
  replace P1 := P1.kept1 ks14 Bg12 (by decide)
  replace Bg9 := Bg9.kept ks14 (by simp; omega)
  replace Bg12 := NB14
  clear f35 a34 ks14 f36 a36
  refine L.val f37 wantedN rfl (by decide) (E.assign f37 rfl) fun a38 f38 => ?_
  refine wpList_nil (hK4 _ _ ?_)
  have f39 := f38.sub (sub_cons (i := 0) rfl (sub_cons (i := 1) rfl (sub_cons (i := 2) rfl (sub_cons (i := 3) rfl (sub_cons (i := 4) rfl (sub_cons (i := 6) rfl sn))))))
  refine wp_seq_k fun K5 hK5 => ?_
  have l2 : t2.cel.length = 1 := (ta_len Tt2.is).trans (by kernel_rfl)
  obtain ⟨p2, hx2, hp2⟩ := ta_at Tt2.is (i := 0) (c := c2) (by kernel_rfl)
  obtain ⟨b2, off2, hA2⟩ := Tt2.ok.addr (i := 0) (by omega)
  refine C.region ?_
  refine L.val f39 wantedN rfl (by decide) (E.move f39 rfl) fun a40 f40 => ?_
  refine L.val f40 wantedN rfl (by decide) (E.move f40 rfl) fun a41 f41 => ?_
  refine L.val f41 (f41.yes rfl rfl) rfl (by decide) (E.fieldAddrN 7 f41 U28 rfl rfl rfl wsz26_co) fun a42 f42 => ?_
  refine L.val f42 (f42.yes rfl rfl) rfl (by decide) (E.load f42 U26 rfl rfl ((Bg9).cl rfl)) fun a43 f43 => ?_
  refine L.val f43 (f43.yes rfl rfl) rfl (by decide) (E.toStr f43 rfl U26 U5 U9 P1.sl) fun a44 f44 => ?_
  refine L.val f44 (f44.yes rfl rfl) rfl (by decide) (E.eqlS f44 rfl rfl) fun a45 f45 => ?_
  clear f37 a37 f38 f39 a38 f40 a40 f41 a41 f42 a42 f43 a43 f44 a44
  have f46 := f45.as (i := 32) (v' := .bool true) rfl (by kernel_rfl)
  refine L.val f46 wantedN rfl (by decide) (E.pickT f46 rfl rfl) fun a47 f47 => ?_
  refine L.val f47 wantedN rfl (by decide) (E.move f47 rfl) fun a48 f48 => ?_
  refine L.val f48 (f48.yes rfl rfl) rfl (by decide) (E.fieldAddrN 8 f48 U28 rfl rfl rfl wsz3_co) fun a49 f49 => ?_
  refine L.val f49 (f49.yes rfl rfl) rfl (by decide) (E.load f49 U3 rfl rfl ((Bg9).cl rfl)) fun a50 f50 => ?_
  refine L.val f50 (f50.yes rfl rfl) rfl (by decide) (E.eql f50 rfl rfl) fun a51 f51 => ?_
  have f52 := f51.as (i := 37) (v' := .bool true) rfl (by rfl)
  refine L.val f52 wantedN rfl (by decide) (E.pickT f52 rfl rfl) fun a53 f53 => ?_
  clear f45 f46 a45 f47 a47 f48 a48 f49 a49 f50 a50 f51 f52 a51
  refine L.val f53 wantedN rfl (by decide) (E.move f53 rfl) fun a54 f54 => ?_
  refine L.val f54 (f54.yes rfl rfl) rfl (by decide) (E.move f54 rfl) fun a55 f55 => ?_
  refine L.val f55 (f55.yes rfl rfl) rfl (by decide) (E.not f55 rfl) fun a56 f56 => ?_
  refine L.val f56 wantedN rfl (by decide) (E.pickT f56 rfl rfl) fun a57 f57 => ?_
  refine L.val f57 wantedN rfl (by decide) (E.move f57 rfl) fun a58 f58 => ?_
  refine L.val f58 (f58.yes rfl rfl) rfl (by decide) (E.fieldAddrN 3 f58 U37 rfl rfl rfl wsz35_co) fun a59 f59 => ?_
  refine L.val f59 (f59.yes rfl rfl) rfl (by decide) (E.load f59 U35 rfl rfl ((Bg6).cl rfl)) fun a60 f60 => ?_
  clear f53 a53 f54 a54 f55 a55 f56 a56 f57 a57 f58 a58 f59 a59
  refine L.val f60 (f60.yes rfl rfl) rfl (by decide) (E.lenL f60 U35 rfl) fun a61 f61 => ?_
  refine L.val f61 (f61.yes rfl rfl) rfl (by decide) (E.eql f61 rfl rfl) fun a62 f62 => ?_
  refine L.val f62 wantedN rfl (by decide) (E.pickT f62 rfl rfl) fun a63 f63 => ?_
  have f64 := f63.as (i := 48) (v' := .bool true) rfl (by simp [l2])
  refine L.val f64 wantedN rfl (by decide) (E.move f64 rfl) fun a65 f65 => ?_
  refine L.val f65 (f65.yes rfl rfl) rfl (by decide) (E.fieldAddrN 3 f65 U37 rfl rfl rfl wsz35_co) fun a66 f66 => ?_
  refine L.val f66 (f66.yes rfl rfl) rfl (by decide) (E.load f66 U35 rfl rfl ((Bg6).cl rfl)) fun a67 f67 => ?_
  refine L.val f67 (f67.yes rfl rfl) rfl (by decide) (E.indexA f67 (by assumption) U35 wsz28_co rfl rfl (by omega) (by omega)) fun a68 f68 => ?_
  clear f60 a60 f61 a61 f62 a62 f63 f64 a63 f65 a65 f66 a66 f67 a67
  refine L.val f68 (f68.yes rfl rfl) rfl (by decide) (E.fieldAddrN 9 f68 U28 rfl rfl rfl wsz4_co) fun a69 f69 => ?_
  refine L.val f69 (f69.yes rfl rfl) rfl (by decide) (E.load f69 U4 rfl rfl (((Tt2.ok.kept HKt2).c.row hA2 hx2 9 _ rfl))) fun a70 f70 => ?_
  have f71 := f70.as (i := 54) (v' := .bool true) rfl (by rw [hp2]; rfl)
  refine L.val f71 wantedN rfl (by decide) (E.pickT f71 rfl rfl) fun a72 f72 => ?_
  refine L.val f72 wantedN rfl (by decide) (E.move f72 rfl) fun a73 f73 => ?_
  refine L.val f73 (f73.yes rfl rfl) rfl (by decide) (E.fieldAddrN 3 f73 U37 rfl rfl rfl wsz35_co) fun a74 f74 => ?_
  refine L.val f74 (f74.yes rfl rfl) rfl (by decide) (E.load f74 U35 rfl rfl ((Bg6).cl rfl)) fun a75 f75 => ?_
  refine L.val f75 (f75.yes rfl rfl) rfl (by decide) (E.indexA f75 (by assumption) U35 wsz28_co rfl rfl (by omega) (by omega)) fun a76 f76 => ?_
  clear f68 a68 f69 a69 f70 f71 a70 f72 a72 f73 a73 f74 a74 f75 a75
  refine L.val f76 (f76.yes rfl rfl) rfl (by decide) (E.fieldAddrN 8 f76 U28 rfl rfl rfl wsz3_co) fun a77 f77 => ?_
  refine L.val f77 (f77.yes rfl rfl) rfl (by decide) (E.load f77 U3 rfl rfl (((Tt2.ok.kept HKt2).c.row hA2 hx2 8 _ rfl))) fun a78 f78 => ?_
  refine L.val f78 (f78.yes rfl rfl) rfl (by decide) (E.eql f78 rfl rfl) fun a79 f79 => ?_
  have f80 := f79.as (i := 62) (v' := .bool true) rfl (by rw [hp2]; rfl)
  refine L.val f80 wantedN rfl (by decide) (E.pickT f80 rfl rfl) fun a81 f81 => ?_
  refine L.val f81 wantedN rfl (by decide) (E.move f81 rfl) fun a82 f82 => ?_
  refine L.val f82 (f82.yes rfl rfl) rfl (by decide) (E.loadB f82 U37 rfl wsz37_co rfl (Bg6) rfl) fun a83 f83 => ?_
  refine L.call f83 (f83.yes rfl rfl) rfl (by decide) (run_call Tryd.call11 (args2 f83 rfl rfl)) (pruneK t2 k2 [] none 0 w14 (Tt2.ok.kept HKt2) Tt2.is (sm_of (by kernel_rfl)) ⟨Sl.nil _ _ _, by simp⟩ (by simp)) ?_
  clear f76 a76 f77 a77 f78 a78 f79 f80 a79 f81 a81 f82 a82
  rintro e w15 ⟨kc15, t3, rfl, Tt3⟩
  refine ⟨_, rfl, fun a84 f84 => ?_⟩
  have szw15 := kc15.size
  replace HK := HK.z kc15
  replace HKt1 := HKt1.z kc15
  replace Bg3 := Bg3.z kc15
  replace HKt2 := HKt2.z kc15
  replace Bg6 := Bg6.z kc15
  replace P1 := P1.kept kc15
  replace Bg9 := Bg9.z kc15
  replace Bg12 := Bg12.z kc15
  clear f83 a83 kc15
  have l3 : t3.cel.length = 0 := (ta_len Tt3.is).trans (by kernel_rfl)
  refine L.val f84 (f84.yes rfl rfl) rfl (by decide) (E.field f84 U37 rfl rfl U35 rfl rfl) fun a85 f85 => ?_
  refine L.val f85 (f85.yes rfl rfl) rfl (by decide) (E.lenL f85 U35 rfl) fun a86 f86 => ?_
  refine L.val f86 (f86.yes rfl rfl) rfl (by decide) (E.eql f86 rfl rfl) fun a87 f87 => ?_
  have f88 := f87.as (i := 69) (v' := .bool true) rfl (by simp [l3])
  refine L.val f88 wantedN rfl (by decide) (E.pickT f88 rfl rfl) fun a89 f89 => ?_
  refine L.val f89 wantedN rfl (by decide) (E.move f89 rfl) fun a90 f90 => ?_
  refine L.val f90 (f90.yes rfl rfl) rfl (by decide) (E.loadB f90 U37 rfl wsz37_co rfl (Bg6) rfl) fun a91 f91 => ?_
  refine L.call f91 (f91.yes rfl rfl) rfl (by decide) (run_call Tryd.call12 (args1 f91 rfl)) (topK t2 k2 w15 (Tt2.ok.kept HKt2) Tt2.is (sm_of (by kernel_rfl))) ?_
  clear f84 a84 f85 a85 f86 a86 f87 f88 a87 f89 a89 f90 a90
  rintro e w16 ⟨kc16, rfl⟩
  refine ⟨_, rfl, fun a92 f92 => ?_⟩
  have szw16 := kc16.size
  replace HK := HK.z kc16
  replace HKt1 := HKt1.z kc16
  replace Bg3 := Bg3.z kc16
  replace HKt2 := HKt2.z kc16
  replace Bg6 := Bg6.z kc16
  replace P1 := P1.kept kc16
  replace Bg9 := Bg9.z kc16
  replace Bg12 := Bg12.z kc16
  clear f91 a91 kc16
  refine L.val f92 (f92.yes rfl rfl) rfl (by decide) (E.field f92 U25 rfl rfl U2 rfl rfl) fun a93 f93 => ?_
  refine L.val f93 (f93.yes rfl rfl) rfl (by decide) (E.eql f93 rfl rfl) fun a94 f94 => ?_
  have f95 := f94.as (i := 75) (v' := .bool true) rfl (by kernel_rfl)
  refine L.val f95 wantedN rfl (by decide) (E.pickT f95 rfl rfl) fun a96 f96 => ?_
  refine L.val f96 wantedN rfl (by decide) (E.move f96 rfl) fun a97 f97 => ?_
  refine L.val f97 (f97.yes rfl rfl) rfl (by decide) (E.loadB f97 U37 rfl wsz37_co rfl (Bg3) rfl) fun a98 f98 => ?_
  refine L.call f98 (f98.yes rfl rfl) rfl (by decide) (run_call Tryd.call13 (args2 f98 rfl rfl)) (matchK t1 k1 ⟨#[35]⟩ w16 (Tt1.ok.kept HKt1) Tt1.is (sm_of (by kernel_rfl)) (G.kept HK) (by decide) (by decide)) ?_
  clear f92 a92 f93 a93 f94 f95 a94 f96 a96 f97 a97
  rintro e w17 ⟨kc17, Am, cm, lo, rfl, hm, -⟩
  refine ⟨_, rfl, fun a99 f99 => ?_⟩
  have szw17 := kc17.size
  replace HK := HK.z kc17
  replace HKt1 := HKt1.z kc17
  replace Bg3 := Bg3.z kc17
  replace HKt2 := HKt2.z kc17
  replace Bg6 := Bg6.z kc17
  replace P1 := P1.kept kc17
  replace Bg9 := Bg9.z kc17
  replace Bg12 := Bg12.z kc17
  clear f98 a98 kc17
  have lm : lo.length = 1 := (len_of_map hm).trans (by kernel_rfl)
  refine L.val f99 (f99.yes rfl rfl) rfl (by decide) (E.lenL f99 U35 rfl) fun a100 f100 => ?_
  refine L.val f100 (f100.yes rfl rfl) rfl (by decide) (E.eql f100 rfl rfl) fun a101 f101 => ?_
  have f102 := f101.as (i := 81) (v' := .bool true) rfl (by simp [lm])
  refine L.val f102 wantedN rfl (by decide) (E.pickT f102 rfl rfl) fun a103 f103 => ?_
  refine L.val f103 wantedN rfl (by decide) (E.assign f103 rfl) fun a104 f104 => ?_
  have f105 := f104.sub (sub_cons (i := 0) rfl sn)
  refine wpList_nil (hK5 _ _ (wp_ret ?_)); (try simp only [xt, xb]); refine C.ret f105 rfl rfl ?_
  exact ⟨HK, rfl⟩
end Go.Proofs.YtekmhcdgmgbheaaDoor
namespace Go.Proofs.YtekmhcdgmgbheaaDoor
open Go.RowKit Go.Hub Go.Lib
theorem fieldsD : (Tryd.prog.fieldsOf 23).toList = [{ name := "Node", type := 3, offset := 0, embedded := false, tag := "", pkgPath := "", byteOffset := 0 }, { name := "Epoch", type := 3, offset := 1, embedded := false, tag := "", pkgPath := "", byteOffset := 8 }, { name := "N", type := 3, offset := 2, embedded := false, tag := "", pkgPath := "", byteOffset := 16 }] := by kernel_rfl
theorem eqlDot (x y : Operand) (d d' : Dt) (w : World) : (do eqGuard .eql 23 x y (.agg (dcell d).toArray) (.agg (dcell d').toArray); binOp .eql 23 (.agg (dcell d).toArray) (.agg (dcell d').toArray) : Sem Value).run Tryd.prog w = .ok (.bool (decide (d = d'))) w := by
  rw [Sem.run_bind, run_eqGuard_agg w .eql 23 x y _ _ (by kernel_rfl)]
  simp only [Result.andThen_ok]
  rw [run_eql_struct, run_equalIn_struct w 9999 23 _ _ (by kernel_rfl) (by kernel_rfl)]
  rw [fieldsD]
  simp [go_sem]
  obtain ⟨a, b, c⟩ := d
  obtain ⟨a', b', c'⟩ := d'
  by_cases h1 : a = a' <;> by_cases h2 : b = b' <;> by_cases h3 : c = c' <;> simp [h1, h2, h3]
end Go.Proofs.YtekmhcdgmgbheaaDoor
namespace Go.Proofs.YtekmhcdgmgbheaaDoor
open Go.RowKit Go.Hub Go.Lib
theorem wsz23_ct : (Tryd.prog.info? 23).map (·.size) = some 3 := by kernel_rfl
theorem wsz26_ct : (Tryd.prog.info? 26).map (·.size) = some 1 := by kernel_rfl
theorem wsz28_ct : (Tryd.prog.info? 28).map (·.size) = some 10 := by kernel_rfl
theorem wsz32_ct : (Tryd.prog.info? 32).map (·.size) = some 1 := by kernel_rfl
theorem wsz35_ct : (Tryd.prog.info? 35).map (·.size) = some 1 := by kernel_rfl
theorem wsz37_ct : (Tryd.prog.info? 37).map (·.size) = some 4 := by kernel_rfl
theorem wbl23_0_1_2_ct (x0 : Int) (x1 : Int) (x2 : Int) : Tryd.prog.built 23 [(0, .int .i64 x0), (1, .int .i64 x1), (2, .int .i64 x2)] = some #[.int .i64 x0, .int .i64 x1, .int .i64 x2] := by kernel_rfl
theorem wbl25_0_ct (x0 : Int) : Tryd.prog.built 25 [(0, .int .i64 x0)] = some #[.int .i64 x0, (.int .i64 0), (.int .i64 0)] := by kernel_rfl
theorem wbl37__ct  : Tryd.prog.built 37 [] = some #[(.slice none 0 0), (.slice none 0 0), (.slice none 0 0), (.slice none 0 0)] := by kernel_rfl
theorem wbl40_0_ct (x0 : ByteArray) : Tryd.prog.built 40 [(0, .string x0)] = some #[.string x0, (.slice none 0 0), (.int .i64 0), (.bool false)] := by kernel_rfl
theorem wbl40_0_1_ct (x0 : ByteArray) (x1 : Option Addr) (y1 z1 : Nat) : Tryd.prog.built 40 [(0, .string x0), (1, .slice x1 y1 z1)] = some #[.string x0, .slice x1 y1 z1, (.int .i64 0), (.bool false)] := by kernel_rfl
theorem wbl40_0_1_2_ct (x0 : ByteArray) (x1 : Option Addr) (y1 z1 : Nat) (x2 : Int) : Tryd.prog.built 40 [(0, .string x0), (1, .slice x1 y1 z1), (2, .int .i64 x2)] = some #[.string x0, .slice x1 y1 z1, .int .i64 x2, (.bool false)] := by kernel_rfl
def gC1 (l q : Int) (us : List UInt8) : Ce := ⟨⟨1, 1, 1⟩, ⟨l + 1, 0, 0⟩, ⟨#[97, 47, 98]⟩, us, q % 3, false⟩
def gC2 (l m : Int) : Ce := ⟨⟨2, 1, 1⟩, ⟨l + 1 + m % 3 - 1, 0, 0⟩, ⟨#[97, 47, 98]⟩, [], 0, true⟩
def gC3 (l : Int) (us : List UInt8) : Ce := ⟨⟨3, 1, 1⟩, ⟨l + 1 + 2, 0, 0⟩, ⟨#[97, 47, 98]⟩, us, 0, false⟩
def gT1 (l q : Int) (us : List UInt8) : Ta := ⟨[⟨1, 1, 1⟩], [], [], [gC1 l q us]⟩
def gT2 (l q : Int) (us : List UInt8) (m : Int) : Ta := ⟨[⟨1, 1, 1⟩, ⟨2, 1, 1⟩], [], [], [if m % 3 = 0 then gC1 l q us else gC2 l m]⟩
def gT3 (l q : Int) (us : List UInt8) : Ta := ⟨[⟨1, 1, 1⟩, ⟨2, 1, 1⟩, ⟨3, 1, 1⟩], [], [], [gC3 l us]⟩
section
variable {l q m : Int} {us : List UInt8}
theorem sm_g1 (h : us.length ≤ 30) : SmT (gT1 l q us) := ⟨by simp [gT1], by simp [gT1], by simp [gT1], by simp [gT1], fun x hx => by simp [gT1] at hx; subst hx; simp [gC1]; omega⟩
theorem sm_g2 (h : us.length ≤ 30) : SmT (gT2 l q us m) := ⟨by simp [gT2], by simp [gT2], by simp [gT2], by simp [gT2], fun x hx => by
  simp [gT2] at hx
  subst hx
  split
  · simp [gC1]; omega
  simp [gC2]⟩
theorem sm_g3 (h : us.length ≤ 30) : SmT (gT3 l q us) := ⟨by simp [gT3], by simp [gT3], by simp [gT3], by simp [gT3], fun x hx => by simp [gT3] at hx; subst hx; simp [gC3]; omega⟩
theorem g_asc2 (l q : Int) (us : List UInt8) (m : Int) : AscT (gT2 l q us m).cel := asc_len (by simp [gT2])
theorem g_get2y (h : m % 3 = 0) : getC (gT2 l q us m).cel ⟨#[97, 47, 98]⟩ = some (gC1 l q us) := by simp [getC, gT2, h, gC1]
theorem g_get2n (h : ¬ m % 3 = 0) : getC (gT2 l q us m).cel ⟨#[97, 47, 98]⟩ = none := by simp [getC, gT2, h, gC2]
theorem g_get3 : getC (gT3 l q us).cel ⟨#[97, 47, 98]⟩ = some (gC3 l us) := by simp [getC, gT3, gC3]
theorem g_name : nameB ⟨#[97, 47, 98]⟩ = true := by kernel_rfl
theorem g_put1 (h0 : 0 < us.length) (lq : 0 ≤ q ∧ q < 256) (ll : 0 ≤ l ∧ l < 65536) : putT k0 1 1 ⟨l + 1, 0, 0⟩ ⟨#[97, 47, 98]⟩ us (q % 3) = gT1 l q us := by
  have hok : putOk 1 1 ⟨l + 1, 0, 0⟩ ⟨#[97, 47, 98]⟩ (q % 3) = true := by
    unfold putOk
    rw [g_name]
    simp [stampedB]
    omega
  unfold putT
  rw [if_pos hok]
  have hc : putC k0 1 1 ⟨l + 1, 0, 0⟩ ⟨#[97, 47, 98]⟩ us (q % 3) = gC1 l q us := by
    unfold putC gC1
    rw [if_neg (by omega), decide_eq_false (by omega)]
    rfl
  rw [hc]
  rfl
theorem g_put2 (lq : 0 ≤ q ∧ q < 256) (ll : 0 ≤ l ∧ l < 65536) (lm : 0 ≤ m ∧ m < 65536) : putT (gT1 l q us) 2 1 ⟨l + 1 + m % 3 - 1, 0, 0⟩ ⟨#[97, 47, 98]⟩ [] 0 = gT2 l q us m := by
  have hok : putOk 2 1 ⟨l + 1 + m % 3 - 1, 0, 0⟩ ⟨#[97, 47, 98]⟩ 0 = true := by
    unfold putOk
    rw [g_name]
    simp [stampedB]
    omega
  unfold putT
  rw [if_pos hok]
  have hc : putC (gT1 l q us) 2 1 ⟨l + 1 + m % 3 - 1, 0, 0⟩ ⟨#[97, 47, 98]⟩ [] 0 = gC2 l m := rfl
  rw [hc]
  have hs : addD (gT1 l q us).seen (putD (gT1 l q us) 2 1) = [⟨1, 1, 1⟩, ⟨2, 1, 1⟩] := rfl
  rw [hs]
  unfold gT2
  congr 1
  show insC [gC1 l q us] (gC2 l m) = _
  rw [insC, if_pos (show (gC1 l q us).topic = (gC2 l m).topic from rfl)]
  have hn : newerB (gC1 l q us) (gC2 l m) = decide (m % 3 = 0) := by
    unfold newerB
    rw [Bool.eq_iff_iff]
    simp only [Bool.or_eq_true, Bool.and_eq_true, Bool.not_eq_true', decide_eq_true_eq, decide_eq_false_iff_not]
    unfold gC1 gC2 ltS nearI lt3
    simp only
    omega
  rw [hn]
  by_cases h : m % 3 = 0
  · simp [h]
  simp [h]
theorem g_put3 (h0 : 0 < us.length) (lq : 0 ≤ q ∧ q < 256) (ll : 0 ≤ l ∧ l < 65536) (lm : 0 ≤ m ∧ m < 65536) : putT (gT2 l q us m) 3 1 ⟨l + 1 + 2, 0, 0⟩ ⟨#[97, 47, 98]⟩ us 0 = gT3 l q us := by
  have hok : putOk 3 1 ⟨l + 1 + 2, 0, 0⟩ ⟨#[97, 47, 98]⟩ 0 = true := by
    unfold putOk
    rw [g_name]
    simp [stampedB]
    omega
  unfold putT
  rw [if_pos hok]
  have hc : putC (gT2 l q us m) 3 1 ⟨l + 1 + 2, 0, 0⟩ ⟨#[97, 47, 98]⟩ us 0 = gC3 l us := by
    unfold putC gC3
    rw [if_neg (by omega), decide_eq_false (by omega)]
    rfl
  rw [hc]
  have hs : addD (gT2 l q us m).seen (putD (gT2 l q us m) 3 1) = [⟨1, 1, 1⟩, ⟨2, 1, 1⟩, ⟨3, 1, 1⟩] := rfl
  rw [hs]
  unfold gT3
  congr 1
  unfold gT2
  have hn : newerB (if m % 3 = 0 then gC1 l q us else gC2 l m) (gC3 l us) = false := by
    unfold newerB
    simp only [Bool.or_eq_false_iff, decide_eq_false_iff_not, Bool.and_eq_false_iff, Bool.not_eq_false', decide_eq_true_eq]
    split
    · unfold gC1 gC3 ltS nearI lt3
      simp only
      omega
    unfold gC2 gC3 ltS nearI lt3
    simp only
    omega
  have ht : (if m % 3 = 0 then gC1 l q us else gC2 l m).topic = (gC3 l us).topic := by split <;> rfl
  show insC [if m % 3 = 0 then gC1 l q us else gC2 l m] (gC3 l us) = _
  rw [insC, if_pos ht, hn]
  simp
end
set_option maxRecDepth 100000 in
set_option maxHeartbeats 4000000 in
theorem gone_walk0 (us : List UInt8) (A : Option Addr) (c : Nat) (q l m : Int) (w : World) (G : Glob w) (A1 : Sl w A us.length 1 (us.map u8)) (lq : 0 ≤ q ∧ q < 256) (ll : 0 ≤ l ∧ l < 65536) (lm : 0 ≤ m ∧ m < 65536) (hm : m % 3 = 0) : Calls Tryd.prog 5 #[.slice A us.length c, .int .u8 q, .int .u16 l, .int .u16 m] w (fun e w' => Kept [] w w' ∧ e = .returned (.bool true)) := by
  have HK : Kept [] w w := Kept.refl [] w
  refine C.enter Tryd.func5 rfl Tryd.ntmps5 rfl ?_
  intro a0 f0
  have f1 : Fr 111 a0 [(0, .slice A us.length c), (1, .int .u8 q), (2, .int .u16 l), (3, .int .u16 m)] := f0
  refine C.sk fun K0 hK0 => ?_
  refine L.val f1 wantedN rfl (by decide) (E.assign f1 rfl) fun a2 f2 => ?_
  refine wpList_nil (hK0 _ _ ?_)
  have f3 := f2.sub (sub_cons (i := 0) rfl (sub_cons (i := 1) rfl (sub_cons (i := 2) rfl (sub_cons (i := 3) rfl (sub_cons (i := 8) rfl sn)))))
  refine wp_seq_k fun K1 hK1 => ?_
  refine C.sk fun K2 hK2 => ?_
  refine L.call f3 wantedN rfl (by decide) (run_call Tryd.call6 (args0 f3)) (known_any _ (G.kept HK)) ?_
  clear f0 f1 a0 f2
  rintro e w1 ⟨kc1, rfl⟩
  refine ⟨_, rfl, fun a4 f4 => ?_⟩
  have szw1 := kc1.size
  replace HK := HK.z kc1
  clear f3 a2 kc1
  refine L.val f4 wantedN rfl (by decide) (E.not f4 rfl) fun a5 f5 => ?_
  refine wpList_nil (hK2 _ _ ?_)
  have f6 := f5.sub (sub_cons (i := 0) rfl (sub_cons (i := 1) rfl (sub_cons (i := 2) rfl (sub_cons (i := 3) rfl (sub_cons (i := 8) rfl (sub_cons (i := 19) rfl sn))))))
  refine C.condF f6 rfl ?_
  refine wp_skip (hK1 _ _ ?_)
  have f7 := f6.sub (sub_cons (i := 0) rfl (sub_cons (i := 1) rfl (sub_cons (i := 2) rfl (sub_cons (i := 3) rfl (sub_cons (i := 8) rfl sn)))))
  refine wp_seq_k fun K3 hK3 => ?_
  refine C.sk fun K4 hK4 => ?_
  refine L.val f7 wantedN rfl (by decide) (E.move f7 rfl) fun a8 f8 => ?_
  refine L.val f8 wantedN rfl (by decide) (E.lenL f8 U26 rfl) fun a9 f9 => ?_
  refine L.val f9 wantedN rfl (by decide) (E.gtr f9 rfl rfl) fun a10 f10 => ?_
  refine L.val f10 wantedN rfl (by decide) (E.move f10 rfl) fun a11 f11 => ?_
  clear f4 a4 f5 f6 f7 a5 f8 a8 f9 a9 f10 a10
  refine f11.splitD 23 rfl (fun h0 f12 => ?_) (fun h0 f12 => ?_)
  · have h23 := h0
    refine L.run f12 (rest' := []) (by kernel_rfl) fun a13 f13 => ?_
    clear f11
    refine wpList_nil (hK4 _ _ ?_)
    have f14 := f13.sub (scR f13 0 (scR f13 1 (scR f13 2 (scR f13 3 (scR f13 8 (sv 27 (.bool true) sn))))))
    refine C.condT f14 rfl ?_
    refine C.sk fun K5 hK5 => ?_
    refine L.val f14 wantedN rfl (by decide) (E.assign f14 rfl) fun a15 f15 => ?_
    have f16 := f15.sub (sub_cons (i := 0) rfl (sub_cons (i := 1) rfl (sub_cons (i := 2) rfl (sub_cons (i := 3) rfl (sub_cons (i := 8) rfl sn)))))
    refine wpList_nil (hK5 _ _ (wp_ret ?_)); (try simp only [xt, xb]); refine C.ret f16 rfl rfl ?_
    exact ⟨HK, rfl⟩
  have h23 := h0
  refine L.val f12 (f12.yes rfl rfl) rfl (by decide) (E.move f12 rfl) fun a13 f13 => ?_
  refine L.val f13 (f13.yes rfl rfl) rfl (by decide) (E.lenL f13 U26 rfl) fun a14 f14 => ?_
  refine L.val f14 (f14.yes rfl rfl) rfl (by decide) (E.eql f14 rfl rfl) fun a15 f15 => ?_
  refine L.val f15 wantedN rfl (by decide) (E.pickF f15 rfl rfl) fun a16 f16 => ?_
  refine wpList_nil (hK4 _ _ ?_)
  have f17 := f16.sub (sub_cons (i := 0) rfl (sub_cons (i := 1) rfl (sub_cons (i := 2) rfl (sub_cons (i := 3) rfl (sub_cons (i := 8) rfl (sub_cons (i := 27) rfl sn))))))
  clear f11 f12 a11 f13 a13 f14 a14 f15 a15 f16
  refine f17.splitD 27 rfl (fun h1 f18 => ?_) (fun h1 f18 => ?_)
  · have h27 := h1
    refine C.condT f18 rfl ?_
    refine C.sk fun K6 hK6 => ?_
    refine L.val f18 wantedN rfl (by decide) (E.assign f18 rfl) fun a19 f19 => ?_
    have f20 := f19.sub (sub_cons (i := 0) rfl (sub_cons (i := 1) rfl (sub_cons (i := 2) rfl (sub_cons (i := 3) rfl (sub_cons (i := 8) rfl sn)))))
    refine wpList_nil (hK6 _ _ (wp_ret ?_)); (try simp only [xt, xb]); refine C.ret f20 rfl rfl ?_
    exact ⟨HK, rfl⟩
  have h27 := h1
  refine C.condF f18 rfl ?_
  refine wp_skip (hK3 _ _ ?_)
  have f19 := f18.sub (sub_cons (i := 0) rfl (sub_cons (i := 1) rfl (sub_cons (i := 2) rfl (sub_cons (i := 3) rfl (sub_cons (i := 8) rfl sn)))))
  refine wp_seq_k fun K7 hK7 => ?_
  have hu30 : us.length ≤ 30 := by omega
  have hu0 : 0 < us.length := by omega
  refine C.region ?_
  refine L.val f19 wantedN rfl (by decide) (E.move f19 rfl) fun a20 f20 => ?_
  refine L.val f20 wantedN rfl (by decide) (E.conv f20 Tryd.underlying44 U2 rfl (IntWalk.i64_in _ (by omega))) fun a21 f21 => ?_
  refine L.val f21 wantedN rfl (by decide) (E.add f21 rfl rfl (IntWalk.i64_in _ (by omega))) fun a22 f22 => ?_
  refine L.val f22 wantedN rfl (by decide) (E.assign f22 rfl) fun a23 f23 => ?_
  have f24 := f23.sub (sub_cons (i := 0) rfl (sub_cons (i := 1) rfl (sub_cons (i := 3) rfl (sub_cons (i := 8) rfl (sub_cons (i := 9) rfl sn)))))
  refine wpList_nil (hK7 _ _ (C.sk fun K8 hK8 => ?_))
  refine L.val f24 wantedN rfl (by decide) (E.build f24 (parts0 f24) (wbl37__ct)) fun a25 f25 => ?_
  refine L.val f25 wantedN rfl (by decide) (E.move f25 rfl) fun a26 f26 => ?_
  clear f17 f18 f19 a16 f20 a20 f21 a21 f22 a22 f23 f24 a23 f25 a25
  refine L.val f26 wantedN rfl (by decide) (E.build f26 (parts1 f26 rfl) (wbl25_0_ct _)) fun a27 f27 => ?_
  refine L.val f27 wantedN rfl (by decide) (E.move f27 rfl) fun a28 f28 => ?_
  refine L.val f28 wantedN rfl (by decide) (E.move f28 rfl) fun a29 f29 => ?_
  refine L.val f29 wantedN rfl (by decide) (E.rem f29 rfl rfl (by omega) (Int.tmod_eq_emod_of_nonneg (by omega))) fun a30 f30 => ?_
  refine L.val f30 wantedN rfl (by decide) (E.conv f30 U5 U3 rfl (IntWalk.i64_in _ (by omega))) fun a31 f31 => ?_
  refine L.val f31 wantedN rfl (by decide) (E.build f31 (parts3 f31 rfl rfl rfl) (wbl40_0_1_2_ct _ _ _ _ _)) fun a32 f32 => ?_
  refine L.call f32 wantedN rfl (by decide) (run_call Tryd.call9 (args5 f32 rfl rfl rfl rfl rfl)) (putK tz k0 1 1 ⟨l + 1, 0, 0⟩ ⟨⟨#[97, 47, 98]⟩, us, q % 3, false, A, c⟩ us.length rfl (gT1 l q us) w1 (tz_ok _) rfl (sm_of (by kernel_rfl)) (by decide) (asc_len (by decide)) (G.kept HK) rfl (A1.kept HK) (by omega) (g_put1 hu0 lq ll)) ?_
  clear f26 a26 f27 a27 f28 a28 f29 a29 f30 a30 f31 a31
  rintro e w2 ⟨kc2, t1, rfl, Tt1n, Tt1i⟩
  have Tt1 := Tk.mk Tt1n.ok Tt1i
  refine ⟨_, rfl, fun a33 f33 => ?_⟩
  have szw2 := kc2.size
  replace HK := HK.z kc2
  clear f32 a32 kc2
  have HKt1 := Kept.refl [] w2
  refine L.alloc f33 wantedN (by decide) (z := (.agg #[(.slice none 0 0), (.slice none 0 0), (.slice none 0 0), (.slice none 0 0)])) (fun _ => by kernel_rfl) rfl fun a34 w3 g2 N2 f34 => ?_
  have Bg2 := N2.blk
  have kg2 := N2.kept
  have log2 := N2.lo
  have ltg2 := Bg2.lt
  have szw3 := kg2.size
  have frg2 : w.heap.size ≤ g2 := Nat.le_trans HK.size log2
  have frg2_HKt1 : w2.heap.size ≤ g2 := Nat.le_trans HKt1.size log2
  replace HK := HK.z kg2
  replace HKt1 := HKt1.z kg2
  clear N2 kg2
  refine L.storeR f34 wantedN wsz37_ct rfl rfl rfl Bg2 rfl rfl fun a35 w4 f35 NB4 ks4 => ?_
  have szw4 := ks4.size
  replace HK := HK.trans ks4 (by intro x hx hlt; simp at hx; subst hx; (exfalso; omega))
  replace HKt1 := HKt1.trans ks4 (by intro x hx hlt; simp at hx; subst hx; (exfalso; omega))
  replace Bg2 := NB4
  clear f33 a33 ks4 f34 a34
  have f36 := f35.sub (sub_cons (i := 0) rfl (sub_cons (i := 3) rfl (sub_cons (i := 8) rfl (sub_cons (i := 9) rfl (sub_cons (i := 10) rfl sn)))))
  refine wpList_nil (hK8 _ _ (C.sk fun K9 hK9 => ?_))
  refine L.val f36 wantedN rfl (by decide) (E.loadB f36 U37 rfl wsz37_ct rfl (Bg2) rfl) fun a37 f37 => ?_
  refine L.val f37 wantedN rfl (by decide) (E.move f37 rfl) fun a38 f38 => ?_
  refine L.val f38 wantedN rfl (by decide) (E.move f38 rfl) fun a39 f39 => ?_
  refine L.val f39 wantedN rfl (by decide) (E.rem f39 rfl rfl (by omega) (Int.tmod_eq_emod_of_nonneg (by omega))) fun a40 f40 => ?_
  refine L.val f40 wantedN rfl (by decide) (E.conv f40 Tryd.underlying44 U2 rfl (IntWalk.i64_in _ (by omega))) fun a41 f41 => ?_
  refine L.val f41 wantedN rfl (by decide) (E.add f41 rfl rfl (IntWalk.i64_in _ (by omega))) fun a42 f42 => ?_
  refine L.val f42 wantedN rfl (by decide) (E.sub f42 rfl rfl (IntWalk.i64_in _ (by omega))) fun a43 f43 => ?_
  clear f35 f36 a35 f37 a37 f38 a38 f39 a39 f40 a40 f41 a41 f42 a42
  refine L.val f43 wantedN rfl (by decide) (E.build f43 (parts1 f43 rfl) (wbl25_0_ct _)) fun a44 f44 => ?_
  refine L.val f44 wantedN rfl (by decide) (E.build f44 (parts1 f44 rfl) (wbl40_0_ct _)) fun a45 f45 => ?_
  refine L.call f45 wantedN rfl (by decide) (run_call Tryd.call9 (args5 f45 rfl rfl rfl rfl rfl)) (putK t1 (gT1 l q us) 2 1 ⟨l + 1 + m % 3 - 1, 0, 0⟩ ⟨⟨#[97, 47, 98]⟩, [], 0, false, none, 0⟩ 0 rfl (gT2 l q us m) w4 (Tt1.ok.kept HKt1) Tt1.is (sm_g1 hu30) (by show (0 : Int) ≤ 1000000000; decide) (asc_len (Nat.le_refl 1)) (G.kept HK) rfl (Sl.nil _ _ _) (by decide) (g_put2 lq ll lm)) ?_
  clear f43 a43 f44 a44
  rintro e w5 ⟨kc5, t2, rfl, Tt2n, Tt2i⟩
  have Tt2 := Tk.mk Tt2n.ok Tt2i
  refine ⟨_, rfl, fun a46 f46 => ?_⟩
  have szw5 := kc5.size
  replace HK := HK.z kc5
  replace HKt1 := HKt1.z kc5
  replace Bg2 := Bg2.z kc5
  clear f45 a45 kc5
  have HKt2 := Kept.refl [] w5
  refine L.alloc f46 wantedN (by decide) (z := (.agg #[(.slice none 0 0), (.slice none 0 0), (.slice none 0 0), (.slice none 0 0)])) (fun _ => by kernel_rfl) rfl fun a47 w6 g5 N5 f47 => ?_
  have Bg5 := N5.blk
  have kg5 := N5.kept
  have log5 := N5.lo
  have ltg5 := Bg5.lt
  have szw6 := kg5.size
  have frg5 : w.heap.size ≤ g5 := Nat.le_trans HK.size log5
  have frg5_HKt1 : w2.heap.size ≤ g5 := Nat.le_trans HKt1.size log5
  have frg5_HKt2 : w5.heap.size ≤ g5 := Nat.le_trans HKt2.size log5
  have neg2_g5 : g2 ≠ g5 := by have := Bg2.lt; omega
  replace HK := HK.z kg5
  replace HKt1 := HKt1.z kg5
  replace Bg2 := Bg2.z kg5
  replace HKt2 := HKt2.z kg5
  clear N5 kg5
  refine L.storeR f47 wantedN wsz37_ct rfl rfl rfl Bg5 rfl rfl fun a48 w7 f48 NB7 ks7 => ?_
  have szw7 := ks7.size
  replace HK := HK.trans ks7 (by intro x hx hlt; simp at hx; subst hx; (exfalso; omega))
  replace HKt1 := HKt1.trans ks7 (by intro x hx hlt; simp at hx; subst hx; (exfalso; omega))
  replace Bg2 := Bg2.kept ks7 (by simp; omega)
  replace HKt2 := HKt2.trans ks7 (by intro x hx hlt; simp at hx; subst hx; (exfalso; omega))
  replace Bg5 := NB7
  clear f46 a46 ks7 f47 a47
  have f49 := f48.sub (sub_cons (i := 0) rfl (sub_cons (i := 3) rfl (sub_cons (i := 8) rfl (sub_cons (i := 9) rfl (sub_cons (i := 11) rfl sn)))))
  refine wpList_nil (hK9 _ _ (C.sk fun K10 hK10 => ?_))
  refine L.val f49 wantedN rfl (by decide) (E.loadB f49 U37 rfl wsz37_ct rfl (Bg5) rfl) fun a50 f50 => ?_
  refine L.call f50 wantedN rfl (by decide) (run_call Tryd.call10 (args2 f50 rfl rfl)) (getK_yes t2 (gT2 l q us m) ⟨#[97, 47, 98]⟩ (gC1 l q us) w7 (Tt2.ok.kept HKt2) Tt2.is (sm_g2 hu30) (g_asc2 _ _ _ _) (g_get2y hm)) ?_
  clear f48 f49 a48
  rintro e w8 ⟨kc8, A2', j2, rfl, P2⟩
  refine ⟨_, rfl, fun a51 f51 => ?_⟩
  have szw8 := kc8.size
  replace HK := HK.z kc8
  replace HKt1 := HKt1.z kc8
  replace Bg2 := Bg2.z kc8
  replace HKt2 := HKt2.z kc8
  replace Bg5 := Bg5.z kc8
  clear f50 a50 kc8
  refine L.val f51 wantedN rfl (by decide) (E.move f51 rfl) fun a52 f52 => ?_
  refine L.val f52 wantedN rfl (by decide) (E.extract f52 rfl rfl) fun a53 f53 => ?_
  refine L.val f53 wantedN rfl (by decide) (E.extract f53 rfl rfl) fun a54 f54 => ?_
  have f55 := f54.as (i := 54) (v' := .bool true) rfl (by rfl)
  refine L.alloc f55 wantedN (by decide) (z := (.agg #[(.int .i64 0), (.int .i64 0), (.int .i64 0), (.int .i64 0), (.int .i64 0), (.int .i64 0), (.string ⟨#[]⟩), (.slice none 0 0), (.int .i64 0), (.bool false)])) (fun _ => by kernel_rfl) rfl fun a56 w9 g8 N8 f56 => ?_
  have Bg8 := N8.blk
  have kg8 := N8.kept
  have log8 := N8.lo
  have ltg8 := Bg8.lt
  have szw9 := kg8.size
  have frg8 : w.heap.size ≤ g8 := Nat.le_trans HK.size log8
  have frg8_HKt1 : w2.heap.size ≤ g8 := Nat.le_trans HKt1.size log8
  have frg8_HKt2 : w5.heap.size ≤ g8 := Nat.le_trans HKt2.size log8
  have neg2_g8 : g2 ≠ g8 := by have := Bg2.lt; omega
  have neg5_g8 : g5 ≠ g8 := by have := Bg5.lt; omega
  replace HK := HK.z kg8
  replace HKt1 := HKt1.z kg8
  replace Bg2 := Bg2.z kg8
  replace HKt2 := HKt2.z kg8
  replace Bg5 := Bg5.z kg8
  replace P2 := P2.kept kg8
  clear f51 a51 f52 a52 f53 a53 f54 N8 kg8
  refine L.storeR f56 wantedN wsz28_ct rfl rfl rfl Bg8 rfl rfl fun a57 w10 f57 NB10 ks10 => ?_
  have szw10 := ks10.size
  replace HK := HK.trans ks10 (by intro x hx hlt; simp at hx; subst hx; (exfalso; omega))
  replace HKt1 := HKt1.trans ks10 (by intro x hx hlt; simp at hx; subst hx; (exfalso; omega))
  replace Bg2 := Bg2.kept ks10 (by simp; omega)
  replace HKt2 := HKt2.trans ks10 (by intro x hx hlt; simp at hx; subst hx; (exfalso; omega))
  replace Bg5 := Bg5.kept ks10 (by simp; omega)
  replace P2 := P2.kept1 ks10 Bg8 (by decide)
  replace Bg8 := NB10
  clear f55 a54 ks10 f56 a56
  refine L.val f57 wantedN rfl (by decide) (E.assign f57 rfl) fun a58 f58 => ?_
  refine wpList_nil (hK10 _ _ ?_)
  have f59 := f58.sub (sub_cons (i := 0) rfl (sub_cons (i := 3) rfl (sub_cons (i := 8) rfl (sub_cons (i := 9) rfl (sub_cons (i := 11) rfl (sub_cons (i := 12) rfl (sub_cons (i := 13) rfl sn)))))))
  refine wp_seq_k fun K11 hK11 => ?_
  refine C.sk fun K12 hK12 => ?_
  refine L.val f59 wantedN rfl (by decide) (E.move f59 rfl) fun a60 f60 => ?_
  refine L.val f60 wantedN rfl (by decide) (E.rem f60 rfl rfl (by omega) (Int.tmod_eq_emod_of_nonneg (by omega))) fun a61 f61 => ?_
  refine L.val f61 wantedN rfl (by decide) (E.gtr f61 rfl rfl) fun a62 f62 => ?_
  have f63 := f62.as (i := 57) (v' := .bool false) rfl (by simp; omega)
  refine L.val f63 wantedN rfl (by decide) (E.assign f63 rfl) fun a64 f64 => ?_
  have f65 := f64.sub (sub_cons (i := 0) rfl (sub_cons (i := 8) rfl (sub_cons (i := 9) rfl (sub_cons (i := 11) rfl (sub_cons (i := 12) rfl (sub_cons (i := 13) rfl (sub_cons (i := 14) rfl sn)))))))
  refine wpList_nil (hK12 _ _ (C.sk fun K13 hK13 => ?_))
  refine L.val f65 wantedN rfl (by decide) (E.move f65 rfl) fun a66 f66 => ?_
  clear f57 a57 f58 f59 a58 f60 a60 f61 a61 f62 f63 a62 f64 f65 a64
  refine L.val f66 wantedN rfl (by decide) (E.move f66 rfl) fun a67 f67 => ?_
  refine L.val f67 wantedN rfl (by decide) (E.eqlB f67 U4 rfl rfl) fun a68 f68 => ?_
  have f69 := f68.as (i := 60) (v' := .bool false) rfl rfl
  refine L.val f69 wantedN rfl (by decide) (E.move f69 rfl) fun a70 f70 => ?_
  refine L.val f70 (f70.yes rfl rfl) rfl (by decide) (E.move f70 rfl) fun a71 f71 => ?_
  refine L.val f71 (f71.yes rfl rfl) rfl (by decide) (E.move f71 rfl) fun a72 f72 => ?_
  refine L.val f72 (f72.yes rfl rfl) rfl (by decide) (E.fieldAddrN 7 f72 U28 rfl rfl rfl wsz26_ct) fun a73 f73 => ?_
  refine L.val f73 (f73.yes rfl rfl) rfl (by decide) (E.load f73 U26 rfl rfl ((Bg8).cl rfl)) fun a74 f74 => ?_
  clear f66 a66 f67 a67 f68 f69 a68 f70 a70 f71 a71 f72 a72 f73 a73
  refine L.val f74 (f74.yes rfl rfl) rfl (by decide) (E.toStr f74 rfl U26 U5 U9 P2.sl) fun a75 f75 => ?_
  refine L.val f75 (f75.yes rfl rfl) rfl (by decide) (E.move f75 rfl) fun a76 f76 => ?_
  refine L.val f76 (f76.yes rfl rfl) rfl (by decide) (E.toStr f76 rfl U26 U5 U9 (A1.kept HK)) fun a77 f77 => ?_
  refine L.val f77 (f77.yes rfl rfl) rfl (by decide) (E.neqS f77 rfl rfl) fun a78 f78 => ?_
  have f79 := f78.as (i := 69) (v' := .bool false) rfl (by simp [gC1])
  refine L.val f79 (f79.yes rfl rfl) rfl (by decide) (E.pickT f79 rfl rfl) fun a80 f80 => ?_
  refine L.val f80 wantedN rfl (by decide) (E.pickF f80 rfl rfl) fun a81 f81 => ?_
  refine wpList_nil (hK13 _ _ ?_)
  have f82 := f81.sub (sub_cons (i := 0) rfl (sub_cons (i := 8) rfl (sub_cons (i := 9) rfl (sub_cons (i := 11) rfl (sub_cons (i := 71) rfl sn)))))
  clear f74 a74 f75 a75 f76 a76 f77 a77 f78 f79 a78 f80 a80 f81
  refine C.condF f82 rfl ?_
  refine wp_skip (hK11 _ _ ?_)
  have f83 := f82.sub (sub_cons (i := 0) rfl (sub_cons (i := 8) rfl (sub_cons (i := 9) rfl (sub_cons (i := 11) rfl sn))))
  refine C.sk fun K14 hK14 => ?_
  refine L.val f83 wantedN rfl (by decide) (E.loadB f83 U37 rfl wsz37_ct rfl (Bg5) rfl) fun a84 f84 => ?_
  refine L.val f84 wantedN rfl (by decide) (E.move f84 rfl) fun a85 f85 => ?_
  refine L.val f85 wantedN rfl (by decide) (E.add f85 rfl rfl (IntWalk.i64_in _ (by omega))) fun a86 f86 => ?_
  refine L.val f86 wantedN rfl (by decide) (E.build f86 (parts1 f86 rfl) (wbl25_0_ct _)) fun a87 f87 => ?_
  refine L.val f87 wantedN rfl (by decide) (E.move f87 rfl) fun a88 f88 => ?_
  refine L.val f88 wantedN rfl (by decide) (E.build f88 (parts2 f88 rfl rfl) (wbl40_0_1_ct _ _ _ _)) fun a89 f89 => ?_
  refine L.call f89 wantedN rfl (by decide) (run_call Tryd.call9 (args5 f89 rfl rfl rfl rfl rfl)) (putK t2 (gT2 l q us m) 3 1 ⟨l + 1 + 2, 0, 0⟩ ⟨⟨#[97, 47, 98]⟩, us, 0, false, A, c⟩ us.length rfl (gT3 l q us) w10 (Tt2.ok.kept HKt2) Tt2.is (sm_g2 hu30) (by show (0 : Int) ≤ 1000000000; decide) (g_asc2 _ _ _ _) (G.kept HK) rfl (A1.kept HK) (by omega) (g_put3 hu0 lq ll lm)) ?_
  clear f82 f83 a81 f84 a84 f85 a85 f86 a86 f87 a87 f88 a88
  rintro e w11 ⟨kc11, t3, rfl, Tt3n, Tt3i⟩
  have Tt3 := Tk.mk Tt3n.ok Tt3i
  refine ⟨_, rfl, fun a90 f90 => ?_⟩
  have szw11 := kc11.size
  replace HK := HK.z kc11
  replace HKt1 := HKt1.z kc11
  replace Bg2 := Bg2.z kc11
  replace HKt2 := HKt2.z kc11
  replace Bg5 := Bg5.z kc11
  replace P2 := P2.kept kc11
  replace Bg8 := Bg8.z kc11
  clear f89 a89 kc11
  have HKt3 := Kept.refl [] w11
  refine L.alloc f90 wantedN (by decide) (z := (.agg #[(.slice none 0 0), (.slice none 0 0), (.slice none 0 0), (.slice none 0 0)])) (fun _ => by kernel_rfl) rfl fun a91 w12 g11 N11 f91 => ?_
  have Bg11 := N11.blk
  have kg11 := N11.kept
  have log11 := N11.lo
  have ltg11 := Bg11.lt
  have szw12 := kg11.size
  have frg11 : w.heap.size ≤ g11 := Nat.le_trans HK.size log11
  have frg11_HKt1 : w2.heap.size ≤ g11 := Nat.le_trans HKt1.size log11
  have frg11_HKt2 : w5.heap.size ≤ g11 := Nat.le_trans HKt2.size log11
  have frg11_HKt3 : w11.heap.size ≤ g11 := Nat.le_trans HKt3.size log11
  have neg2_g11 : g2 ≠ g11 := by have := Bg2.lt; omega
  have neg5_g11 : g5 ≠ g11 := by have := Bg5.lt; omega
  have neg8_g11 : g8 ≠ g11 := by have := Bg8.lt; omega
  replace HK := HK.z kg11
  replace HKt1 := HKt1.z kg11
  replace Bg2 := Bg2.z kg11
  replace HKt2 := HKt2.z kg11
  replace Bg5 := Bg5.z kg11
  replace P2 := P2.kept kg11
  replace Bg8 := Bg8.z kg11
  replace HKt3 := HKt3.z kg11
  clear N11 kg11
  refine L.storeR f91 wantedN wsz37_ct rfl rfl rfl Bg11 rfl rfl fun a92 w13 f92 NB13 ks13 => ?_
  have szw13 := ks13.size
  replace HK := HK.trans ks13 (by intro x hx hlt; simp at hx; subst hx; (exfalso; omega))
  replace HKt1 := HKt1.trans ks13 (by intro x hx hlt; simp at hx; subst hx; (exfalso; omega))
  replace Bg2 := Bg2.kept ks13 (by simp; omega)
  replace HKt2 := HKt2.trans ks13 (by intro x hx hlt; simp at hx; subst hx; (exfalso; omega))
  replace Bg5 := Bg5.kept ks13 (by simp; omega)
  replace P2 := P2.kept1 ks13 Bg11 (by decide)
  replace Bg8 := Bg8.kept ks13 (by simp; omega)
  replace HKt3 := HKt3.trans ks13 (by intro x hx hlt; simp at hx; subst hx; (exfalso; omega))
  replace Bg11 := NB13
  clear f90 a90 ks13 f91 a91
  have f93 := f92.sub (sub_cons (i := 0) rfl (sub_cons (i := 8) rfl (sub_cons (i := 15) rfl sn)))
  refine wpList_nil (hK14 _ _ (C.sk fun K15 hK15 => ?_))
  refine L.val f93 wantedN rfl (by decide) (E.loadB f93 U37 rfl wsz37_ct rfl (Bg11) rfl) fun a94 f94 => ?_
  refine L.call f94 wantedN rfl (by decide) (run_call Tryd.call10 (args2 f94 rfl rfl)) (getK_yes t3 (gT3 l q us) ⟨#[97, 47, 98]⟩ (gC3 l us) w13 (Tt3.ok.kept HKt3) Tt3.is (sm_g3 hu30) (asc_len (Nat.le_refl 1)) g_get3) ?_
  clear f92 f93 a92
  rintro e w14 ⟨kc14, A3', j3, rfl, P3⟩
  refine ⟨_, rfl, fun a95 f95 => ?_⟩
  have szw14 := kc14.size
  replace HK := HK.z kc14
  replace HKt1 := HKt1.z kc14
  replace Bg2 := Bg2.z kc14
  replace HKt2 := HKt2.z kc14
  replace Bg5 := Bg5.z kc14
  replace P2 := P2.kept kc14
  replace Bg8 := Bg8.z kc14
  replace HKt3 := HKt3.z kc14
  replace Bg11 := Bg11.z kc14
  clear f94 a94 kc14
  refine L.val f95 wantedN rfl (by decide) (E.move f95 rfl) fun a96 f96 => ?_
  refine L.val f96 wantedN rfl (by decide) (E.extract f96 rfl rfl) fun a97 f97 => ?_
  refine L.val f97 wantedN rfl (by decide) (E.extract f97 rfl rfl) fun a98 f98 => ?_
  have f99 := f98.as (i := 83) (v' := .bool true) rfl (by rfl)
  refine L.alloc f99 wantedN (by decide) (z := (.agg #[(.int .i64 0), (.int .i64 0), (.int .i64 0), (.int .i64 0), (.int .i64 0), (.int .i64 0), (.string ⟨#[]⟩), (.slice none 0 0), (.int .i64 0), (.bool false)])) (fun _ => by kernel_rfl) rfl fun a100 w15 g14 N14 f100 => ?_
  have Bg14 := N14.blk
  have kg14 := N14.kept
  have log14 := N14.lo
  have ltg14 := Bg14.lt
  have szw15 := kg14.size
  have frg14 : w.heap.size ≤ g14 := Nat.le_trans HK.size log14
  have frg14_HKt1 : w2.heap.size ≤ g14 := Nat.le_trans HKt1.size log14
  have frg14_HKt2 : w5.heap.size ≤ g14 := Nat.le_trans HKt2.size log14
  have frg14_HKt3 : w11.heap.size ≤ g14 := Nat.le_trans HKt3.size log14
  have neg2_g14 : g2 ≠ g14 := by have := Bg2.lt; omega
  have neg5_g14 : g5 ≠ g14 := by have := Bg5.lt; omega
  have neg8_g14 : g8 ≠ g14 := by have := Bg8.lt; omega
  have neg11_g14 : g11 ≠ g14 := by have := Bg11.lt; omega
  replace HK := HK.z kg14
  replace HKt1 := HKt1.z kg14
  replace Bg2 := Bg2.z kg14
  replace HKt2 := HKt2.z kg14
  replace Bg5 := Bg5.z kg14
  replace P2 := P2.kept kg14
  replace Bg8 := Bg8.z kg14
  replace HKt3 := HKt3.z kg14
  replace Bg11 := Bg11.z kg14
  replace P3 := P3.kept kg14
  clear f95 a95 f96 a96 f97 a97 f98 N14 kg14
  refine L.storeR f100 wantedN wsz28_ct rfl rfl rfl Bg14 rfl rfl fun a101 w16 f101 NB16 ks16 => ?_
  have szw16 := ks16.size
  replace HK := HK.trans ks16 (by intro x hx hlt; simp at hx; subst hx; (exfalso; omega))
  replace HKt1 := HKt1.trans ks16 (by intro x hx hlt; simp at hx; subst hx; (exfalso; omega))
  replace Bg2 := Bg2.kept ks16 (by simp; omega)
  replace HKt2 := HKt2.trans ks16 (by intro x hx hlt; simp at hx; subst hx; (exfalso; omega))
  replace Bg5 := Bg5.kept ks16 (by simp; omega)
  replace P2 := P2.kept1 ks16 Bg14 (by decide)
  replace Bg8 := Bg8.kept ks16 (by simp; omega)
  replace HKt3 := HKt3.trans ks16 (by intro x hx hlt; simp at hx; subst hx; (exfalso; omega))
  replace Bg11 := Bg11.kept ks16 (by simp; omega)
  replace P3 := P3.kept1 ks16 Bg14 (by decide)
  replace Bg14 := NB16
  clear f99 a98 ks16 f100 a100
  refine L.val f101 wantedN rfl (by decide) (E.assign f101 rfl) fun a102 f102 => ?_
  refine wpList_nil (hK15 _ _ ?_)
  have f103 := f102.sub (sub_cons (i := 0) rfl (sub_cons (i := 8) rfl (sub_cons (i := 15) rfl (sub_cons (i := 16) rfl (sub_cons (i := 17) rfl sn)))))
  refine wp_seq_k fun K16 hK16 => ?_
  have hcl : t3.cel.length = 1 := (ta_len Tt3.is).trans rfl
  have hsl : t3.seen.length = 3 := by rw [show t3.seen = _ from congrArg Ta.seen Tt3.is]; rfl
  refine C.region ?_
  refine L.val f103 wantedN rfl (by decide) (E.move f103 rfl) fun a104 f104 => ?_
  refine L.val f104 wantedN rfl (by decide) (E.move f104 rfl) fun a105 f105 => ?_
  refine L.val f105 (f105.yes rfl rfl) rfl (by decide) (E.fieldAddrN 7 f105 U28 rfl rfl rfl wsz26_ct) fun a106 f106 => ?_
  refine L.val f106 (f106.yes rfl rfl) rfl (by decide) (E.load f106 U26 rfl rfl ((Bg14).cl rfl)) fun a107 f107 => ?_
  refine L.val f107 (f107.yes rfl rfl) rfl (by decide) (E.toStr f107 rfl U26 U5 U9 P3.sl) fun a108 f108 => ?_
  refine L.val f108 (f108.yes rfl rfl) rfl (by decide) (E.move f108 rfl) fun a109 f109 => ?_
  clear f101 a101 f102 f103 a102 f104 a104 f105 a105 f106 a106 f107 a107 f108 a108
  refine L.val f109 (f109.yes rfl rfl) rfl (by decide) (E.toStr f109 rfl U26 U5 U9 (A1.kept HK)) fun a110 f110 => ?_
  refine L.val f110 (f110.yes rfl rfl) rfl (by decide) (E.eqlS f110 rfl rfl) fun a111 f111 => ?_
  have f112 := f111.as (i := 91) (v' := .bool true) rfl (by simp [gC3])
  refine L.val f112 wantedN rfl (by decide) (E.pickT f112 rfl rfl) fun a113 f113 => ?_
  refine L.val f113 wantedN rfl (by decide) (E.move f113 rfl) fun a114 f114 => ?_
  refine L.val f114 (f114.yes rfl rfl) rfl (by decide) (E.fieldAddrN 0 f114 U28 rfl rfl rfl wsz23_ct) fun a115 f115 => ?_
  refine L.val f115 (f115.yes rfl rfl) rfl (by decide) (E.loadR f115 U23 rfl wsz23_ct rfl ((Bg14.part 0 (dcell (gC3 l us).d) rfl)) rfl) fun a116 f116 => ?_
  refine L.val f116 (f116.yes rfl rfl) rfl (by decide) (E.build f116 (parts3 f116 rfl rfl rfl) (wbl23_0_1_2_ct _ _ _)) fun a117 f117 => ?_
  clear f109 a109 f110 a110 f111 f112 a111 f113 a113 f114 a114 f115 a115 f116 a116
  refine L.val f117 (f117.yes rfl rfl) rfl (by decide) (E.eqlV f117 rfl rfl (eqlDot _ _ (gC3 l us).d ⟨3, 1, 1⟩)) fun a118 f118 => ?_
  have f119 := f118.as (i := 97) (v' := .bool true) rfl (by simp [gC3])
  refine L.val f119 wantedN rfl (by decide) (E.pickT f119 rfl rfl) fun a120 f120 => ?_
  refine L.val f120 wantedN rfl (by decide) (E.move f120 rfl) fun a121 f121 => ?_
  refine L.val f121 (f121.yes rfl rfl) rfl (by decide) (E.fieldAddrN 3 f121 U37 rfl rfl rfl wsz35_ct) fun a122 f122 => ?_
  refine L.val f122 (f122.yes rfl rfl) rfl (by decide) (E.load f122 U35 rfl rfl ((Bg11).cl rfl)) fun a123 f123 => ?_
  refine L.val f123 (f123.yes rfl rfl) rfl (by decide) (E.lenL f123 U35 rfl) fun a124 f124 => ?_
  refine L.val f124 (f124.yes rfl rfl) rfl (by decide) (E.eql f124 rfl rfl) fun a125 f125 => ?_
  clear f117 a117 f118 f119 a118 f120 a120 f121 a121 f122 a122 f123 a123 f124 a124
  have f126 := f125.as (i := 103) (v' := .bool true) rfl (by simp [hcl])
  refine L.val f126 wantedN rfl (by decide) (E.pickT f126 rfl rfl) fun a127 f127 => ?_
  refine L.val f127 wantedN rfl (by decide) (E.move f127 rfl) fun a128 f128 => ?_
  refine L.val f128 (f128.yes rfl rfl) rfl (by decide) (E.fieldAddrN 0 f128 U37 rfl rfl rfl wsz32_ct) fun a129 f129 => ?_
  refine L.val f129 (f129.yes rfl rfl) rfl (by decide) (E.load f129 U32 rfl rfl ((Bg11).cl rfl)) fun a130 f130 => ?_
  refine L.val f130 (f130.yes rfl rfl) rfl (by decide) (E.lenL f130 U32 rfl) fun a131 f131 => ?_
  refine L.val f131 (f131.yes rfl rfl) rfl (by decide) (E.eql f131 rfl rfl) fun a132 f132 => ?_
  have f133 := f132.as (i := 109) (v' := .bool true) rfl (by simp [hsl])
  clear f125 f126 a125 f127 a127 f128 a128 f129 a129 f130 a130 f131 a131 f132
  refine L.val f133 wantedN rfl (by decide) (E.pickT f133 rfl rfl) fun a134 f134 => ?_
  refine L.val f134 wantedN rfl (by decide) (E.assign f134 rfl) fun a135 f135 => ?_
  have f136 := f135.sub (sub_cons (i := 8) rfl sn)
  refine wpList_nil (hK16 _ _ (wp_ret ?_)); (try simp only [xt, xb]); refine C.ret f136 rfl rfl ?_
  exact ⟨HK, rfl⟩
set_option maxRecDepth 100000 in
set_option maxHeartbeats 4000000 in
theorem gone_walk1 (us : List UInt8) (A : Option Addr) (c : Nat) (q l m : Int) (w : World) (G : Glob w) (A1 : Sl w A us.length 1 (us.map u8)) (lq : 0 ≤ q ∧ q < 256) (ll : 0 ≤ l ∧ l < 65536) (lm : 0 ≤ m ∧ m < 65536) (hm : ¬ m % 3 = 0) : Calls Tryd.prog 5 #[.slice A us.length c, .int .u8 q, .int .u16 l, .int .u16 m] w (fun e w' => Kept [] w w' ∧ e = .returned (.bool true)) := by
  have HK : Kept [] w w := Kept.refl [] w
  refine C.enter Tryd.func5 rfl Tryd.ntmps5 rfl ?_
  intro a0 f0
  have f1 : Fr 111 a0 [(0, .slice A us.length c), (1, .int .u8 q), (2, .int .u16 l), (3, .int .u16 m)] := f0
  refine C.sk fun K0 hK0 => ?_
  refine L.val f1 wantedN rfl (by decide) (E.assign f1 rfl) fun a2 f2 => ?_
  refine wpList_nil (hK0 _ _ ?_)
  have f3 := f2.sub (sub_cons (i := 0) rfl (sub_cons (i := 1) rfl (sub_cons (i := 2) rfl (sub_cons (i := 3) rfl (sub_cons (i := 8) rfl sn)))))
  refine wp_seq_k fun K1 hK1 => ?_
  refine C.sk fun K2 hK2 => ?_
  refine L.call f3 wantedN rfl (by decide) (run_call Tryd.call6 (args0 f3)) (known_any _ (G.kept HK)) ?_
  clear f0 f1 a0 f2
  rintro e w1 ⟨kc1, rfl⟩
  refine ⟨_, rfl, fun a4 f4 => ?_⟩
  have szw1 := kc1.size
  replace HK := HK.z kc1
  clear f3 a2 kc1
  refine L.val f4 wantedN rfl (by decide) (E.not f4 rfl) fun a5 f5 => ?_
  refine wpList_nil (hK2 _ _ ?_)
  have f6 := f5.sub (sub_cons (i := 0) rfl (sub_cons (i := 1) rfl (sub_cons (i := 2) rfl (sub_cons (i := 3) rfl (sub_cons (i := 8) rfl (sub_cons (i := 19) rfl sn))))))
  refine C.condF f6 rfl ?_
  refine wp_skip (hK1 _ _ ?_)
  have f7 := f6.sub (sub_cons (i := 0) rfl (sub_cons (i := 1) rfl (sub_cons (i := 2) rfl (sub_cons (i := 3) rfl (sub_cons (i := 8) rfl sn)))))
  refine wp_seq_k fun K3 hK3 => ?_
  refine C.sk fun K4 hK4 => ?_
  refine L.val f7 wantedN rfl (by decide) (E.move f7 rfl) fun a8 f8 => ?_
  refine L.val f8 wantedN rfl (by decide) (E.lenL f8 U26 rfl) fun a9 f9 => ?_
  refine L.val f9 wantedN rfl (by decide) (E.gtr f9 rfl rfl) fun a10 f10 => ?_
  refine L.val f10 wantedN rfl (by decide) (E.move f10 rfl) fun a11 f11 => ?_
  clear f4 a4 f5 f6 f7 a5 f8 a8 f9 a9 f10 a10
  refine f11.splitD 23 rfl (fun h0 f12 => ?_) (fun h0 f12 => ?_)
  · have h23 := h0
    refine L.run f12 (rest' := []) (by kernel_rfl) fun a13 f13 => ?_
    clear f11
    refine wpList_nil (hK4 _ _ ?_)
    have f14 := f13.sub (scR f13 0 (scR f13 1 (scR f13 2 (scR f13 3 (scR f13 8 (sv 27 (.bool true) sn))))))
    refine C.condT f14 rfl ?_
    refine C.sk fun K5 hK5 => ?_
    refine L.val f14 wantedN rfl (by decide) (E.assign f14 rfl) fun a15 f15 => ?_
    have f16 := f15.sub (sub_cons (i := 0) rfl (sub_cons (i := 1) rfl (sub_cons (i := 2) rfl (sub_cons (i := 3) rfl (sub_cons (i := 8) rfl sn)))))
    refine wpList_nil (hK5 _ _ (wp_ret ?_)); (try simp only [xt, xb]); refine C.ret f16 rfl rfl ?_
    exact ⟨HK, rfl⟩
  have h23 := h0
  refine L.val f12 (f12.yes rfl rfl) rfl (by decide) (E.move f12 rfl) fun a13 f13 => ?_
  refine L.val f13 (f13.yes rfl rfl) rfl (by decide) (E.lenL f13 U26 rfl) fun a14 f14 => ?_
  refine L.val f14 (f14.yes rfl rfl) rfl (by decide) (E.eql f14 rfl rfl) fun a15 f15 => ?_
  refine L.val f15 wantedN rfl (by decide) (E.pickF f15 rfl rfl) fun a16 f16 => ?_
  refine wpList_nil (hK4 _ _ ?_)
  have f17 := f16.sub (sub_cons (i := 0) rfl (sub_cons (i := 1) rfl (sub_cons (i := 2) rfl (sub_cons (i := 3) rfl (sub_cons (i := 8) rfl (sub_cons (i := 27) rfl sn))))))
  clear f11 f12 a11 f13 a13 f14 a14 f15 a15 f16
  refine f17.splitD 27 rfl (fun h1 f18 => ?_) (fun h1 f18 => ?_)
  · have h27 := h1
    refine C.condT f18 rfl ?_
    refine C.sk fun K6 hK6 => ?_
    refine L.val f18 wantedN rfl (by decide) (E.assign f18 rfl) fun a19 f19 => ?_
    have f20 := f19.sub (sub_cons (i := 0) rfl (sub_cons (i := 1) rfl (sub_cons (i := 2) rfl (sub_cons (i := 3) rfl (sub_cons (i := 8) rfl sn)))))
    refine wpList_nil (hK6 _ _ (wp_ret ?_)); (try simp only [xt, xb]); refine C.ret f20 rfl rfl ?_
    exact ⟨HK, rfl⟩
  have h27 := h1
  refine C.condF f18 rfl ?_
  refine wp_skip (hK3 _ _ ?_)
  have f19 := f18.sub (sub_cons (i := 0) rfl (sub_cons (i := 1) rfl (sub_cons (i := 2) rfl (sub_cons (i := 3) rfl (sub_cons (i := 8) rfl sn)))))
  refine wp_seq_k fun K7 hK7 => ?_
  have hu30 : us.length ≤ 30 := by omega
  have hu0 : 0 < us.length := by omega
  refine C.region ?_
  refine L.val f19 wantedN rfl (by decide) (E.move f19 rfl) fun a20 f20 => ?_
  refine L.val f20 wantedN rfl (by decide) (E.conv f20 Tryd.underlying44 U2 rfl (IntWalk.i64_in _ (by omega))) fun a21 f21 => ?_
  refine L.val f21 wantedN rfl (by decide) (E.add f21 rfl rfl (IntWalk.i64_in _ (by omega))) fun a22 f22 => ?_
  refine L.val f22 wantedN rfl (by decide) (E.assign f22 rfl) fun a23 f23 => ?_
  have f24 := f23.sub (sub_cons (i := 0) rfl (sub_cons (i := 1) rfl (sub_cons (i := 3) rfl (sub_cons (i := 8) rfl (sub_cons (i := 9) rfl sn)))))
  refine wpList_nil (hK7 _ _ (C.sk fun K8 hK8 => ?_))
  refine L.val f24 wantedN rfl (by decide) (E.build f24 (parts0 f24) (wbl37__ct)) fun a25 f25 => ?_
  refine L.val f25 wantedN rfl (by decide) (E.move f25 rfl) fun a26 f26 => ?_
  clear f17 f18 f19 a16 f20 a20 f21 a21 f22 a22 f23 f24 a23 f25 a25
  refine L.val f26 wantedN rfl (by decide) (E.build f26 (parts1 f26 rfl) (wbl25_0_ct _)) fun a27 f27 => ?_
  refine L.val f27 wantedN rfl (by decide) (E.move f27 rfl) fun a28 f28 => ?_
  refine L.val f28 wantedN rfl (by decide) (E.move f28 rfl) fun a29 f29 => ?_
  refine L.val f29 wantedN rfl (by decide) (E.rem f29 rfl rfl (by omega) (Int.tmod_eq_emod_of_nonneg (by omega))) fun a30 f30 => ?_
  refine L.val f30 wantedN rfl (by decide) (E.conv f30 U5 U3 rfl (IntWalk.i64_in _ (by omega))) fun a31 f31 => ?_
  refine L.val f31 wantedN rfl (by decide) (E.build f31 (parts3 f31 rfl rfl rfl) (wbl40_0_1_2_ct _ _ _ _ _)) fun a32 f32 => ?_
  refine L.call f32 wantedN rfl (by decide) (run_call Tryd.call9 (args5 f32 rfl rfl rfl rfl rfl)) (putK tz k0 1 1 ⟨l + 1, 0, 0⟩ ⟨⟨#[97, 47, 98]⟩, us, q % 3, false, A, c⟩ us.length rfl (gT1 l q us) w1 (tz_ok _) rfl (sm_of (by kernel_rfl)) (by decide) (asc_len (by decide)) (G.kept HK) rfl (A1.kept HK) (by omega) (g_put1 hu0 lq ll)) ?_
  clear f26 a26 f27 a27 f28 a28 f29 a29 f30 a30 f31 a31
  rintro e w2 ⟨kc2, t1, rfl, Tt1n, Tt1i⟩
  have Tt1 := Tk.mk Tt1n.ok Tt1i
  refine ⟨_, rfl, fun a33 f33 => ?_⟩
  have szw2 := kc2.size
  replace HK := HK.z kc2
  clear f32 a32 kc2
  have HKt1 := Kept.refl [] w2
  refine L.alloc f33 wantedN (by decide) (z := (.agg #[(.slice none 0 0), (.slice none 0 0), (.slice none 0 0), (.slice none 0 0)])) (fun _ => by kernel_rfl) rfl fun a34 w3 g2 N2 f34 => ?_
  have Bg2 := N2.blk
  have kg2 := N2.kept
  have log2 := N2.lo
  have ltg2 := Bg2.lt
  have szw3 := kg2.size
  have frg2 : w.heap.size ≤ g2 := Nat.le_trans HK.size log2
  have frg2_HKt1 : w2.heap.size ≤ g2 := Nat.le_trans HKt1.size log2
  replace HK := HK.z kg2
  replace HKt1 := HKt1.z kg2
  clear N2 kg2
  refine L.storeR f34 wantedN wsz37_ct rfl rfl rfl Bg2 rfl rfl fun a35 w4 f35 NB4 ks4 => ?_
  have szw4 := ks4.size
  replace HK := HK.trans ks4 (by intro x hx hlt; simp at hx; subst hx; (exfalso; omega))
  replace HKt1 := HKt1.trans ks4 (by intro x hx hlt; simp at hx; subst hx; (exfalso; omega))
  replace Bg2 := NB4
  clear f33 a33 ks4 f34 a34
  have f36 := f35.sub (sub_cons (i := 0) rfl (sub_cons (i := 3) rfl (sub_cons (i := 8) rfl (sub_cons (i := 9) rfl (sub_cons (i := 10) rfl sn)))))
  refine wpList_nil (hK8 _ _ (C.sk fun K9 hK9 => ?_))
  refine L.val f36 wantedN rfl (by decide) (E.loadB f36 U37 rfl wsz37_ct rfl (Bg2) rfl) fun a37 f37 => ?_
  refine L.val f37 wantedN rfl (by decide) (E.move f37 rfl) fun a38 f38 => ?_
  refine L.val f38 wantedN rfl (by decide) (E.move f38 rfl) fun a39 f39 => ?_
  refine L.val f39 wantedN rfl (by decide) (E.rem f39 rfl rfl (by omega) (Int.tmod_eq_emod_of_nonneg (by omega))) fun a40 f40 => ?_
  refine L.val f40 wantedN rfl (by decide) (E.conv f40 Tryd.underlying44 U2 rfl (IntWalk.i64_in _ (by omega))) fun a41 f41 => ?_
  refine L.val f41 wantedN rfl (by decide) (E.add f41 rfl rfl (IntWalk.i64_in _ (by omega))) fun a42 f42 => ?_
  refine L.val f42 wantedN rfl (by decide) (E.sub f42 rfl rfl (IntWalk.i64_in _ (by omega))) fun a43 f43 => ?_
  clear f35 f36 a35 f37 a37 f38 a38 f39 a39 f40 a40 f41 a41 f42 a42
  refine L.val f43 wantedN rfl (by decide) (E.build f43 (parts1 f43 rfl) (wbl25_0_ct _)) fun a44 f44 => ?_
  refine L.val f44 wantedN rfl (by decide) (E.build f44 (parts1 f44 rfl) (wbl40_0_ct _)) fun a45 f45 => ?_
  refine L.call f45 wantedN rfl (by decide) (run_call Tryd.call9 (args5 f45 rfl rfl rfl rfl rfl)) (putK t1 (gT1 l q us) 2 1 ⟨l + 1 + m % 3 - 1, 0, 0⟩ ⟨⟨#[97, 47, 98]⟩, [], 0, false, none, 0⟩ 0 rfl (gT2 l q us m) w4 (Tt1.ok.kept HKt1) Tt1.is (sm_g1 hu30) (by show (0 : Int) ≤ 1000000000; decide) (asc_len (Nat.le_refl 1)) (G.kept HK) rfl (Sl.nil _ _ _) (by decide) (g_put2 lq ll lm)) ?_
  clear f43 a43 f44 a44
  rintro e w5 ⟨kc5, t2, rfl, Tt2n, Tt2i⟩
  have Tt2 := Tk.mk Tt2n.ok Tt2i
  refine ⟨_, rfl, fun a46 f46 => ?_⟩
  have szw5 := kc5.size
  replace HK := HK.z kc5
  replace HKt1 := HKt1.z kc5
  replace Bg2 := Bg2.z kc5
  clear f45 a45 kc5
  have HKt2 := Kept.refl [] w5
  refine L.alloc f46 wantedN (by decide) (z := (.agg #[(.slice none 0 0), (.slice none 0 0), (.slice none 0 0), (.slice none 0 0)])) (fun _ => by kernel_rfl) rfl fun a47 w6 g5 N5 f47 => ?_
  have Bg5 := N5.blk
  have kg5 := N5.kept
  have log5 := N5.lo
  have ltg5 := Bg5.lt
  have szw6 := kg5.size
  have frg5 : w.heap.size ≤ g5 := Nat.le_trans HK.size log5
  have frg5_HKt1 : w2.heap.size ≤ g5 := Nat.le_trans HKt1.size log5
  have frg5_HKt2 : w5.heap.size ≤ g5 := Nat.le_trans HKt2.size log5
  have neg2_g5 : g2 ≠ g5 := by have := Bg2.lt; omega
  replace HK := HK.z kg5
  replace HKt1 := HKt1.z kg5
  replace Bg2 := Bg2.z kg5
  replace HKt2 := HKt2.z kg5
  clear N5 kg5
  refine L.storeR f47 wantedN wsz37_ct rfl rfl rfl Bg5 rfl rfl fun a48 w7 f48 NB7 ks7 => ?_
  have szw7 := ks7.size
  replace HK := HK.trans ks7 (by intro x hx hlt; simp at hx; subst hx; (exfalso; omega))
  replace HKt1 := HKt1.trans ks7 (by intro x hx hlt; simp at hx; subst hx; (exfalso; omega))
  replace Bg2 := Bg2.kept ks7 (by simp; omega)
  replace HKt2 := HKt2.trans ks7 (by intro x hx hlt; simp at hx; subst hx; (exfalso; omega))
  replace Bg5 := NB7
  clear f46 a46 ks7 f47 a47
  have f49 := f48.sub (sub_cons (i := 0) rfl (sub_cons (i := 3) rfl (sub_cons (i := 8) rfl (sub_cons (i := 9) rfl (sub_cons (i := 11) rfl sn)))))
  refine wpList_nil (hK9 _ _ (C.sk fun K10 hK10 => ?_))
  refine L.val f49 wantedN rfl (by decide) (E.loadB f49 U37 rfl wsz37_ct rfl (Bg5) rfl) fun a50 f50 => ?_
  refine L.call f50 wantedN rfl (by decide) (run_call Tryd.call10 (args2 f50 rfl rfl)) (getK_no t2 (gT2 l q us m) ⟨#[97, 47, 98]⟩ w7 (Tt2.ok.kept HKt2) Tt2.is (sm_g2 hu30) (g_asc2 _ _ _ _) (g_get2n hm)) ?_
  clear f48 f49 a48
  rintro e w8 ⟨kc8, rfl⟩
  refine ⟨_, rfl, fun a51 f51 => ?_⟩
  have szw8 := kc8.size
  replace HK := HK.z kc8
  replace HKt1 := HKt1.z kc8
  replace Bg2 := Bg2.z kc8
  replace HKt2 := HKt2.z kc8
  replace Bg5 := Bg5.z kc8
  clear f50 a50 kc8
  refine L.val f51 wantedN rfl (by decide) (E.move f51 rfl) fun a52 f52 => ?_
  refine L.val f52 wantedN rfl (by decide) (E.extract f52 rfl rfl) fun a53 f53 => ?_
  refine L.val f53 wantedN rfl (by decide) (E.extract f53 rfl rfl) fun a54 f54 => ?_
  have f55 := f54.as (i := 54) (v' := .bool false) rfl (by rfl)
  refine L.alloc f55 wantedN (by decide) (z := (.agg #[(.int .i64 0), (.int .i64 0), (.int .i64 0), (.int .i64 0), (.int .i64 0), (.int .i64 0), (.string ⟨#[]⟩), (.slice none 0 0), (.int .i64 0), (.bool false)])) (fun _ => by kernel_rfl) rfl fun a56 w9 g8 N8 f56 => ?_
  have Bg8 := N8.blk
  have kg8 := N8.kept
  have log8 := N8.lo
  have ltg8 := Bg8.lt
  have szw9 := kg8.size
  have frg8 : w.heap.size ≤ g8 := Nat.le_trans HK.size log8
  have frg8_HKt1 : w2.heap.size ≤ g8 := Nat.le_trans HKt1.size log8
  have frg8_HKt2 : w5.heap.size ≤ g8 := Nat.le_trans HKt2.size log8
  have neg2_g8 : g2 ≠ g8 := by have := Bg2.lt; omega
  have neg5_g8 : g5 ≠ g8 := by have := Bg5.lt; omega
  replace HK := HK.z kg8
  replace HKt1 := HKt1.z kg8
  replace Bg2 := Bg2.z kg8
  replace HKt2 := HKt2.z kg8
  replace Bg5 := Bg5.z kg8
  clear f51 a51 f52 a52 f53 a53 f54 N8 kg8
  refine L.storeR f56 wantedN wsz28_ct rfl rfl rfl Bg8 rfl rfl fun a57 w10 f57 NB10 ks10 => ?_
  have szw10 := ks10.size
  replace HK := HK.trans ks10 (by intro x hx hlt; simp at hx; subst hx; (exfalso; omega))
  replace HKt1 := HKt1.trans ks10 (by intro x hx hlt; simp at hx; subst hx; (exfalso; omega))
  replace Bg2 := Bg2.kept ks10 (by simp; omega)
  replace HKt2 := HKt2.trans ks10 (by intro x hx hlt; simp at hx; subst hx; (exfalso; omega))
  replace Bg5 := Bg5.kept ks10 (by simp; omega)
  replace Bg8 := NB10
  clear f55 a54 ks10 f56 a56
  refine L.val f57 wantedN rfl (by decide) (E.assign f57 rfl) fun a58 f58 => ?_
  refine wpList_nil (hK10 _ _ ?_)
  have f59 := f58.sub (sub_cons (i := 0) rfl (sub_cons (i := 3) rfl (sub_cons (i := 8) rfl (sub_cons (i := 9) rfl (sub_cons (i := 11) rfl (sub_cons (i := 12) rfl (sub_cons (i := 13) rfl sn)))))))
  refine wp_seq_k fun K11 hK11 => ?_
  refine C.sk fun K12 hK12 => ?_
  refine L.val f59 wantedN rfl (by decide) (E.move f59 rfl) fun a60 f60 => ?_
  refine L.val f60 wantedN rfl (by decide) (E.rem f60 rfl rfl (by omega) (Int.tmod_eq_emod_of_nonneg (by omega))) fun a61 f61 => ?_
  refine L.val f61 wantedN rfl (by decide) (E.gtr f61 rfl rfl) fun a62 f62 => ?_
  have f63 := f62.as (i := 57) (v' := .bool true) rfl (by simp; omega)
  refine L.val f63 wantedN rfl (by decide) (E.assign f63 rfl) fun a64 f64 => ?_
  have f65 := f64.sub (sub_cons (i := 0) rfl (sub_cons (i := 8) rfl (sub_cons (i := 9) rfl (sub_cons (i := 11) rfl (sub_cons (i := 12) rfl (sub_cons (i := 13) rfl (sub_cons (i := 14) rfl sn)))))))
  refine wpList_nil (hK12 _ _ (C.sk fun K13 hK13 => ?_))
  refine L.val f65 wantedN rfl (by decide) (E.move f65 rfl) fun a66 f66 => ?_
  clear f57 a57 f58 f59 a58 f60 a60 f61 a61 f62 f63 a62 f64 f65 a64
  refine L.val f66 wantedN rfl (by decide) (E.move f66 rfl) fun a67 f67 => ?_
  refine L.val f67 wantedN rfl (by decide) (E.eqlB f67 U4 rfl rfl) fun a68 f68 => ?_
  have f69 := f68.as (i := 60) (v' := .bool false) rfl rfl
  refine L.val f69 wantedN rfl (by decide) (E.move f69 rfl) fun a70 f70 => ?_
  refine L.val f70 (f70.yes rfl rfl) rfl (by decide) (E.move f70 rfl) fun a71 f71 => ?_
  refine L.val f71 (f71.yes rfl rfl) rfl (by decide) (E.move f71 rfl) fun a72 f72 => ?_
  refine L.skip f72 (f72.noT rfl rfl) rfl (by decide) fun a73 f73 => ?_
  refine L.skip f73 (f73.noT rfl rfl) rfl (by decide) fun a74 f74 => ?_
  clear f66 a66 f67 a67 f68 f69 a68 f70 a70 f71 a71 f72 a72 f73 a73
  refine L.skip f74 (f74.noT rfl rfl) rfl (by decide) fun a75 f75 => ?_
  refine L.skip f75 (f75.noT rfl rfl) rfl (by decide) fun a76 f76 => ?_
  refine L.skip f76 (f76.noT rfl rfl) rfl (by decide) fun a77 f77 => ?_
  refine L.skip f77 (f77.noT rfl rfl) rfl (by decide) fun a78 f78 => ?_
  refine L.val f78 (f78.yes rfl rfl) rfl (by decide) (E.pickF f78 rfl rfl) fun a79 f79 => ?_
  refine L.val f79 wantedN rfl (by decide) (E.pickF f79 rfl rfl) fun a80 f80 => ?_
  refine wpList_nil (hK13 _ _ ?_)
  have f81 := f80.sub (sub_cons (i := 0) rfl (sub_cons (i := 8) rfl (sub_cons (i := 9) rfl (sub_cons (i := 11) rfl (sub_cons (i := 71) rfl sn)))))
  refine C.condF f81 rfl ?_
  refine wp_skip (hK11 _ _ ?_)
  have f82 := f81.sub (sub_cons (i := 0) rfl (sub_cons (i := 8) rfl (sub_cons (i := 9) rfl (sub_cons (i := 11) rfl sn))))
  clear f74 a74 f75 a75 f76 a76 f77 a77 f78 a78 f79 a79 f80 f81
  refine C.sk fun K14 hK14 => ?_
  refine L.val f82 wantedN rfl (by decide) (E.loadB f82 U37 rfl wsz37_ct rfl (Bg5) rfl) fun a83 f83 => ?_
  refine L.val f83 wantedN rfl (by decide) (E.move f83 rfl) fun a84 f84 => ?_
  refine L.val f84 wantedN rfl (by decide) (E.add f84 rfl rfl (IntWalk.i64_in _ (by omega))) fun a85 f85 => ?_
  refine L.val f85 wantedN rfl (by decide) (E.build f85 (parts1 f85 rfl) (wbl25_0_ct _)) fun a86 f86 => ?_
  refine L.val f86 wantedN rfl (by decide) (E.move f86 rfl) fun a87 f87 => ?_
  refine L.val f87 wantedN rfl (by decide) (E.build f87 (parts2 f87 rfl rfl) (wbl40_0_1_ct _ _ _ _)) fun a88 f88 => ?_
  refine L.call f88 wantedN rfl (by decide) (run_call Tryd.call9 (args5 f88 rfl rfl rfl rfl rfl)) (putK t2 (gT2 l q us m) 3 1 ⟨l + 1 + 2, 0, 0⟩ ⟨⟨#[97, 47, 98]⟩, us, 0, false, A, c⟩ us.length rfl (gT3 l q us) w10 (Tt2.ok.kept HKt2) Tt2.is (sm_g2 hu30) (by show (0 : Int) ≤ 1000000000; decide) (g_asc2 _ _ _ _) (G.kept HK) rfl (A1.kept HK) (by omega) (g_put3 hu0 lq ll lm)) ?_
  clear f82 a80 f83 a83 f84 a84 f85 a85 f86 a86 f87 a87
  rintro e w11 ⟨kc11, t3, rfl, Tt3n, Tt3i⟩
  have Tt3 := Tk.mk Tt3n.ok Tt3i
  refine ⟨_, rfl, fun a89 f89 => ?_⟩
  have szw11 := kc11.size
  replace HK := HK.z kc11
  replace HKt1 := HKt1.z kc11
  replace Bg2 := Bg2.z kc11
  replace HKt2 := HKt2.z kc11
  replace Bg5 := Bg5.z kc11
  replace Bg8 := Bg8.z kc11
  clear f88 a88 kc11
  have HKt3 := Kept.refl [] w11
  refine L.alloc f89 wantedN (by decide) (z := (.agg #[(.slice none 0 0), (.slice none 0 0), (.slice none 0 0), (.slice none 0 0)])) (fun _ => by kernel_rfl) rfl fun a90 w12 g11 N11 f90 => ?_
  have Bg11 := N11.blk
  have kg11 := N11.kept
  have log11 := N11.lo
  have ltg11 := Bg11.lt
  have szw12 := kg11.size
  have frg11 : w.heap.size ≤ g11 := Nat.le_trans HK.size log11
  have frg11_HKt1 : w2.heap.size ≤ g11 := Nat.le_trans HKt1.size log11
  have frg11_HKt2 : w5.heap.size ≤ g11 := Nat.le_trans HKt2.size log11
  have frg11_HKt3 : w11.heap.size ≤ g11 := Nat.le_trans HKt3.size log11
  have neg2_g11 : g2 ≠ g11 := by have := Bg2.lt; omega
  have neg5_g11 : g5 ≠ g11 := by have := Bg5.lt; omega
  have neg8_g11 : g8 ≠ g11 := by have := Bg8.lt; omega
  replace HK := HK.z kg11
  replace HKt1 := HKt1.z kg11
  replace Bg2 := Bg2.z kg11
  replace HKt2 := HKt2.z kg11
  replace Bg5 := Bg5.z kg11
  replace Bg8 := Bg8.z kg11
  replace HKt3 := HKt3.z kg11
  clear N11 kg11
  refine L.storeR f90 wantedN wsz37_ct rfl rfl rfl Bg11 rfl rfl fun a91 w13 f91 NB13 ks13 => ?_
  have szw13 := ks13.size
  replace HK := HK.trans ks13 (by intro x hx hlt; simp at hx; subst hx; (exfalso; omega))
  replace HKt1 := HKt1.trans ks13 (by intro x hx hlt; simp at hx; subst hx; (exfalso; omega))
  replace Bg2 := Bg2.kept ks13 (by simp; omega)
  replace HKt2 := HKt2.trans ks13 (by intro x hx hlt; simp at hx; subst hx; (exfalso; omega))
  replace Bg5 := Bg5.kept ks13 (by simp; omega)
  replace Bg8 := Bg8.kept ks13 (by simp; omega)
  replace HKt3 := HKt3.trans ks13 (by intro x hx hlt; simp at hx; subst hx; (exfalso; omega))
  replace Bg11 := NB13
  clear f89 a89 ks13 f90 a90
  have f92 := f91.sub (sub_cons (i := 0) rfl (sub_cons (i := 8) rfl (sub_cons (i := 15) rfl sn)))
  refine wpList_nil (hK14 _ _ (C.sk fun K15 hK15 => ?_))
  refine L.val f92 wantedN rfl (by decide) (E.loadB f92 U37 rfl wsz37_ct rfl (Bg11) rfl) fun a93 f93 => ?_
  refine L.call f93 wantedN rfl (by decide) (run_call Tryd.call10 (args2 f93 rfl rfl)) (getK_yes t3 (gT3 l q us) ⟨#[97, 47, 98]⟩ (gC3 l us) w13 (Tt3.ok.kept HKt3) Tt3.is (sm_g3 hu30) (asc_len (Nat.le_refl 1)) g_get3) ?_
  clear f91 f92 a91
  rintro e w14 ⟨kc14, A3', j3, rfl, P3⟩
  refine ⟨_, rfl, fun a94 f94 => ?_⟩
  have szw14 := kc14.size
  replace HK := HK.z kc14
  replace HKt1 := HKt1.z kc14
  replace Bg2 := Bg2.z kc14
  replace HKt2 := HKt2.z kc14
  replace Bg5 := Bg5.z kc14
  replace Bg8 := Bg8.z kc14
  replace HKt3 := HKt3.z kc14
  replace Bg11 := Bg11.z kc14
  clear f93 a93 kc14
  refine L.val f94 wantedN rfl (by decide) (E.move f94 rfl) fun a95 f95 => ?_
  refine L.val f95 wantedN rfl (by decide) (E.extract f95 rfl rfl) fun a96 f96 => ?_
  refine L.val f96 wantedN rfl (by decide) (E.extract f96 rfl rfl) fun a97 f97 => ?_
  have f98 := f97.as (i := 83) (v' := .bool true) rfl (by rfl)
  refine L.alloc f98 wantedN (by decide) (z := (.agg #[(.int .i64 0), (.int .i64 0), (.int .i64 0), (.int .i64 0), (.int .i64 0), (.int .i64 0), (.string ⟨#[]⟩), (.slice none 0 0), (.int .i64 0), (.bool false)])) (fun _ => by kernel_rfl) rfl fun a99 w15 g14 N14 f99 => ?_
  have Bg14 := N14.blk
  have kg14 := N14.kept
  have log14 := N14.lo
  have ltg14 := Bg14.lt
  have szw15 := kg14.size
  have frg14 : w.heap.size ≤ g14 := Nat.le_trans HK.size log14
  have frg14_HKt1 : w2.heap.size ≤ g14 := Nat.le_trans HKt1.size log14
  have frg14_HKt2 : w5.heap.size ≤ g14 := Nat.le_trans HKt2.size log14
  have frg14_HKt3 : w11.heap.size ≤ g14 := Nat.le_trans HKt3.size log14
  have neg2_g14 : g2 ≠ g14 := by have := Bg2.lt; omega
  have neg5_g14 : g5 ≠ g14 := by have := Bg5.lt; omega
  have neg8_g14 : g8 ≠ g14 := by have := Bg8.lt; omega
  have neg11_g14 : g11 ≠ g14 := by have := Bg11.lt; omega
  replace HK := HK.z kg14
  replace HKt1 := HKt1.z kg14
  replace Bg2 := Bg2.z kg14
  replace HKt2 := HKt2.z kg14
  replace Bg5 := Bg5.z kg14
  replace Bg8 := Bg8.z kg14
  replace HKt3 := HKt3.z kg14
  replace Bg11 := Bg11.z kg14
  replace P3 := P3.kept kg14
  clear f94 a94 f95 a95 f96 a96 f97 N14 kg14
  refine L.storeR f99 wantedN wsz28_ct rfl rfl rfl Bg14 rfl rfl fun a100 w16 f100 NB16 ks16 => ?_
  have szw16 := ks16.size
  replace HK := HK.trans ks16 (by intro x hx hlt; simp at hx; subst hx; (exfalso; omega))
  replace HKt1 := HKt1.trans ks16 (by intro x hx hlt; simp at hx; subst hx; (exfalso; omega))
  replace Bg2 := Bg2.kept ks16 (by simp; omega)
  replace HKt2 := HKt2.trans ks16 (by intro x hx hlt; simp at hx; subst hx; (exfalso; omega))
  replace Bg5 := Bg5.kept ks16 (by simp; omega)
  replace Bg8 := Bg8.kept ks16 (by simp; omega)
  replace HKt3 := HKt3.trans ks16 (by intro x hx hlt; simp at hx; subst hx; (exfalso; omega))
  replace Bg11 := Bg11.kept ks16 (by simp; omega)
  replace P3 := P3.kept1 ks16 Bg14 (by decide)
  replace Bg14 := NB16
  clear f98 a97 ks16 f99 a99
  refine L.val f100 wantedN rfl (by decide) (E.assign f100 rfl) fun a101 f101 => ?_
  refine wpList_nil (hK15 _ _ ?_)
  have f102 := f101.sub (sub_cons (i := 0) rfl (sub_cons (i := 8) rfl (sub_cons (i := 15) rfl (sub_cons (i := 16) rfl (sub_cons (i := 17) rfl sn)))))
  refine wp_seq_k fun K16 hK16 => ?_
  have hcl : t3.cel.length = 1 := (ta_len Tt3.is).trans rfl
  have hsl : t3.seen.length = 3 := by rw [show t3.seen = _ from congrArg Ta.seen Tt3.is]; rfl
  refine C.region ?_
  refine L.val f102 wantedN rfl (by decide) (E.move f102 rfl) fun a103 f103 => ?_
  refine L.val f103 wantedN rfl (by decide) (E.move f103 rfl) fun a104 f104 => ?_
  refine L.val f104 (f104.yes rfl rfl) rfl (by decide) (E.fieldAddrN 7 f104 U28 rfl rfl rfl wsz26_ct) fun a105 f105 => ?_
  refine L.val f105 (f105.yes rfl rfl) rfl (by decide) (E.load f105 U26 rfl rfl ((Bg14).cl rfl)) fun a106 f106 => ?_
  refine L.val f106 (f106.yes rfl rfl) rfl (by decide) (E.toStr f106 rfl U26 U5 U9 P3.sl) fun a107 f107 => ?_
  refine L.val f107 (f107.yes rfl rfl) rfl (by decide) (E.move f107 rfl) fun a108 f108 => ?_
  clear f100 a100 f101 f102 a101 f103 a103 f104 a104 f105 a105 f106 a106 f107 a107
  refine L.val f108 (f108.yes rfl rfl) rfl (by decide) (E.toStr f108 rfl U26 U5 U9 (A1.kept HK)) fun a109 f109 => ?_
  refine L.val f109 (f109.yes rfl rfl) rfl (by decide) (E.eqlS f109 rfl rfl) fun a110 f110 => ?_
  have f111 := f110.as (i := 91) (v' := .bool true) rfl (by simp [gC3])
  refine L.val f111 wantedN rfl (by decide) (E.pickT f111 rfl rfl) fun a112 f112 => ?_
  refine L.val f112 wantedN rfl (by decide) (E.move f112 rfl) fun a113 f113 => ?_
  refine L.val f113 (f113.yes rfl rfl) rfl (by decide) (E.fieldAddrN 0 f113 U28 rfl rfl rfl wsz23_ct) fun a114 f114 => ?_
  refine L.val f114 (f114.yes rfl rfl) rfl (by decide) (E.loadR f114 U23 rfl wsz23_ct rfl ((Bg14.part 0 (dcell (gC3 l us).d) rfl)) rfl) fun a115 f115 => ?_
  refine L.val f115 (f115.yes rfl rfl) rfl (by decide) (E.build f115 (parts3 f115 rfl rfl rfl) (wbl23_0_1_2_ct _ _ _)) fun a116 f116 => ?_
  clear f108 a108 f109 a109 f110 f111 a110 f112 a112 f113 a113 f114 a114 f115 a115
  refine L.val f116 (f116.yes rfl rfl) rfl (by decide) (E.eqlV f116 rfl rfl (eqlDot _ _ (gC3 l us).d ⟨3, 1, 1⟩)) fun a117 f117 => ?_
  have f118 := f117.as (i := 97) (v' := .bool true) rfl (by simp [gC3])
  refine L.val f118 wantedN rfl (by decide) (E.pickT f118 rfl rfl) fun a119 f119 => ?_
  refine L.val f119 wantedN rfl (by decide) (E.move f119 rfl) fun a120 f120 => ?_
  refine L.val f120 (f120.yes rfl rfl) rfl (by decide) (E.fieldAddrN 3 f120 U37 rfl rfl rfl wsz35_ct) fun a121 f121 => ?_
  refine L.val f121 (f121.yes rfl rfl) rfl (by decide) (E.load f121 U35 rfl rfl ((Bg11).cl rfl)) fun a122 f122 => ?_
  refine L.val f122 (f122.yes rfl rfl) rfl (by decide) (E.lenL f122 U35 rfl) fun a123 f123 => ?_
  refine L.val f123 (f123.yes rfl rfl) rfl (by decide) (E.eql f123 rfl rfl) fun a124 f124 => ?_
  clear f116 a116 f117 f118 a117 f119 a119 f120 a120 f121 a121 f122 a122 f123 a123
  have f125 := f124.as (i := 103) (v' := .bool true) rfl (by simp [hcl])
  refine L.val f125 wantedN rfl (by decide) (E.pickT f125 rfl rfl) fun a126 f126 => ?_
  refine L.val f126 wantedN rfl (by decide) (E.move f126 rfl) fun a127 f127 => ?_
  refine L.val f127 (f127.yes rfl rfl) rfl (by decide) (E.fieldAddrN 0 f127 U37 rfl rfl rfl wsz32_ct) fun a128 f128 => ?_
  refine L.val f128 (f128.yes rfl rfl) rfl (by decide) (E.load f128 U32 rfl rfl ((Bg11).cl rfl)) fun a129 f129 => ?_
  refine L.val f129 (f129.yes rfl rfl) rfl (by decide) (E.lenL f129 U32 rfl) fun a130 f130 => ?_
  refine L.val f130 (f130.yes rfl rfl) rfl (by decide) (E.eql f130 rfl rfl) fun a131 f131 => ?_
  have f132 := f131.as (i := 109) (v' := .bool true) rfl (by simp [hsl])
  clear f124 f125 a124 f126 a126 f127 a127 f128 a128 f129 a129 f130 a130 f131
  refine L.val f132 wantedN rfl (by decide) (E.pickT f132 rfl rfl) fun a133 f133 => ?_
  refine L.val f133 wantedN rfl (by decide) (E.assign f133 rfl) fun a134 f134 => ?_
  have f135 := f134.sub (sub_cons (i := 8) rfl sn)
  refine wpList_nil (hK16 _ _ (wp_ret ?_)); (try simp only [xt, xb]); refine C.ret f135 rfl rfl ?_
  exact ⟨HK, rfl⟩
end Go.Proofs.YtekmhcdgmgbheaaDoor
