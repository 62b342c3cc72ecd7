/- Merged by program (shrink.py): contracts and plain laws that the claim's statement uses, part 4. -/
import Derived.Test.YtkdeedhjkjffpaaMc3
set_option linter.all false

namespace Go.Proofs.Ytkdeedhjkjffpaa
open Go.RowKit Go.Hub Go.Lib Go.WideShapes Go.ChangeMaps
theorem wzib34_tx : (Try.prog.info? 34).map (fun i => (i.zero, i.size, i.bytes)) = some (some (.agg #[(.int .i64 0), (.bool false), (.bool false), (.int .i64 0), (.int .i64 0), (.string ⟨#[]⟩), (.slice none 0 0), (.int .i64 0), (.string ⟨#[]⟩), (.bool false), (.int .i64 0), (.bool false), (.string ⟨#[]⟩), (.slice none 0 0), (.int .i64 0), (.bool false), (.bool false), (.bool false), (.string ⟨#[]⟩), (.slice none 0 0), (.bool false), (.int .i64 0), (.slice none 0 0), (.slice none 0 0)]), 24, 288) := by kernel_rfl
theorem wsz3_tx : (Try.prog.info? 3).map (·.size) = some 1 := by kernel_rfl
theorem wsz34_tx : (Try.prog.info? 34).map (·.size) = some 24 := by kernel_rfl
theorem wsz51_tx : (Try.prog.info? 51).map (·.size) = some 1 := by kernel_rfl
theorem wbl34__tx  : Try.prog.built 34 [] = some #[(.int .i64 0), (.bool false), (.bool false), (.int .i64 0), (.int .i64 0), (.string ⟨#[]⟩), (.slice none 0 0), (.int .i64 0), (.string ⟨#[]⟩), (.bool false), (.int .i64 0), (.bool false), (.string ⟨#[]⟩), (.slice none 0 0), (.int .i64 0), (.bool false), (.bool false), (.bool false), (.string ⟨#[]⟩), (.slice none 0 0), (.bool false), (.int .i64 0), (.slice none 0 0), (.slice none 0 0)] := by kernel_rfl
theorem wzi34_tx : (Try.prog.info? 34).map (fun i => (i.zero, i.size)) = some (some (.agg #[(.int .i64 0), (.bool false), (.bool false), (.int .i64 0), (.int .i64 0), (.string ⟨#[]⟩), (.slice none 0 0), (.int .i64 0), (.string ⟨#[]⟩), (.bool false), (.int .i64 0), (.bool false), (.string ⟨#[]⟩), (.slice none 0 0), (.int .i64 0), (.bool false), (.bool false), (.bool false), (.string ⟨#[]⟩), (.slice none 0 0), (.bool false), (.int .i64 0), (.slice none 0 0), (.slice none 0 0)]), 24) := by kernel_rfl
theorem wbs51_1_tx (x0_0 x0_1 x0_2 x0_3 x0_4 x0_5 x0_6 x0_7 x0_8 x0_9 x0_10 x0_11 x0_12 x0_13 x0_14 x0_15 x0_16 x0_17 x0_18 x0_19 x0_20 x0_21 x0_22 x0_23 : Value) : Instr.fill (fun i => some (i * 24, 24)) ((Array.range (1 * 24)).map fun j => (Value.cells (.agg #[(.int .i64 0), (.bool false), (.bool false), (.int .i64 0), (.int .i64 0), (.string ⟨#[]⟩), (.slice none 0 0), (.int .i64 0), (.string ⟨#[]⟩), (.bool false), (.int .i64 0), (.bool false), (.string ⟨#[]⟩), (.slice none 0 0), (.int .i64 0), (.bool false), (.bool false), (.bool false), (.string ⟨#[]⟩), (.slice none 0 0), (.bool false), (.int .i64 0), (.slice none 0 0), (.slice none 0 0)]))[j % (Value.cells (.agg #[(.int .i64 0), (.bool false), (.bool false), (.int .i64 0), (.int .i64 0), (.string ⟨#[]⟩), (.slice none 0 0), (.int .i64 0), (.string ⟨#[]⟩), (.bool false), (.int .i64 0), (.bool false), (.string ⟨#[]⟩), (.slice none 0 0), (.int .i64 0), (.bool false), (.bool false), (.bool false), (.string ⟨#[]⟩), (.slice none 0 0), (.bool false), (.int .i64 0), (.slice none 0 0), (.slice none 0 0)])).size]!) [(0, .agg #[x0_0, x0_1, x0_2, x0_3, x0_4, x0_5, x0_6, x0_7, x0_8, x0_9, x0_10, x0_11, x0_12, x0_13, x0_14, x0_15, x0_16, x0_17, x0_18, x0_19, x0_20, x0_21, x0_22, x0_23])] = some #[x0_0, x0_1, x0_2, x0_3, x0_4, x0_5, x0_6, x0_7, x0_8, x0_9, x0_10, x0_11, x0_12, x0_13, x0_14, x0_15, x0_16, x0_17, x0_18, x0_19, x0_20, x0_21, x0_22, x0_23] := by kernel_rfl
theorem wsz4_tx : (Try.prog.info? 4).map (·.size) = some 1 := by kernel_rfl
theorem wsz9_tx : (Try.prog.info? 9).map (·.size) = some 1 := by kernel_rfl
theorem wsz28_tx : (Try.prog.info? 28).map (·.size) = some 1 := by kernel_rfl
theorem wsz54_tx : (Try.prog.info? 54).map (·.size) = some 1 := by kernel_rfl
def PayPost (B g : Nat) (m : RtM) (w : World) (p : Bool × Rt) (e : Ending) (w' : World) : Prop := ∃ (q : Pk) (s : Ad), RtPost B g m w p.2 (.tuple #[.agg (q.cells s), .bool p.1]) e w'
section
variable {w : World} {A : Option Addr} {n c k x : Nat} {l : List (Pk × Ad)} {p o : Pk} {s : Ad} {r : Rt} {kd q i : Int} {L : List Pk}
theorem new_own {A2 : Option Addr} {k2 c2 g0 : Nat} (h : ∀ b, A2.map (·.block) = some b → n ≤ b) (hg : g0 < n) : ∀ b, (Value.slice A2 k2 c2).ownBlock = some b → b ∉ [g0] := fun b hb hx => by
  obtain rfl := List.mem_singleton.1 hx
  have := h b ((own_block _ _ _ _).1 hb)
  omega
theorem row_app (h : Own w 34 24 (.slice A (l.length + 1) c) (l.length + 1) (pkRow l ++ (p.cells s).toList)) : Row w A c (l ++ [(p, s)]) := by
  unfold Row
  rw [pkRow_app, pkRow_one, List.length_append]
  exact h
theorem payR_no (h : payL kd q i r.owed = none) : r.payR kd q i = (false, r) := by unfold Rt.payR; rw [h]
theorem payR_hit (h : payL kd q i r.owed = some L) : r.payR kd q i = (true, { r with owed := L }) := by unfold Rt.payR; rw [h]
theorem atL_neg (h : atI i L < 0) : atL i L = none := by
  cases e : atL i L with
  | none => rfl
  | some k => rw [atI_some e] at h; omega
theorem atL_get : ∀ {L : List Pk} {k : Nat}, atL i L = some k → ∃ o, L[k]? = some o ∧ o.id = i
  | [], k, h => by cases h
  | o :: t, k, h => by
    rw [atL] at h
    split at h
    · injection h with h; subst h; exact ⟨o, rfl, by assumption⟩
    obtain ⟨j, hj, rfl⟩ := Option.map_eq_some_iff.1 h
    obtain ⟨o', h1, h2⟩ := atL_get hj
    exact ⟨o', by simpa using h1, h2⟩
theorem at_hit (e : L = l.map (·.1)) (h : ¬ atI i L < 0) : ∃ (k : Nat) (x : Pk × Ad), atL i L = some k ∧ atI i L = (k : Int) ∧ L[k]? = some x.1 ∧ l[k]? = some x := by
  cases hq : atL i L with
  | none => rw [atI_none hq] at h; exact absurd (by decide) h
  | some k =>
    obtain ⟨o, h1, h2⟩ := atL_get hq
    obtain ⟨s, hs⟩ := map_at e h1
    exact ⟨k, (o, s), rfl, atI_some hq, h1, hs⟩
theorem pubR_0 (h : p.qos = 0) : r.pubR p = (true, r) := by unfold Rt.pubR; rw [if_pos h]
theorem pubR_new (h : ¬ p.qos = 0) (ha : atL p.id r.out = none) : r.pubR p = (true, { r with out := r.out ++ [p] }) := by unfold Rt.pubR; rw [if_neg h, ha]
theorem pubR_dup (h : ¬ p.qos = 0) (ha : atL p.id r.out = some k) (ho : r.out[k]? = some o) : r.pubR p = (p.dup && !isM r.recd p.id && decide (o.topic = p.topic) && decide (o.pay = p.pay) && decide (o.qos = p.qos), r) := by
  unfold Rt.pubR
  rw [if_neg h, ha]
  show (match r.out[k]? with | none => (true, r) | some o => _) = _
  rw [ho]
end
set_option maxHeartbeats 4000000 in
theorem payR_any (kd q i : Int) (B g : Nat) (r : Rt) (m : RtM) (w : World) (RR : RtIn B w g r m) (hn : m.n ≤ 1000000) (hBw : B ≤ w.heap.size) : Calls Try.prog 40 #[.pointer (some ⟨g, 0, none⟩), .int .i64 kd, .int .i64 q, .int .i64 i] w (fun e w' => PayPost B g m w (r.payR kd q i) e w') := by
 have HK : Kept [] w w := Kept.refl [] w
 have RR0 := RR
 obtain ⟨e1, e2, BT, RO, RQ, MR, MG, nof, oq, hlo, PS, PQ, hl1, hl2, hl3, hl4⟩ := RR0
 have hgl := BT.lt
 have hgr := IsAss.ne_blk MR BT
 have hgm := IsAss.ne_blk MG BT
 have hmr := IsAss.lt MR
 have hmg := IsAss.lt MG
 have hO0 := own_lt RO
 have hQ0 := own_lt RQ
 have hcO := own_cap RO
 have hcQ := own_cap RQ
 have hBg := hlo g rp_g
 have hBr := hlo m.mr rp_r
 have hBm := hlo m.mg rp_m
 clear BT RO RQ MR MG PS PQ
 refine C.enter Try.func40 rfl Try.ntmps40 rfl ?_
 intro a0 f0
 have f1 : Fr 73 a0 [(0, .pointer (some ⟨g, 0, none⟩)), (1, .int .i64 kd), (2, .int .i64 q), (3, .int .i64 i)] := f0
 refine C.sk fun K0 hK0 => ?_
 refine L.alloc f1 wantedN (by decide) (z := z34) (fun _ => by kernel_rfl) rfl fun a2 w1 g0 N0 f2 => ?_
 have Bg0 := N0.blk
 have kg0 := N0.kept
 have log0 := N0.lo
 have ltg0 := Bg0.lt
 have szw1 := kg0.size
 have frg0 : w.heap.size ≤ g0 := Nat.le_trans HK.size log0
 replace HK := HK.z kg0
 clear f0 N0 kg0
 refine L.ag f2 fun a3 f3 => ?_
 refine wpList_nil (hK0 _ _ ?_)
 have f4 := f3.sub (sc 0 (sc 1 (sc 2 (sc 3 (sc 8 sn)))))
 refine wp_seq_k fun K1 hK1 => ?_
 refine C.sk fun K2 hK2 => ?_
 refine L.ag f4 fun a5 f5 => ?_
 refine wpList_nil (hK2 _ _ ?_)
 have f6 := f5.sub (sc 0 (sc 1 (sc 2 (sc 3 (sc 8 (sc 10 sn))))))
 refine wp_block ?_
 clear f1 a0 f2 a2 f3 f4 a3 f5
 refine C.loop (fun gk a W => ∃ k : Nat, k + gk = m.owed.length ∧ Kept [] w W ∧ w.heap.size ≤ g0 ∧ Blk W g0 34 (({} : Pk).cells s0) ∧ (∀ j (y : Pk), j < k → r.owed[j]? = some y → skipB kd q i y) ∧ Fr 73 a [(0, .pointer (some ⟨g, 0, none⟩)), (1, .int .i64 kd), (2, .int .i64 q), (3, .int .i64 i), (8, .pointer (some ⟨g0, 0, none⟩)), (10, .int .i64 k)]) (m.owed.length) ?_ ?_
 ·exact ⟨0, by omega, HK, frg0, Bg0, fun j y h => absurd h (by omega), f6.sub (sx (sx (sx (sx (sx (sx sn))))))⟩
 intro gk4 a7 w2 hI KL3 hKL3
 obtain ⟨k, hk, HK, frg0, Bg0, hp, f7⟩ := hI
 try clear f6
 refine wp_seq_k fun K4 hK4 => ?_
 refine C.sk fun K5 hK5 => ?_
 refine L.mv f7 fun a8 f8 => ?_
 refine L.mv f8 fun a9 f9 => ?_
 refine L.va f9 (E.nilCheck f9 rfl) fun a10 f10 => ?_
 refine L.fa 4 f10 U56 rfl wsz51_tx fun a11 f11 => ?_
 refine L.va f11 (E.load f11 U51 rfl rfl ((RR.kept0 HK).bt.cl rfl)) fun a12 f12 => ?_
 refine L.va f12 (E.lenL f12 U51 rfl) fun a13 f13 => ?_
 refine L.va f13 (E.lss f13 rfl rfl) fun a14 f14 => ?_
 clear f7 a7 f8 a8 f9 a9 f10 a10 f11 a11 f12 a12 f13 a13
 refine wpList_nil (hK5 _ _ ?_)
 have f15 := f14.sub (sc 0 (sc 1 (sc 2 (sc 3 (sc 8 (sc 10 (sc 18 sn)))))))
 clear f14
 refine f15.splitD 18 rfl (fun h0 f16 => ?_) (fun h0 f16 => ?_)
 ·obtain ⟨x, hx⟩ := some_at m.owed k (by omega)
  obtain ⟨b, off, hA⟩ := Row.addr RR.ro (by omega)
  refine C.condT f16 rfl ?_
  refine wp_skip (hK4 _ _ ?_)
  have f17 := f16.sub (sc 0 (sc 1 (sc 2 (sc 3 (sc 8 (sc 10 sn))))))
  refine wp_seq_k fun K6 hK6 => ?_
  refine wp_block ?_
  refine C.sk fun K7 hK7 => ?_
  refine L.mv f17 fun a18 f18 => ?_
  refine L.va f18 (E.nilCheck f18 rfl) fun a19 f19 => ?_
  refine L.fa 4 f19 U56 rfl wsz51_tx fun a20 f20 => ?_
  refine L.va f20 (E.load f20 U51 rfl rfl ((RR.kept0 HK).bt.cl rfl)) fun a21 f21 => ?_
  refine L.mv f21 fun a22 f22 => ?_
  refine L.va f22 (E.indexA f22 (by assumption) U51 wsz34_tx rfl rfl (by omega) (by omega)) fun a23 f23 => ?_
  clear f15 f16 f17 a14 f18 a18 f19 a19 f20 a20 f21 a21 f22 a22
  refine L.va f23 (E.loadR f23 U34 rfl wsz34_tx rfl (Row.at_ (RR.kept0 HK).ro hA hx) rfl) fun a24 f24 => ?_
  refine L.alloc f24 wantedN (by decide) (z := z34) (fun _ => by kernel_rfl) rfl fun a25 w3 g2 N2 f25 => ?_
  have Bg2 := N2.blk
  have kg2 := N2.kept
  have log2 := N2.lo
  have ltg2 := Bg2.lt
  have szw3 := kg2.size
  have frg2 : w.heap.size ≤ g2 := Nat.le_trans HK.size log2
  have neg0_g2 : g0 ≠ g2 := by have := Bg0.lt; omega
  replace HK := HK.z kg2
  replace Bg0 := Bg0.z kg2
  clear f23 a23 N2 kg2
  refine L.storeR f25 wantedN wsz34_tx rfl rfl rfl Bg2 rfl rfl fun a26 w4 f26 NB4 ks4 => ?_
  have szw4 := ks4.size
  replace HK := HK.trans ks4 (ktr (by omega))
  replace Bg0 := Bg0.kept ks4 (by simp; omega)
  replace Bg2 := NB4
  clear f24 a24 ks4 f25 a25
  refine wpList_nil (hK7 _ _ ?_)
  have f27 := f26.sub (sc 0 (sc 1 (sc 2 (sc 3 (sc 8 (sc 10 (sc 11 sn)))))))
  obtain ⟨J6, hJ6⟩ : ∃ J : Act → World → Prop, J = fun a W => ∃ gx : Nat, (¬ (x.1.kind ≠ kd ∨ (kd = 3 ∧ x.1.qos ≠ q))) ∧ Kept [] w W ∧ w.heap.size ≤ g0 ∧ Blk W g0 34 (({} : Pk).cells s0) ∧ (w.heap.size ≤ gx ∧ g0 ≠ gx) ∧ Blk W gx 34 (x.1.cells x.2) ∧ Fr 73 a [(0, .pointer (some ⟨g, 0, none⟩)), (1, .int .i64 kd), (2, .int .i64 q), (3, .int .i64 i), (8, .pointer (some ⟨g0, 0, none⟩)), (10, .int .i64 k), (11, .pointer (some ⟨gx, 0, none⟩))] := ⟨_, rfl⟩
  clear f26
  refine C.cut J6 ?_ ?_
  ·skip
   refine C.sk fun K8 hK8 => ?_
   refine L.fa 0 f27 U34 rfl wsz3_tx fun a28 f28 => ?_
   refine L.ld f28 U3 Bg2 fun a29 f29 => ?_
   refine L.mv f29 fun a30 f30 => ?_
   refine L.va f30 (E.neq f30 rfl rfl) fun a31 f31 => ?_
   refine L.mv f31 fun a32 f32 => ?_
   clear f27 a26 f28 a28 f29 a29 f30 a30 f31 a31
   refine f32.splitN 32 rfl (fun h1 f33 => ?_) (fun h1 f33 => ?_)
   ·refine L.run f33 (rest' := []) (by kernel_rfl) fun a34 f34 => ?_
    clear f32
    refine wpList_nil (hK8 _ _ ?_)
    have f35 := f34.sub (scR f34 0 (scR f34 1 (scR f34 2 (scR f34 3 (scR f34 8 (scR f34 10 (scR f34 11 (sv 41 (.bool true) sn))))))))
    refine C.condT f35 rfl ?_
    refine wp_exit (hK6 _ _ ?_)
    have f36 := f35.sub (sc 0 (sc 1 (sc 2 (sc 3 (sc 8 (sc 10 sn))))))
    refine C.region ?_
    refine L.mv f36 fun a37 f37 => ?_
    refine L.va f37 (E.add f37 rfl rfl (IntWalk.i64_in _ (by omega))) fun a38 f38 => ?_
    refine L.ag f38 fun a39 f39 => ?_
    clear f34 f33 f35 f36 a34 f37 a37 f38 a38
    refine wpList_nil (hKL3 _ _ (gk4 - 1) ?_ ?_)
    ·omega
    exact ⟨k + 1, by omega, HK, frg0, Bg0, pass_next hp (at_map e1 hx) ((show skipB kd q i x.1 from Or.inl (by omega))), by simpa using f39.sub (sx (sx (sx (sx (sx (sx sn))))))⟩
   refine L.mv f33 (hw := (f33.yes rfl rfl)) fun a34 f34 => ?_
   refine L.va f34 (E.eq f34) (hw := (f34.yes rfl rfl)) fun a35 f35 => ?_
   refine L.mv f35 (hw := (f35.yes rfl rfl)) fun a36 f36 => ?_
   clear f32 f33 a32 f34 a34 f35 a35
   refine f36.splitD 35 rfl (fun h2 f37 => ?_) (fun h2 f37 => ?_)
   ·refine L.fa 3 f37 U34 rfl wsz3_tx (hw := (f37.yes rfl rfl)) fun a38 f38 => ?_
    refine L.ld f38 U3 Bg2 (hw := (f38.yes rfl rfl)) fun a39 f39 => ?_
    refine L.mv f39 (hw := (f39.yes rfl rfl)) fun a40 f40 => ?_
    refine L.va f40 (E.neq f40 rfl rfl) (hw := (f40.yes rfl rfl)) fun a41 f41 => ?_
    refine L.va f41 (E.pickT f41 rfl rfl) (hw := (f41.yes rfl rfl)) fun a42 f42 => ?_
    refine L.va f42 (E.pickF f42 rfl rfl) fun a43 f43 => ?_
    refine wpList_nil (hK8 _ _ ?_)
    have f44 := f43.sub (sc 0 (sc 1 (sc 2 (sc 3 (sc 8 (sc 10 (sc 11 (sc 41 sn))))))))
    clear f36 f37 a36 f38 a38 f39 a39 f40 a40 f41 a41 f42 a42 f43
    refine f44.splitN 41 rfl (fun h3 f45 => ?_) (fun h3 f45 => ?_)
    ·refine C.condT f45 rfl ?_
     refine wp_exit (hK6 _ _ ?_)
     have f46 := f45.sub (sc 0 (sc 1 (sc 2 (sc 3 (sc 8 (sc 10 sn))))))
     refine C.region ?_
     refine L.mv f46 fun a47 f47 => ?_
     refine L.va f47 (E.add f47 rfl rfl (IntWalk.i64_in _ (by omega))) fun a48 f48 => ?_
     refine L.ag f48 fun a49 f49 => ?_
     clear f44 f45 f46 a43 f47 a47 f48 a48
     refine wpList_nil (hKL3 _ _ (gk4 - 1) ?_ ?_)
     ·omega
     exact ⟨k + 1, by omega, HK, frg0, Bg0, pass_next hp (at_map e1 hx) ((show skipB kd q i x.1 from Or.inl (by omega))), by simpa using f49.sub (sx (sx (sx (sx (sx (sx sn))))))⟩
    refine C.condF f45 rfl ?_
    exact wp_skip (jn J6 (by rw [hJ6]; exact ⟨g2, by omega, HK, frg0, Bg0, ⟨by omega, by omega⟩, Bg2, f45.sub (sx (sx (sx (sx (sx (sx (sx sn)))))))⟩))
   refine L.run f37 (rest' := []) (by kernel_rfl) fun a38 f38 => ?_
   clear f36
   refine wpList_nil (hK8 _ _ ?_)
   have f39 := f38.sub (scR f38 0 (scR f38 1 (scR f38 2 (scR f38 3 (scR f38 8 (scR f38 10 (scR f38 11 (sv 41 (.bool false) sn))))))))
   refine C.condF f39 rfl ?_
   exact wp_skip (jn J6 (by rw [hJ6]; exact ⟨g2, by omega, HK, frg0, Bg0, ⟨by omega, by omega⟩, Bg2, f39.sub (sx (sx (sx (sx (sx (sx (sx sn)))))))⟩))
  intro a28 w5 hj
  rw [hJ6] at hj
  clear hJ6 J6
  obtain ⟨gx, hkeep, HK, frg0, Bg0, ⟨frgx, negx⟩, Bgx, f28⟩ := hj
  try clear f27
  refine wp_seq_k fun K9 hK9 => ?_
  refine C.sk fun K10 hK10 => ?_
  refine L.fa 4 f28 U34 rfl wsz3_tx fun a29 f29 => ?_
  refine L.ld f29 U3 Bgx fun a30 f30 => ?_
  refine L.mv f30 fun a31 f31 => ?_
  refine L.va f31 (E.eq f31) fun a32 f32 => ?_
  refine wpList_nil (hK10 _ _ ?_)
  have f33 := f32.sub (sc 0 (sc 1 (sc 2 (sc 3 (sc 8 (sc 10 (sc 11 (sc 45 sn))))))))
  clear f28 a28 f29 a29 f30 a30 f31 a31 f32
  refine f33.splitD 45 rfl (fun h4 f34 => ?_) (fun h4 f34 => ?_)
  ·have hs45 := h4
   refine C.condT f34 rfl ?_
   refine wp_seq_k fun K11 hK11 => ?_
   replace Bg0 : Blk w5 g0 34 (({} : Pk).cells s0) := Bg0
   replace Bgx : Blk w5 gx 34 (x.1.cells x.2) := Bgx
   have ltd0 := Bg0.lt
   obtain ⟨-, -, BT, RO, RQ, MR, MG, -, -, -, PS, PQ, -⟩ := RR.kept0 HK
   replace HK : Kept (m.fp g) w w5 := HK.mono0
   replace BT : Blk w5 g 56 #[.bool r.clean, .bool r.connect, .bool r.acked, .bool r.over, .slice m.Ao m.owed.length m.co, .slice m.Aq m.out.length m.cq, .map (some m.mr), .map (some m.mg), .bool r.present, .bool r.wish] := BT
   have hd7 : Kept [] w5 (w5.drewN 1) := (Kept.refl _ _).drewN 1
   refine RB.begin (S := fun W => (Blk W g 56 (rtL r m))) 16 (by kernel_rfl) (BT.z hd7) ?_
   obtain ⟨w6, hww6⟩ : ∃ W, W = w5.drewN 1 := ⟨_, rfl⟩
   rw [← hww6] at hd7 ⊢
   clear f33 hww6
   have szw6 := hd7.size
   replace Bg0 := Bg0.z hd7
   replace Bgx := Bgx.z hd7
   replace HK := HK.z hd7
   replace BT := BT.z hd7
   replace RO := Own.z RO hd7
   replace RQ := Own.z RQ hd7
   replace MR := IsAss.z MR hd7
   replace MG := IsAss.z MG hd7
   replace PS := PksS.kept0 PS hd7
   replace PQ := PksS.kept0 PQ hd7
   clear hd7
   refine RB.tk 0 f34 rfl BT (fun W hW => (E.move f34 rfl)) fun a35 f35 => ?_
   refine RB.tk 1 f35 rfl BT (fun W hW => (E.move f35 rfl)) fun a36 f36 => ?_
   refine RB.tk 2 f36 rfl BT (fun W hW => (E.nilCheck f36 rfl)) fun a37 f37 => ?_
   refine RB.tk 3 f37 rfl BT (fun W hW => (E.fa 4 f37 U56 rfl wsz51_tx)) fun a38 f38 => ?_
   refine RB.tk 4 f38 rfl BT (fun W hW => (E.ld f38 U51 (hW))) fun a39 f39 => ?_
   refine RB.tk 5 f39 rfl BT (fun W hW => (E.move f39 rfl)) fun a40 f40 => ?_
   refine RB.tk 6 f40 rfl BT (fun W hW => (E.slLhi f40 U51 wsz34_tx rfl rfl (by omega) (by omega) )) fun a41 f41 => ?_
   clear f34 a32 f35 a35 f36 a36 f37 a37 f38 a38 f39 a39 f40 a40
   refine RB.tk 8 f41 rfl BT (fun W hW => (E.move f41 rfl)) fun a42 f42 => ?_
   refine RB.tk 9 f42 rfl BT (fun W hW => (E.nilCheck f42 rfl)) fun a43 f43 => ?_
   refine RB.tk 10 f43 rfl BT (fun W hW => (E.fa 4 f43 U56 rfl wsz51_tx)) fun a44 f44 => ?_
   refine RB.tk 11 f44 rfl BT (fun W hW => (E.ld f44 U51 (hW))) fun a45 f45 => ?_
   refine RB.tk 12 f45 rfl BT (fun W hW => (E.move f45 rfl)) fun a46 f46 => ?_
   refine RB.tk 13 f46 rfl BT (fun W hW => (E.add f46 rfl rfl (IntWalk.i64_in _ (by omega)))) fun a47 f47 => ?_
   refine RB.tk 14 f47 rfl BT (fun W hW => (E.slLlo f47 U51 wsz34_tx rfl rfl (by omega) (by omega) )) fun a48 f48 => ?_
   clear f41 a41 f42 a42 f43 a43 f44 a44 f45 a45 f46 a46 f47 a47
   refine RB.one 7 (by kernel_rfl) (by kernel_rfl) ?_
   have Bg0_0 := Bg0
   have Bgx_0 := Bgx
   have HK_0 := HK
   have BT_0 := BT
   have RO_0 := RO
   have RQ_0 := RQ
   have MR_0 := MR
   have MG_0 := MG
   have PS_0 := PS
   have PQ_0 := PQ
   have szd : w6.heap.size ≤ w6.heap.size := Nat.le_refl _
   refine O.append f48 rfl wantedN (by decide) U51 wzib34_tx rfl rfl rfl rfl (Own.nil _ _ _) (Sl.of_own (Own.head RO (k := k) (by omega))) (row_oneT _ _) (by unfold maxLen; omega) (by omega) fun a49 w7 A1 c1 AP => ?_
   have k1 : Kept [] w6 w7 := (AP.fresh rfl).1
   have szw7 := k1.size
   have F1 : Fresh w6 w7 34 24 A1 (0 + k) c1 _ := ⟨AP.own, (AP.fresh rfl).2⟩
   clear AP
   replace Bg0 := Bg0.z k1
   replace Bgx := Bgx.z k1
   replace HK := HK.z k1
   replace BT := BT.z k1
   replace RO := Own.z RO k1
   replace RQ := Own.z RQ k1
   replace MR := IsAss.z MR k1
   replace MG := IsAss.z MG k1
   replace PS := PksS.kept0 PS k1
   replace PQ := PksS.kept0 PQ k1
   refine ⟨BT, fun f49 => ?_⟩
   refine RB.one 15 (by kernel_rfl) (by kernel_rfl) ?_
   refine O.append f49 rfl wantedN (by decide) U51 wzib34_tx rfl rfl rfl rfl F1.own (Sl.of_own (Own.cut RO (k := ((k : Int) + 1).toNat) (by omega))) (row_oneD _ _) (by unfold maxLen; omega) (by omega) fun a50 w8 A2 c2 AP => ?_
   have kg : Kept [] w6 w8 := AP.grow F1 k1
   have szw8 := kg.size
   have F2 := AP.next F1 k1.size
   clear f48 a48 AP F1 k1 Bg0 Bgx HK BT RO RQ MR MG PS PQ
   have Bg0 := Bg0_0.kept kg (by simp)
   have Bgx := Bgx_0.kept kg (by simp)
   have HK := HK_0.z kg
   have BT := BT_0.kept kg (by simp)
   have RO := Own.z RO_0 kg
   have RQ := Own.z RQ_0 kg
   have MR := IsAss.z MR_0 kg
   have MG := IsAss.z MG_0 kg
   have PS := PksS.kept0 PS_0 kg
   have PQ := PksS.kept0 PQ_0 kg
   have hF3 : ∀ b, A2.map (·.block) = some b → w6.heap.size ≤ b := F2.lo
   have hF2 : ∀ b, A2.map (·.block) = some b → w.heap.size ≤ b := fun b hb => Nat.le_trans (Nat.le_trans HK_0.size szd) (F2.lo b hb)
   refine ⟨BT, fun f50 => ?_⟩
   clear f49 a49 kg Bg0_0 Bgx_0 HK_0 BT_0 RO_0 RQ_0 MR_0 MG_0 PS_0 PQ_0
   refine RB.stop (by kernel_rfl) ?_
   refine  R.take 16 f50 rfl rfl (by decide) (by kernel_rfl) (by kernel_rfl) (by kernel_rfl) (fun _ _ _ _ h => h) wantedN trivial (fun W hW => (E.nilCheck f50 rfl)) fun a51 f51 => ?_
   refine  R.take 17 f51 rfl rfl (by decide) (by kernel_rfl) (by kernel_rfl) (by kernel_rfl) (fun _ _ _ _ h => h) wantedN trivial (fun W hW => (E.fa 4 f51 U56 rfl wsz51_tx)) fun a52 f52 => ?_
   refine R.one 18 (by kernel_rfl) ?_
   refine OT.store f52 rfl wantedN wsz51_tx rfl rfl rfl BT (by (simp [Value.cells]; done)) fun a53 w9 f53 NB9 ks9 => ?_
   have szw9 := ks9.size
   replace Bg0 := Bg0.kept ks9 (by simp; omega)
   replace Bgx := Bgx.kept ks9 (by simp; omega)
   replace HK := HK.trans ks9 (fun x hx hlt => by obtain rfl := List.mem_singleton.1 hx; exact rp_g)
   replace RO := own_kept1 RO ks9 BT (by decide)
   replace RQ := own_kept1 RQ ks9 BT (by decide)
   replace MR := IsAss.kept MR ks9 (by simpa using IsAss.ne_blk MR BT)
   replace MG := IsAss.kept MG ks9 (by simpa using IsAss.ne_blk MG BT)
   replace PS := PksS.keptT PS ks9 (NoPk.blk BT (by decide)) (by intro y hy; obtain rfl := List.mem_singleton.1 hy; omega)
   replace PQ := PksS.keptT PQ ks9 (NoPk.blk BT (by decide)) (by intro y hy; obtain rfl := List.mem_singleton.1 hy; omega)
   replace F2 := fresh_blk F2 ks9 BT (by decide)
   replace BT := NB9
   simp only [Value.cells, z1, z2, z3, Nat.reduceAdd, Nat.zero_add] at BT
   clear f50 a50 f51 a51 ks9 f52 a52
   refine R.done (by kernel_rfl) (hK11 _ _ ?_)
   have f54 := f53.sub (sc 8 (sc 11 sn))
   refine wp_seq_k fun K12 hK12 => ?_
   have hdl := del_len (l := m.owed) (k := k) (by omega)
   rw [hdl] at BT
   have RN : Row w9 A2 c2 (m.owed.take k ++ m.owed.drop (k + 1)) := row_del (by omega) F2.own
   clear f53 F2 RO
   have RO := RN
   clear RN
   have hwh : ∀ b, A2.map (·.block) = some b → m.Ao.map (·.block) = some b ∨ w.heap.size ≤ b := fun b hb => .inr (hF2 b hb)
   refine C.region ?_
   refine L.va f54 (E.loadB f54 U34 rfl wsz34_tx rfl (Bgx) rfl) fun a55 f55 => ?_
   refine L.storeR f55 wantedN wsz34_tx rfl rfl rfl Bg0 rfl rfl fun a56 w10 f56 NB10 ks10 => ?_
   have szw10 := ks10.size
   replace Bgx := Bgx.kept ks10 (by simp; omega)
   replace HK := HK.trans ks10 (fun x hx hlt => by obtain rfl := List.mem_singleton.1 hx; (exfalso; omega))
   replace RQ := own_keptF RQ ks10 hQ0 frg0
   replace MR := IsAss.kept MR ks10 (by simpa using IsAss.ne_blk MR Bg0)
   replace MG := IsAss.kept MG ks10 (by simpa using IsAss.ne_blk MG Bg0)
   replace PS := PksS.keptT PS ks10 (NoPk.blk Bg0 (by decide)) (by intro y hy; obtain rfl := List.mem_singleton.1 hy; omega)
   replace PQ := PksS.keptT PQ ks10 (NoPk.blk Bg0 (by decide)) (by intro y hy; obtain rfl := List.mem_singleton.1 hy; omega)
   replace BT := BT.kept ks10 (by simp; omega)
   replace RO := Own.kept RO ks10 (new_own hF3 (by omega))
   replace Bg0 := NB10
   clear f54 a53 ks10 f55 a55
   refine L.ag f56 fun a57 f57 => ?_
   have f58 := f57.sub (sc 8 (sc 9 sn))
   refine wpList_nil (hK12 _ _ (wp_ret ?_)); (try simp only [xt, xb]); refine C.retCT f58 rfl rfl rfl Bg0 U34 rfl wsz34_tx ?_
   have hhit := payL_hit hp (at_map e1 hx) hkeep hs45
   exact ⟨x.1, x.2, by rw [payR_hit hhit]; exact ⟨rfl, { m with owed := m.owed.take k ++ m.owed.drop (k + 1), Ao := A2, co := c2 }, ⟨(by rw [e1]; exact map_del _ _), e2, BT, RO, RQ, MR, MG, nof, (apart_new oq hwh hQ0), rp_lo hlo hgl (rpO hwh), (PksS.sub PS (mem_del _ _)), PQ, del_le hl1, hl2, hl3, hl4⟩, Nat.le_succ _, HK, rpO hwh⟩⟩
  have hs45 := h4
  refine C.condF f34 rfl ?_
  refine wp_skip (hK9 _ _ ?_)
  have f35 := f34.sub (sc 0 (sc 1 (sc 2 (sc 3 (sc 8 (sc 10 sn))))))
  refine C.sk fun K13 hK13 => ?_
  refine L.mv f35 fun a36 f36 => ?_
  refine L.va f36 (E.eq f36) fun a37 f37 => ?_
  refine L.mv f37 fun a38 f38 => ?_
  clear f33 f34 f35 a32 f36 a36 f37 a37
  refine f38.splitD 67 rfl (fun h5 f39 => ?_) (fun h5 f39 => ?_)
  ·refine L.run f39 (rest' := []) (by kernel_rfl) fun a40 f40 => ?_
   clear f38
   refine wpList_nil (hK13 _ _ ?_)
   have f41 := f40.sub (scR f40 0 (scR f40 1 (scR f40 2 (scR f40 3 (scR f40 8 (scR f40 10 (sv 70 (.bool true) sn)))))))
   refine C.condT f41 rfl ?_
   refine C.sk fun K14 hK14 => ?_
   refine L.va f41 (E.build f41 (parts0 f41) (wbl34__tx)) fun a42 f42 => ?_
   refine L.storeR f42 wantedN wsz34_tx rfl rfl rfl Bg0 rfl rfl fun a43 w6 f43 NB6 ks6 => ?_
   have szw6 := ks6.size
   replace HK := HK.trans ks6 (ktr (by omega))
   replace Bgx := Bgx.kept ks6 (by simp; omega)
   replace Bg0 := NB6
   clear f40 f39 f41 a40 ks6 f42 a42
   refine L.ag f43 fun a44 f44 => ?_
   have f45 := f44.sub (sc 8 (sc 9 sn))
   refine wpList_nil (hK14 _ _ (wp_ret ?_)); (try simp only [xt, xb]); refine C.retCT f45 rfl rfl rfl Bg0 U34 rfl wsz34_tx ?_
   have hno := payL_stop hp (at_map e1 hx) hkeep hs45 (by omega)
   exact ⟨{}, s0, by rw [payR_no hno]; exact ⟨rfl, m, RR.kept0 HK, by omega, HK.mono0, fun x hx => .inl hx⟩⟩
  refine L.mv f39 (hw := (f39.yes rfl rfl)) fun a40 f40 => ?_
  refine L.va f40 (E.eq f40) (hw := (f40.yes rfl rfl)) fun a41 f41 => ?_
  refine L.va f41 (E.pickF f41 rfl rfl) fun a42 f42 => ?_
  refine wpList_nil (hK13 _ _ ?_)
  have f43 := f42.sub (sc 0 (sc 1 (sc 2 (sc 3 (sc 8 (sc 10 (sc 70 sn)))))))
  clear f38 f39 a38 f40 a40 f41 a41 f42
  refine f43.splitD 70 rfl (fun h6 f44 => ?_) (fun h6 f44 => ?_)
  ·refine C.condT f44 rfl ?_
   refine C.sk fun K15 hK15 => ?_
   refine L.va f44 (E.build f44 (parts0 f44) (wbl34__tx)) fun a45 f45 => ?_
   refine L.storeR f45 wantedN wsz34_tx rfl rfl rfl Bg0 rfl rfl fun a46 w6 f46 NB6 ks6 => ?_
   have szw6 := ks6.size
   replace HK := HK.trans ks6 (ktr (by omega))
   replace Bgx := Bgx.kept ks6 (by simp; omega)
   replace Bg0 := NB6
   clear f43 f44 a42 ks6 f45 a45
   refine L.ag f46 fun a47 f47 => ?_
   have f48 := f47.sub (sc 8 (sc 9 sn))
   refine wpList_nil (hK15 _ _ (wp_ret ?_)); (try simp only [xt, xb]); refine C.retCT f48 rfl rfl rfl Bg0 U34 rfl wsz34_tx ?_
   have hno := payL_stop hp (at_map e1 hx) hkeep hs45 (by omega)
   exact ⟨{}, s0, by rw [payR_no hno]; exact ⟨rfl, m, RR.kept0 HK, by omega, HK.mono0, fun x hx => .inl hx⟩⟩
  refine C.condF f44 rfl ?_
  refine wp_skip (hK6 _ _ ?_)
  have f45 := f44.sub (sc 0 (sc 1 (sc 2 (sc 3 (sc 8 (sc 10 sn))))))
  refine C.region ?_
  refine L.mv f45 fun a46 f46 => ?_
  refine L.va f46 (E.add f46 rfl rfl (IntWalk.i64_in _ (by omega))) fun a47 f47 => ?_
  refine L.ag f47 fun a48 f48 => ?_
  clear f43 f44 f45 a42 f46 a46 f47 a47
  refine wpList_nil (hKL3 _ _ (gk4 - 1) ?_ ?_)
  ·omega
  exact ⟨k + 1, by omega, HK, frg0, Bg0, pass_next hp (at_map e1 hx) ((show skipB kd q i x.1 from Or.inr ⟨hs45, by omega⟩)), by simpa using f48.sub (sx (sx (sx (sx (sx (sx sn))))))⟩
 refine C.condF f16 rfl ?_
 refine wp_exit (hK1 _ _ ?_)
 have f17 := f16.sub (sc 8 sn)
 refine C.sk fun K16 hK16 => ?_
 refine L.va f17 (E.build f17 (parts0 f17) (wbl34__tx)) fun a18 f18 => ?_
 refine L.storeR f18 wantedN wsz34_tx rfl rfl rfl Bg0 rfl rfl fun a19 w3 f19 NB3 ks3 => ?_
 have szw3 := ks3.size
 replace HK := HK.trans ks3 (ktr (by omega))
 replace Bg0 := NB3
 clear f15 f16 f17 a14 ks3 f18 a18
 refine L.ag f19 fun a20 f20 => ?_
 have f21 := f20.sub (sc 8 (sc 9 sn))
 refine wpList_nil (hK16 _ _ (wp_ret ?_)); (try simp only [xt, xb]); refine C.retCT f21 rfl rfl rfl Bg0 U34 rfl wsz34_tx ?_
 have hno := payL_none (pass_all hp (by rw [e1, List.length_map]; omega))
 exact ⟨{}, s0, by rw [payR_no hno]; exact ⟨rfl, m, RR.kept0 HK, by omega, HK.mono0, fun x hx => .inl hx⟩⟩
set_option maxHeartbeats 4000000 in
theorem pubR_any (p : Pk) (s : Ad) (hid : (Lit.int .i64 p.id).wf = true) (B g : Nat) (r : Rt) (m : RtM) (w : World) (RR : RtIn B w g r m) (hn : m.n ≤ 1000000) (hBw : B ≤ w.heap.size) (PP : PkS B w p s) (hL : p.Len) : Calls Try.prog 41 #[.pointer (some ⟨g, 0, none⟩), .agg (p.cells s)] w (fun e w' => RtPost B g m w (r.pubR p).2 (.bool (r.pubR p).1) e w') := by
 have HK : Kept [] w w := Kept.refl [] w
 have RR0 := RR
 obtain ⟨e1, e2, BT, RO, RQ, MR, MG, nof, oq, hlo, PS, PQ, hl1, hl2, hl3, hl4⟩ := RR0
 have hgl := BT.lt
 have hgr := IsAss.ne_blk MR BT
 have hgm := IsAss.ne_blk MG BT
 have hmr := IsAss.lt MR
 have hmg := IsAss.lt MG
 have hO0 := own_lt RO
 have hQ0 := own_lt RQ
 have hcO := own_cap RO
 have hcQ := own_cap RQ
 have hBg := hlo g rp_g
 have hBr := hlo m.mr rp_r
 have hBm := hlo m.mg rp_m
 clear BT RO RQ MR MG PS PQ
 refine C.enter Try.func41 rfl Try.ntmps41 rfl ?_
 intro a0 f0
 have f1 : Fr 68 a0 [(0, .pointer (some ⟨g, 0, none⟩)), (1, .agg (p.cells s))] := f0
 refine C.sk fun K0 hK0 => ?_
 refine L.box f1 wantedN (by decide) rfl rfl fun a2 w1 g0 N0 f2 => ?_
 have Bg0 := N0.blk
 have kg0 := N0.kept
 have log0 := N0.lo
 have ltg0 := Bg0.lt
 have szw1 := kg0.size
 have frg0 : w.heap.size ≤ g0 := Nat.le_trans HK.size log0
 replace HK := HK.z kg0
 replace PP := PkS.kept0 PP kg0
 clear f0 N0 kg0
 refine L.ag f2 fun a3 f3 => ?_
 refine wpList_nil (hK0 _ _ ?_)
 have f4 := f3.sub (sc 0 (sc 3 sn))
 refine wp_seq_k fun K1 hK1 => ?_
 refine C.sk fun K2 hK2 => ?_
 refine L.fa 3 f4 U34 rfl wsz3_tx fun a5 f5 => ?_
 refine L.ld f5 U3 Bg0 fun a6 f6 => ?_
 refine L.va f6 (E.eq f6) fun a7 f7 => ?_
 refine wpList_nil (hK2 _ _ ?_)
 have f8 := f7.sub (sc 0 (sc 3 (sc 9 sn)))
 clear f1 a0 f2 a2 f3 f4 a3 f5 a5 f6 a6 f7
 refine f8.splitD 9 rfl (fun h0 f9 => ?_) (fun h0 f9 => ?_)
 ·have hs9 := h0
  refine C.condT f9 rfl ?_
  refine C.sk fun K3 hK3 => ?_
  refine L.ag f9 fun a10 f10 => ?_
  have f11 := f10.sub (sc 4 sn)
  refine wpList_nil (hK3 _ _ (wp_ret ?_)); (try simp only [xt, xb]); refine C.ret f11 rfl rfl ?_
  rw [pubR_0 hs9]
  exact ⟨rfl, m, RR.kept0 HK, by omega, HK.mono0, fun x hx => .inl hx⟩
 have hs9 := h0
 refine C.condF f9 rfl ?_
 refine wp_skip (hK1 _ _ ?_)
 have f10 := f9.sub (sc 0 (sc 3 sn))
 refine C.sk fun K4 hK4 => ?_
 refine L.mv f10 fun a11 f11 => ?_
 refine L.fa 4 f11 U34 rfl wsz3_tx fun a12 f12 => ?_
 refine L.ld f12 U3 Bg0 fun a13 f13 => ?_
 refine L.cl f13 (run_call Try.call42 (args2 f13 rfl rfl)) (at_any p.id B g r m _ (RR.kept0 HK) hn) ?_
 clear f8 f9 f10 a7 f11 a11 f12 a12
 rintro e w2 ⟨kc2, rfl⟩
 refine ⟨_, rfl, fun a14 f14 => ?_⟩
 have szw2 := kc2.size
 replace HK := HK.z kc2
 replace PP := PkS.kept0 PP kc2
 replace Bg0 := Bg0.z kc2
 clear f13 a13 kc2
 refine L.ag f14 fun a15 f15 => ?_
 refine wpList_nil (hK4 _ _ ?_)
 have f16 := f15.sub (sc 0 (sc 3 (sc 5 sn)))
 refine wp_seq_k fun K5 hK5 => ?_
 refine C.sk fun K6 hK6 => ?_
 refine L.mv f16 fun a17 f17 => ?_
 refine L.va f17 (E.lss f17 rfl rfl) fun a18 f18 => ?_
 refine wpList_nil (hK6 _ _ ?_)
 have f19 := f18.sub (sc 0 (sc 3 (sc 5 (sc 15 sn))))
 clear f14 a14 f15 f16 a15 f17 a17 f18
 refine f19.splitD 15 rfl (fun h1 f20 => ?_) (fun h1 f20 => ?_)
 ·have hs15 := h1
  refine C.condT f20 rfl ?_
  refine wp_seq_k fun K7 hK7 => ?_
  replace Bg0 : Blk w2 g0 34 (p.cells s) := Bg0
  obtain ⟨-, -, BT, RO, RQ, MR, MG, -, -, -, PS, PQ, -⟩ := RR.kept0 HK
  replace HK : Kept (m.fp g) w w2 := HK.mono0
  replace BT : Blk w2 g 56 #[.bool r.clean, .bool r.connect, .bool r.acked, .bool r.over, .slice m.Ao m.owed.length m.co, .slice m.Aq m.out.length m.cq, .map (some m.mr), .map (some m.mg), .bool r.present, .bool r.wish] := BT
  have hd5 : Kept [] w2 (w2.drewN 1) := (Kept.refl _ _).drewN 1
  refine RB.begin (S := fun W => (Blk W g0 34 (p.cells s)) ∧ (Blk W g 56 (rtL r m))) 8 (by kernel_rfl) ⟨Bg0.z hd5, BT.z hd5⟩ ?_
  obtain ⟨w3, hww3⟩ : ∃ W, W = w2.drewN 1 := ⟨_, rfl⟩
  rw [← hww3] at hd5 ⊢
  clear f19 hww3
  have szw3 := hd5.size
  replace PP := PkS.kept0 PP hd5
  replace Bg0 := Bg0.z hd5
  replace HK := HK.z hd5
  replace BT := BT.z hd5
  replace RO := Own.z RO hd5
  replace RQ := Own.z RQ hd5
  replace MR := IsAss.z MR hd5
  replace MG := IsAss.z MG hd5
  replace PS := PksS.kept0 PS hd5
  replace PQ := PksS.kept0 PQ hd5
  clear hd5
  refine RB.tk 0 f20 rfl ⟨Bg0, BT⟩ (fun W hW => (E.move f20 rfl)) fun a21 f21 => ?_
  refine RB.tk 1 f21 rfl ⟨Bg0, BT⟩ (fun W hW => (E.move f21 rfl)) fun a22 f22 => ?_
  refine RB.tk 2 f22 rfl ⟨Bg0, BT⟩ (fun W hW => (E.nilCheck f22 rfl)) fun a23 f23 => ?_
  refine RB.tk 3 f23 rfl ⟨Bg0, BT⟩ (fun W hW => (E.fa 5 f23 U56 rfl wsz51_tx)) fun a24 f24 => ?_
  refine RB.tk 4 f24 rfl ⟨Bg0, BT⟩ (fun W hW => (E.ld f24 U51 (hW.2))) fun a25 f25 => ?_
  refine RB.tk 5 f25 rfl ⟨Bg0, BT⟩ (fun W hW => (E.loadB f25 U34 rfl wsz34_tx rfl (hW.1) rfl)) fun a26 f26 => ?_
  refine RB.one 6 (by kernel_rfl) (by kernel_rfl) ?_
  refine O.buildSlice f26 rfl wantedN (by decide) (parts1 f26 rfl) U51 wzi34_tx rfl rfl (wbs51_1_tx _ _ _ _ _ _ _ _ _ _ _ _ _ _ _ _ _ _ _ _ _ _ _ _) (fun _ hk => ⟨Bg0.z hk, BT.z hk⟩) fun a27 w4 g3 N3 hSn f27 => ?_
  clear f20 a18 f21 a21 f22 a22 f23 a23 f24 a24 f25 a25 hSn
  have Bg3 := N3.blk
  have kg3 := N3.kept
  have log3 := N3.lo
  have ltg3 := Bg3.lt
  have szw4 := kg3.size
  have frg3 : w.heap.size ≤ g3 := Nat.le_trans HK.size log3
  have neg0_g3 : g0 ≠ g3 := by have := Bg0.lt; omega
  have neg_g3 : g ≠ g3 := by have := BT.lt; omega
  replace PP := PkS.kept0 PP kg3
  replace Bg0 := Bg0.z kg3
  replace HK := HK.z kg3
  replace BT := BT.z kg3
  replace RO := Own.z RO kg3
  replace RQ := Own.z RQ kg3
  replace MR := IsAss.z MR kg3
  replace MG := IsAss.z MG kg3
  replace PS := PksS.kept0 PS kg3
  replace PQ := PksS.kept0 PQ kg3
  clear N3 kg3
  refine RB.one 7 (by kernel_rfl) (by kernel_rfl) ?_
  refine O.append f27 rfl wantedN (by decide) U51 wzib34_tx rfl rfl rfl rfl RQ (Sl1 p s Bg3) (Pk.one1 p s) (by unfold maxLen; omega) (by omega) fun a28 w5 A5 c5 AP => ?_
  have szw5 := AP.kept.size
  have PPn := PkS.keptT PP AP.kept (NoPk.own RQ) (fun y hy => hlo _ (rp_ownQ (by simpa using hy)))
  have Bg0n := Bg0.kept AP.kept (new_ne RQ hQ0 frg0)
  have HKn := HK.trans AP.kept (fun x hx _ => rp_ownQ (by simpa using hx))
  have BTn := BT.kept AP.kept (own_ne RQ BT (by decide))
  have ROn := Own.kept RO AP.kept (own_apart (Apart.symm oq))
  have MRn := IsAss.kept MR AP.kept (own_ne_map MR RQ)
  have MGn := IsAss.kept MG AP.kept (own_ne_map MG RQ)
  have PSn := PksS.keptT PS AP.kept (NoPk.own RQ) (fun y hy => hlo _ (rp_ownQ (by simpa using hy)))
  have PQn := PksS.keptT PQ AP.kept (NoPk.own RQ) (fun y hy => hlo _ (rp_ownQ (by simpa using hy)))
  have RQn : Row w5 A5 c5 (m.out ++ [(p, s)]) := row_app AP.own
  have hwh : ∀ b, A5.map (·.block) = some b → m.Aq.map (·.block) = some b ∨ w.heap.size ≤ b := fun b hb => (AP.where_ b hb).imp id (fun h => Nat.le_trans HK.size h)
  clear f26 a26 AP RQ Bg3 PP Bg0 HK BT RO MR MG PS PQ
  have PP := PPn
  have Bg0 := Bg0n
  have HK := HKn
  have BT := BTn
  have RO := ROn
  have MR := MRn
  have MG := MGn
  have PS := PSn
  have PQ := PQn
  have RQ := RQn
  clear PPn Bg0n HKn BTn ROn MRn MGn PSn PQn RQn
  refine ⟨⟨Bg0, BT⟩, fun f28 => ?_⟩
  refine RB.stop (by kernel_rfl) ?_
  refine  R.take 8 f28 rfl rfl (by decide) (by kernel_rfl) (by kernel_rfl) (by kernel_rfl) (fun _ _ _ _ h => h) wantedN trivial (fun W hW => (E.nilCheck f28 rfl)) fun a29 f29 => ?_
  refine  R.take 9 f29 rfl rfl (by decide) (by kernel_rfl) (by kernel_rfl) (by kernel_rfl) (fun _ _ _ _ h => h) wantedN trivial (fun W hW => (E.fa 5 f29 U56 rfl wsz51_tx)) fun a30 f30 => ?_
  refine R.one 10 (by kernel_rfl) ?_
  refine OT.store f30 rfl wantedN wsz51_tx rfl rfl rfl BT (by (simp [Value.cells]; done)) fun a31 w6 f31 NB6 ks6 => ?_
  have szw6 := ks6.size
  replace PP := PkS.keptT PP ks6 (NoPk.blk BT (by decide)) (by intro y hy; obtain rfl := List.mem_singleton.1 hy; omega)
  replace Bg0 := Bg0.kept ks6 (by simp; omega)
  replace HK := HK.trans ks6 (fun x hx hlt => by obtain rfl := List.mem_singleton.1 hx; exact rp_g)
  replace RO := own_kept1 RO ks6 BT (by decide)
  replace MR := IsAss.kept MR ks6 (by simpa using IsAss.ne_blk MR BT)
  replace MG := IsAss.kept MG ks6 (by simpa using IsAss.ne_blk MG BT)
  replace PS := PksS.keptT PS ks6 (NoPk.blk BT (by decide)) (by intro y hy; obtain rfl := List.mem_singleton.1 hy; omega)
  replace PQ := PksS.keptT PQ ks6 (NoPk.blk BT (by decide)) (by intro y hy; obtain rfl := List.mem_singleton.1 hy; omega)
  replace RQ := own_kept1 RQ ks6 BT (by decide)
  replace BT := NB6
  simp only [Value.cells, z1, z2, z3, Nat.reduceAdd, Nat.zero_add] at BT
  clear f27 a27 f28 a28 f29 a29 ks6 f30 a30
  refine R.done (by kernel_rfl) (hK7 _ _ ?_)
  have f32 := f31.sub sn
  refine C.sk fun K8 hK8 => ?_
  refine L.ag f32 fun a33 f33 => ?_
  have f34 := f33.sub (sc 4 sn)
  refine wpList_nil (hK8 _ _ (wp_ret ?_)); (try simp only [xt, xb]); refine C.ret f34 rfl rfl ?_
  have hat := atL_neg hs15
  rw [pubR_new (by omega) hat]
  exact ⟨rfl, { m with out := m.out ++ [(p, s)], Aq := A5, cq := c5, n := m.n + 1 }, ⟨e1, (by rw [e2, List.map_append]; rfl), (by have e : (m.out ++ [(p, s)]).length = m.out.length + 1 := List.length_append; rw [← e] at BT; exact BT), RO, RQ, MR, MG, nof, (Apart.symm (apart_new (Apart.symm oq) hwh hO0)), rp_lo hlo hgl (rpQ hwh), PS, PksS.app PQ (PksS.one PP hL), Nat.le_succ_of_le hl1, (by rw [List.length_append]; exact Nat.succ_le_succ hl2), Nat.le_succ_of_le hl3, Nat.le_succ_of_le hl4⟩, Nat.le_refl _, HK, rpQ hwh⟩
 have hs15 := h1
 refine C.condF f20 rfl ?_
 refine wp_skip (hK5 _ _ ?_)
 have f21 := f20.sub (sc 0 (sc 3 (sc 5 sn)))
 refine wp_seq_k fun K9 hK9 => ?_
 obtain ⟨k, x, hat, hat2, hro, hx⟩ := at_hit RR.e2 hs15
 obtain ⟨b, off, hA⟩ := Row.addr RR.rq (by have := (List.getElem?_eq_some_iff.1 hx).1; omega)
 have hkl := (List.getElem?_eq_some_iff.1 hx).1
 rw [hat2] at f21
 refine C.region ?_
 refine L.mv f21 fun a22 f22 => ?_
 refine L.va f22 (E.nilCheck f22 rfl) fun a23 f23 => ?_
 refine L.fa 5 f23 U56 rfl wsz51_tx fun a24 f24 => ?_
 refine L.va f24 (E.load f24 U51 rfl rfl ((RR.kept0 HK).bt.cl rfl)) fun a25 f25 => ?_
 refine L.mv f25 fun a26 f26 => ?_
 refine L.va f26 (E.indexA f26 (by assumption) U51 wsz34_tx rfl rfl (by omega) (by omega)) fun a27 f27 => ?_
 clear f19 f20 f21 a18 f22 a22 f23 a23 f24 a24 f25 a25 f26 a26
 refine L.va f27 (E.loadR f27 U34 rfl wsz34_tx rfl (Row.at_ (RR.kept0 HK).rq hA hx) rfl) fun a28 f28 => ?_
 refine L.alloc f28 wantedN (by decide) (z := z34) (fun _ => by kernel_rfl) rfl fun a29 w3 g2 N2 f29 => ?_
 have Bg2 := N2.blk
 have kg2 := N2.kept
 have log2 := N2.lo
 have ltg2 := Bg2.lt
 have szw3 := kg2.size
 have frg2 : w.heap.size ≤ g2 := Nat.le_trans HK.size log2
 have neg0_g2 : g0 ≠ g2 := by have := Bg0.lt; omega
 replace HK := HK.z kg2
 replace PP := PkS.kept0 PP kg2
 replace Bg0 := Bg0.z kg2
 clear f27 a27 N2 kg2
 refine L.storeR f29 wantedN wsz34_tx rfl rfl rfl Bg2 rfl rfl fun a30 w4 f30 NB4 ks4 => ?_
 have szw4 := ks4.size
 replace HK := HK.trans ks4 (ktr (by omega))
 replace PP := PkS.keptT PP ks4 (NoPk.blk Bg2 (by decide)) (by intro y hy; obtain rfl := List.mem_singleton.1 hy; omega)
 replace Bg0 := Bg0.kept ks4 (by simp; omega)
 replace Bg2 := NB4
 clear f28 a28 ks4 f29 a29
 refine wpList_nil (hK9 _ _ ?_)
 have f31 := f30.sub (sc 0 (sc 3 (sc 6 sn)))
 refine wp_seq_k fun K10 hK10 => ?_
 replace Bg0 : Blk w4 g0 34 (p.cells s) := Bg0
 replace Bg2 : Blk w4 g2 34 (x.1.cells x.2) := Bg2
 have hxm := List.mem_of_getElem? hx
 have hd8 : Kept [] w4 (w4.drewN 1) := (Kept.refl _ _).drewN 1
 refine R.beginT (S := fun W => (Kept [] w W) ∧ (PkS B W p s) ∧ (Blk W g0 34 (p.cells s)) ∧ (Blk W g2 34 (x.1.cells x.2))) (by kernel_rfl) (by kernel_rfl) ⟨HK.z hd8, PkS.kept0 PP hd8, Bg0.z hd8, Bg2.z hd8⟩ fun ht => ?_
 obtain ⟨w5, hww5⟩ : ∃ W, W = w4.drewN 1 := ⟨_, rfl⟩
 rw [← hww5] at hd8 ⊢
 clear f30 hww5
 have szw5 := hd8.size
 replace HK := HK.z hd8
 replace PP := PkS.kept0 PP hd8
 replace Bg0 := Bg0.z hd8
 replace Bg2 := Bg2.z hd8
 clear hd8
 refine R.u 0 f31 rfl ht ⟨HK, PP, Bg0, Bg2⟩ (fun W hW => (E.fa 1 f31 U34 rfl wsz4_tx)) fun a32 f32 => ?_
 refine R.u 1 f32 rfl ht ⟨HK, PP, Bg0, Bg2⟩ (fun W hW => (E.ld f32 U4 (hW.2.2.1))) fun a33 f33 => ?_
 refine R.u 2 f33 rfl ht ⟨HK, PP, Bg0, Bg2⟩ (fun W hW => (E.move f33 rfl)) fun a34 f34 => ?_
 clear f31 a30 f32 a32 f33 a33
 refine f34.split 35 rfl (fun h2 f35 => ?_) (fun h2 f35 => ?_)
 ·refine R.u 3 f35 rfl ht ⟨HK, PP, Bg0, Bg2⟩ (fun W hW => (E.move f35 rfl)) (hw := (f35.yes rfl rfl)) fun a36 f36 => ?_
  refine R.u 4 f36 rfl ht ⟨HK, PP, Bg0, Bg2⟩ (fun W hW => (E.nilCheck f36 rfl)) (hw := (f36.yes rfl rfl)) fun a37 f37 => ?_
  refine R.u 5 f37 rfl ht ⟨HK, PP, Bg0, Bg2⟩ (fun W hW => (E.fa 6 f37 U56 rfl wsz54_tx)) (hw := (f37.yes rfl rfl)) fun a38 f38 => ?_
  refine R.u 6 f38 rfl ht ⟨HK, PP, Bg0, Bg2⟩ (fun W hW => (E.load f38 U54 rfl rfl ((RR.kept0 hW.1).bt.cl rfl))) (hw := (f38.yes rfl rfl)) fun a39 f39 => ?_
  refine R.u 7 f39 rfl ht ⟨HK, PP, Bg0, Bg2⟩ (fun W hW => (E.fa 4 f39 U34 rfl wsz3_tx)) (hw := (f39.yes rfl rfl)) fun a40 f40 => ?_
  refine R.u 8 f40 rfl ht ⟨HK, PP, Bg0, Bg2⟩ (fun W hW => (E.ld f40 U3 (hW.2.2.1))) (hw := (f40.yes rfl rfl)) fun a41 f41 => ?_
  refine R.u 9 f41 rfl ht ⟨HK, PP, Bg0, Bg2⟩ (fun W hW => (E.lookB f41 (RR.kept0 hW.1).mr (p.id) hid rfl rfl)) (hw := (f41.yes rfl rfl)) fun a42 f42 => ?_
  clear f34 f35 a34 f36 a36 f37 a37 f38 a38 f39 a39 f40 a40 f41 a41
  refine R.u 10 f42 rfl ht ⟨HK, PP, Bg0, Bg2⟩ (fun W hW => (E.not f42 rfl)) (hw := (f42.yes rfl rfl)) fun a43 f43 => ?_
  refine R.u 11 f43 rfl ht ⟨HK, PP, Bg0, Bg2⟩ (fun W hW => (E.pickT f43 rfl rfl)) fun a44 f44 => ?_
  refine R.u 12 f44 rfl ht ⟨HK, PP, Bg0, Bg2⟩ (fun W hW => (E.move f44 rfl)) fun a45 f45 => ?_
  clear f42 a42 f43 a43 f44 a44
  refine f45.splitNB 45 rfl (fun h3 f46 => ?_) (fun h3 f46 => ?_)
  ·refine R.u 13 f46 rfl ht ⟨HK, PP, Bg0, Bg2⟩ (fun W hW => (E.fa 5 f46 U34 rfl wsz9_tx)) (hw := (f46.yes rfl rfl)) fun a47 f47 => ?_
   refine R.u 14 f47 rfl ht ⟨HK, PP, Bg0, Bg2⟩ (fun W hW => (E.ld f47 U9 (hW.2.2.2))) (hw := (f47.yes rfl rfl)) fun a48 f48 => ?_
   refine R.u 15 f48 rfl ht ⟨HK, PP, Bg0, Bg2⟩ (fun W hW => (E.fa 5 f48 U34 rfl wsz9_tx)) (hw := (f48.yes rfl rfl)) fun a49 f49 => ?_
   refine R.u 16 f49 rfl ht ⟨HK, PP, Bg0, Bg2⟩ (fun W hW => (E.ld f49 U9 (hW.2.2.1))) (hw := (f49.yes rfl rfl)) fun a50 f50 => ?_
   refine R.u 17 f50 rfl ht ⟨HK, PP, Bg0, Bg2⟩ (fun W hW => (E.eqlS f50 rfl rfl)) (hw := (f50.yes rfl rfl)) fun a51 f51 => ?_
   refine R.u 18 f51 rfl ht ⟨HK, PP, Bg0, Bg2⟩ (fun W hW => (E.pickT f51 rfl rfl)) fun a52 f52 => ?_
   refine R.u 19 f52 rfl ht ⟨HK, PP, Bg0, Bg2⟩ (fun W hW => (E.move f52 rfl)) fun a53 f53 => ?_
   clear f45 f46 a45 f47 a47 f48 a48 f49 a49 f50 a50 f51 a51 f52 a52
   refine f53.splitD 52 rfl (fun h4 f54 => ?_) (fun h4 f54 => ?_)
   ·refine R.u 20 f54 rfl ht ⟨HK, PP, Bg0, Bg2⟩ (fun W hW => (E.fa 6 f54 U34 rfl wsz28_tx)) (hw := (f54.yes rfl rfl)) fun a55 f55 => ?_
    refine R.u 21 f55 rfl ht ⟨HK, PP, Bg0, Bg2⟩ (fun W hW => (E.ld f55 U28 (hW.2.2.2))) (hw := (f55.yes rfl rfl)) fun a56 f56 => ?_
    refine R.u 22 f56 rfl ht ⟨HK, PP, Bg0, Bg2⟩ (fun W hW => (E.toStr f56 rfl U28 U5 U9 (((RR.kept0 hW.1).pq x hxm).1.toIn.pay))) (hw := (f56.yes rfl rfl)) fun a57 f57 => ?_
    refine R.u 23 f57 rfl ht ⟨HK, PP, Bg0, Bg2⟩ (fun W hW => (E.fa 6 f57 U34 rfl wsz28_tx)) (hw := (f57.yes rfl rfl)) fun a58 f58 => ?_
    refine R.u 24 f58 rfl ht ⟨HK, PP, Bg0, Bg2⟩ (fun W hW => (E.ld f58 U28 (hW.2.2.1))) (hw := (f58.yes rfl rfl)) fun a59 f59 => ?_
    refine R.u 25 f59 rfl ht ⟨HK, PP, Bg0, Bg2⟩ (fun W hW => (E.toStr f59 rfl U28 U5 U9 (hW.2.1.toIn.pay))) (hw := (f59.yes rfl rfl)) fun a60 f60 => ?_
    refine R.u 26 f60 rfl ht ⟨HK, PP, Bg0, Bg2⟩ (fun W hW => (E.eqlS f60 rfl rfl)) (hw := (f60.yes rfl rfl)) fun a61 f61 => ?_
    clear f53 f54 a53 f55 a55 f56 a56 f57 a57 f58 a58 f59 a59 f60 a60
    refine R.u 27 f61 rfl ht ⟨HK, PP, Bg0, Bg2⟩ (fun W hW => (E.pickT f61 rfl rfl)) fun a62 f62 => ?_
    refine R.u 28 f62 rfl ht ⟨HK, PP, Bg0, Bg2⟩ (fun W hW => (E.move f62 rfl)) fun a63 f63 => ?_
    clear f61 a61 f62 a62
    refine f63.splitD 61 rfl (fun h5 f64 => ?_) (fun h5 f64 => ?_)
    ·have hs61 := bytes_eq.1 h5
     refine R.u 29 f64 rfl ht ⟨HK, PP, Bg0, Bg2⟩ (fun W hW => (E.fa 3 f64 U34 rfl wsz3_tx)) (hw := (f64.yes rfl rfl)) fun a65 f65 => ?_
     refine R.u 30 f65 rfl ht ⟨HK, PP, Bg0, Bg2⟩ (fun W hW => (E.ld f65 U3 (hW.2.2.2))) (hw := (f65.yes rfl rfl)) fun a66 f66 => ?_
     refine R.u 31 f66 rfl ht ⟨HK, PP, Bg0, Bg2⟩ (fun W hW => (E.fa 3 f66 U34 rfl wsz3_tx)) (hw := (f66.yes rfl rfl)) fun a67 f67 => ?_
     refine R.u 32 f67 rfl ht ⟨HK, PP, Bg0, Bg2⟩ (fun W hW => (E.ld f67 U3 (hW.2.2.1))) (hw := (f67.yes rfl rfl)) fun a68 f68 => ?_
     refine R.u 33 f68 rfl ht ⟨HK, PP, Bg0, Bg2⟩ (fun W hW => (E.eq f68)) (hw := (f68.yes rfl rfl)) fun a69 f69 => ?_
     refine R.u 34 f69 rfl ht ⟨HK, PP, Bg0, Bg2⟩ (fun W hW => (E.pickT f69 rfl rfl)) fun a70 f70 => ?_
     refine R.u 35 f70 rfl ht ⟨HK, PP, Bg0, Bg2⟩ (fun W hW => (E.assign f70 rfl)) fun a71 f71 => ?_
     clear f63 f64 a63 f65 a65 f66 a66 f67 a67 f68 a68 f69 a69 f70 a70
     refine R.done (by kernel_rfl) (hK10 _ _ ?_)
     have f72 := f71.sub (sc 4 sn)
     refine wp_ret ?_; (try simp only [xt, xb]); refine C.ret f72 rfl rfl ?_
     have hq0 := hs9
     rw [pubR_dup hq0 hat hro]
     exact ⟨by simp [*], m, RR.kept0 HK, by omega, HK.mono0, fun x hx => .inl hx⟩
    have hs61 : ¬ x.1.pay = p.pay := fun c => h5 (bytes_eq.2 c)
    refine R.runT [29, 30, 31, 32, 33, 34, 35] (tf 36 []) f64 ht (fun _ _ _ _ h => h) ⟨HK, PP, Bg0, Bg2⟩ (by kernel_rfl) fun a65 f65 => ?_
    have f66 := f65.sub (sv 4 (.bool false) sn)
    refine R.done (by kernel_rfl) (hK10 _ _ ?_)
    have f67 := f66.sub (sc 4 sn)
    refine wp_ret ?_; (try simp only [xt, xb]); refine C.ret f67 rfl rfl ?_
    have hq0 := hs9
    rw [pubR_dup hq0 hat hro]
    exact ⟨by simp [*], m, RR.kept0 HK, by omega, HK.mono0, fun x hx => .inl hx⟩
   refine R.runT [20, 21, 22, 23, 24, 25, 26, 27, 28, 29, 30, 31, 32, 33, 34, 35] (tf 36 []) f54 ht (fun _ _ _ _ h => h) ⟨HK, PP, Bg0, Bg2⟩ (by kernel_rfl) fun a55 f55 => ?_
   have f56 := f55.sub (sv 4 (.bool false) sn)
   refine R.done (by kernel_rfl) (hK10 _ _ ?_)
   have f57 := f56.sub (sc 4 sn)
   refine wp_ret ?_; (try simp only [xt, xb]); refine C.ret f57 rfl rfl ?_
   have hq0 := hs9
   rw [pubR_dup hq0 hat hro]
   exact ⟨by simp [*], m, RR.kept0 HK, by omega, HK.mono0, fun x hx => .inl hx⟩
  refine R.runT [13, 14, 15, 16, 17, 18, 19, 20, 21, 22, 23, 24, 25, 26, 27, 28, 29, 30, 31, 32, 33, 34, 35] (tf 36 []) f46 ht (fun _ _ _ _ h => h) ⟨HK, PP, Bg0, Bg2⟩ (by kernel_rfl) fun a47 f47 => ?_
  have f48 := f47.sub (sv 4 (.bool false) sn)
  refine R.done (by kernel_rfl) (hK10 _ _ ?_)
  have f49 := f48.sub (sc 4 sn)
  refine wp_ret ?_; (try simp only [xt, xb]); refine C.ret f49 rfl rfl ?_
  have hq0 := hs9
  rw [pubR_dup hq0 hat hro]
  exact ⟨by simp [*], m, RR.kept0 HK, by omega, HK.mono0, fun x hx => .inl hx⟩
 refine R.runT [3, 4, 5, 6, 7, 8, 9, 10, 11, 12, 13, 14, 15, 16, 17, 18, 19, 20, 21, 22, 23, 24, 25, 26, 27, 28, 29, 30, 31, 32, 33, 34, 35] (tf 36 []) f35 ht (fun _ _ _ _ h => h) ⟨HK, PP, Bg0, Bg2⟩ (by kernel_rfl) fun a36 f36 => ?_
 have f37 := f36.sub (sv 4 (.bool false) sn)
 refine R.done (by kernel_rfl) (hK10 _ _ ?_)
 have f38 := f37.sub (sc 4 sn)
 refine wp_ret ?_; (try simp only [xt, xb]); refine C.ret f38 rfl rfl ?_
 have hq0 := hs9
 rw [pubR_dup hq0 hat hro]
 exact ⟨by simp [*], m, RR.kept0 HK, by omega, HK.mono0, fun x hx => .inl hx⟩
end Go.Proofs.Ytkdeedhjkjffpaa
namespace Go.Proofs.Ytkdeedhjkjffpaa
open Go.RowKit Go.Hub Go.Lib Go.WideShapes Go.ChangeMaps
theorem wzib34_ty : (Try.prog.info? 34).map (fun i => (i.zero, i.size, i.bytes)) = some (some (.agg #[(.int .i64 0), (.bool false), (.bool false), (.int .i64 0), (.int .i64 0), (.string ⟨#[]⟩), (.slice none 0 0), (.int .i64 0), (.string ⟨#[]⟩), (.bool false), (.int .i64 0), (.bool false), (.string ⟨#[]⟩), (.slice none 0 0), (.int .i64 0), (.bool false), (.bool false), (.bool false), (.string ⟨#[]⟩), (.slice none 0 0), (.bool false), (.int .i64 0), (.slice none 0 0), (.slice none 0 0)]), 24, 288) := by kernel_rfl
theorem wzi34_ty : (Try.prog.info? 34).map (fun i => (i.zero, i.size)) = some (some (.agg #[(.int .i64 0), (.bool false), (.bool false), (.int .i64 0), (.int .i64 0), (.string ⟨#[]⟩), (.slice none 0 0), (.int .i64 0), (.string ⟨#[]⟩), (.bool false), (.int .i64 0), (.bool false), (.string ⟨#[]⟩), (.slice none 0 0), (.int .i64 0), (.bool false), (.bool false), (.bool false), (.string ⟨#[]⟩), (.slice none 0 0), (.bool false), (.int .i64 0), (.slice none 0 0), (.slice none 0 0)]), 24) := by kernel_rfl
theorem wbs51_1_ty (x0_0 x0_1 x0_2 x0_3 x0_4 x0_5 x0_6 x0_7 x0_8 x0_9 x0_10 x0_11 x0_12 x0_13 x0_14 x0_15 x0_16 x0_17 x0_18 x0_19 x0_20 x0_21 x0_22 x0_23 : Value) : Instr.fill (fun i => some (i * 24, 24)) ((Array.range (1 * 24)).map fun j => (Value.cells (.agg #[(.int .i64 0), (.bool false), (.bool false), (.int .i64 0), (.int .i64 0), (.string ⟨#[]⟩), (.slice none 0 0), (.int .i64 0), (.string ⟨#[]⟩), (.bool false), (.int .i64 0), (.bool false), (.string ⟨#[]⟩), (.slice none 0 0), (.int .i64 0), (.bool false), (.bool false), (.bool false), (.string ⟨#[]⟩), (.slice none 0 0), (.bool false), (.int .i64 0), (.slice none 0 0), (.slice none 0 0)]))[j % (Value.cells (.agg #[(.int .i64 0), (.bool false), (.bool false), (.int .i64 0), (.int .i64 0), (.string ⟨#[]⟩), (.slice none 0 0), (.int .i64 0), (.string ⟨#[]⟩), (.bool false), (.int .i64 0), (.bool false), (.string ⟨#[]⟩), (.slice none 0 0), (.int .i64 0), (.bool false), (.bool false), (.bool false), (.string ⟨#[]⟩), (.slice none 0 0), (.bool false), (.int .i64 0), (.slice none 0 0), (.slice none 0 0)])).size]!) [(0, .agg #[x0_0, x0_1, x0_2, x0_3, x0_4, x0_5, x0_6, x0_7, x0_8, x0_9, x0_10, x0_11, x0_12, x0_13, x0_14, x0_15, x0_16, x0_17, x0_18, x0_19, x0_20, x0_21, x0_22, x0_23])] = some #[x0_0, x0_1, x0_2, x0_3, x0_4, x0_5, x0_6, x0_7, x0_8, x0_9, x0_10, x0_11, x0_12, x0_13, x0_14, x0_15, x0_16, x0_17, x0_18, x0_19, x0_20, x0_21, x0_22, x0_23] := by kernel_rfl
theorem wsz3_ty : (Try.prog.info? 3).map (·.size) = some 1 := by kernel_rfl
theorem wsz4_ty : (Try.prog.info? 4).map (·.size) = some 1 := by kernel_rfl
theorem wsz34_ty : (Try.prog.info? 34).map (·.size) = some 24 := by kernel_rfl
theorem wsz51_ty : (Try.prog.info? 51).map (·.size) = some 1 := by kernel_rfl
section
variable {w w1 w2 : World} {r : Rt} {p : Pk} {B g : Nat} {m : RtM} {r' : Rt} {v : Value} {e : Ending}
theorem rt_base (hk : Kept [] w w1) (h : RtPost B g m w1 r' v e w2) : RtPost B g m w r' v e w2 := by
  obtain ⟨h1, m', h2, h3, h4, h5⟩ := h
  exact ⟨h1, m', h2, h3, (Kept.mono0 hk).trans h4 (fun x hx _ => hx), fun x hx => (h5 x hx).imp id (Nat.le_trans hk.size)⟩
theorem inR_skip (h : r.over = true ∨ (r.connect = false ∧ p.kind ≠ 1)) : r.inR p = r := by unfold Rt.inR; rw [if_pos h]
variable (hg : ¬ (r.over = true ∨ (r.connect = false ∧ p.kind ≠ 1)))
include hg
theorem inR_con (h : p.kind = 1) (hc : r.connect = false) : r.inR p = { r with connect := true, wish := p.clean } := by unfold Rt.inR; rw [if_neg hg, if_pos h, if_pos hc]
theorem inR_con2 (h : p.kind = 1) (hc : r.connect = true) : r.inR p = r := by unfold Rt.inR; rw [if_neg hg, if_pos h, if_neg (by rw [hc]; decide)]
theorem inR_over (h : p.kind = 14) : r.inR p = { r with over := true } := by unfold Rt.inR; rw [if_neg hg, if_neg (by omega), if_pos h]
theorem inR_pub (h : p.kind = 3) (hq : 0 < p.qos) : r.inR p = { r with owed := r.owed ++ [p] } := by unfold Rt.inR; rw [if_neg hg, if_neg (by omega), if_neg (by omega), if_pos h, if_pos hq]
theorem inR_pub0 (h : p.kind = 3) (hq : ¬ 0 < p.qos) : r.inR p = r := by unfold Rt.inR; rw [if_neg hg, if_neg (by omega), if_neg (by omega), if_pos h, if_neg hq]
theorem inR_owe (h : p.kind = 8 ∨ p.kind = 10 ∨ p.kind = 6 ∨ p.kind = 12) : r.inR p = { r with owed := r.owed ++ [p] } := by unfold Rt.inR; rw [if_neg hg, if_neg (by omega), if_neg (by omega), if_neg (by omega), if_pos h]
theorem inR_ack (h : p.kind = 4 ∨ p.kind = 5 ∨ p.kind = 7) : r.inR p = r.ackR p := by unfold Rt.inR; rw [if_neg hg, if_neg (by omega), if_neg (by omega), if_neg (by omega), if_neg (by omega), if_pos h]
theorem inR_else (h : ¬ (p.kind = 1 ∨ p.kind = 14 ∨ p.kind = 3) ∧ ¬ (p.kind = 8 ∨ p.kind = 10 ∨ p.kind = 6 ∨ p.kind = 12) ∧ ¬ (p.kind = 4 ∨ p.kind = 5 ∨ p.kind = 7)) : r.inR p = r := by unfold Rt.inR; rw [if_neg hg, if_neg (by omega), if_neg (by omega), if_neg (by omega), if_neg h.2.1, if_neg h.2.2]
end
set_option maxHeartbeats 4000000 in
theorem tinR_any (p : Pk) (s : Ad) (hid : (Lit.int .i64 p.id).wf = true) (B g : Nat) (r : Rt) (m : RtM) (w : World) (RR : RtIn B w g r m) (hn : m.n ≤ 1000000) (hBw : B ≤ w.heap.size) (PP : PkS B w p s) (hL : p.Len) : Calls Try.prog 13 #[.pointer (some ⟨g, 0, none⟩), .agg (p.cells s)] w (fun e w' => RtPost B g m w (r.inR p) (.tuple #[]) e w') := by
 have HK : Kept [] w w := Kept.refl [] w
 have RR0 := RR
 obtain ⟨e1, e2, BT, RO, RQ, MR, MG, nof, oq, hlo, PS, PQ, hl1, hl2, hl3, hl4⟩ := RR0
 have hgl := BT.lt
 have hgr := IsAss.ne_blk MR BT
 have hgm := IsAss.ne_blk MG BT
 have hmr := IsAss.lt MR
 have hmg := IsAss.lt MG
 have hO0 := own_lt RO
 have hQ0 := own_lt RQ
 have hcO := own_cap RO
 have hcQ := own_cap RQ
 have hBg := hlo g rp_g
 have hBr := hlo m.mr rp_r
 have hBm := hlo m.mg rp_m
 clear BT RO RQ MR MG PS PQ
 refine C.enter Try.func13 rfl Try.ntmps13 rfl ?_
 intro a0 f0
 have f1 : Fr 79 a0 [(0, .pointer (some ⟨g, 0, none⟩)), (1, .agg (p.cells s))] := f0
 refine C.sk fun K0 hK0 => ?_
 refine L.box f1 wantedN (by decide) rfl rfl fun a2 w1 g0 N0 f2 => ?_
 have Bg0 := N0.blk
 have kg0 := N0.kept
 have log0 := N0.lo
 have ltg0 := Bg0.lt
 have szw1 := kg0.size
 have frg0 : w.heap.size ≤ g0 := Nat.le_trans HK.size log0
 replace HK := HK.z kg0
 replace PP := PkS.kept0 PP kg0
 clear f0 N0 kg0
 refine wpList_nil (hK0 _ _ ?_)
 have f3 := f2.sub (sc 0 (sc 3 sn))
 obtain ⟨J2, hJ2⟩ : ∃ J : Act → World → Prop, J = fun a W => (¬ (r.over = true ∨ (r.connect = false ∧ p.kind ≠ 1))) ∧ Kept [] w W ∧ PkS B W p s ∧ Blk W g0 34 (p.cells s) ∧ Fr 79 a [(0, .pointer (some ⟨g, 0, none⟩)), (3, .pointer (some ⟨g0, 0, none⟩))] := ⟨_, rfl⟩
 clear f1 a0 f2
 refine C.cut J2 ?_ ?_
 ·skip
  refine C.sk fun K1 hK1 => ?_
  refine L.mv f3 fun a4 f4 => ?_
  refine L.va f4 (E.nilCheck f4 rfl) fun a5 f5 => ?_
  refine L.fa 3 f5 U56 rfl wsz4_ty fun a6 f6 => ?_
  refine L.va f6 (E.load f6 U4 rfl rfl ((RR.kept0 HK).bt.cl rfl)) fun a7 f7 => ?_
  refine L.mv f7 fun a8 f8 => ?_
  clear f3 a2 f4 a4 f5 a5 f6 a6 f7 a7
  refine f8.split 8 rfl (fun h0 f9 => ?_) (fun h0 f9 => ?_)
  ·have hs8 := h0
   refine L.run f9 (rest' := []) (by kernel_rfl) fun a10 f10 => ?_
   clear f8
   refine wpList_nil (hK1 _ _ ?_)
   have f11 := f10.sub (scR f10 0 (scR f10 3 (sv 19 (.bool true) sn)))
   refine C.condT f11 rfl ?_
   refine wp_ret ?_; (try simp only [xt, xb]); refine C.ret0 f11 rfl ?_
   rw [inR_skip (.inl hs8)]
   exact ⟨rfl, m, RR.kept0 HK, by omega, HK.mono0, fun x hx => .inl hx⟩
  have hs8 := h0
  refine L.mv f9 (hw := (f9.yes rfl rfl)) fun a10 f10 => ?_
  refine L.va f10 (E.nilCheck f10 rfl) (hw := (f10.yes rfl rfl)) fun a11 f11 => ?_
  refine L.fa 1 f11 U56 rfl wsz4_ty (hw := (f11.yes rfl rfl)) fun a12 f12 => ?_
  refine L.va f12 (E.load f12 U4 rfl rfl ((RR.kept0 HK).bt.cl rfl)) (hw := (f12.yes rfl rfl)) fun a13 f13 => ?_
  refine L.va f13 (E.not f13 rfl) (hw := (f13.yes rfl rfl)) fun a14 f14 => ?_
  refine L.mv f14 (hw := (f14.yes rfl rfl)) fun a15 f15 => ?_
  clear f8 f9 a8 f10 a10 f11 a11 f12 a12 f13 a13 f14 a14
  refine f15.splitNB 14 rfl (fun h1 f16 => ?_) (fun h1 f16 => ?_)
  ·have hs14 := h1
   refine L.fa 0 f16 U34 rfl wsz3_ty (hw := (f16.yes rfl rfl)) fun a17 f17 => ?_
   refine L.ld f17 U3 Bg0 (hw := (f17.yes rfl rfl)) fun a18 f18 => ?_
   refine L.va f18 (E.neq f18 rfl rfl) (hw := (f18.yes rfl rfl)) fun a19 f19 => ?_
   refine L.va f19 (E.pickT f19 rfl rfl) (hw := (f19.yes rfl rfl)) fun a20 f20 => ?_
   refine L.va f20 (E.pickF f20 rfl rfl) fun a21 f21 => ?_
   refine wpList_nil (hK1 _ _ ?_)
   have f22 := f21.sub (sc 0 (sc 3 (sc 19 sn)))
   clear f15 f16 a15 f17 a17 f18 a18 f19 a19 f20 a20 f21
   refine f22.splitN 19 rfl (fun h2 f23 => ?_) (fun h2 f23 => ?_)
   ·have hs19 := h2
    refine C.condT f23 rfl ?_
    refine wp_ret ?_; (try simp only [xt, xb]); refine C.ret0 f23 rfl ?_
    rw [inR_skip (.inr ⟨by simpa using hs14, hs19⟩)]
    exact ⟨rfl, m, RR.kept0 HK, by omega, HK.mono0, fun x hx => .inl hx⟩
   have hs19 := h2
   refine C.condF f23 rfl ?_
   exact wp_skip (jn J2 (by rw [hJ2]; exact ⟨fun c => c.elim (fun c => absurd (c.symm.trans hs8) (by decide)) (fun c => c.2 hs19), HK, PP, Bg0, f23.sub (sx (sx sn))⟩))
  have hs14 := h1
  refine L.run f16 (rest' := []) (by kernel_rfl) fun a17 f17 => ?_
  clear f15
  refine wpList_nil (hK1 _ _ ?_)
  have f18 := f17.sub (scR f17 0 (scR f17 3 (sv 19 (.bool false) sn)))
  refine C.condF f18 rfl ?_
  exact wp_skip (jn J2 (by rw [hJ2]; exact ⟨fun c => c.elim (fun c => absurd (c.symm.trans hs8) (by decide)) (fun c => absurd c.1 (by simpa using hs14)), HK, PP, Bg0, f18.sub (sx (sx sn))⟩))
 intro a4 w2 hj
 rw [hJ2] at hj
 clear hJ2 J2
 obtain ⟨hg, HK, PP, Bg0, f4⟩ := hj
 try clear f3
 have szc := HK.size
 refine C.sk fun K2 hK2 => ?_
 refine L.fa 0 f4 U34 rfl wsz3_ty fun a5 f5 => ?_
 refine L.ld f5 U3 Bg0 fun a6 f6 => ?_
 refine wpList_nil (hK2 _ _ ?_)
 have f7 := f6.sub (sc 0 (sc 3 (sc 21 sn)))
 refine wp_block ?_
 refine C.sk fun K3 hK3 => ?_
 refine L.va f7 (E.eq f7) fun a8 f8 => ?_
 refine L.ag f8 fun a9 f9 => ?_
 refine wpList_nil (hK3 _ _ ?_)
 have f10 := f9.sub (sc 0 (sc 3 (sc 21 (sc 22 sn))))
 clear f4 a4 f5 a5 f6 f7 a6 f8 a8 f9
 refine f10.splitD 22 rfl (fun h3 f11 => ?_) (fun h3 f11 => ?_)
 ·have hs22 := h3
  refine C.condT f11 rfl ?_
  refine C.sk fun K4 hK4 => ?_
  refine L.mv f11 fun a12 f12 => ?_
  refine L.va f12 (E.nilCheck f12 rfl) fun a13 f13 => ?_
  refine L.fa 1 f13 U56 rfl wsz4_ty fun a14 f14 => ?_
  refine L.va f14 (E.load f14 U4 rfl rfl ((RR.kept0 HK).bt.cl rfl)) fun a15 f15 => ?_
  refine L.va f15 (E.not f15 rfl) fun a16 f16 => ?_
  refine wpList_nil (hK4 _ _ ?_)
  have f17 := f16.sub (sc 0 (sc 3 (sc 28 sn)))
  clear f10 f11 a9 f12 a12 f13 a13 f14 a14 f15 a15 f16
  refine f17.splitNB 28 rfl (fun h4 f18 => ?_) (fun h4 f18 => ?_)
  ·have hs28 := h4
   refine C.condT f18 rfl ?_
   replace Bg0 : Blk w2 g0 34 (p.cells s) := Bg0
   obtain ⟨-, -, BT, RO, RQ, MR, MG, -, -, -, PS, PQ, -⟩ := RR.kept0 HK
   replace HK : Kept (m.fp g) w w2 := HK.mono0
   replace BT : Blk w2 g 56 #[.bool r.clean, .bool r.connect, .bool r.acked, .bool r.over, .slice m.Ao m.owed.length m.co, .slice m.Aq m.out.length m.cq, .map (some m.mr), .map (some m.mg), .bool r.present, .bool r.wish] := BT
   have hd5 : Kept [] w2 (w2.drewN 1) := (Kept.refl _ _).drewN 1
   refine R.beginT (S := fun W => (Blk W g0 34 (p.cells s))) (by kernel_rfl) (by kernel_rfl) (Bg0.z hd5) fun ht => ?_
   obtain ⟨w3, hww3⟩ : ∃ W, W = w2.drewN 1 := ⟨_, rfl⟩
   rw [← hww3] at hd5 ⊢
   clear f17 hww3
   have szw3 := hd5.size
   replace PP := PkS.kept0 PP hd5
   replace Bg0 := Bg0.z hd5
   replace HK := HK.z hd5
   replace BT := BT.z hd5
   replace RO := Own.z RO hd5
   replace RQ := Own.z RQ hd5
   replace MR := IsAss.z MR hd5
   replace MG := IsAss.z MG hd5
   replace PS := PksS.kept0 PS hd5
   replace PQ := PksS.kept0 PQ hd5
   clear hd5
   refine R.u 0 f18 rfl ht Bg0 (fun W hW => (E.move f18 rfl)) fun a19 f19 => ?_
   refine R.u 1 f19 rfl ht Bg0 (fun W hW => (E.move f19 rfl)) fun a20 f20 => ?_
   refine R.u 2 f20 rfl ht Bg0 (fun W hW => (E.fa 9 f20 U34 rfl wsz4_ty)) fun a21 f21 => ?_
   refine R.u 3 f21 rfl ht Bg0 (fun W hW => (E.ld f21 U4 (hW))) fun a22 f22 => ?_
   refine R.u 4 f22 rfl ht Bg0 (fun W hW => (E.nilCheck f22 rfl)) fun a23 f23 => ?_
   refine R.u 5 f23 rfl ht Bg0 (fun W hW => (E.fa 1 f23 U56 rfl wsz4_ty)) fun a24 f24 => ?_
   refine R.one 6 (by kernel_rfl) ?_
   refine O.store f24 rfl wantedN wsz4_ty rfl rfl rfl BT (Nat.le_of_ble_eq_true rfl) (fun w' ks => Bg0.kept ks (by simp; omega)) fun a25 w4 f25 NB ks => ?_
   have szw4 := ks.size
   replace PP := PkS.keptT PP ks (NoPk.blk BT (by decide)) (by intro y hy; obtain rfl := List.mem_singleton.1 hy; omega)
   replace Bg0 := Bg0.kept ks (by simp; omega)
   replace HK := HK.trans ks (fun x hx hlt => by obtain rfl := List.mem_singleton.1 hx; exact rp_g)
   replace RO := own_kept1 RO ks BT (by decide)
   replace RQ := own_kept1 RQ ks BT (by decide)
   replace MR := IsAss.kept MR ks (by simpa using IsAss.ne_blk MR BT)
   replace MG := IsAss.kept MG ks (by simpa using IsAss.ne_blk MG BT)
   replace PS := PksS.keptT PS ks (NoPk.blk BT (by decide)) (by intro y hy; obtain rfl := List.mem_singleton.1 hy; omega)
   replace PQ := PksS.keptT PQ ks (NoPk.blk BT (by decide)) (by intro y hy; obtain rfl := List.mem_singleton.1 hy; omega)
   replace BT := NB
   simp only [List.set_cons_zero, List.set_cons_succ] at BT
   clear f18 a16 f19 a19 f20 a20 f21 a21 f22 a22 f23 a23 ks f24 a24
   refine R.u 7 f25 rfl ht Bg0 (fun W hW => (E.nilCheck f25 rfl)) fun a26 f26 => ?_
   refine R.u 8 f26 rfl ht Bg0 (fun W hW => (E.fa 9 f26 U56 rfl wsz4_ty)) fun a27 f27 => ?_
   refine R.one 9 (by kernel_rfl) ?_
   refine O.store f27 rfl wantedN wsz4_ty rfl rfl rfl BT (Nat.le_of_ble_eq_true rfl) (fun w' ks => Bg0.kept ks (by simp; omega)) fun a28 w5 f28 NB ks => ?_
   have szw5 := ks.size
   replace PP := PkS.keptT PP ks (NoPk.blk BT (by decide)) (by intro y hy; obtain rfl := List.mem_singleton.1 hy; omega)
   replace Bg0 := Bg0.kept ks (by simp; omega)
   replace HK := HK.trans ks (fun x hx hlt => by obtain rfl := List.mem_singleton.1 hx; exact rp_g)
   replace RO := own_kept1 RO ks BT (by decide)
   replace RQ := own_kept1 RQ ks BT (by decide)
   replace MR := IsAss.kept MR ks (by simpa using IsAss.ne_blk MR BT)
   replace MG := IsAss.kept MG ks (by simpa using IsAss.ne_blk MG BT)
   replace PS := PksS.keptT PS ks (NoPk.blk BT (by decide)) (by intro y hy; obtain rfl := List.mem_singleton.1 hy; omega)
   replace PQ := PksS.keptT PQ ks (NoPk.blk BT (by decide)) (by intro y hy; obtain rfl := List.mem_singleton.1 hy; omega)
   replace BT := NB
   simp only [List.set_cons_zero, List.set_cons_succ] at BT
   clear f25 a25 f26 a26 ks f27 a27
   refine R.done (by kernel_rfl) (C.end0 (fn := Try.f13) f28 rfl ?_)
   rw [inR_con hg hs22 (by simpa using hs28)]
   exact ⟨rfl, m, ⟨e1, e2, BT, RO, RQ, MR, MG, nof, oq, hlo, PS, PQ, hl1, hl2, hl3, hl4⟩, Nat.le_succ _, HK, fun x hx => .inl hx⟩
  have hs28 := h4
  refine C.condF f18 rfl ?_
  refine wp_skip (C.end0 (fn := Try.f13) f18 rfl ?_)
  rw [inR_con2 hg hs22 (by simpa using hs28)]
  exact ⟨rfl, m, RR.kept0 HK, by omega, HK.mono0, fun x hx => .inl hx⟩
 have hs22 := h3
 refine C.condF f11 rfl ?_
 refine C.sk fun K5 hK5 => ?_
 refine L.va f11 (E.eq f11) fun a12 f12 => ?_
 refine L.ag f12 fun a13 f13 => ?_
 refine wpList_nil (hK5 _ _ ?_)
 have f14 := f13.sub (sc 0 (sc 3 (sc 21 (sc 37 sn))))
 clear f10 f11 a9 f12 a12 f13
 refine f14.splitD 37 rfl (fun h5 f15 => ?_) (fun h5 f15 => ?_)
 ·have hs37 := h5
  refine C.condT f15 rfl ?_
  obtain ⟨-, -, BT, RO, RQ, MR, MG, -, -, -, PS, PQ, -⟩ := RR.kept0 HK
  replace HK : Kept (m.fp g) w w2 := HK.mono0
  replace BT : Blk w2 g 56 #[.bool r.clean, .bool r.connect, .bool r.acked, .bool r.over, .slice m.Ao m.owed.length m.co, .slice m.Aq m.out.length m.cq, .map (some m.mr), .map (some m.mg), .bool r.present, .bool r.wish] := BT
  refine C.region ?_
  refine L.mv f15 fun a16 f16 => ?_
  refine L.va f16 (E.nilCheck f16 rfl) fun a17 f17 => ?_
  refine L.fa 3 f17 U56 rfl wsz4_ty fun a18 f18 => ?_
  refine L.store f18 wantedN wsz4_ty rfl rfl rfl BT (by (simp [Value.cells]; done)) fun a19 w3 f19 NB3 ks3 => ?_
  have szw3 := ks3.size
  replace PP := PkS.keptT PP ks3 (NoPk.blk BT (by decide)) (by intro y hy; obtain rfl := List.mem_singleton.1 hy; omega)
  replace Bg0 := Bg0.kept ks3 (by simp; omega)
  replace HK := HK.trans ks3 (fun x hx hlt => by obtain rfl := List.mem_singleton.1 hx; exact rp_g)
  replace RO := own_kept1 RO ks3 BT (by decide)
  replace RQ := own_kept1 RQ ks3 BT (by decide)
  replace MR := IsAss.kept MR ks3 (by simpa using IsAss.ne_blk MR BT)
  replace MG := IsAss.kept MG ks3 (by simpa using IsAss.ne_blk MG BT)
  replace PS := PksS.keptT PS ks3 (NoPk.blk BT (by decide)) (by intro y hy; obtain rfl := List.mem_singleton.1 hy; omega)
  replace PQ := PksS.keptT PQ ks3 (NoPk.blk BT (by decide)) (by intro y hy; obtain rfl := List.mem_singleton.1 hy; omega)
  replace BT := NB3
  simp only [Value.cells, z1, z2, z3, Nat.reduceAdd, Nat.zero_add] at BT
  clear f14 f15 a13 f16 a16 f17 a17 ks3 f18 a18
  refine wpList_nil (C.end0 (fn := Try.f13) f19 rfl ?_)
  rw [inR_over hg hs37]
  exact ⟨rfl, m, ⟨e1, e2, BT, RO, RQ, MR, MG, nof, oq, hlo, PS, PQ, hl1, hl2, hl3, hl4⟩, Nat.le_succ _, HK, fun x hx => .inl hx⟩
 have hs37 := h5
 refine C.condF f15 rfl ?_
 refine C.sk fun K6 hK6 => ?_
 refine L.va f15 (E.eq f15) fun a16 f16 => ?_
 refine L.ag f16 fun a17 f17 => ?_
 refine wpList_nil (hK6 _ _ ?_)
 have f18 := f17.sub (sc 0 (sc 3 (sc 21 (sc 42 sn))))
 clear f14 f15 a13 f16 a16 f17
 refine f18.splitD 42 rfl (fun h6 f19 => ?_) (fun h6 f19 => ?_)
 ·have hs42 := h6
  refine C.condT f19 rfl ?_
  refine C.sk fun K7 hK7 => ?_
  refine L.fa 3 f19 U34 rfl wsz3_ty fun a20 f20 => ?_
  refine L.ld f20 U3 Bg0 fun a21 f21 => ?_
  refine L.va f21 (E.gtr f21 rfl rfl) fun a22 f22 => ?_
  refine wpList_nil (hK7 _ _ ?_)
  have f23 := f22.sub (sc 0 (sc 3 (sc 46 sn)))
  clear f18 f19 a17 f20 a20 f21 a21 f22
  refine f23.splitD 46 rfl (fun h7 f24 => ?_) (fun h7 f24 => ?_)
  ·have hs46 := h7
   refine C.condT f24 rfl ?_
   replace Bg0 : Blk w2 g0 34 (p.cells s) := Bg0
   obtain ⟨-, -, BT, RO, RQ, MR, MG, -, -, -, PS, PQ, -⟩ := RR.kept0 HK
   replace HK : Kept (m.fp g) w w2 := HK.mono0
   replace BT : Blk w2 g 56 #[.bool r.clean, .bool r.connect, .bool r.acked, .bool r.over, .slice m.Ao m.owed.length m.co, .slice m.Aq m.out.length m.cq, .map (some m.mr), .map (some m.mg), .bool r.present, .bool r.wish] := BT
   have hd10 : Kept [] w2 (w2.drewN 1) := (Kept.refl _ _).drewN 1
   refine RB.begin (S := fun W => (Blk W g0 34 (p.cells s)) ∧ (Blk W g 56 (rtL r m))) 8 (by kernel_rfl) ⟨Bg0.z hd10, BT.z hd10⟩ ?_
   obtain ⟨w3, hww3⟩ : ∃ W, W = w2.drewN 1 := ⟨_, rfl⟩
   rw [← hww3] at hd10 ⊢
   clear f23 hww3
   have szw3 := hd10.size
   replace PP := PkS.kept0 PP hd10
   replace Bg0 := Bg0.z hd10
   replace HK := HK.z hd10
   replace BT := BT.z hd10
   replace RO := Own.z RO hd10
   replace RQ := Own.z RQ hd10
   replace MR := IsAss.z MR hd10
   replace MG := IsAss.z MG hd10
   replace PS := PksS.kept0 PS hd10
   replace PQ := PksS.kept0 PQ hd10
   clear hd10
   refine RB.tk 0 f24 rfl ⟨Bg0, BT⟩ (fun W hW => (E.move f24 rfl)) fun a25 f25 => ?_
   refine RB.tk 1 f25 rfl ⟨Bg0, BT⟩ (fun W hW => (E.move f25 rfl)) fun a26 f26 => ?_
   refine RB.tk 2 f26 rfl ⟨Bg0, BT⟩ (fun W hW => (E.nilCheck f26 rfl)) fun a27 f27 => ?_
   refine RB.tk 3 f27 rfl ⟨Bg0, BT⟩ (fun W hW => (E.fa 4 f27 U56 rfl wsz51_ty)) fun a28 f28 => ?_
   refine RB.tk 4 f28 rfl ⟨Bg0, BT⟩ (fun W hW => (E.ld f28 U51 (hW.2))) fun a29 f29 => ?_
   refine RB.tk 5 f29 rfl ⟨Bg0, BT⟩ (fun W hW => (E.loadB f29 U34 rfl wsz34_ty rfl (hW.1) rfl)) fun a30 f30 => ?_
   refine RB.one 6 (by kernel_rfl) (by kernel_rfl) ?_
   refine O.buildSlice f30 rfl wantedN (by decide) (parts1 f30 rfl) U51 wzi34_ty rfl rfl (wbs51_1_ty _ _ _ _ _ _ _ _ _ _ _ _ _ _ _ _ _ _ _ _ _ _ _ _) (fun _ hk => ⟨Bg0.z hk, BT.z hk⟩) fun a31 w4 g3 N3 hSn f31 => ?_
   clear f24 a22 f25 a25 f26 a26 f27 a27 f28 a28 f29 a29 hSn
   have Bg3 := N3.blk
   have kg3 := N3.kept
   have log3 := N3.lo
   have ltg3 := Bg3.lt
   have szw4 := kg3.size
   have frg3 : w.heap.size ≤ g3 := Nat.le_trans HK.size log3
   have neg0_g3 : g0 ≠ g3 := by have := Bg0.lt; omega
   have neg_g3 : g ≠ g3 := by have := BT.lt; omega
   replace PP := PkS.kept0 PP kg3
   replace Bg0 := Bg0.z kg3
   replace HK := HK.z kg3
   replace BT := BT.z kg3
   replace RO := Own.z RO kg3
   replace RQ := Own.z RQ kg3
   replace MR := IsAss.z MR kg3
   replace MG := IsAss.z MG kg3
   replace PS := PksS.kept0 PS kg3
   replace PQ := PksS.kept0 PQ kg3
   clear N3 kg3
   refine RB.one 7 (by kernel_rfl) (by kernel_rfl) ?_
   refine O.append f31 rfl wantedN (by decide) U51 wzib34_ty rfl rfl rfl rfl RO (Sl1 p s Bg3) (Pk.one1 p s) (by unfold maxLen; omega) (by omega) fun a32 w5 A5 c5 AP => ?_
   have szw5 := AP.kept.size
   have PPn := PkS.keptT PP AP.kept (NoPk.own RO) (fun y hy => hlo _ (rp_ownO (by simpa using hy)))
   have Bg0n := Bg0.kept AP.kept (new_ne RO hO0 frg0)
   have HKn := HK.trans AP.kept (fun x hx _ => rp_ownO (by simpa using hx))
   have BTn := BT.kept AP.kept (own_ne RO BT (by decide))
   have RQn := Own.kept RQ AP.kept (own_apart oq)
   have MRn := IsAss.kept MR AP.kept (own_ne_map MR RO)
   have MGn := IsAss.kept MG AP.kept (own_ne_map MG RO)
   have PSn := PksS.keptT PS AP.kept (NoPk.own RO) (fun y hy => hlo _ (rp_ownO (by simpa using hy)))
   have PQn := PksS.keptT PQ AP.kept (NoPk.own RO) (fun y hy => hlo _ (rp_ownO (by simpa using hy)))
   have ROn : Row w5 A5 c5 (m.owed ++ [(p, s)]) := row_app AP.own
   have hwh : ∀ b, A5.map (·.block) = some b → m.Ao.map (·.block) = some b ∨ w.heap.size ≤ b := fun b hb => (AP.where_ b hb).imp id (fun h => Nat.le_trans HK.size h)
   clear f30 a30 AP RO Bg3 PP Bg0 HK BT RQ MR MG PS PQ
   have PP := PPn
   have Bg0 := Bg0n
   have HK := HKn
   have BT := BTn
   have RQ := RQn
   have MR := MRn
   have MG := MGn
   have PS := PSn
   have PQ := PQn
   have RO := ROn
   clear PPn Bg0n HKn BTn RQn MRn MGn PSn PQn ROn
   refine ⟨⟨Bg0, BT⟩, fun f32 => ?_⟩
   refine RB.stop (by kernel_rfl) ?_
   refine  R.take 8 f32 rfl rfl (by decide) (by kernel_rfl) (by kernel_rfl) (by kernel_rfl) (fun _ _ _ _ h => h) wantedN trivial (fun W hW => (E.nilCheck f32 rfl)) fun a33 f33 => ?_
   refine  R.take 9 f33 rfl rfl (by decide) (by kernel_rfl) (by kernel_rfl) (by kernel_rfl) (fun _ _ _ _ h => h) wantedN trivial (fun W hW => (E.fa 4 f33 U56 rfl wsz51_ty)) fun a34 f34 => ?_
   refine R.one 10 (by kernel_rfl) ?_
   refine OT.store f34 rfl wantedN wsz51_ty rfl rfl rfl BT (by (simp [Value.cells]; done)) fun a35 w6 f35 NB6 ks6 => ?_
   have szw6 := ks6.size
   replace PP := PkS.keptT PP ks6 (NoPk.blk BT (by decide)) (by intro y hy; obtain rfl := List.mem_singleton.1 hy; omega)
   replace Bg0 := Bg0.kept ks6 (by simp; omega)
   replace HK := HK.trans ks6 (fun x hx hlt => by obtain rfl := List.mem_singleton.1 hx; exact rp_g)
   replace RQ := own_kept1 RQ ks6 BT (by decide)
   replace MR := IsAss.kept MR ks6 (by simpa using IsAss.ne_blk MR BT)
   replace MG := IsAss.kept MG ks6 (by simpa using IsAss.ne_blk MG BT)
   replace PS := PksS.keptT PS ks6 (NoPk.blk BT (by decide)) (by intro y hy; obtain rfl := List.mem_singleton.1 hy; omega)
   replace PQ := PksS.keptT PQ ks6 (NoPk.blk BT (by decide)) (by intro y hy; obtain rfl := List.mem_singleton.1 hy; omega)
   replace RO := own_kept1 RO ks6 BT (by decide)
   replace BT := NB6
   simp only [Value.cells, z1, z2, z3, Nat.reduceAdd, Nat.zero_add] at BT
   clear f31 a31 f32 a32 f33 a33 ks6 f34 a34
   refine R.done (by kernel_rfl) (C.end0 (fn := Try.f13) f35 rfl ?_)
   rw [inR_pub hg hs42 hs46]
   exact ⟨rfl, { m with owed := m.owed ++ [(p, s)], Ao := A5, co := c5, n := m.n + 1 }, ⟨(by rw [e1, List.map_append]; rfl), e2, (by have e : (m.owed ++ [(p, s)]).length = m.owed.length + 1 := List.length_append; rw [← e] at BT; exact BT), RO, RQ, MR, MG, nof, apart_new oq hwh hQ0, rp_lo hlo hgl (rpO hwh), PksS.app PS (PksS.one PP hL), PQ, (by rw [List.length_append]; exact Nat.succ_le_succ hl1), Nat.le_succ_of_le hl2, Nat.le_succ_of_le hl3, Nat.le_succ_of_le hl4⟩, Nat.le_refl _, HK, rpO hwh⟩
  have hs46 := h7
  refine C.condF f24 rfl ?_
  refine wp_skip (C.end0 (fn := Try.f13) f24 rfl ?_)
  rw [inR_pub0 hg hs42 hs46]
  exact ⟨rfl, m, RR.kept0 HK, by omega, HK.mono0, fun x hx => .inl hx⟩
 have hs42 := h6
 refine C.condF f19 rfl ?_
 obtain ⟨J15, hJ15⟩ : ∃ J : Act → World → Prop, J = fun a W => ∃ bb : Bool, (bb = true → p.kind = 8 ∨ p.kind = 10 ∨ p.kind = 6 ∨ p.kind = 12) ∧ (bb = false → ¬ (p.kind = 8 ∨ p.kind = 10 ∨ p.kind = 6 ∨ p.kind = 12)) ∧ Kept [] w W ∧ PkS B W p s ∧ Blk W g0 34 (p.cells s) ∧ Fr 79 a [(0, .pointer (some ⟨g, 0, none⟩)), (3, .pointer (some ⟨g0, 0, none⟩)), (57, .bool bb), (21, .int .i64 p.kind)] := ⟨_, rfl⟩
 clear f18
 refine C.cut J15 ?_ ?_
 ·skip
  refine C.sk fun K8 hK8 => ?_
  refine L.va f19 (E.eq f19) fun a20 f20 => ?_
  refine L.ag f20 fun a21 f21 => ?_
  refine wpList_nil (hK8 _ _ ?_)
  have f22 := f21.sub (sc 0 (sc 3 (sc 21 (sc 57 sn))))
  clear f19 a17 f20 a20 f21
  refine f22.splitD 57 rfl (fun h8 f23 => ?_) (fun h8 f23 => ?_)
  ·have hs57 := h8
   refine C.condT f23 rfl ?_
   exact wp_skip (jn J15 (by rw [hJ15]; exact ⟨_, (fun h => by (simp at h; omega)), (fun h => by exact absurd h (by decide)), HK, PP, Bg0, f23.sub (sr rfl (sr rfl (sr rfl (sr rfl sn))))⟩))
  have hs57 := h8
  refine C.condF f23 rfl ?_
  refine C.sk fun K9 hK9 => ?_
  refine L.va f23 (E.eq f23) fun a24 f24 => ?_
  refine L.ag f24 fun a25 f25 => ?_
  refine wpList_nil (hK9 _ _ ?_)
  have f26 := f25.sub (sc 0 (sc 3 (sc 21 (sc 57 sn))))
  clear f22 f23 a21 f24 a24 f25
  refine f26.splitD 57 rfl (fun h9 f27 => ?_) (fun h9 f27 => ?_)
  ·have hs57 := h9
   refine C.condT f27 rfl ?_
   exact wp_skip (jn J15 (by rw [hJ15]; exact ⟨_, (fun h => by (simp at h; omega)), (fun h => by exact absurd h (by decide)), HK, PP, Bg0, f27.sub (sr rfl (sr rfl (sr rfl (sr rfl sn))))⟩))
  have hs57 := h9
  refine C.condF f27 rfl ?_
  refine C.sk fun K10 hK10 => ?_
  refine L.va f27 (E.eq f27) fun a28 f28 => ?_
  refine L.ag f28 fun a29 f29 => ?_
  refine wpList_nil (hK10 _ _ ?_)
  have f30 := f29.sub (sc 0 (sc 3 (sc 21 (sc 57 sn))))
  clear f26 f27 a25 f28 a28 f29
  refine f30.splitD 57 rfl (fun h10 f31 => ?_) (fun h10 f31 => ?_)
  ·have hs57 := h10
   refine C.condT f31 rfl ?_
   exact wp_skip (jn J15 (by rw [hJ15]; exact ⟨_, (fun h => by (simp at h; omega)), (fun h => by exact absurd h (by decide)), HK, PP, Bg0, f31.sub (sr rfl (sr rfl (sr rfl (sr rfl sn))))⟩))
  have hs57 := h10
  refine C.condF f31 rfl ?_
  refine C.region ?_
  refine L.va f31 (E.eq f31) fun a32 f32 => ?_
  refine L.ag f32 fun a33 f33 => ?_
  exact wpList_nil (jn J15 (by rw [hJ15]; exact ⟨_, (fun h => by (simp at h; omega)), (fun h => by (simp at h; omega)), HK, PP, Bg0, f33.sub (sr rfl (sr rfl (sr rfl (sr rfl sn))))⟩))
 intro a20 w3 hj
 rw [hJ15] at hj
 clear hJ15 J15
 obtain ⟨bb, hy57, hn57, HK, PP, Bg0, f20⟩ := hj
 try clear f19
 have szc := HK.size
 refine f20.split 57 rfl (fun h11 f21 => ?_) (fun h11 f21 => ?_)
 ·have hs57 := h11
  refine C.condT f21 rfl ?_
  replace Bg0 : Blk w3 g0 34 (p.cells s) := Bg0
  obtain ⟨-, -, BT, RO, RQ, MR, MG, -, -, -, PS, PQ, -⟩ := RR.kept0 HK
  replace HK : Kept (m.fp g) w w3 := HK.mono0
  replace BT : Blk w3 g 56 #[.bool r.clean, .bool r.connect, .bool r.acked, .bool r.over, .slice m.Ao m.owed.length m.co, .slice m.Aq m.out.length m.cq, .map (some m.mr), .map (some m.mg), .bool r.present, .bool r.wish] := BT
  have hd15 : Kept [] w3 (w3.drewN 1) := (Kept.refl _ _).drewN 1
  refine RB.begin (S := fun W => (Blk W g0 34 (p.cells s)) ∧ (Blk W g 56 (rtL r m))) 8 (by kernel_rfl) ⟨Bg0.z hd15, BT.z hd15⟩ ?_
  obtain ⟨w4, hww4⟩ : ∃ W, W = w3.drewN 1 := ⟨_, rfl⟩
  rw [← hww4] at hd15 ⊢
  clear f20 hww4
  have szw4 := hd15.size
  replace PP := PkS.kept0 PP hd15
  replace Bg0 := Bg0.z hd15
  replace HK := HK.z hd15
  replace BT := BT.z hd15
  replace RO := Own.z RO hd15
  replace RQ := Own.z RQ hd15
  replace MR := IsAss.z MR hd15
  replace MG := IsAss.z MG hd15
  replace PS := PksS.kept0 PS hd15
  replace PQ := PksS.kept0 PQ hd15
  clear hd15
  refine RB.tk 0 f21 rfl ⟨Bg0, BT⟩ (fun W hW => (E.move f21 rfl)) fun a22 f22 => ?_
  refine RB.tk 1 f22 rfl ⟨Bg0, BT⟩ (fun W hW => (E.move f22 rfl)) fun a23 f23 => ?_
  refine RB.tk 2 f23 rfl ⟨Bg0, BT⟩ (fun W hW => (E.nilCheck f23 rfl)) fun a24 f24 => ?_
  refine RB.tk 3 f24 rfl ⟨Bg0, BT⟩ (fun W hW => (E.fa 4 f24 U56 rfl wsz51_ty)) fun a25 f25 => ?_
  refine RB.tk 4 f25 rfl ⟨Bg0, BT⟩ (fun W hW => (E.ld f25 U51 (hW.2))) fun a26 f26 => ?_
  refine RB.tk 5 f26 rfl ⟨Bg0, BT⟩ (fun W hW => (E.loadB f26 U34 rfl wsz34_ty rfl (hW.1) rfl)) fun a27 f27 => ?_
  refine RB.one 6 (by kernel_rfl) (by kernel_rfl) ?_
  refine O.buildSlice f27 rfl wantedN (by decide) (parts1 f27 rfl) U51 wzi34_ty rfl rfl (wbs51_1_ty _ _ _ _ _ _ _ _ _ _ _ _ _ _ _ _ _ _ _ _ _ _ _ _) (fun _ hk => ⟨Bg0.z hk, BT.z hk⟩) fun a28 w5 g4 N4 hSn f28 => ?_
  clear f21 a20 f22 a22 f23 a23 f24 a24 f25 a25 f26 a26 hSn
  have Bg4 := N4.blk
  have kg4 := N4.kept
  have log4 := N4.lo
  have ltg4 := Bg4.lt
  have szw5 := kg4.size
  have frg4 : w.heap.size ≤ g4 := Nat.le_trans HK.size log4
  have neg0_g4 : g0 ≠ g4 := by have := Bg0.lt; omega
  have neg_g4 : g ≠ g4 := by have := BT.lt; omega
  replace PP := PkS.kept0 PP kg4
  replace Bg0 := Bg0.z kg4
  replace HK := HK.z kg4
  replace BT := BT.z kg4
  replace RO := Own.z RO kg4
  replace RQ := Own.z RQ kg4
  replace MR := IsAss.z MR kg4
  replace MG := IsAss.z MG kg4
  replace PS := PksS.kept0 PS kg4
  replace PQ := PksS.kept0 PQ kg4
  clear N4 kg4
  refine RB.one 7 (by kernel_rfl) (by kernel_rfl) ?_
  refine O.append f28 rfl wantedN (by decide) U51 wzib34_ty rfl rfl rfl rfl RO (Sl1 p s Bg4) (Pk.one1 p s) (by unfold maxLen; omega) (by omega) fun a29 w6 A6 c6 AP => ?_
  have szw6 := AP.kept.size
  have PPn := PkS.keptT PP AP.kept (NoPk.own RO) (fun y hy => hlo _ (rp_ownO (by simpa using hy)))
  have Bg0n := Bg0.kept AP.kept (new_ne RO hO0 frg0)
  have HKn := HK.trans AP.kept (fun x hx _ => rp_ownO (by simpa using hx))
  have BTn := BT.kept AP.kept (own_ne RO BT (by decide))
  have RQn := Own.kept RQ AP.kept (own_apart oq)
  have MRn := IsAss.kept MR AP.kept (own_ne_map MR RO)
  have MGn := IsAss.kept MG AP.kept (own_ne_map MG RO)
  have PSn := PksS.keptT PS AP.kept (NoPk.own RO) (fun y hy => hlo _ (rp_ownO (by simpa using hy)))
  have PQn := PksS.keptT PQ AP.kept (NoPk.own RO) (fun y hy => hlo _ (rp_ownO (by simpa using hy)))
  have ROn : Row w6 A6 c6 (m.owed ++ [(p, s)]) := row_app AP.own
  have hwh : ∀ b, A6.map (·.block) = some b → m.Ao.map (·.block) = some b ∨ w.heap.size ≤ b := fun b hb => (AP.where_ b hb).imp id (fun h => Nat.le_trans HK.size h)
  clear f27 a27 AP RO Bg4 PP Bg0 HK BT RQ MR MG PS PQ
  have PP := PPn
  have Bg0 := Bg0n
  have HK := HKn
  have BT := BTn
  have RQ := RQn
  have MR := MRn
  have MG := MGn
  have PS := PSn
  have PQ := PQn
  have RO := ROn
  clear PPn Bg0n HKn BTn RQn MRn MGn PSn PQn ROn
  refine ⟨⟨Bg0, BT⟩, fun f29 => ?_⟩
  refine RB.stop (by kernel_rfl) ?_
  refine  R.take 8 f29 rfl rfl (by decide) (by kernel_rfl) (by kernel_rfl) (by kernel_rfl) (fun _ _ _ _ h => h) wantedN trivial (fun W hW => (E.nilCheck f29 rfl)) fun a30 f30 => ?_
  refine  R.take 9 f30 rfl rfl (by decide) (by kernel_rfl) (by kernel_rfl) (by kernel_rfl) (fun _ _ _ _ h => h) wantedN trivial (fun W hW => (E.fa 4 f30 U56 rfl wsz51_ty)) fun a31 f31 => ?_
  refine R.one 10 (by kernel_rfl) ?_
  refine OT.store f31 rfl wantedN wsz51_ty rfl rfl rfl BT (by (simp [Value.cells]; done)) fun a32 w7 f32 NB7 ks7 => ?_
  have szw7 := ks7.size
  replace PP := PkS.keptT PP ks7 (NoPk.blk BT (by decide)) (by intro y hy; obtain rfl := List.mem_singleton.1 hy; omega)
  replace Bg0 := Bg0.kept ks7 (by simp; omega)
  replace HK := HK.trans ks7 (fun x hx hlt => by obtain rfl := List.mem_singleton.1 hx; exact rp_g)
  replace RQ := own_kept1 RQ ks7 BT (by decide)
  replace MR := IsAss.kept MR ks7 (by simpa using IsAss.ne_blk MR BT)
  replace MG := IsAss.kept MG ks7 (by simpa using IsAss.ne_blk MG BT)
  replace PS := PksS.keptT PS ks7 (NoPk.blk BT (by decide)) (by intro y hy; obtain rfl := List.mem_singleton.1 hy; omega)
  replace PQ := PksS.keptT PQ ks7 (NoPk.blk BT (by decide)) (by intro y hy; obtain rfl := List.mem_singleton.1 hy; omega)
  replace RO := own_kept1 RO ks7 BT (by decide)
  replace BT := NB7
  simp only [Value.cells, z1, z2, z3, Nat.reduceAdd, Nat.zero_add] at BT
  clear f28 a28 f29 a29 f30 a30 ks7 f31 a31
  refine R.done (by kernel_rfl) (C.end0 (fn := Try.f13) f32 rfl ?_)
  rw [inR_owe hg (hy57 hs57)]
  exact ⟨rfl, { m with owed := m.owed ++ [(p, s)], Ao := A6, co := c6, n := m.n + 1 }, ⟨(by rw [e1, List.map_append]; rfl), e2, (by have e : (m.owed ++ [(p, s)]).length = m.owed.length + 1 := List.length_append; rw [← e] at BT; exact BT), RO, RQ, MR, MG, nof, apart_new oq hwh hQ0, rp_lo hlo hgl (rpO hwh), PksS.app PS (PksS.one PP hL), PQ, (by rw [List.length_append]; exact Nat.succ_le_succ hl1), Nat.le_succ_of_le hl2, Nat.le_succ_of_le hl3, Nat.le_succ_of_le hl4⟩, Nat.le_refl _, HK, rpO hwh⟩
 have hs57 := h11
 refine C.condF f21 rfl ?_
 obtain ⟨J19, hJ19⟩ : ∃ J : Act → World → Prop, J = fun a W => ∃ bb : Bool, (bb = true → p.kind = 4 ∨ p.kind = 5 ∨ p.kind = 7) ∧ (bb = false → ¬ (p.kind = 4 ∨ p.kind = 5 ∨ p.kind = 7)) ∧ Kept [] w W ∧ PkS B W p s ∧ Blk W g0 34 (p.cells s) ∧ Fr 79 a [(0, .pointer (some ⟨g, 0, none⟩)), (3, .pointer (some ⟨g0, 0, none⟩)), (72, .bool bb)] := ⟨_, rfl⟩
 clear f20
 refine C.cut J19 ?_ ?_
 ·skip
  refine C.sk fun K11 hK11 => ?_
  refine L.va f21 (E.eq f21) fun a22 f22 => ?_
  refine L.ag f22 fun a23 f23 => ?_
  refine wpList_nil (hK11 _ _ ?_)
  have f24 := f23.sub (sc 0 (sc 3 (sc 21 (sc 72 sn))))
  clear f21 a20 f22 a22 f23
  refine f24.splitD 72 rfl (fun h12 f25 => ?_) (fun h12 f25 => ?_)
  ·have hs72 := h12
   refine C.condT f25 rfl ?_
   exact wp_skip (jn J19 (by rw [hJ19]; exact ⟨_, (fun h => by (simp at h; omega)), (fun h => by exact absurd h (by decide)), HK, PP, Bg0, f25.sub (sr rfl (sr rfl (sr rfl sn)))⟩))
  have hs72 := h12
  refine C.condF f25 rfl ?_
  refine C.sk fun K12 hK12 => ?_
  refine L.va f25 (E.eq f25) fun a26 f26 => ?_
  refine L.ag f26 fun a27 f27 => ?_
  refine wpList_nil (hK12 _ _ ?_)
  have f28 := f27.sub (sc 0 (sc 3 (sc 21 (sc 72 sn))))
  clear f24 f25 a23 f26 a26 f27
  refine f28.splitD 72 rfl (fun h13 f29 => ?_) (fun h13 f29 => ?_)
  ·have hs72 := h13
   refine C.condT f29 rfl ?_
   exact wp_skip (jn J19 (by rw [hJ19]; exact ⟨_, (fun h => by (simp at h; omega)), (fun h => by exact absurd h (by decide)), HK, PP, Bg0, f29.sub (sr rfl (sr rfl (sr rfl sn)))⟩))
  have hs72 := h13
  refine C.condF f29 rfl ?_
  refine C.region ?_
  refine L.va f29 (E.eq f29) fun a30 f30 => ?_
  refine L.ag f30 fun a31 f31 => ?_
  exact wpList_nil (jn J19 (by rw [hJ19]; exact ⟨_, (fun h => by (simp at h; omega)), (fun h => by (simp at h; omega)), HK, PP, Bg0, f31.sub (sr rfl (sr rfl (sr rfl sn)))⟩))
 intro a22 w4 hj
 rw [hJ19] at hj
 clear hJ19 J19
 obtain ⟨bb, hy72, hn72, HK, PP, Bg0, f22⟩ := hj
 try clear f21
 have szc := HK.size
 refine f22.split 72 rfl (fun h14 f23 => ?_) (fun h14 f23 => ?_)
 ·have hs72 := h14
  refine C.condT f23 rfl ?_
  refine C.region ?_
  refine L.mv f23 fun a24 f24 => ?_
  refine L.va f24 (E.loadB f24 U34 rfl wsz34_ty rfl (Bg0) rfl) fun a25 f25 => ?_
  refine L.cl f25 (run_call Try.call31 (args2 f25 rfl rfl)) (ackR_any p s hid B g r m _ (RR.kept0 HK) hn (by omega)) ?_
  clear f22 f23 a22 f24 a24
  intro e w5 RP
  obtain ⟨rfl, RP2⟩ := RP
  refine ⟨_, rfl, fun a26 f26 => ?_⟩
  have RP : RtPost B g m w4 (r.ackR p) (.tuple #[]) (.returned (.tuple #[])) w5 := ⟨rfl, RP2⟩
  refine wpList_nil (C.end0 (fn := Try.f13) f26 rfl ?_)
  rw [inR_ack hg (hy72 hs72)]
  exact rt_base HK RP
 have hs72 := h14
 refine C.condF f23 rfl ?_
 refine wp_skip (C.end0 (fn := Try.f13) f23 rfl ?_)
 rw [inR_else hg ⟨by omega, hn57 hs57, hn72 hs72⟩]
 exact ⟨rfl, m, RR.kept0 HK, by omega, HK.mono0, fun x hx => .inl hx⟩
end Go.Proofs.Ytkdeedhjkjffpaa
namespace Go.Hub
open Go.RowKit Go.WideShapes Go.ChangeMaps Go.ChangeShapes Go.MapKept Go.WideElems
open Go.Maps (Keyed)
theorem born_at {es : Array MapEntry} {j : Nat} {e0 : MapEntry} (hn : (es.toList.map (·.born)).Nodup) (h : es.toList[j]? = some e0) : es.findIdx? (fun e => ((e.born : Nat) : Int) == ((e0.born : Nat) : Int)) = some j := by
  rw [findIdx_arr]
  exact findIdx_born hn h
theorem keyed_entry {H : Type} {P : Program} {w : World} {t k e : TypeId} {R : Value → Option (DataW H × List MemPlace)} {b : Nat} {es : Array MapEntry} {clock : Nat} (K : Keyed P k) (ht : P.underlying t = some (.map k e)) {z : Value} (hz : ∀ u : World, (zeroValue e).run P u = .ok z u) (hb : w.heap[b]? = some (.map es clock)) (F : Fit P k R es clock)
    {key : Value} {kl : Lit} (hkey : keyOf P k key = some kl) :
    ∃ (v0 : Value) (st : Nat) (es1 : Array MapEntry) (clock1 : Nat), (Instr.mapEntry t (.map (some b)) key).run P w = .ok (.tuple #[v0, goInt st]) (setBlock w b (.map es1 clock1)) ∧
      ∀ (w2 : World) (val : Value), w2.heap[b]? = some (.map es1 clock1) → ∃ es' clock', (Instr.entryStore t (.map (some b)) (goInt st) val).run P w2 = .ok () (setBlock w2 b (.map es' clock')) ∧
        (Instr.mapUpdate t (.map (some b)) key val).run P w = .ok () (setBlock w b (.map es' clock')) := by
  obtain ⟨s1, s2, _⟩ := F.stamped
  rcases K.find w hkey es.toList F.keys with ⟨h1, h2⟩ | ⟨j, e0, h1, h2, h3⟩
  · refine ⟨z, clock, es.push ⟨key, z, clock⟩, clock + 1, ?_, fun w2 val hw2 => ⟨es.push ⟨key, val, clock⟩, clock + 1, ?_, ?_⟩⟩
    · simp [Instr.mapEntry, run_underlying ht, MapKept.run_getObj_map hb, K.check w false hkey, h1, hz, MapKept.run_setObj_map _ hb, Result.andThen, setBlock]
    · have hidx := born_at (es := es.push ⟨key, z, clock⟩) (j := es.size) (e0 := ⟨key, z, clock⟩) (by
        simp only [Array.toList_push, List.map_append, List.map_cons, List.map_nil]
        refine List.nodup_append.2 ⟨s2, by simp, fun a ha c hc e1 => ?_⟩
        simp only [List.mem_singleton] at hc
        obtain ⟨x, hx, rfl⟩ := List.mem_map.1 ha
        have := s1 x hx
        omega) (by simp)
      have hmod : (es.push ⟨key, z, clock⟩).modify es.size (fun e => { e with val := val }) = es.push ⟨key, val, clock⟩ := by
        apply Array.ext'
        rw [Array.toList_modify, Array.toList_push, Array.toList_push, ← Array.length_toList, modify_last]
      simp [Instr.entryStore, MapKept.run_getObj_map hw2, asInt, asIntOf, goInt, hidx, hmod, MapKept.run_setObj_map _ hw2, Result.andThen, setBlock]
    simp [Instr.mapUpdate, run_underlying ht, MapKept.run_getObj_map hb, K.check w false hkey, h1, MapKept.run_setObj_map _ hb, Result.andThen, setBlock]
  have hj : es[j]? = some e0 := by simpa using h2
  have hsame : es.modify j (fun e => { e with key := key }) = es := by
    apply Array.ext'
    rw [Array.toList_modify, modify_eq_set _ _ _ _ h2]
    have : ({ e0 with key := key } : MapEntry) = e0 := by rw [← h3]
    rw [this]
    exact set_self _ _ _ h2
  refine ⟨e0.val, e0.born, es, clock, ?_, fun w2 val hw2 => ⟨es.modify j (fun e' => { e' with key := key, val := val }), clock, ?_, ?_⟩⟩
  · simp [Instr.mapEntry, run_underlying ht, MapKept.run_getObj_map hb, K.check w false hkey, h1, hj, h3, K.stays w hkey, hsame, MapKept.run_setObj_map _ hb, Result.andThen, setBlock]
  · have hmod : es.modify j (fun e => { e with val := val }) = es.modify j (fun e' => { e' with key := key, val := val }) := by
      apply Array.ext'
      rw [Array.toList_modify, Array.toList_modify, modify_eq_set _ _ _ _ h2, modify_eq_set _ _ _ _ h2, ← h3]
    simp [Instr.entryStore, MapKept.run_getObj_map hw2, asInt, asIntOf, goInt, born_at s2 h2, hmod, MapKept.run_setObj_map _ hw2, Result.andThen, setBlock]
  simp [Instr.mapUpdate, run_underlying ht, MapKept.run_getObj_map hb, K.check w false hkey, h1, hj, h3, K.stays w hkey, MapKept.run_setObj_map _ hb, Result.andThen, setBlock]
section
variable {M : MT} [DecidableEq M.K] {P : Program} {ops : Array Oper} {a : Act} {w w' : World} {Q : Exit → Act → World → Prop} {n d m : Nat} {l : FL} {ty : TypeId} {ps : String} {af : Array Edge} {gd : Option (Nat × Bool)} {x y : Operand} {t : TypeId} {Sw : World → Prop} {K : Act → World → Prop} {E : List (M.K × M.V)}
theorem IsAss.entryK (h : IsAss M P w m E) (ok : M.Ok P) (ht : P.underlying t = some (.map M.k M.e)) {zv : Value} (hz : ∀ w, (zeroValue M.e).run P w = .ok zv w) {key : M.K} (hd : M.dom key) (hE : E.length < maxLen) :
    ∃ v0, ∃ st : Nat, ∃ w', (Instr.mapEntry t (.map (some m)) (M.kv key)).run P w = .ok (.tuple #[v0, goInt st]) w' ∧ Kept [m] w w' ∧ Ent M P t w' m E key st ∧ MapB w' m := by
  have h0 := h
  obtain ⟨hnd, hdm, D, ho, hs, hrest⟩ := h
  obtain ⟨es, clock, hb, F, hsz, hD⟩ := ho
  obtain ⟨v0, st, es1, clock1, hrun, hst⟩ := keyed_entry ok.keyed ht hz hb F (ok.of key hd)
  have hb1 : (setBlock w m (.map es1 clock1)).heap[m]? = some (.map es1 clock1) := heap_setBlock_same hb _
  refine ⟨v0, st, _, hrun, turned_kept ⟨es, clock, es1, clock1, hb, rfl⟩, ⟨(Array.getElem?_eq_some_iff.1 hb1).1, fun w2 u hw2 => ?_⟩, es1, clock1, hb1⟩
  rw [hb1] at hw2
  obtain ⟨es', clock', r1, r2⟩ := hst w2 (M.ev u) hw2
  obtain ⟨w', hput, hass, _⟩ := h0.put ok ht hd u hE
  rw [r2] at hput
  injection hput with _ e
  subst e
  refine ⟨_, r1, hass.of_block ?_, turned_kept ⟨es1, clock1, es', clock', hw2, rfl⟩⟩
  rw [heap_setBlock_same hw2, heap_setBlock_same hb]
theorem O.mapEntryK {q : Nat} (f : Fr n a l) (ho : ops[q]? = some ⟨some d, .mapEntry t x y, ty, ps, af, gd⟩) (hw : Region.wanted ⟨some d, .mapEntry t x y, ty, ps, af, gd⟩ (yielded ops a.tmps) = true) (hn : d < n) (h : IsAss M P w m E) (ok : M.Ok P) (ht : P.underlying t = some (.map M.k M.e)) {zv : Value} (hz : ∀ w, (zeroValue M.e).run P w = .ok zv w) (key : M.K) (hd : M.dom key)
    (hx : evl l x = some (.map (some m))) (hy : evl l y = some (M.kv key)) (hE : E.length < maxLen) (hSw : ∀ w', Kept [m] w w' → Sw w')
    (hK : ∀ a' w' v0 (st : Nat), Ent M P t w' m E key st → MapB w' m → Kept [m] w w' → Fr n a' ((d, .tuple #[v0, .int .i64 (st : Nat)]) :: l) → K a' w') : wpOp P ops Q q (fun a w => Sw w ∧ K a w) a w := by
  obtain ⟨v0, st, w', hrun, r1, r2, r3⟩ := h.entryK ok ht hz hd hE
  exact O.val f ho rfl hn hw (by simp [execOp, f.ev hx, f.ev hy, hrun, goInt]) (hSw w' r1) fun a' f' => hK a' w' v0 st r2 r3 r1 f'
end
end Go.Hub
namespace Go.Proofs.Ytkdeedhjkjffpaa
open Go.RowKit Go.Hub Go.Lib Go.WideShapes Go.ChangeMaps
theorem wzib34_tz : (Try.prog.info? 34).map (fun i => (i.zero, i.size, i.bytes)) = some (some (.agg #[(.int .i64 0), (.bool false), (.bool false), (.int .i64 0), (.int .i64 0), (.string ⟨#[]⟩), (.slice none 0 0), (.int .i64 0), (.string ⟨#[]⟩), (.bool false), (.int .i64 0), (.bool false), (.string ⟨#[]⟩), (.slice none 0 0), (.int .i64 0), (.bool false), (.bool false), (.bool false), (.string ⟨#[]⟩), (.slice none 0 0), (.bool false), (.int .i64 0), (.slice none 0 0), (.slice none 0 0)]), 24, 288) := by kernel_rfl
theorem wzi34_tz : (Try.prog.info? 34).map (fun i => (i.zero, i.size)) = some (some (.agg #[(.int .i64 0), (.bool false), (.bool false), (.int .i64 0), (.int .i64 0), (.string ⟨#[]⟩), (.slice none 0 0), (.int .i64 0), (.string ⟨#[]⟩), (.bool false), (.int .i64 0), (.bool false), (.string ⟨#[]⟩), (.slice none 0 0), (.int .i64 0), (.bool false), (.bool false), (.bool false), (.string ⟨#[]⟩), (.slice none 0 0), (.bool false), (.int .i64 0), (.slice none 0 0), (.slice none 0 0)]), 24) := by kernel_rfl
theorem wbs51_1_tz (x0_0 x0_1 x0_2 x0_3 x0_4 x0_5 x0_6 x0_7 x0_8 x0_9 x0_10 x0_11 x0_12 x0_13 x0_14 x0_15 x0_16 x0_17 x0_18 x0_19 x0_20 x0_21 x0_22 x0_23 : Value) : Instr.fill (fun i => some (i * 24, 24)) ((Array.range (1 * 24)).map fun j => (Value.cells (.agg #[(.int .i64 0), (.bool false), (.bool false), (.int .i64 0), (.int .i64 0), (.string ⟨#[]⟩), (.slice none 0 0), (.int .i64 0), (.string ⟨#[]⟩), (.bool false), (.int .i64 0), (.bool false), (.string ⟨#[]⟩), (.slice none 0 0), (.int .i64 0), (.bool false), (.bool false), (.bool false), (.string ⟨#[]⟩), (.slice none 0 0), (.bool false), (.int .i64 0), (.slice none 0 0), (.slice none 0 0)]))[j % (Value.cells (.agg #[(.int .i64 0), (.bool false), (.bool false), (.int .i64 0), (.int .i64 0), (.string ⟨#[]⟩), (.slice none 0 0), (.int .i64 0), (.string ⟨#[]⟩), (.bool false), (.int .i64 0), (.bool false), (.string ⟨#[]⟩), (.slice none 0 0), (.int .i64 0), (.bool false), (.bool false), (.bool false), (.string ⟨#[]⟩), (.slice none 0 0), (.bool false), (.int .i64 0), (.slice none 0 0), (.slice none 0 0)])).size]!) [(0, .agg #[x0_0, x0_1, x0_2, x0_3, x0_4, x0_5, x0_6, x0_7, x0_8, x0_9, x0_10, x0_11, x0_12, x0_13, x0_14, x0_15, x0_16, x0_17, x0_18, x0_19, x0_20, x0_21, x0_22, x0_23])] = some #[x0_0, x0_1, x0_2, x0_3, x0_4, x0_5, x0_6, x0_7, x0_8, x0_9, x0_10, x0_11, x0_12, x0_13, x0_14, x0_15, x0_16, x0_17, x0_18, x0_19, x0_20, x0_21, x0_22, x0_23] := by kernel_rfl
theorem wsz3_tz : (Try.prog.info? 3).map (·.size) = some 1 := by kernel_rfl
theorem wsz4_tz : (Try.prog.info? 4).map (·.size) = some 1 := by kernel_rfl
theorem wsz31_tz : (Try.prog.info? 31).map (·.size) = some 1 := by kernel_rfl
theorem wsz32_tz : (Try.prog.info? 32).map (·.size) = some 1 := by kernel_rfl
theorem wsz34_tz : (Try.prog.info? 34).map (·.size) = some 24 := by kernel_rfl
theorem wsz46_tz : (Try.prog.info? 46).map (·.size) = some 2 := by kernel_rfl
theorem wsz51_tz : (Try.prog.info? 51).map (·.size) = some 1 := by kernel_rfl
theorem wsz54_tz : (Try.prog.info? 54).map (·.size) = some 1 := by kernel_rfl
theorem wbl34_0_3_4_tz (x0 : Int) (x1 : Int) (x2 : Int) : Try.prog.built 34 [(0, .int .i64 x0), (3, .int .i64 x1), (4, .int .i64 x2)] = some #[.int .i64 x0, (.bool false), (.bool false), .int .i64 x1, .int .i64 x2, (.string ⟨#[]⟩), (.slice none 0 0), (.int .i64 0), (.string ⟨#[]⟩), (.bool false), (.int .i64 0), (.bool false), (.string ⟨#[]⟩), (.slice none 0 0), (.int .i64 0), (.bool false), (.bool false), (.bool false), (.string ⟨#[]⟩), (.slice none 0 0), (.bool false), (.int .i64 0), (.slice none 0 0), (.slice none 0 0)] := by kernel_rfl
theorem sub_cell1T {A : Option Addr} {l : List (ByteArray × Int)} {w : World} (h : Sl w A l.length 2 (subCells l)) {b off i : Nat} {x : ByteArray × Int} (hA : A = some ⟨b, off, none⟩) (hx : l[i]? = some x) : w.cell? ⟨b, off + (i : Int).toNat * 2 + 1, none⟩ = some (.int .i64 x.2) := by
  have := sub_row h hA hx 1 (.int .i64 x.2) rfl
  simpa using this
theorem own_keptB {w w' : World} {mm e size k c : Nat} {A : Option Addr} {xs : List Value} (h : Own w e size (.slice A k c) k xs) (hk : Kept [mm] w w') (b : MapB w mm) : Own w' e size (.slice A k c) k xs := h.kept hk fun b' hb hx => by
  obtain rfl := List.mem_singleton.1 hx
  obtain ⟨_, cs, e1⟩ := h.blk _ hb
  obtain ⟨es, c0, e2⟩ := b
  rw [e1] at e2
  cases e2
theorem NoPk.mapB {w : World} {m : Nat} (h : MapB w m) : NoPk w [m] := fun y hy _ ht => by
  obtain rfl := List.mem_singleton.1 hy
  exact ht.not_map h
theorem ne_mapB {w : World} {m g : Nat} {t : TypeId} {cs : Array Value} (b : Blk w g t cs) (h : MapB w m) : g ∉ [m] := fun e => by
  obtain rfl := List.mem_singleton.1 e
  exact b.not_map h
section
variable {w w' : World} {r : Rt} {p o q : Pk} {B g x k : Nat} {m : RtM}
theorem RtIn.fp_lt (h : RtIn B w g r m) : ∀ x ∈ m.fp g, x < w.heap.size := fun x hx => by
  rcases rp_mem.1 hx with rfl | rfl | rfl | h1 | h1
  · exact h.bt.lt
  · exact IsAss.lt h.mr
  · exact IsAss.lt h.mg
  · exact own_lt h.ro x h1
  exact own_lt h.rq x h1
theorem RtIn.keptN (h : RtIn B w g r m) (hk : Kept [x] w w') (hx : x ∉ m.fp g) (hn : NoPk w [x]) (hb : B ≤ x) : RtIn B w' g r m := by
  have hB : ∀ y ∈ [x], B ≤ y := fun y hy => by obtain rfl := List.mem_singleton.1 hy; exact hb
  exact ⟨h.e1, h.e2, h.bt.kept hk (by simp; rintro rfl; exact hx rp_g), Own.kept h.ro hk (fun b hc hx' => hx (by obtain rfl := List.mem_singleton.1 hx'; exact rp_ownO hc)), Own.kept h.rq hk (fun b hc hx' => hx (by obtain rfl := List.mem_singleton.1 hx'; exact rp_ownQ hc)),
    IsAss.kept h.mr hk (by simp; rintro rfl; exact hx rp_r), IsAss.kept h.mg hk (by simp; rintro rfl; exact hx rp_m), h.nof, h.oq, h.lo, h.ps.keptT hk hn hB, h.pq.keptT hk hn hB, h.len⟩
theorem outR_2 (h : p.kind = 2) : r.outR p = r.conR p := by unfold Rt.outR; rw [if_pos h]
theorem outR_no (h : ¬ p.kind = 2) (ha : r.acked = false) : r.outR p = (false, r) := by unfold Rt.outR; rw [if_neg h, if_pos ha]
theorem outR_go (ha : r.acked = true) (h : ¬ p.kind = 2) : r.outR p = if p.kind = 9 then r.subR p else if p.kind = 11 then r.payR 10 0 p.id else if p.kind = 4 then r.payR 3 1 p.id else if p.kind = 5 then r.payR 3 2 p.id
  else if p.kind = 7 then r.payR 6 0 p.id else if p.kind = 13 then r.payR 12 0 0 else if p.kind = 3 then r.pubR p else if p.kind = 6 then r.relR p else (false, r) := by unfold Rt.outR; rw [if_neg h, if_neg (by rw [ha]; decide)]
theorem outR_9 (ha : r.acked = true) (h : p.kind = 9) : r.outR p = r.subR p := by rw [outR_go ha (by omega), if_pos h]
theorem outR_11 (ha : r.acked = true) (h : p.kind = 11) : r.outR p = r.payR 10 0 p.id := by rw [outR_go ha (by omega), if_neg (by omega), if_pos h]
theorem outR_4 (ha : r.acked = true) (h : p.kind = 4) : r.outR p = r.payR 3 1 p.id := by rw [outR_go ha (by omega), if_neg (by omega), if_neg (by omega), if_pos h]
theorem outR_5 (ha : r.acked = true) (h : p.kind = 5) : r.outR p = r.payR 3 2 p.id := by rw [outR_go ha (by omega), if_neg (by omega), if_neg (by omega), if_neg (by omega), if_pos h]
theorem outR_7 (ha : r.acked = true) (h : p.kind = 7) : r.outR p = r.payR 6 0 p.id := by rw [outR_go ha (by omega), if_neg (by omega), if_neg (by omega), if_neg (by omega), if_neg (by omega), if_pos h]
theorem outR_13 (ha : r.acked = true) (h : p.kind = 13) : r.outR p = r.payR 12 0 0 := by rw [outR_go ha (by omega), if_neg (by omega), if_neg (by omega), if_neg (by omega), if_neg (by omega), if_neg (by omega), if_pos h]
theorem outR_3 (ha : r.acked = true) (h : p.kind = 3) : r.outR p = r.pubR p := by rw [outR_go ha (by omega), if_neg (by omega), if_neg (by omega), if_neg (by omega), if_neg (by omega), if_neg (by omega), if_neg (by omega), if_pos h]
theorem outR_6 (ha : r.acked = true) (h : p.kind = 6) : r.outR p = r.relR p := by rw [outR_go ha (by omega), if_neg (by omega), if_neg (by omega), if_neg (by omega), if_neg (by omega), if_neg (by omega), if_neg (by omega), if_neg (by omega), if_pos h]
theorem outR_n (h : ¬ p.kind = 2) (h2 : ¬ (p.kind = 9 ∨ p.kind = 11 ∨ p.kind = 4 ∨ p.kind = 5 ∨ p.kind = 7 ∨ p.kind = 13 ∨ p.kind = 3 ∨ p.kind = 6)) : r.outR p = (false, r) := by
  by_cases ha : r.acked = true
  · rw [outR_go ha h, if_neg (by omega), if_neg (by omega), if_neg (by omega), if_neg (by omega), if_neg (by omega), if_neg (by omega), if_neg (by omega), if_neg (by omega)]
  exact outR_no h (by simpa using ha)
theorem conR_no (h : r.connect = false ∨ r.acked = true ∨ r.present = true ∨ (p.present = true ∧ (r.clean = true ∨ r.wish = true))) : r.conR p = (false, r) := by unfold Rt.conR; rw [if_pos h]
theorem conR_ok (h : ¬ (r.connect = false ∨ r.acked = true ∨ r.present = true ∨ (p.present = true ∧ (r.clean = true ∨ r.wish = true)))) : r.conR p = (true, { r with acked := decide (p.code = 0), present := true, wish := !p.present }) := by unfold Rt.conR; rw [if_neg h]
theorem subR_none (h : firstL 8 r.owed = none) : r.subR p = (false, r) := by unfold Rt.subR; rw [h]
theorem subR_bad (h : firstL 8 r.owed = some q) (h1 : ¬ q.id = p.id ∨ ¬ (q.subs.length : Int) = p.codes.length) : r.subR p = (false, r) := by
  unfold Rt.subR
  rw [h]
  exact if_pos (h1.elim .inl fun c => .inr (.inl fun e => c (by rw [e])))
theorem subR_code (h : firstL 8 r.owed = some q) (h1 : codesB q.subs p.codes = false) : r.subR p = (false, r) := by
  unfold Rt.subR
  rw [h]
  exact if_pos (.inr (.inr h1))
theorem subR_ok (h : firstL 8 r.owed = some q) (h1 : q.id = p.id) (h2 : q.subs.length = p.codes.length) (h3 : codesB q.subs p.codes = true) : r.subR p = r.payR 8 0 p.id := by
  unfold Rt.subR
  rw [h]
  refine if_neg ?_
  rintro (c | c | c)
  · exact c h1
  · exact c h2
  rw [h3] at c; cases c
theorem drop_cons_at {α : Type} {l : List α} {d : α} (h : l[k]? = some d) : l.drop k = d :: l.drop (k + 1) := by
  obtain ⟨h, e⟩ := List.getElem?_eq_some_iff.1 h
  rw [List.drop_eq_getElem_cons h, e]
theorem codes_go {a : List (ByteArray × Int)} {b : List Int} {d : Int} {d' : ByteArray × Int} (hd : b[k]? = some d) (hd' : a[k]? = some d') (h : d = 128 ∨ d = d'.2) : codesB (a.drop k) (b.drop k) = codesB (a.drop (k + 1)) (b.drop (k + 1)) := by
  rw [drop_cons_at hd, drop_cons_at hd', codesB]
  rcases h with h | h <;> simp [h]
theorem codes_stop {a : List (ByteArray × Int)} {b : List Int} {d : Int} {d' : ByteArray × Int} (hd : b[k]? = some d) (hd' : a[k]? = some d') (h : ¬ d = 128) (h2 : ¬ d = d'.2) : codesB (a.drop k) (b.drop k) = false := by
  rw [drop_cons_at hd, drop_cons_at hd', codesB]
  simp [h, h2]
theorem codes_end {a : List (ByteArray × Int)} {b : List Int} (h : b.length ≤ k) : codesB (a.drop k) (b.drop k) = true := by
  rw [List.drop_eq_nil_of_le h]
  cases a.drop k <;> rfl
theorem relP_ok (i : Int) {W : World} : PkS B W (relP i) s0 := PkO.ok (PkO.zeroR W i)
theorem relP_len (i : Int) : (relP i).Len := len_zeroR i
theorem relR_new (h : atL p.id r.out = none) (hw : r.wish = false) : r.relR p = (true, { r with out := r.out ++ [relP p.id], recd := setL r.recd p.id, gone := setL r.gone p.id }) := by
  unfold Rt.relR
  rw [h]
  exact if_pos hw
theorem relR_no (h : atL p.id r.out = none) (hw : r.wish = true) : r.relR p = (false, r) := by
  unfold Rt.relR
  rw [h]
  exact if_neg (by rw [hw]; decide)
theorem relR_bad (h : atL p.id r.out = some k) (ho : r.out[k]? = some o) (h1 : ¬ o.qos = 2 ∨ isM r.recd p.id = false) : r.relR p = (false, r) := by
  unfold Rt.relR
  rw [h]
  show (match r.out[k]? with | none => (false, r) | some o => _) = _
  rw [ho]
  exact if_pos h1
theorem relR_ok (h : atL p.id r.out = some k) (ho : r.out[k]? = some o) (h1 : o.qos = 2) (h2 : isM r.recd p.id = true) : r.relR p = (true, { r with gone := setL r.gone p.id }) := by
  unfold Rt.relR
  rw [h]
  show (match r.out[k]? with | none => (false, r) | some o => _) = _
  rw [ho]
  refine if_neg ?_
  rintro (c | c)
  · exact c h1
  rw [h2] at c; cases c
end
set_option maxRecDepth 100000 in
set_option maxHeartbeats 8000000 in
theorem outR_any (p : Pk) (s : Ad) (hid : (Lit.int .i64 p.id).wf = true) (B g : Nat) (r : Rt) (m : RtM) (w : World) (RR : RtIn B w g r m) (hn : m.n ≤ 1000000) (hBw : B ≤ w.heap.size) (PP : PkS B w p s) (hL : p.Len) : Calls Try.prog 15 #[.pointer (some ⟨g, 0, none⟩), .agg (p.cells s)] w (fun e w' => RtPost B g m w (r.outR p).2 (.bool (r.outR p).1) e w') := by
 have HK : Kept [] w w := Kept.refl [] w
 have RR0 := RR
 obtain ⟨e1, e2, BT, RO, RQ, MR, MG, nof, oq, hlo, PS, PQ, hl1, hl2, hl3, hl4⟩ := RR0
 have hgl := BT.lt
 have hgr := IsAss.ne_blk MR BT
 have hgm := IsAss.ne_blk MG BT
 have hmr := IsAss.lt MR
 have hmg := IsAss.lt MG
 have hO0 := own_lt RO
 have hQ0 := own_lt RQ
 have hcO := own_cap RO
 have hcQ := own_cap RQ
 have hBg := hlo g rp_g
 have hBr := hlo m.mr rp_r
 have hBm := hlo m.mg rp_m
 clear BT RO RQ MR MG PS PQ
 refine C.enter Try.func15 rfl Try.ntmps15 rfl ?_
 intro a0 f0
 have f1 : Fr 264 a0 [(0, .pointer (some ⟨g, 0, none⟩)), (1, .agg (p.cells s))] := f0
 refine C.sk fun K0 hK0 => ?_
 refine L.box f1 wantedN (by decide) rfl rfl fun a2 w1 g0 N0 f2 => ?_
 have Bg0 := N0.blk
 have kg0 := N0.kept
 have log0 := N0.lo
 have ltg0 := Bg0.lt
 have szw1 := kg0.size
 have frg0 : w.heap.size ≤ g0 := Nat.le_trans HK.size log0
 replace HK := HK.z kg0
 replace PP := PkS.kept0 PP kg0
 clear f0 N0 kg0
 refine L.ag f2 fun a3 f3 => ?_
 refine wpList_nil (hK0 _ _ ?_)
 have f4 := f3.sub (sc 0 (sc 3 sn))
 refine wp_seq_k fun K1 hK1 => ?_
 refine C.sk fun K2 hK2 => ?_
 refine L.fa 0 f4 U34 rfl wsz3_tz fun a5 f5 => ?_
 refine L.ld f5 U3 Bg0 fun a6 f6 => ?_
 refine L.va f6 (E.eq f6) fun a7 f7 => ?_
 refine wpList_nil (hK2 _ _ ?_)
 have f8 := f7.sub (sc 0 (sc 3 (sc 21 sn)))
 clear f1 a0 f2 a2 f3 f4 a3 f5 a5 f6 a6 f7
 refine f8.splitD 21 rfl (fun h0 f9 => ?_) (fun h0 f9 => ?_)
 ·have hs21 := h0
  refine C.condT f9 rfl ?_
  refine wp_seq_k fun K3 hK3 => ?_
  refine C.sk fun K4 hK4 => ?_
  refine L.mv f9 fun a10 f10 => ?_
  refine L.va f10 (E.nilCheck f10 rfl) fun a11 f11 => ?_
  refine L.fa 1 f11 U56 rfl wsz4_tz fun a12 f12 => ?_
  refine L.va f12 (E.load f12 U4 rfl rfl ((RR.kept0 HK).bt.cl rfl)) fun a13 f13 => ?_
  refine L.va f13 (E.not f13 rfl) fun a14 f14 => ?_
  refine L.mv f14 fun a15 f15 => ?_
  clear f8 f9 a7 f10 a10 f11 a11 f12 a12 f13 a13 f14 a14
  refine f15.splitNB 27 rfl (fun h1 f16 => ?_) (fun h1 f16 => ?_)
  ·refine L.run f16 (rest' := []) (by kernel_rfl) fun a17 f17 => ?_
   clear f15
   refine wpList_nil (hK4 _ _ ?_)
   have f18 := f17.sub (scR f17 0 (scR f17 3 (sv 54 (.bool true) sn)))
   refine C.condT f18 rfl ?_
   refine C.sk fun K5 hK5 => ?_
   refine L.ag f18 fun a19 f19 => ?_
   have f20 := f19.sub (sc 4 sn)
   refine wpList_nil (hK5 _ _ (wp_ret ?_)); (try simp only [xt, xb]); refine C.ret f20 rfl rfl ?_
   rw [outR_2 hs21, conR_no (by simp_all)]
   exact ⟨rfl, m, RR.kept0 HK, by omega, HK.mono0, fun x hx => .inl hx⟩
  refine L.mv f16 (hw := (f16.yes rfl rfl)) fun a17 f17 => ?_
  refine L.va f17 (E.nilCheck f17 rfl) (hw := (f17.yes rfl rfl)) fun a18 f18 => ?_
  refine L.fa 2 f18 U56 rfl wsz4_tz (hw := (f18.yes rfl rfl)) fun a19 f19 => ?_
  refine L.va f19 (E.load f19 U4 rfl rfl ((RR.kept0 HK).bt.cl rfl)) (hw := (f19.yes rfl rfl)) fun a20 f20 => ?_
  refine L.va f20 (E.pickF f20 rfl rfl) fun a21 f21 => ?_
  refine L.mv f21 fun a22 f22 => ?_
  clear f15 f16 a15 f17 a17 f18 a18 f19 a19 f20 a20 f21 a21
  refine f22.split 33 rfl (fun h2 f23 => ?_) (fun h2 f23 => ?_)
  ·refine L.run f23 (rest' := []) (by kernel_rfl) fun a24 f24 => ?_
   clear f22
   refine wpList_nil (hK4 _ _ ?_)
   have f25 := f24.sub (scR f24 0 (scR f24 3 (sv 54 (.bool true) sn)))
   refine C.condT f25 rfl ?_
   refine C.sk fun K6 hK6 => ?_
   refine L.ag f25 fun a26 f26 => ?_
   have f27 := f26.sub (sc 4 sn)
   refine wpList_nil (hK6 _ _ (wp_ret ?_)); (try simp only [xt, xb]); refine C.ret f27 rfl rfl ?_
   rw [outR_2 hs21, conR_no (by simp_all)]
   exact ⟨rfl, m, RR.kept0 HK, by omega, HK.mono0, fun x hx => .inl hx⟩
  refine L.mv f23 (hw := (f23.yes rfl rfl)) fun a24 f24 => ?_
  refine L.va f24 (E.nilCheck f24 rfl) (hw := (f24.yes rfl rfl)) fun a25 f25 => ?_
  refine L.fa 8 f25 U56 rfl wsz4_tz (hw := (f25.yes rfl rfl)) fun a26 f26 => ?_
  refine L.va f26 (E.load f26 U4 rfl rfl ((RR.kept0 HK).bt.cl rfl)) (hw := (f26.yes rfl rfl)) fun a27 f27 => ?_
  refine L.va f27 (E.pickF f27 rfl rfl) fun a28 f28 => ?_
  refine L.mv f28 fun a29 f29 => ?_
  clear f22 f23 a22 f24 a24 f25 a25 f26 a26 f27 a27 f28 a28
  refine f29.split 39 rfl (fun h3 f30 => ?_) (fun h3 f30 => ?_)
  ·refine L.run f30 (rest' := []) (by kernel_rfl) fun a31 f31 => ?_
   clear f29
   refine wpList_nil (hK4 _ _ ?_)
   have f32 := f31.sub (scR f31 0 (scR f31 3 (sv 54 (.bool true) sn)))
   refine C.condT f32 rfl ?_
   refine C.sk fun K7 hK7 => ?_
   refine L.ag f32 fun a33 f33 => ?_
   have f34 := f33.sub (sc 4 sn)
   refine wpList_nil (hK7 _ _ (wp_ret ?_)); (try simp only [xt, xb]); refine C.ret f34 rfl rfl ?_
   rw [outR_2 hs21, conR_no (by simp_all)]
   exact ⟨rfl, m, RR.kept0 HK, by omega, HK.mono0, fun x hx => .inl hx⟩
  refine L.fa 20 f30 U34 rfl wsz4_tz (hw := (f30.yes rfl rfl)) fun a31 f31 => ?_
  refine L.ld f31 U4 Bg0 (hw := (f31.yes rfl rfl)) fun a32 f32 => ?_
  refine L.mv f32 (hw := (f32.yes rfl rfl)) fun a33 f33 => ?_
  clear f29 f30 a29 f31 a31 f32 a32
  refine f33.split 42 rfl (fun h4 f34 => ?_) (fun h4 f34 => ?_)
  ·refine L.mv f34 (hw := (f34.yes rfl rfl)) fun a35 f35 => ?_
   refine L.va f35 (E.nilCheck f35 rfl) (hw := (f35.yes rfl rfl)) fun a36 f36 => ?_
   refine L.fa 0 f36 U56 rfl wsz4_tz (hw := (f36.yes rfl rfl)) fun a37 f37 => ?_
   refine L.va f37 (E.load f37 U4 rfl rfl ((RR.kept0 HK).bt.cl rfl)) (hw := (f37.yes rfl rfl)) fun a38 f38 => ?_
   refine L.mv f38 (hw := (f38.yes rfl rfl)) fun a39 f39 => ?_
   clear f33 f34 a33 f35 a35 f36 a36 f37 a37 f38 a38
   refine f39.split 47 rfl (fun h5 f40 => ?_) (fun h5 f40 => ?_)
   ·refine L.run f40 (rest' := []) (by kernel_rfl) fun a41 f41 => ?_
    clear f39
    refine wpList_nil (hK4 _ _ ?_)
    have f42 := f41.sub (scR f41 0 (scR f41 3 (sv 54 (.bool true) sn)))
    refine C.condT f42 rfl ?_
    refine C.sk fun K8 hK8 => ?_
    refine L.ag f42 fun a43 f43 => ?_
    have f44 := f43.sub (sc 4 sn)
    refine wpList_nil (hK8 _ _ (wp_ret ?_)); (try simp only [xt, xb]); refine C.ret f44 rfl rfl ?_
    rw [outR_2 hs21, conR_no (by simp_all)]
    exact ⟨rfl, m, RR.kept0 HK, by omega, HK.mono0, fun x hx => .inl hx⟩
   refine L.mv f40 (hw := (f40.yes rfl rfl)) fun a41 f41 => ?_
   refine L.va f41 (E.nilCheck f41 rfl) (hw := (f41.yes rfl rfl)) fun a42 f42 => ?_
   refine L.fa 9 f42 U56 rfl wsz4_tz (hw := (f42.yes rfl rfl)) fun a43 f43 => ?_
   refine L.va f43 (E.load f43 U4 rfl rfl ((RR.kept0 HK).bt.cl rfl)) (hw := (f43.yes rfl rfl)) fun a44 f44 => ?_
   refine L.va f44 (E.pickF f44 rfl rfl) (hw := (f44.yes rfl rfl)) fun a45 f45 => ?_
   refine L.va f45 (E.pickT f45 rfl rfl) (hw := (f45.yes rfl rfl)) fun a46 f46 => ?_
   refine L.va f46 (E.pickF f46 rfl rfl) fun a47 f47 => ?_
   clear f39 f40 a39 f41 a41 f42 a42 f43 a43 f44 a44 f45 a45 f46 a46
   refine wpList_nil (hK4 _ _ ?_)
   have f48 := f47.sub (sc 0 (sc 3 (sc 54 sn)))
   clear f47
   refine f48.split 54 rfl (fun h6 f49 => ?_) (fun h6 f49 => ?_)
   ·refine C.condT f49 rfl ?_
    refine C.sk fun K9 hK9 => ?_
    refine L.ag f49 fun a50 f50 => ?_
    have f51 := f50.sub (sc 4 sn)
    refine wpList_nil (hK9 _ _ (wp_ret ?_)); (try simp only [xt, xb]); refine C.ret f51 rfl rfl ?_
    rw [outR_2 hs21, conR_no (by simp_all)]
    exact ⟨rfl, m, RR.kept0 HK, by omega, HK.mono0, fun x hx => .inl hx⟩
   refine C.condF f49 rfl ?_
   refine wp_skip (hK3 _ _ ?_)
   have f50 := f49.sub (sc 0 (sc 3 sn))
   refine wp_seq_k fun K10 hK10 => ?_
   replace Bg0 : Blk w1 g0 34 (p.cells s) := Bg0
   obtain ⟨-, -, BT, RO, RQ, MR, MG, -, -, -, PS, PQ, -⟩ := RR.kept0 HK
   replace HK : Kept (m.fp g) w w1 := HK.mono0
   replace BT : Blk w1 g 56 #[.bool r.clean, .bool r.connect, .bool r.acked, .bool r.over, .slice m.Ao m.owed.length m.co, .slice m.Aq m.out.length m.cq, .map (some m.mr), .map (some m.mg), .bool r.present, .bool r.wish] := BT
   refine C.region ?_
   refine L.mv f50 fun a51 f51 => ?_
   refine L.mv f51 fun a52 f52 => ?_
   refine L.fa 21 f52 U34 rfl wsz3_tz fun a53 f53 => ?_
   refine L.ld f53 U3 Bg0 fun a54 f54 => ?_
   refine L.va f54 (E.eq f54) fun a55 f55 => ?_
   refine L.va f55 (E.nilCheck f55 rfl) fun a56 f56 => ?_
   clear f48 f49 f50 a47 f51 a51 f52 a52 f53 a53 f54 a54 f55 a55
   refine L.fa 2 f56 U56 rfl wsz4_tz fun a57 f57 => ?_
   refine L.store f57 wantedN wsz4_tz rfl rfl rfl BT (by (simp [Value.cells]; done)) fun a58 w2 f58 NB2 ks2 => ?_
   have szw2 := ks2.size
   replace Bg0 := Bg0.kept ks2 (by simp; omega)
   replace HK := HK.trans ks2 (fun x hx hlt => by obtain rfl := List.mem_singleton.1 hx; exact rp_g)
   replace RO := own_kept1 RO ks2 BT (by decide)
   replace RQ := own_kept1 RQ ks2 BT (by decide)
   replace MR := IsAss.kept MR ks2 (by simpa using IsAss.ne_blk MR BT)
   replace MG := IsAss.kept MG ks2 (by simpa using IsAss.ne_blk MG BT)
   replace PS := PksS.keptT PS ks2 (NoPk.blk BT (by decide)) (by intro y hy; obtain rfl := List.mem_singleton.1 hy; omega)
   replace PQ := PksS.keptT PQ ks2 (NoPk.blk BT (by decide)) (by intro y hy; obtain rfl := List.mem_singleton.1 hy; omega)
   replace BT := NB2
   simp only [Value.cells, z1, z2, z3, Nat.reduceAdd, Nat.zero_add] at BT
   clear f56 a56 ks2 f57 a57
   refine L.va f58 (E.nilCheck f58 rfl) fun a59 f59 => ?_
   refine L.fa 8 f59 U56 rfl wsz4_tz fun a60 f60 => ?_
   refine L.store f60 wantedN wsz4_tz rfl rfl rfl BT (by (simp [Value.cells]; done)) fun a61 w3 f61 NB3 ks3 => ?_
   have szw3 := ks3.size
   replace Bg0 := Bg0.kept ks3 (by simp; omega)
   replace HK := HK.trans ks3 (fun x hx hlt => by obtain rfl := List.mem_singleton.1 hx; exact rp_g)
   replace RO := own_kept1 RO ks3 BT (by decide)
   replace RQ := own_kept1 RQ ks3 BT (by decide)
   replace MR := IsAss.kept MR ks3 (by simpa using IsAss.ne_blk MR BT)
   replace MG := IsAss.kept MG ks3 (by simpa using IsAss.ne_blk MG BT)
   replace PS := PksS.keptT PS ks3 (NoPk.blk BT (by decide)) (by intro y hy; obtain rfl := List.mem_singleton.1 hy; omega)
   replace PQ := PksS.keptT PQ ks3 (NoPk.blk BT (by decide)) (by intro y hy; obtain rfl := List.mem_singleton.1 hy; omega)
   replace BT := NB3
   simp only [Value.cells, z1, z2, z3, Nat.reduceAdd, Nat.zero_add] at BT
   clear f58 a58 f59 a59 ks3 f60 a60
   refine wpList_nil (hK10 _ _ ?_)
   have f62 := f61.sub (sc 0 (sc 3 sn))
   refine wp_seq_k fun K11 hK11 => ?_
   refine C.sk fun K12 hK12 => ?_
   refine L.fa 20 f62 U34 rfl wsz4_tz fun a63 f63 => ?_
   refine L.ld f63 U4 Bg0 fun a64 f64 => ?_
   refine wpList_nil (hK12 _ _ ?_)
   have f65 := f64.sub (sc 0 (sc 65 sn))
   clear f61 f62 a61 f63 a63 f64
   refine f65.split 65 rfl (fun h7 f66 => ?_) (fun h7 f66 => ?_)
   ·have hs65 := h7
    refine C.condT f66 rfl ?_
    refine C.region ?_
    refine L.mv f66 fun a67 f67 => ?_
    refine L.va f67 (E.nilCheck f67 rfl) fun a68 f68 => ?_
    refine L.fa 9 f68 U56 rfl wsz4_tz fun a69 f69 => ?_
    refine L.store f69 wantedN wsz4_tz rfl rfl rfl BT (by (simp [Value.cells]; done)) fun a70 w4 f70 NB4 ks4 => ?_
    have szw4 := ks4.size
    replace Bg0 := Bg0.kept ks4 (by simp; omega)
    replace HK := HK.trans ks4 (fun x hx hlt => by obtain rfl := List.mem_singleton.1 hx; exact rp_g)
    replace RO := own_kept1 RO ks4 BT (by decide)
    replace RQ := own_kept1 RQ ks4 BT (by decide)
    replace MR := IsAss.kept MR ks4 (by simpa using IsAss.ne_blk MR BT)
    replace MG := IsAss.kept MG ks4 (by simpa using IsAss.ne_blk MG BT)
    replace PS := PksS.keptT PS ks4 (NoPk.blk BT (by decide)) (by intro y hy; obtain rfl := List.mem_singleton.1 hy; omega)
    replace PQ := PksS.keptT PQ ks4 (NoPk.blk BT (by decide)) (by intro y hy; obtain rfl := List.mem_singleton.1 hy; omega)
    replace BT := NB4
    simp only [Value.cells, z1, z2, z3, Nat.reduceAdd, Nat.zero_add] at BT
    clear f65 f66 a64 f67 a67 f68 a68 ks4 f69 a69
    have f71 := f70.sub sn
    refine wpList_nil (hK11 _ _ (C.sk fun K13 hK13 => ?_))
    refine L.ag f71 fun a72 f72 => ?_
    have f73 := f72.sub (sc 4 sn)
    refine wpList_nil (hK13 _ _ (wp_ret ?_)); (try simp only [xt, xb]); refine C.ret f73 rfl rfl ?_
    rw [outR_2 hs21, conR_ok (by simp_all)]
    have e0 : (!p.present) = false := by rw [hs65]; rfl
    rw [e0]
    exact ⟨rfl, m, ⟨e1, e2, BT, RO, RQ, MR, MG, nof, oq, hlo, PS, PQ, hl1, hl2, hl3, hl4⟩, Nat.le_succ _, HK, fun x hx => .inl hx⟩
   have hs65 := h7
   refine C.condF f66 rfl ?_
   refine C.region ?_
   refine L.mv f66 fun a67 f67 => ?_
   refine L.va f67 (E.nilCheck f67 rfl) fun a68 f68 => ?_
   refine L.fa 9 f68 U56 rfl wsz4_tz fun a69 f69 => ?_
   refine L.store f69 wantedN wsz4_tz rfl rfl rfl BT (by (simp [Value.cells]; done)) fun a70 w4 f70 NB4 ks4 => ?_
   have szw4 := ks4.size
   replace Bg0 := Bg0.kept ks4 (by simp; omega)
   replace HK := HK.trans ks4 (fun x hx hlt => by obtain rfl := List.mem_singleton.1 hx; exact rp_g)
   replace RO := own_kept1 RO ks4 BT (by decide)
   replace RQ := own_kept1 RQ ks4 BT (by decide)
   replace MR := IsAss.kept MR ks4 (by simpa using IsAss.ne_blk MR BT)
   replace MG := IsAss.kept MG ks4 (by simpa using IsAss.ne_blk MG BT)
   replace PS := PksS.keptT PS ks4 (NoPk.blk BT (by decide)) (by intro y hy; obtain rfl := List.mem_singleton.1 hy; omega)
   replace PQ := PksS.keptT PQ ks4 (NoPk.blk BT (by decide)) (by intro y hy; obtain rfl := List.mem_singleton.1 hy; omega)
   replace BT := NB4
   simp only [Value.cells, z1, z2, z3, Nat.reduceAdd, Nat.zero_add] at BT
   clear f65 f66 a64 f67 a67 f68 a68 ks4 f69 a69
   have f71 := f70.sub sn
   refine wpList_nil (hK11 _ _ (C.sk fun K14 hK14 => ?_))
   refine L.ag f71 fun a72 f72 => ?_
   have f73 := f72.sub (sc 4 sn)
   refine wpList_nil (hK14 _ _ (wp_ret ?_)); (try simp only [xt, xb]); refine C.ret f73 rfl rfl ?_
   rw [outR_2 hs21, conR_ok (by simp_all)]
   have e0 : (!p.present) = true := by simp [hs65]
   rw [e0]
   exact ⟨rfl, m, ⟨e1, e2, BT, RO, RQ, MR, MG, nof, oq, hlo, PS, PQ, hl1, hl2, hl3, hl4⟩, Nat.le_succ _, HK, fun x hx => .inl hx⟩
  refine L.run f34 (rest' := []) (by kernel_rfl) fun a35 f35 => ?_
  clear f33
  refine wpList_nil (hK4 _ _ ?_)
  have f36 := f35.sub (scR f35 0 (scR f35 3 (sv 54 (.bool false) sn)))
  refine C.condF f36 rfl ?_
  refine wp_skip (hK3 _ _ ?_)
  have f37 := f36.sub (sc 0 (sc 3 sn))
  refine wp_seq_k fun K15 hK15 => ?_
  replace Bg0 : Blk w1 g0 34 (p.cells s) := Bg0
  obtain ⟨-, -, BT, RO, RQ, MR, MG, -, -, -, PS, PQ, -⟩ := RR.kept0 HK
  replace HK : Kept (m.fp g) w w1 := HK.mono0
  replace BT : Blk w1 g 56 #[.bool r.clean, .bool r.connect, .bool r.acked, .bool r.over, .slice m.Ao m.owed.length m.co, .slice m.Aq m.out.length m.cq, .map (some m.mr), .map (some m.mg), .bool r.present, .bool r.wish] := BT
  refine C.region ?_
  refine L.mv f37 fun a38 f38 => ?_
  refine L.mv f38 fun a39 f39 => ?_
  refine L.fa 21 f39 U34 rfl wsz3_tz fun a40 f40 => ?_
  refine L.ld f40 U3 Bg0 fun a41 f41 => ?_
  refine L.va f41 (E.eq f41) fun a42 f42 => ?_
  refine L.va f42 (E.nilCheck f42 rfl) fun a43 f43 => ?_
  clear f35 f34 f36 f37 a35 f38 a38 f39 a39 f40 a40 f41 a41 f42 a42
  refine L.fa 2 f43 U56 rfl wsz4_tz fun a44 f44 => ?_
  refine L.store f44 wantedN wsz4_tz rfl rfl rfl BT (by (simp [Value.cells]; done)) fun a45 w2 f45 NB2 ks2 => ?_
  have szw2 := ks2.size
  replace Bg0 := Bg0.kept ks2 (by simp; omega)
  replace HK := HK.trans ks2 (fun x hx hlt => by obtain rfl := List.mem_singleton.1 hx; exact rp_g)
  replace RO := own_kept1 RO ks2 BT (by decide)
  replace RQ := own_kept1 RQ ks2 BT (by decide)
  replace MR := IsAss.kept MR ks2 (by simpa using IsAss.ne_blk MR BT)
  replace MG := IsAss.kept MG ks2 (by simpa using IsAss.ne_blk MG BT)
  replace PS := PksS.keptT PS ks2 (NoPk.blk BT (by decide)) (by intro y hy; obtain rfl := List.mem_singleton.1 hy; omega)
  replace PQ := PksS.keptT PQ ks2 (NoPk.blk BT (by decide)) (by intro y hy; obtain rfl := List.mem_singleton.1 hy; omega)
  replace BT := NB2
  simp only [Value.cells, z1, z2, z3, Nat.reduceAdd, Nat.zero_add] at BT
  clear f43 a43 ks2 f44 a44
  refine L.va f45 (E.nilCheck f45 rfl) fun a46 f46 => ?_
  refine L.fa 8 f46 U56 rfl wsz4_tz fun a47 f47 => ?_
  refine L.store f47 wantedN wsz4_tz rfl rfl rfl BT (by (simp [Value.cells]; done)) fun a48 w3 f48 NB3 ks3 => ?_
  have szw3 := ks3.size
  replace Bg0 := Bg0.kept ks3 (by simp; omega)
  replace HK := HK.trans ks3 (fun x hx hlt => by obtain rfl := List.mem_singleton.1 hx; exact rp_g)
  replace RO := own_kept1 RO ks3 BT (by decide)
  replace RQ := own_kept1 RQ ks3 BT (by decide)
  replace MR := IsAss.kept MR ks3 (by simpa using IsAss.ne_blk MR BT)
  replace MG := IsAss.kept MG ks3 (by simpa using IsAss.ne_blk MG BT)
  replace PS := PksS.keptT PS ks3 (NoPk.blk BT (by decide)) (by intro y hy; obtain rfl := List.mem_singleton.1 hy; omega)
  replace PQ := PksS.keptT PQ ks3 (NoPk.blk BT (by decide)) (by intro y hy; obtain rfl := List.mem_singleton.1 hy; omega)
  replace BT := NB3
  simp only [Value.cells, z1, z2, z3, Nat.reduceAdd, Nat.zero_add] at BT
  clear f45 a45 f46 a46 ks3 f47 a47
  refine wpList_nil (hK15 _ _ ?_)
  have f49 := f48.sub (sc 0 (sc 3 sn))
  refine wp_seq_k fun K16 hK16 => ?_
  refine C.sk fun K17 hK17 => ?_
  refine L.fa 20 f49 U34 rfl wsz4_tz fun a50 f50 => ?_
  refine L.ld f50 U4 Bg0 fun a51 f51 => ?_
  refine wpList_nil (hK17 _ _ ?_)
  have f52 := f51.sub (sc 0 (sc 65 sn))
  clear f48 f49 a48 f50 a50 f51
  refine f52.split 65 rfl (fun h8 f53 => ?_) (fun h8 f53 => ?_)
  ·have hs65 := h8
   refine C.condT f53 rfl ?_
   refine C.region ?_
   refine L.mv f53 fun a54 f54 => ?_
   refine L.va f54 (E.nilCheck f54 rfl) fun a55 f55 => ?_
   refine L.fa 9 f55 U56 rfl wsz4_tz fun a56 f56 => ?_
   refine L.store f56 wantedN wsz4_tz rfl rfl rfl BT (by (simp [Value.cells]; done)) fun a57 w4 f57 NB4 ks4 => ?_
   have szw4 := ks4.size
   replace Bg0 := Bg0.kept ks4 (by simp; omega)
   replace HK := HK.trans ks4 (fun x hx hlt => by obtain rfl := List.mem_singleton.1 hx; exact rp_g)
   replace RO := own_kept1 RO ks4 BT (by decide)
   replace RQ := own_kept1 RQ ks4 BT (by decide)
   replace MR := IsAss.kept MR ks4 (by simpa using IsAss.ne_blk MR BT)
   replace MG := IsAss.kept MG ks4 (by simpa using IsAss.ne_blk MG BT)
   replace PS := PksS.keptT PS ks4 (NoPk.blk BT (by decide)) (by intro y hy; obtain rfl := List.mem_singleton.1 hy; omega)
   replace PQ := PksS.keptT PQ ks4 (NoPk.blk BT (by decide)) (by intro y hy; obtain rfl := List.mem_singleton.1 hy; omega)
   replace BT := NB4
   simp only [Value.cells, z1, z2, z3, Nat.reduceAdd, Nat.zero_add] at BT
   clear f52 f53 a51 f54 a54 f55 a55 ks4 f56 a56
   have f58 := f57.sub sn
   refine wpList_nil (hK16 _ _ (C.sk fun K18 hK18 => ?_))
   refine L.ag f58 fun a59 f59 => ?_
   have f60 := f59.sub (sc 4 sn)
   refine wpList_nil (hK18 _ _ (wp_ret ?_)); (try simp only [xt, xb]); refine C.ret f60 rfl rfl ?_
   rw [outR_2 hs21, conR_ok (by simp_all)]
   have e0 : (!p.present) = false := by rw [hs65]; rfl
   rw [e0]
   exact ⟨rfl, m, ⟨e1, e2, BT, RO, RQ, MR, MG, nof, oq, hlo, PS, PQ, hl1, hl2, hl3, hl4⟩, Nat.le_succ _, HK, fun x hx => .inl hx⟩
  have hs65 := h8
  refine C.condF f53 rfl ?_
  refine C.region ?_
  refine L.mv f53 fun a54 f54 => ?_
  refine L.va f54 (E.nilCheck f54 rfl) fun a55 f55 => ?_
  refine L.fa 9 f55 U56 rfl wsz4_tz fun a56 f56 => ?_
  refine L.store f56 wantedN wsz4_tz rfl rfl rfl BT (by (simp [Value.cells]; done)) fun a57 w4 f57 NB4 ks4 => ?_
  have szw4 := ks4.size
  replace Bg0 := Bg0.kept ks4 (by simp; omega)
  replace HK := HK.trans ks4 (fun x hx hlt => by obtain rfl := List.mem_singleton.1 hx; exact rp_g)
  replace RO := own_kept1 RO ks4 BT (by decide)
  replace RQ := own_kept1 RQ ks4 BT (by decide)
  replace MR := IsAss.kept MR ks4 (by simpa using IsAss.ne_blk MR BT)
  replace MG := IsAss.kept MG ks4 (by simpa using IsAss.ne_blk MG BT)
  replace PS := PksS.keptT PS ks4 (NoPk.blk BT (by decide)) (by intro y hy; obtain rfl := List.mem_singleton.1 hy; omega)
  replace PQ := PksS.keptT PQ ks4 (NoPk.blk BT (by decide)) (by intro y hy; obtain rfl := List.mem_singleton.1 hy; omega)
  replace BT := NB4
  simp only [Value.cells, z1, z2, z3, Nat.reduceAdd, Nat.zero_add] at BT
  clear f52 f53 a51 f54 a54 f55 a55 ks4 f56 a56
  have f58 := f57.sub sn
  refine wpList_nil (hK16 _ _ (C.sk fun K19 hK19 => ?_))
  refine L.ag f58 fun a59 f59 => ?_
  have f60 := f59.sub (sc 4 sn)
  refine wpList_nil (hK19 _ _ (wp_ret ?_)); (try simp only [xt, xb]); refine C.ret f60 rfl rfl ?_
  rw [outR_2 hs21, conR_ok (by simp_all)]
  have e0 : (!p.present) = true := by simp [hs65]
  rw [e0]
  exact ⟨rfl, m, ⟨e1, e2, BT, RO, RQ, MR, MG, nof, oq, hlo, PS, PQ, hl1, hl2, hl3, hl4⟩, Nat.le_succ _, HK, fun x hx => .inl hx⟩
 have hs21 := h0
 refine C.condF f9 rfl ?_
 refine wp_skip (hK1 _ _ ?_)
 have f10 := f9.sub (sc 0 (sc 3 sn))
 refine wp_seq_k fun K20 hK20 => ?_
 refine C.sk fun K21 hK21 => ?_
 refine L.mv f10 fun a11 f11 => ?_
 refine L.va f11 (E.nilCheck f11 rfl) fun a12 f12 => ?_
 refine L.fa 2 f12 U56 rfl wsz4_tz fun a13 f13 => ?_
 refine L.va f13 (E.load f13 U4 rfl rfl ((RR.kept0 HK).bt.cl rfl)) fun a14 f14 => ?_
 refine L.va f14 (E.not f14 rfl) fun a15 f15 => ?_
 refine wpList_nil (hK21 _ _ ?_)
 have f16 := f15.sub (sc 0 (sc 3 (sc 76 sn)))
 clear f8 f9 f10 a7 f11 a11 f12 a12 f13 a13 f14 a14 f15
 refine f16.splitNB 76 rfl (fun h9 f17 => ?_) (fun h9 f17 => ?_)
 ·have hs76 := h9
  refine C.condT f17 rfl ?_
  refine C.sk fun K22 hK22 => ?_
  refine L.ag f17 fun a18 f18 => ?_
  have f19 := f18.sub (sc 4 sn)
  refine wpList_nil (hK22 _ _ (wp_ret ?_)); (try simp only [xt, xb]); refine C.ret f19 rfl rfl ?_
  rw [outR_no hs21 (by simpa using hs76)]
  exact ⟨rfl, m, RR.kept0 HK, by omega, HK.mono0, fun x hx => .inl hx⟩
 have hs76 := h9
 refine C.condF f17 rfl ?_
 refine wp_skip (hK20 _ _ ?_)
 have f18 := f17.sub (sc 0 (sc 3 sn))
 refine wp_seq_k fun K23 hK23 => ?_
 refine C.sk fun K24 hK24 => ?_
 refine L.fa 0 f18 U34 rfl wsz3_tz fun a19 f19 => ?_
 refine L.ld f19 U3 Bg0 fun a20 f20 => ?_
 refine wpList_nil (hK24 _ _ ?_)
 have f21 := f20.sub (sc 0 (sc 3 (sc 78 sn)))
 refine wp_block ?_
 refine C.sk fun K25 hK25 => ?_
 refine L.va f21 (E.eq f21) fun a22 f22 => ?_
 refine L.ag f22 fun a23 f23 => ?_
 refine wpList_nil (hK25 _ _ ?_)
 have f24 := f23.sub (sc 0 (sc 3 (sc 78 (sc 79 sn))))
 clear f16 f17 f18 a15 f19 a19 f20 f21 a20 f22 a22 f23
 refine f24.splitD 79 rfl (fun h10 f25 => ?_) (fun h10 f25 => ?_)
 ·have hs79 := h10
  refine C.condT f25 rfl ?_
  refine C.sk fun K26 hK26 => ?_
  refine L.mv f25 fun a26 f26 => ?_
  refine L.cl f26 (run_call Try.call39 (args2 f26 rfl rfl)) (first_any 8 B g r m _ (RR.kept0 HK) hn) ?_
  clear f24 f25 a23
  rintro e w2 ⟨kc2, q, s1, rfl, hfi⟩
  refine ⟨_, rfl, fun a27 f27 => ?_⟩
  have szw2 := kc2.size
  replace HK := HK.z kc2
  replace PP := PkS.kept0 PP kc2
  replace Bg0 := Bg0.z kc2
  clear f26 a26 kc2
  refine L.mv f27 fun a28 f28 => ?_
  refine L.va f28 (E.extract f28 rfl rfl) fun a29 f29 => ?_
  refine L.va f29 (E.extract f29 rfl rfl) fun a30 f30 => ?_
  refine L.alloc f30 wantedN (by decide) (z := z34) (fun _ => by kernel_rfl) rfl fun a31 w3 g2 N2 f31 => ?_
  have Bg2 := N2.blk
  have kg2 := N2.kept
  have log2 := N2.lo
  have ltg2 := Bg2.lt
  have szw3 := kg2.size
  have frg2 : w.heap.size ≤ g2 := Nat.le_trans HK.size log2
  have neg0_g2 : g0 ≠ g2 := by have := Bg0.lt; omega
  replace HK := HK.z kg2
  replace PP := PkS.kept0 PP kg2
  replace Bg0 := Bg0.z kg2
  clear f27 a27 f28 a28 f29 a29 N2 kg2
  refine L.storeR f31 wantedN wsz34_tz rfl rfl rfl Bg2 rfl rfl fun a32 w4 f32 NB4 ks4 => ?_
  have szw4 := ks4.size
  replace HK := HK.trans ks4 (ktr (by omega))
  replace PP := PkS.keptT PP ks4 (NoPk.blk Bg2 (by decide)) (by intro y hy; obtain rfl := List.mem_singleton.1 hy; omega)
  replace Bg0 := Bg0.kept ks4 (by simp; omega)
  replace Bg2 := NB4
  clear f30 a30 ks4 f31 a31
  refine L.ag f32 fun a33 f33 => ?_
  refine wpList_nil (hK26 _ _ ?_)
  have f34 := f33.sub (sc 0 (sc 3 (sc 5 (sc 6 sn))))
  refine wp_seq_k fun K27 hK27 => ?_
  refine wp_seq_k fun K28 hK28 => ?_
  replace Bg2 : Blk w4 g2 34 (q.cells s1) := Bg2
  refine C.region ?_
  refine L.mv f34 fun a35 f35 => ?_
  refine L.va f35 (E.not f35 rfl) fun a36 f36 => ?_
  refine L.mv f36 fun a37 f37 => ?_
  clear f32 a32 f33 f34 a33 f35 a35 f36 a36
  refine f37.splitNB 88 rfl (fun h11 f38 => ?_) (fun h11 f38 => ?_)
  ·have hnone : firstL 8 r.owed = none := by simpa using h11
   refine L.run f38 (rest' := []) (by kernel_rfl) fun a39 f39 => ?_
   clear f37
   refine wpList_nil (hK28 _ _ ?_)
   have f40 := f39.sub (scR f39 0 (scR f39 3 (scR f39 5 (sv 103 (.bool true) sn))))
   refine C.condT f40 rfl ?_
   refine C.sk fun K29 hK29 => ?_
   refine L.ag f40 fun a41 f41 => ?_
   have f42 := f41.sub (sc 4 sn)
   refine wpList_nil (hK29 _ _ (wp_ret ?_)); (try simp only [xt, xb]); refine C.ret f42 rfl rfl ?_
   rw [outR_9 (by simpa using hs76) hs79, subR_none hnone]
   exact ⟨rfl, m, RR.kept0 HK, by omega, HK.mono0, fun x hx => .inl hx⟩
  have hsome : (firstL 8 r.owed).isSome = true := by simpa using h11
  obtain ⟨y, hy⟩ := Option.isSome_iff_exists.1 hsome
  obtain ⟨hqy, hmem⟩ := hfi y hy
  clear f37
  subst hqy
  have hfe := hy
  refine L.fa 4 f38 U34 rfl wsz3_tz (hw := (f38.yes rfl rfl)) fun a39 f39 => ?_
  refine L.ld f39 U3 Bg2 (hw := (f39.yes rfl rfl)) fun a40 f40 => ?_
  refine L.fa 4 f40 U34 rfl wsz3_tz (hw := (f40.yes rfl rfl)) fun a41 f41 => ?_
  refine L.ld f41 U3 Bg0 (hw := (f41.yes rfl rfl)) fun a42 f42 => ?_
  refine L.va f42 (E.neq f42 rfl rfl) (hw := (f42.yes rfl rfl)) fun a43 f43 => ?_
  refine L.va f43 (E.pickF f43 rfl rfl) fun a44 f44 => ?_
  refine L.mv f44 fun a45 f45 => ?_
  clear f38 a37 f39 a39 f40 a40 f41 a41 f42 a42 f43 a43 f44 a44
  refine f45.splitN 95 rfl (fun h12 f46 => ?_) (fun h12 f46 => ?_)
  ·refine L.run f46 (rest' := []) (by kernel_rfl) fun a47 f47 => ?_
   clear f45
   refine wpList_nil (hK28 _ _ ?_)
   have f48 := f47.sub (scR f47 0 (scR f47 3 (scR f47 5 (sv 103 (.bool true) sn))))
   refine C.condT f48 rfl ?_
   refine C.sk fun K30 hK30 => ?_
   refine L.ag f48 fun a49 f49 => ?_
   have f50 := f49.sub (sc 4 sn)
   refine wpList_nil (hK30 _ _ (wp_ret ?_)); (try simp only [xt, xb]); refine C.ret f50 rfl rfl ?_
   rw [outR_9 (by simpa using hs76) hs79, subR_bad hfe (by (left; assumption))]
   exact ⟨rfl, m, RR.kept0 HK, by omega, HK.mono0, fun x hx => .inl hx⟩
  refine L.fa 22 f46 U34 rfl wsz31_tz (hw := (f46.yes rfl rfl)) fun a47 f47 => ?_
  refine L.ld f47 U31 Bg2 (hw := (f47.yes rfl rfl)) fun a48 f48 => ?_
  refine L.va f48 (E.lenL f48 U31 rfl) (hw := (f48.yes rfl rfl)) fun a49 f49 => ?_
  refine L.fa 23 f49 U34 rfl wsz32_tz (hw := (f49.yes rfl rfl)) fun a50 f50 => ?_
  refine L.ld f50 U32 Bg0 (hw := (f50.yes rfl rfl)) fun a51 f51 => ?_
  refine L.va f51 (E.lenL f51 U32 rfl) (hw := (f51.yes rfl rfl)) fun a52 f52 => ?_
  refine L.va f52 (E.neq f52 rfl rfl) (hw := (f52.yes rfl rfl)) fun a53 f53 => ?_
  clear f45 f46 a45 f47 a47 f48 a48 f49 a49 f50 a50 f51 a51 f52 a52
  refine L.va f53 (E.pickF f53 rfl rfl) fun a54 f54 => ?_
  refine wpList_nil (hK28 _ _ ?_)
  have f55 := f54.sub (sc 0 (sc 3 (sc 5 (sc 103 sn))))
  clear f53 a53 f54
  refine f55.splitN 103 rfl (fun h13 f56 => ?_) (fun h13 f56 => ?_)
  ·refine C.condT f56 rfl ?_
   refine C.sk fun K31 hK31 => ?_
   refine L.ag f56 fun a57 f57 => ?_
   have f58 := f57.sub (sc 4 sn)
   refine wpList_nil (hK31 _ _ (wp_ret ?_)); (try simp only [xt, xb]); refine C.ret f58 rfl rfl ?_
   rw [outR_9 (by simpa using hs76) hs79, subR_bad hfe (by (right; assumption))]
   exact ⟨rfl, m, RR.kept0 HK, by omega, HK.mono0, fun x hx => .inl hx⟩
  refine C.condF f56 rfl ?_
  refine wp_skip (hK27 _ _ ?_)
  have f57 := f56.sub (sc 0 (sc 3 (sc 5 sn)))
  refine wp_seq_k fun K32 hK32 => ?_
  refine C.sk fun K33 hK33 => ?_
  refine L.ag f57 fun a58 f58 => ?_
  refine wpList_nil (hK33 _ _ ?_)
  have f59 := f58.sub (sc 0 (sc 3 (sc 5 (sc 7 sn))))
  refine wp_block ?_
  clear f55 f56 f57 a54 f58
  refine C.loop (fun gk a W => ∃ k : Nat, k + gk = p.codes.length ∧ Kept [] w W ∧ PkS B W p s ∧ Blk W g0 34 (p.cells s) ∧ Blk W g2 34 (q.cells s1) ∧ codesB q.subs p.codes = codesB (q.subs.drop k) (p.codes.drop k) ∧ Fr 264 a [(0, .pointer (some ⟨g, 0, none⟩)), (3, .pointer (some ⟨g0, 0, none⟩)), (5, .pointer (some ⟨g2, 0, none⟩)), (7, .int .i64 k)]) (p.codes.length) ?_ ?_
  ·exact ⟨0, by omega, HK, PP, Bg0, Bg2, rfl, f59.sub (sx (sx (sx (sx sn))))⟩
  intro gk35 a60 w5 hI KL34 hKL34
  obtain ⟨k, hk, HK, PP, Bg0, Bg2, hq, f60⟩ := hI
  try clear f59
  refine wp_seq_k fun K35 hK35 => ?_
  refine C.sk fun K36 hK36 => ?_
  refine L.mv f60 fun a61 f61 => ?_
  refine L.fa 23 f61 U34 rfl wsz32_tz fun a62 f62 => ?_
  refine L.ld f62 U32 Bg0 fun a63 f63 => ?_
  refine L.va f63 (E.lenL f63 U32 rfl) fun a64 f64 => ?_
  refine L.va f64 (E.lss f64 rfl rfl) fun a65 f65 => ?_
  refine wpList_nil (hK36 _ _ ?_)
  have f66 := f65.sub (sc 0 (sc 3 (sc 5 (sc 7 (sc 108 sn)))))
  clear f60 a60 f61 a61 f62 a62 f63 a63 f64 a64 f65
  refine f66.splitD 108 rfl (fun h14 f67 => ?_) (fun h14 f67 => ?_)
  ·have hL2_ := hL.codes
   obtain ⟨d, hd⟩ := some_at p.codes k (by omega)
   obtain ⟨d', hd'⟩ := some_at q.subs k (by omega)
   obtain ⟨bk, off, hA⟩ := PP.toIn.codes.addr (by omega)
   have SQ := fun W (hk : Kept [] w W) => ((RR.kept0 hk).ps _ hmem).1.toIn.subs
   obtain ⟨bk', off', hA'⟩ := (SQ _ HK).addr (show 0 < q.subs.length by omega)
   refine C.condT f67 rfl ?_
   refine wp_skip (hK35 _ _ ?_)
   have f68 := f67.sub (sc 0 (sc 3 (sc 5 (sc 7 sn))))
   refine wp_seq_k fun K37 hK37 => ?_
   refine wp_block ?_
   refine wp_seq_k fun K38 hK38 => ?_
   replace Bg0 : Blk w5 g0 34 (p.cells s) := Bg0
   replace Bg2 : Blk w5 g2 34 (q.cells s1) := Bg2
   have hd19 : Kept [] w5 (w5.drewN 1) := (Kept.refl _ _).drewN 1
   refine R.beginT (S := fun W => (Kept [] w W) ∧ (PkS B W p s) ∧ (Blk W g0 34 (p.cells s)) ∧ (Blk W g2 34 (q.cells s1))) (by kernel_rfl) (by kernel_rfl) ⟨HK.z hd19, PkS.kept0 PP hd19, Bg0.z hd19, Bg2.z hd19⟩ fun ht => ?_
   obtain ⟨w6, hww6⟩ : ∃ W, W = w5.drewN 1 := ⟨_, rfl⟩
   rw [← hww6] at hd19 ⊢
   clear f66 f67 hww6
   have szw6 := hd19.size
   replace HK := HK.z hd19
   replace PP := PkS.kept0 PP hd19
   replace Bg0 := Bg0.z hd19
   replace Bg2 := Bg2.z hd19
   clear hd19
   refine R.u 0 f68 rfl ht ⟨HK, PP, Bg0, Bg2⟩ (fun W hW => (E.fa 23 f68 U34 rfl wsz32_tz)) fun a69 f69 => ?_
   refine R.u 1 f69 rfl ht ⟨HK, PP, Bg0, Bg2⟩ (fun W hW => (E.ld f69 U32 (hW.2.2.1))) fun a70 f70 => ?_
   refine R.u 2 f70 rfl ht ⟨HK, PP, Bg0, Bg2⟩ (fun W hW => (E.move f70 rfl)) fun a71 f71 => ?_
   refine R.u 3 f71 rfl ht ⟨HK, PP, Bg0, Bg2⟩ (fun W hW => (E.indexA f71 (by assumption) U32 wsz3_tz rfl rfl (by omega) (by omega))) fun a72 f72 => ?_
   refine R.u 4 f72 rfl ht ⟨HK, PP, Bg0, Bg2⟩ (fun W hW => (E.load f72 U3 rfl rfl (code_cell1 (hW.2.1.toIn.codes) hA hd))) fun a73 f73 => ?_
   refine R.u 5 f73 rfl ht ⟨HK, PP, Bg0, Bg2⟩ (fun W hW => (E.neq f73 rfl rfl)) fun a74 f74 => ?_
   refine R.u 6 f74 rfl ht ⟨HK, PP, Bg0, Bg2⟩ (fun W hW => (E.move f74 rfl)) fun a75 f75 => ?_
   clear f68 a65 f69 a69 f70 a70 f71 a71 f72 a72 f73 a73 f74 a74
   refine f75.splitN 117 rfl (fun h15 f76 => ?_) (fun h15 f76 => ?_)
   ·refine R.u 7 f76 rfl ht ⟨HK, PP, Bg0, Bg2⟩ (fun W hW => (E.fa 23 f76 U34 rfl wsz32_tz)) (hw := (f76.yes rfl rfl)) fun a77 f77 => ?_
    refine R.u 8 f77 rfl ht ⟨HK, PP, Bg0, Bg2⟩ (fun W hW => (E.ld f77 U32 (hW.2.2.1))) (hw := (f77.yes rfl rfl)) fun a78 f78 => ?_
    refine R.u 9 f78 rfl ht ⟨HK, PP, Bg0, Bg2⟩ (fun W hW => (E.move f78 rfl)) (hw := (f78.yes rfl rfl)) fun a79 f79 => ?_
    refine R.u 10 f79 rfl ht ⟨HK, PP, Bg0, Bg2⟩ (fun W hW => (E.indexA f79 (by assumption) U32 wsz3_tz rfl rfl (by omega) (by omega))) (hw := (f79.yes rfl rfl)) fun a80 f80 => ?_
    refine R.u 11 f80 rfl ht ⟨HK, PP, Bg0, Bg2⟩ (fun W hW => (E.load f80 U3 rfl rfl (code_cell1 (hW.2.1.toIn.codes) hA hd))) (hw := (f80.yes rfl rfl)) fun a81 f81 => ?_
    refine R.u 12 f81 rfl ht ⟨HK, PP, Bg0, Bg2⟩ (fun W hW => (E.fa 22 f81 U34 rfl wsz31_tz)) (hw := (f81.yes rfl rfl)) fun a82 f82 => ?_
    refine R.u 13 f82 rfl ht ⟨HK, PP, Bg0, Bg2⟩ (fun W hW => (E.ld f82 U31 (hW.2.2.2))) (hw := (f82.yes rfl rfl)) fun a83 f83 => ?_
    clear f75 f76 a75 f77 a77 f78 a78 f79 a79 f80 a80 f81 a81 f82 a82
    refine R.u 14 f83 rfl ht ⟨HK, PP, Bg0, Bg2⟩ (fun W hW => (E.move f83 rfl)) (hw := (f83.yes rfl rfl)) fun a84 f84 => ?_
    refine R.u 15 f84 rfl ht ⟨HK, PP, Bg0, Bg2⟩ (fun W hW => (E.indexA f84 (by assumption) U31 wsz46_tz rfl rfl (by omega) (by omega))) (hw := (f84.yes rfl rfl)) fun a85 f85 => ?_
    refine R.u 16 f85 rfl ht ⟨HK, PP, Bg0, Bg2⟩ (fun W hW => (E.fa 1 f85 Try.underlying46 rfl wsz3_tz)) (hw := (f85.yes rfl rfl)) fun a86 f86 => ?_
    refine R.u 17 f86 rfl ht ⟨HK, PP, Bg0, Bg2⟩ (fun W hW => (E.load f86 U3 rfl rfl (sub_cell1T (SQ _ hW.1) hA' hd'))) (hw := (f86.yes rfl rfl)) fun a87 f87 => ?_
    refine R.u 18 f87 rfl ht ⟨HK, PP, Bg0, Bg2⟩ (fun W hW => (E.neq f87 rfl rfl)) (hw := (f87.yes rfl rfl)) fun a88 f88 => ?_
    refine R.u 19 f88 rfl ht ⟨HK, PP, Bg0, Bg2⟩ (fun W hW => (E.pickT f88 rfl rfl)) fun a89 f89 => ?_
    refine R.done (by kernel_rfl) (hK38 _ _ ?_)
    have f90 := f89.sub (sc 0 (sc 3 (sc 5 (sc 7 (sc 130 sn)))))
    clear f83 a83 f84 a84 f85 a85 f86 a86 f87 a87 f88 a88 f89
    refine f90.splitN 130 rfl (fun h16 f91 => ?_) (fun h16 f91 => ?_)
    ·refine C.condT f91 rfl ?_
     refine C.sk fun K39 hK39 => ?_
     refine L.ag f91 fun a92 f92 => ?_
     have f93 := f92.sub (sc 4 sn)
     refine wpList_nil (hK39 _ _ (wp_ret ?_)); (try simp only [xt, xb]); refine C.ret f93 rfl rfl ?_
     rw [outR_9 (by simpa using hs76) hs79, subR_code hfe (by rw [hq]; exact codes_stop hd hd' (by omega) (by omega))]
     exact ⟨rfl, m, RR.kept0 HK, by omega, HK.mono0, fun x hx => .inl hx⟩
    refine C.condF f91 rfl ?_
    refine wp_skip (hK37 _ _ ?_)
    have f92 := f91.sub (sc 0 (sc 3 (sc 5 (sc 7 sn))))
    refine C.region ?_
    refine L.mv f92 fun a93 f93 => ?_
    refine L.va f93 (E.add f93 rfl rfl (IntWalk.i64_in _ (by omega))) fun a94 f94 => ?_
    refine L.ag f94 fun a95 f95 => ?_
    clear f90 f91 f92 a89 f93 a93 f94 a94
    refine wpList_nil (hKL34 _ _ (gk35 - 1) ?_ ?_)
    ·omega
    exact ⟨k + 1, by omega, HK, PP, Bg0, Bg2, by rw [hq]; exact codes_go hd hd' (by omega), by simpa using f95.sub (sx (sx (sx (sx sn))))⟩
   refine R.runT [7, 8, 9, 10, 11, 12, 13, 14, 15, 16, 17, 18, 19] (tf 20 []) f76 ht (fun _ _ _ _ h => h) ⟨HK, PP, Bg0, Bg2⟩ (by kernel_rfl) fun a77 f77 => ?_
   have f78 := f77.sub (scT f77 0 (scT f77 3 (scT f77 5 (scT f77 7 (sv 130 (.bool false) sn)))))
   refine R.done (by kernel_rfl) (hK38 _ _ ?_)
   have f79 := f78.sub (sc 0 (sc 3 (sc 5 (sc 7 (sc 130 sn)))))
   refine C.condF f79 rfl ?_
   refine wp_skip (hK37 _ _ ?_)
   have f80 := f79.sub (sc 0 (sc 3 (sc 5 (sc 7 sn))))
   refine C.region ?_
   refine L.mv f80 fun a81 f81 => ?_
   refine L.va f81 (E.add f81 rfl rfl (IntWalk.i64_in _ (by omega))) fun a82 f82 => ?_
   refine L.ag f82 fun a83 f83 => ?_
   clear f75 f77 f76 f78 f79 f80 a77 f81 a81 f82 a82
   refine wpList_nil (hKL34 _ _ (gk35 - 1) ?_ ?_)
   ·omega
   exact ⟨k + 1, by omega, HK, PP, Bg0, Bg2, by rw [hq]; exact codes_go hd hd' (by omega), by simpa using f83.sub (sx (sx (sx (sx sn))))⟩
  refine C.condF f67 rfl ?_
  refine wp_exit (hK32 _ _ ?_)
  have f68 := f67.sub (sc 0 (sc 3 sn))
  refine C.sk fun K40 hK40 => ?_
  refine L.mv f68 fun a69 f69 => ?_
  refine L.fa 4 f69 U34 rfl wsz3_tz fun a70 f70 => ?_
  refine L.ld f70 U3 Bg0 fun a71 f71 => ?_
  refine L.cl f71 (run_call Try.call40 (args4 f71 rfl rfl rfl rfl)) (payR_any (8) (0) (p.id) B g r m _ (RR.kept0 HK) hn (by have := HK.size; omega)) ?_
  clear f66 f67 f68 a65 f69 a69 f70 a70
  rintro e w6 ⟨q2, s2, rfl, m2, R2, up2, kc6, nw2⟩
  refine ⟨_, rfl, fun a72 f72 => ?_⟩
  have szw6 := kc6.size
  have K2 : Kept (m.fp g) w w6 := (HK.mono0).trans kc6 (fun x hx _ => hx)
  have hn2 : ∀ x ∈ m2.fp g, x ∈ m.fp g ∨ w.heap.size ≤ x := fun x hx => (nw2 x hx).imp id (Nat.le_trans HK.size)
  have lb2 := RR.kept0 HK
  clear f71 a71 lb2
  refine L.mv f72 fun a73 f73 => ?_
  refine L.va f73 (E.extract f73 rfl rfl) fun a74 f74 => ?_
  refine L.va f74 (E.extract f74 rfl rfl) fun a75 f75 => ?_
  refine L.ag f75 fun a76 f76 => ?_
  have f77 := f76.sub (sc 6 sn)
  refine wpList_nil (hK40 _ _ (C.sk fun K41 hK41 => ?_))
  refine L.mv f77 fun a78 f78 => ?_
  refine L.ag f78 fun a79 f79 => ?_
  have f80 := f79.sub (sc 4 sn)
  clear f72 a72 f73 a73 f74 a74 f75 a75 f76 f77 a76 f78 a78 f79
  refine wpList_nil (hK41 _ _ (wp_ret ?_)); (try simp only [xt, xb]); refine C.ret f80 rfl rfl ?_
  rw [outR_9 (by simpa using hs76) hs79, subR_ok hfe (by omega) (by omega) (by rw [hq]; exact codes_end (by omega))]
  exact ⟨rfl, m2, R2, up2, K2, hn2⟩
 have hs79 := h10
 refine C.condF f25 rfl ?_
 refine C.sk fun K42 hK42 => ?_
 refine L.va f25 (E.eq f25) fun a26 f26 => ?_
 refine L.ag f26 fun a27 f27 => ?_
 refine wpList_nil (hK42 _ _ ?_)
 have f28 := f27.sub (sc 0 (sc 3 (sc 78 (sc 139 sn))))
 clear f24 f25 a23 f26 a26 f27
 refine f28.splitD 139 rfl (fun h17 f29 => ?_) (fun h17 f29 => ?_)
 ·have hs139 := h17
  refine C.condT f29 rfl ?_
  refine C.sk fun K43 hK43 => ?_
  refine L.mv f29 fun a30 f30 => ?_
  refine L.fa 4 f30 U34 rfl wsz3_tz fun a31 f31 => ?_
  refine L.ld f31 U3 Bg0 fun a32 f32 => ?_
  refine L.cl f32 (run_call Try.call40 (args4 f32 rfl rfl rfl rfl)) (payR_any (10) (0) (p.id) B g r m _ (RR.kept0 HK) hn (by have := HK.size; omega)) ?_
  clear f28 f29 a27 f30 a30 f31 a31
  rintro e w2 ⟨q2, s2, rfl, m2, R2, up2, kc2, nw2⟩
  refine ⟨_, rfl, fun a33 f33 => ?_⟩
  have szw2 := kc2.size
  have K2 : Kept (m.fp g) w w2 := (HK.mono0).trans kc2 (fun x hx _ => hx)
  have hn2 : ∀ x ∈ m2.fp g, x ∈ m.fp g ∨ w.heap.size ≤ x := fun x hx => (nw2 x hx).imp id (Nat.le_trans HK.size)
  have lb2 := RR.kept0 HK
  clear f32 a32 lb2
  refine L.mv f33 fun a34 f34 => ?_
  refine L.va f34 (E.extract f34 rfl rfl) fun a35 f35 => ?_
  refine L.va f35 (E.extract f35 rfl rfl) fun a36 f36 => ?_
  refine L.alloc f36 wantedN (by decide) (z := z34) (fun _ => by kernel_rfl) rfl fun a37 w3 g2 N2 f37 => ?_
  have Bg2 := N2.blk
  have kg2 := N2.kept
  have log2 := N2.lo
  have ltg2 := Bg2.lt
  have szw3 := kg2.size
  have frg2 : w.heap.size ≤ g2 := Nat.le_trans K2.size log2
  have nfg2 : g2 ∉ m2.fp g := fun h => by have := RtIn.fp_lt R2 _ h; omega
  replace R2 := RtIn.kept0 R2 kg2
  replace K2 := K2.trans kg2 (by simp)
  clear f33 a33 f34 a34 f35 a35 N2 kg2
  refine L.storeR f37 wantedN wsz34_tz rfl rfl rfl Bg2 rfl rfl fun a38 w4 f38 NB4 ks4 => ?_
  have szw4 := ks4.size
  replace R2 := RtIn.keptN R2 ks4 nfg2 (NoPk.blk Bg2 (by decide)) (by have := K2.size; omega)
  replace K2 := K2.trans ks4 (fun x hx hlt => by obtain rfl := List.mem_singleton.1 hx; exfalso; omega)
  replace Bg2 := NB4
  clear f36 a36 ks4 f37 a37
  refine L.ag f38 fun a39 f39 => ?_
  have f40 := f39.sub (sc 9 sn)
  refine wpList_nil (hK43 _ _ (C.sk fun K44 hK44 => ?_))
  refine L.mv f40 fun a41 f41 => ?_
  refine L.ag f41 fun a42 f42 => ?_
  have f43 := f42.sub (sc 4 sn)
  refine wpList_nil (hK44 _ _ (wp_ret ?_)); (try simp only [xt, xb]); refine C.ret f43 rfl rfl ?_
  rw [outR_11 (by simpa using hs76) hs139]
  exact ⟨rfl, m2, R2, up2, K2, hn2⟩
 have hs139 := h17
 refine C.condF f29 rfl ?_
 refine C.sk fun K45 hK45 => ?_
 refine L.va f29 (E.eq f29) fun a30 f30 => ?_
 refine L.ag f30 fun a31 f31 => ?_
 refine wpList_nil (hK45 _ _ ?_)
 have f32 := f31.sub (sc 0 (sc 3 (sc 78 (sc 149 sn))))
 clear f28 f29 a27 f30 a30 f31
 refine f32.splitD 149 rfl (fun h18 f33 => ?_) (fun h18 f33 => ?_)
 ·have hs149 := h18
  refine C.condT f33 rfl ?_
  refine C.sk fun K46 hK46 => ?_
  refine L.mv f33 fun a34 f34 => ?_
  refine L.fa 4 f34 U34 rfl wsz3_tz fun a35 f35 => ?_
  refine L.ld f35 U3 Bg0 fun a36 f36 => ?_
  refine L.cl f36 (run_call Try.call40 (args4 f36 rfl rfl rfl rfl)) (payR_any (3) (1) (p.id) B g r m _ (RR.kept0 HK) hn (by have := HK.size; omega)) ?_
  clear f32 f33 a31 f34 a34 f35 a35
  rintro e w2 ⟨q2, s2, rfl, m2, R2, up2, kc2, nw2⟩
  refine ⟨_, rfl, fun a37 f37 => ?_⟩
  have szw2 := kc2.size
  have K2 : Kept (m.fp g) w w2 := (HK.mono0).trans kc2 (fun x hx _ => hx)
  have hn2 : ∀ x ∈ m2.fp g, x ∈ m.fp g ∨ w.heap.size ≤ x := fun x hx => (nw2 x hx).imp id (Nat.le_trans HK.size)
  have lb2 := RR.kept0 HK
  clear f36 a36 lb2
  refine L.mv f37 fun a38 f38 => ?_
  refine L.va f38 (E.extract f38 rfl rfl) fun a39 f39 => ?_
  refine L.va f39 (E.extract f39 rfl rfl) fun a40 f40 => ?_
  refine L.alloc f40 wantedN (by decide) (z := z34) (fun _ => by kernel_rfl) rfl fun a41 w3 g2 N2 f41 => ?_
  have Bg2 := N2.blk
  have kg2 := N2.kept
  have log2 := N2.lo
  have ltg2 := Bg2.lt
  have szw3 := kg2.size
  have frg2 : w.heap.size ≤ g2 := Nat.le_trans K2.size log2
  have nfg2 : g2 ∉ m2.fp g := fun h => by have := RtIn.fp_lt R2 _ h; omega
  replace R2 := RtIn.kept0 R2 kg2
  replace K2 := K2.trans kg2 (by simp)
  clear f37 a37 f38 a38 f39 a39 N2 kg2
  refine L.storeR f41 wantedN wsz34_tz rfl rfl rfl Bg2 rfl rfl fun a42 w4 f42 NB4 ks4 => ?_
  have szw4 := ks4.size
  replace R2 := RtIn.keptN R2 ks4 nfg2 (NoPk.blk Bg2 (by decide)) (by have := K2.size; omega)
  replace K2 := K2.trans ks4 (fun x hx hlt => by obtain rfl := List.mem_singleton.1 hx; exfalso; omega)
  replace Bg2 := NB4
  clear f40 a40 ks4 f41 a41
  refine L.ag f42 fun a43 f43 => ?_
  have f44 := f43.sub (sc 11 sn)
  refine wpList_nil (hK46 _ _ (C.sk fun K47 hK47 => ?_))
  refine L.mv f44 fun a45 f45 => ?_
  refine L.ag f45 fun a46 f46 => ?_
  have f47 := f46.sub (sc 4 sn)
  refine wpList_nil (hK47 _ _ (wp_ret ?_)); (try simp only [xt, xb]); refine C.ret f47 rfl rfl ?_
  rw [outR_4 (by simpa using hs76) hs149]
  exact ⟨rfl, m2, R2, up2, K2, hn2⟩
 have hs149 := h18
 refine C.condF f33 rfl ?_
 refine C.sk fun K48 hK48 => ?_
 refine L.va f33 (E.eq f33) fun a34 f34 => ?_
 refine L.ag f34 fun a35 f35 => ?_
 refine wpList_nil (hK48 _ _ ?_)
 have f36 := f35.sub (sc 0 (sc 3 (sc 78 (sc 159 sn))))
 clear f32 f33 a31 f34 a34 f35
 refine f36.splitD 159 rfl (fun h19 f37 => ?_) (fun h19 f37 => ?_)
 ·have hs159 := h19
  refine C.condT f37 rfl ?_
  refine C.sk fun K49 hK49 => ?_
  refine L.mv f37 fun a38 f38 => ?_
  refine L.fa 4 f38 U34 rfl wsz3_tz fun a39 f39 => ?_
  refine L.ld f39 U3 Bg0 fun a40 f40 => ?_
  refine L.cl f40 (run_call Try.call40 (args4 f40 rfl rfl rfl rfl)) (payR_any (3) (2) (p.id) B g r m _ (RR.kept0 HK) hn (by have := HK.size; omega)) ?_
  clear f36 f37 a35 f38 a38 f39 a39
  rintro e w2 ⟨q2, s2, rfl, m2, R2, up2, kc2, nw2⟩
  refine ⟨_, rfl, fun a41 f41 => ?_⟩
  have szw2 := kc2.size
  have K2 : Kept (m.fp g) w w2 := (HK.mono0).trans kc2 (fun x hx _ => hx)
  have hn2 : ∀ x ∈ m2.fp g, x ∈ m.fp g ∨ w.heap.size ≤ x := fun x hx => (nw2 x hx).imp id (Nat.le_trans HK.size)
  have lb2 := RR.kept0 HK
  clear f40 a40 lb2
  refine L.mv f41 fun a42 f42 => ?_
  refine L.va f42 (E.extract f42 rfl rfl) fun a43 f43 => ?_
  refine L.va f43 (E.extract f43 rfl rfl) fun a44 f44 => ?_
  refine L.alloc f44 wantedN (by decide) (z := z34) (fun _ => by kernel_rfl) rfl fun a45 w3 g2 N2 f45 => ?_
  have Bg2 := N2.blk
  have kg2 := N2.kept
  have log2 := N2.lo
  have ltg2 := Bg2.lt
  have szw3 := kg2.size
  have frg2 : w.heap.size ≤ g2 := Nat.le_trans K2.size log2
  have nfg2 : g2 ∉ m2.fp g := fun h => by have := RtIn.fp_lt R2 _ h; omega
  replace R2 := RtIn.kept0 R2 kg2
  replace K2 := K2.trans kg2 (by simp)
  clear f41 a41 f42 a42 f43 a43 N2 kg2
  refine L.storeR f45 wantedN wsz34_tz rfl rfl rfl Bg2 rfl rfl fun a46 w4 f46 NB4 ks4 => ?_
  have szw4 := ks4.size
  replace R2 := RtIn.keptN R2 ks4 nfg2 (NoPk.blk Bg2 (by decide)) (by have := K2.size; omega)
  replace K2 := K2.trans ks4 (fun x hx hlt => by obtain rfl := List.mem_singleton.1 hx; exfalso; omega)
  replace Bg2 := NB4
  clear f44 a44 ks4 f45 a45
  refine L.ag f46 fun a47 f47 => ?_
  have f48 := f47.sub (sc 13 sn)
  refine wpList_nil (hK49 _ _ (C.sk fun K50 hK50 => ?_))
  refine L.mv f48 fun a49 f49 => ?_
  refine L.ag f49 fun a50 f50 => ?_
  have f51 := f50.sub (sc 4 sn)
  refine wpList_nil (hK50 _ _ (wp_ret ?_)); (try simp only [xt, xb]); refine C.ret f51 rfl rfl ?_
  rw [outR_5 (by simpa using hs76) hs159]
  exact ⟨rfl, m2, R2, up2, K2, hn2⟩
 have hs159 := h19
 refine C.condF f37 rfl ?_
 refine C.sk fun K51 hK51 => ?_
 refine L.va f37 (E.eq f37) fun a38 f38 => ?_
 refine L.ag f38 fun a39 f39 => ?_
 refine wpList_nil (hK51 _ _ ?_)
 have f40 := f39.sub (sc 0 (sc 3 (sc 78 (sc 169 sn))))
 clear f36 f37 a35 f38 a38 f39
 refine f40.splitD 169 rfl (fun h20 f41 => ?_) (fun h20 f41 => ?_)
 ·have hs169 := h20
  refine C.condT f41 rfl ?_
  refine C.sk fun K52 hK52 => ?_
  refine L.mv f41 fun a42 f42 => ?_
  refine L.fa 4 f42 U34 rfl wsz3_tz fun a43 f43 => ?_
  refine L.ld f43 U3 Bg0 fun a44 f44 => ?_
  refine L.cl f44 (run_call Try.call40 (args4 f44 rfl rfl rfl rfl)) (payR_any (6) (0) (p.id) B g r m _ (RR.kept0 HK) hn (by have := HK.size; omega)) ?_
  clear f40 f41 a39 f42 a42 f43 a43
  rintro e w2 ⟨q2, s2, rfl, m2, R2, up2, kc2, nw2⟩
  refine ⟨_, rfl, fun a45 f45 => ?_⟩
  have szw2 := kc2.size
  have K2 : Kept (m.fp g) w w2 := (HK.mono0).trans kc2 (fun x hx _ => hx)
  have hn2 : ∀ x ∈ m2.fp g, x ∈ m.fp g ∨ w.heap.size ≤ x := fun x hx => (nw2 x hx).imp id (Nat.le_trans HK.size)
  have lb2 := RR.kept0 HK
  clear f44 a44 lb2
  refine L.mv f45 fun a46 f46 => ?_
  refine L.va f46 (E.extract f46 rfl rfl) fun a47 f47 => ?_
  refine L.va f47 (E.extract f47 rfl rfl) fun a48 f48 => ?_
  refine L.alloc f48 wantedN (by decide) (z := z34) (fun _ => by kernel_rfl) rfl fun a49 w3 g2 N2 f49 => ?_
  have Bg2 := N2.blk
  have kg2 := N2.kept
  have log2 := N2.lo
  have ltg2 := Bg2.lt
  have szw3 := kg2.size
  have frg2 : w.heap.size ≤ g2 := Nat.le_trans K2.size log2
  have nfg2 : g2 ∉ m2.fp g := fun h => by have := RtIn.fp_lt R2 _ h; omega
  replace R2 := RtIn.kept0 R2 kg2
  replace K2 := K2.trans kg2 (by simp)
  clear f45 a45 f46 a46 f47 a47 N2 kg2
  refine L.storeR f49 wantedN wsz34_tz rfl rfl rfl Bg2 rfl rfl fun a50 w4 f50 NB4 ks4 => ?_
  have szw4 := ks4.size
  replace R2 := RtIn.keptN R2 ks4 nfg2 (NoPk.blk Bg2 (by decide)) (by have := K2.size; omega)
  replace K2 := K2.trans ks4 (fun x hx hlt => by obtain rfl := List.mem_singleton.1 hx; exfalso; omega)
  replace Bg2 := NB4
  clear f48 a48 ks4 f49 a49
  refine L.ag f50 fun a51 f51 => ?_
  have f52 := f51.sub (sc 15 sn)
  refine wpList_nil (hK52 _ _ (C.sk fun K53 hK53 => ?_))
  refine L.mv f52 fun a53 f53 => ?_
  refine L.ag f53 fun a54 f54 => ?_
  have f55 := f54.sub (sc 4 sn)
  refine wpList_nil (hK53 _ _ (wp_ret ?_)); (try simp only [xt, xb]); refine C.ret f55 rfl rfl ?_
  rw [outR_7 (by simpa using hs76) hs169]
  exact ⟨rfl, m2, R2, up2, K2, hn2⟩
 have hs169 := h20
 refine C.condF f41 rfl ?_
 refine C.sk fun K54 hK54 => ?_
 refine L.va f41 (E.eq f41) fun a42 f42 => ?_
 refine L.ag f42 fun a43 f43 => ?_
 refine wpList_nil (hK54 _ _ ?_)
 have f44 := f43.sub (sc 0 (sc 3 (sc 78 (sc 179 sn))))
 clear f40 f41 a39 f42 a42 f43
 refine f44.splitD 179 rfl (fun h21 f45 => ?_) (fun h21 f45 => ?_)
 ·have hs179 := h21
  refine C.condT f45 rfl ?_
  refine C.sk fun K55 hK55 => ?_
  refine L.mv f45 fun a46 f46 => ?_
  refine L.cl f46 (run_call Try.call40 (args4 f46 rfl rfl rfl rfl)) (payR_any (12) (0) (0) B g r m _ (RR.kept0 HK) hn (by have := HK.size; omega)) ?_
  clear f44 f45 a43
  rintro e w2 ⟨q2, s2, rfl, m2, R2, up2, kc2, nw2⟩
  refine ⟨_, rfl, fun a47 f47 => ?_⟩
  have szw2 := kc2.size
  have K2 : Kept (m.fp g) w w2 := (HK.mono0).trans kc2 (fun x hx _ => hx)
  have hn2 : ∀ x ∈ m2.fp g, x ∈ m.fp g ∨ w.heap.size ≤ x := fun x hx => (nw2 x hx).imp id (Nat.le_trans HK.size)
  have lb2 := RR.kept0 HK
  clear f46 a46 lb2
  refine L.mv f47 fun a48 f48 => ?_
  refine L.va f48 (E.extract f48 rfl rfl) fun a49 f49 => ?_
  refine L.va f49 (E.extract f49 rfl rfl) fun a50 f50 => ?_
  refine L.alloc f50 wantedN (by decide) (z := z34) (fun _ => by kernel_rfl) rfl fun a51 w3 g2 N2 f51 => ?_
  have Bg2 := N2.blk
  have kg2 := N2.kept
  have log2 := N2.lo
  have ltg2 := Bg2.lt
  have szw3 := kg2.size
  have frg2 : w.heap.size ≤ g2 := Nat.le_trans K2.size log2
  have nfg2 : g2 ∉ m2.fp g := fun h => by have := RtIn.fp_lt R2 _ h; omega
  replace R2 := RtIn.kept0 R2 kg2
  replace K2 := K2.trans kg2 (by simp)
  clear f47 a47 f48 a48 f49 a49 N2 kg2
  refine L.storeR f51 wantedN wsz34_tz rfl rfl rfl Bg2 rfl rfl fun a52 w4 f52 NB4 ks4 => ?_
  have szw4 := ks4.size
  replace R2 := RtIn.keptN R2 ks4 nfg2 (NoPk.blk Bg2 (by decide)) (by have := K2.size; omega)
  replace K2 := K2.trans ks4 (fun x hx hlt => by obtain rfl := List.mem_singleton.1 hx; exfalso; omega)
  replace Bg2 := NB4
  clear f50 a50 ks4 f51 a51
  refine L.ag f52 fun a53 f53 => ?_
  have f54 := f53.sub (sc 17 sn)
  refine wpList_nil (hK55 _ _ (C.sk fun K56 hK56 => ?_))
  refine L.mv f54 fun a55 f55 => ?_
  refine L.ag f55 fun a56 f56 => ?_
  have f57 := f56.sub (sc 4 sn)
  refine wpList_nil (hK56 _ _ (wp_ret ?_)); (try simp only [xt, xb]); refine C.ret f57 rfl rfl ?_
  rw [outR_13 (by simpa using hs76) hs179]
  exact ⟨rfl, m2, R2, up2, K2, hn2⟩
 have hs179 := h21
 refine C.condF f45 rfl ?_
 refine C.sk fun K57 hK57 => ?_
 refine L.va f45 (E.eq f45) fun a46 f46 => ?_
 refine L.ag f46 fun a47 f47 => ?_
 refine wpList_nil (hK57 _ _ ?_)
 have f48 := f47.sub (sc 0 (sc 3 (sc 78 (sc 187 sn))))
 clear f44 f45 a43 f46 a46 f47
 refine f48.splitD 187 rfl (fun h22 f49 => ?_) (fun h22 f49 => ?_)
 ·have hs187 := h22
  refine C.condT f49 rfl ?_
  refine C.sk fun K58 hK58 => ?_
  refine L.mv f49 fun a50 f50 => ?_
  refine L.va f50 (E.loadB f50 U34 rfl wsz34_tz rfl (Bg0) rfl) fun a51 f51 => ?_
  refine L.cl f51 (run_call Try.call41 (args2 f51 rfl rfl)) (pubR_any p s hid B g r m _ (RR.kept0 HK) hn (by have := HK.size; omega) PP hL) ?_
  clear f48 f49 a47 f50 a50
  intro e w2 RP
  obtain ⟨rfl, RP2⟩ := RP
  refine ⟨_, rfl, fun a52 f52 => ?_⟩
  have RP : RtPost B g m w1 (r.pubR p).2 (.bool (r.pubR p).1) (.returned (.bool (r.pubR p).1)) w2 := ⟨rfl, RP2⟩
  refine L.ag f52 fun a53 f53 => ?_
  have f54 := f53.sub (sc 4 sn)
  refine wpList_nil (hK58 _ _ (wp_ret ?_)); (try simp only [xt, xb]); refine C.ret f54 rfl rfl ?_
  rw [outR_3 (by simpa using hs76) hs187]
  exact rt_base HK RP
 have hs187 := h22
 refine C.condF f49 rfl ?_
 refine C.sk fun K59 hK59 => ?_
 refine L.va f49 (E.eq f49) fun a50 f50 => ?_
 refine L.ag f50 fun a51 f51 => ?_
 refine wpList_nil (hK59 _ _ ?_)
 have f52 := f51.sub (sc 0 (sc 3 (sc 192 sn)))
 clear f48 f49 a47 f50 a50 f51
 refine f52.splitD 192 rfl (fun h23 f53 => ?_) (fun h23 f53 => ?_)
 ·have hs192 := h23
  refine C.condT f53 rfl ?_
  refine C.sk fun K60 hK60 => ?_
  refine L.mv f53 fun a54 f54 => ?_
  refine L.fa 4 f54 U34 rfl wsz3_tz fun a55 f55 => ?_
  refine L.ld f55 U3 Bg0 fun a56 f56 => ?_
  refine L.cl f56 (run_call Try.call42 (args2 f56 rfl rfl)) (at_any p.id B g r m _ (RR.kept0 HK) hn) ?_
  clear f52 f53 a51 f54 a54 f55 a55
  rintro e w2 ⟨kc2, rfl⟩
  refine ⟨_, rfl, fun a57 f57 => ?_⟩
  have szw2 := kc2.size
  replace HK := HK.z kc2
  replace PP := PkS.kept0 PP kc2
  replace Bg0 := Bg0.z kc2
  clear f56 a56 kc2
  refine L.ag f57 fun a58 f58 => ?_
  refine wpList_nil (hK60 _ _ ?_)
  have f59 := f58.sub (sc 0 (sc 3 (sc 18 sn)))
  refine wp_seq_k fun K61 hK61 => ?_
  refine C.sk fun K62 hK62 => ?_
  refine L.mv f59 fun a60 f60 => ?_
  refine L.va f60 (E.lss f60 rfl rfl) fun a61 f61 => ?_
  refine L.mv f61 fun a62 f62 => ?_
  clear f57 a57 f58 f59 a58 f60 a60 f61 a61
  refine f62.splitD 200 rfl (fun h24 f63 => ?_) (fun h24 f63 => ?_)
  ·have hs200 := h24
   refine L.mv f63 (hw := (f63.yes rfl rfl)) fun a64 f64 => ?_
   refine L.va f64 (E.nilCheck f64 rfl) (hw := (f64.yes rfl rfl)) fun a65 f65 => ?_
   refine L.fa 9 f65 U56 rfl wsz4_tz (hw := (f65.yes rfl rfl)) fun a66 f66 => ?_
   refine L.va f66 (E.load f66 U4 rfl rfl ((RR.kept0 HK).bt.cl rfl)) (hw := (f66.yes rfl rfl)) fun a67 f67 => ?_
   refine L.va f67 (E.not f67 rfl) (hw := (f67.yes rfl rfl)) fun a68 f68 => ?_
   refine L.va f68 (E.pickT f68 rfl rfl) fun a69 f69 => ?_
   refine wpList_nil (hK62 _ _ ?_)
   have f70 := f69.sub (sc 0 (sc 3 (sc 18 (sc 206 sn))))
   clear f62 f63 a62 f64 a64 f65 a65 f66 a66 f67 a67 f68 a68 f69
   refine f70.splitNB 206 rfl (fun h25 f71 => ?_) (fun h25 f71 => ?_)
   ·have hs206 := h25
    refine C.condT f71 rfl ?_
    refine wp_seq_k fun K63 hK63 => ?_
    replace Bg0 : Blk w2 g0 34 (p.cells s) := Bg0
    obtain ⟨-, -, BT, RO, RQ, MR, MG, -, -, -, PS, PQ, -⟩ := RR.kept0 HK
    replace HK : Kept (m.fp g) w w2 := HK.mono0
    replace BT : Blk w2 g 56 #[.bool r.clean, .bool r.connect, .bool r.acked, .bool r.over, .slice m.Ao m.owed.length m.co, .slice m.Aq m.out.length m.cq, .map (some m.mr), .map (some m.mg), .bool r.present, .bool r.wish] := BT
    have hd43 : Kept [] w2 (w2.drewN 1) := (Kept.refl _ _).drewN 1
    refine RB.begin (S := fun W => (Blk W g0 34 (p.cells s)) ∧ (Blk W g 56 (rtL r m))) 10 (by kernel_rfl) ⟨Bg0.z hd43, BT.z hd43⟩ ?_
    obtain ⟨w3, hww3⟩ : ∃ W, W = w2.drewN 1 := ⟨_, rfl⟩
    rw [← hww3] at hd43 ⊢
    clear f70 hww3
    have szw3 := hd43.size
    replace Bg0 := Bg0.z hd43
    replace HK := HK.z hd43
    replace BT := BT.z hd43
    replace RO := Own.z RO hd43
    replace RQ := Own.z RQ hd43
    replace MR := IsAss.z MR hd43
    replace MG := IsAss.z MG hd43
    replace PS := PksS.kept0 PS hd43
    replace PQ := PksS.kept0 PQ hd43
    clear hd43
    refine RB.tk 0 f71 rfl ⟨Bg0, BT⟩ (fun W hW => (E.move f71 rfl)) fun a72 f72 => ?_
    refine RB.tk 1 f72 rfl ⟨Bg0, BT⟩ (fun W hW => (E.move f72 rfl)) fun a73 f73 => ?_
    refine RB.tk 2 f73 rfl ⟨Bg0, BT⟩ (fun W hW => (E.nilCheck f73 rfl)) fun a74 f74 => ?_
    refine RB.tk 3 f74 rfl ⟨Bg0, BT⟩ (fun W hW => (E.fa 5 f74 U56 rfl wsz51_tz)) fun a75 f75 => ?_
    refine RB.tk 4 f75 rfl ⟨Bg0, BT⟩ (fun W hW => (E.ld f75 U51 (hW.2))) fun a76 f76 => ?_
    refine RB.tk 5 f76 rfl ⟨Bg0, BT⟩ (fun W hW => (E.fa 4 f76 U34 rfl wsz3_tz)) fun a77 f77 => ?_
    refine RB.tk 6 f77 rfl ⟨Bg0, BT⟩ (fun W hW => (E.ld f77 U3 (hW.1))) fun a78 f78 => ?_
    clear f71 a69 f72 a72 f73 a73 f74 a74 f75 a75 f76 a76 f77 a77
    refine RB.tk 7 f78 rfl ⟨Bg0, BT⟩ (fun W hW => (E.build f78 (parts3 f78 rfl rfl rfl) (wbl34_0_3_4_tz _ _ _))) fun a79 f79 => ?_
    refine RB.one 8 (by kernel_rfl) (by kernel_rfl) ?_
    refine O.buildSlice f79 rfl wantedN (by decide) (parts1 f79 rfl) U51 wzi34_tz rfl rfl (wbs51_1_tz _ _ _ _ _ _ _ _ _ _ _ _ _ _ _ _ _ _ _ _ _ _ _ _) (fun _ hk => ⟨Bg0.z hk, BT.z hk⟩) fun a80 w4 g3 N3 hSn f80 => ?_
    clear f78 a78 hSn
    have Bg3 := N3.blk
    have kg3 := N3.kept
    have log3 := N3.lo
    have ltg3 := Bg3.lt
    have szw4 := kg3.size
    have frg3 : w.heap.size ≤ g3 := Nat.le_trans HK.size log3
    have neg0_g3 : g0 ≠ g3 := by have := Bg0.lt; omega
    have neg_g3 : g ≠ g3 := by have := BT.lt; omega
    replace Bg0 := Bg0.z kg3
    replace HK := HK.z kg3
    replace BT := BT.z kg3
    replace RO := Own.z RO kg3
    replace RQ := Own.z RQ kg3
    replace MR := IsAss.z MR kg3
    replace MG := IsAss.z MG kg3
    replace PS := PksS.kept0 PS kg3
    replace PQ := PksS.kept0 PQ kg3
    clear N3 kg3
    refine RB.one 9 (by kernel_rfl) (by kernel_rfl) ?_
    replace Bg3 : Blk w4 g3 34 ((relP p.id).cells s0) := Bg3
    refine O.append f80 rfl wantedN (by decide) U51 wzib34_tz rfl rfl rfl rfl RQ (Sl1 (relP p.id) s0 Bg3) (Pk.one1 (relP p.id) s0) (by unfold maxLen; omega) (by omega) fun a81 w5 A5 c5 AP => ?_
    have szw5 := AP.kept.size
    have Bg0n := Bg0.kept AP.kept (new_ne RQ hQ0 frg0)
    have HKn := HK.trans AP.kept (fun x hx _ => rp_ownQ (by simpa using hx))
    have BTn := BT.kept AP.kept (own_ne RQ BT (by decide))
    have ROn := Own.kept RO AP.kept (own_apart (Apart.symm oq))
    have MRn := IsAss.kept MR AP.kept (own_ne_map MR RQ)
    have MGn := IsAss.kept MG AP.kept (own_ne_map MG RQ)
    have PSn := PksS.keptT PS AP.kept (NoPk.own RQ) (fun y hy => hlo _ (rp_ownQ (by simpa using hy)))
    have PQn := PksS.keptT PQ AP.kept (NoPk.own RQ) (fun y hy => hlo _ (rp_ownQ (by simpa using hy)))
    have RQn : Row w5 A5 c5 (m.out ++ [((relP p.id), s0)]) := row_app AP.own
    have hwh : ∀ b, A5.map (·.block) = some b → m.Aq.map (·.block) = some b ∨ w.heap.size ≤ b := fun b hb => (AP.where_ b hb).imp id (fun h => Nat.le_trans HK.size h)
    clear f79 a79 AP RQ Bg3 Bg0 HK BT RO MR MG PS PQ
    have Bg0 := Bg0n
    have HK := HKn
    have BT := BTn
    have RO := ROn
    have MR := MRn
    have MG := MGn
    have PS := PSn
    have PQ := PQn
    have RQ := RQn
    clear Bg0n HKn BTn ROn MRn MGn PSn PQn RQn
    refine ⟨⟨Bg0, BT⟩, fun f81 => ?_⟩
    refine RB.stop (by kernel_rfl) ?_
    refine  R.take 10 f81 rfl rfl (by decide) (by kernel_rfl) (by kernel_rfl) (by kernel_rfl) (fun _ _ _ _ h => h) wantedN trivial (fun W hW => (E.nilCheck f81 rfl)) fun a82 f82 => ?_
    refine  R.take 11 f82 rfl rfl (by decide) (by kernel_rfl) (by kernel_rfl) (by kernel_rfl) (fun _ _ _ _ h => h) wantedN trivial (fun W hW => (E.fa 5 f82 U56 rfl wsz51_tz)) fun a83 f83 => ?_
    refine R.one 12 (by kernel_rfl) ?_
    refine OT.store f83 rfl wantedN wsz51_tz rfl rfl rfl BT (by (simp [Value.cells]; done)) fun a84 w6 f84 NB6 ks6 => ?_
    have szw6 := ks6.size
    replace Bg0 := Bg0.kept ks6 (by simp; omega)
    replace HK := HK.trans ks6 (fun x hx hlt => by obtain rfl := List.mem_singleton.1 hx; exact rp_g)
    replace RO := own_kept1 RO ks6 BT (by decide)
    replace MR := IsAss.kept MR ks6 (by simpa using IsAss.ne_blk MR BT)
    replace MG := IsAss.kept MG ks6 (by simpa using IsAss.ne_blk MG BT)
    replace PS := PksS.keptT PS ks6 (NoPk.blk BT (by decide)) (by intro y hy; obtain rfl := List.mem_singleton.1 hy; omega)
    replace PQ := PksS.keptT PQ ks6 (NoPk.blk BT (by decide)) (by intro y hy; obtain rfl := List.mem_singleton.1 hy; omega)
    replace RQ := own_kept1 RQ ks6 BT (by decide)
    replace BT := NB6
    simp only [Value.cells, z1, z2, z3, Nat.reduceAdd, Nat.zero_add] at BT
    clear f80 a80 f81 a81 f82 a82 ks6 f83 a83
    refine R.done (by kernel_rfl) (hK63 _ _ ?_)
    have f85 := f84.sub (sc 0 (sc 3 sn))
    refine wp_seq_k fun K64 hK64 => ?_
    replace Bg0 : Blk w6 g0 34 (p.cells s) := Bg0
    replace BT : Blk w6 g 56 #[.bool r.clean, .bool r.connect, .bool r.acked, .bool r.over, .slice m.Ao m.owed.length m.co, .slice A5 (m.out.length + 1) c5, .map (some m.mr), .map (some m.mg), .bool r.present, .bool r.wish] := BT
    have hd44 : Kept [] w6 (w6.drewN 1) := (Kept.refl _ _).drewN 1
    refine R.beginT (S := fun W => (Blk W g0 34 (p.cells s)) ∧ (Blk W g 56 #[.bool r.clean, .bool r.connect, .bool r.acked, .bool r.over, .slice m.Ao m.owed.length m.co, .slice A5 (m.out.length + 1) c5, .map (some m.mr), .map (some m.mg), .bool r.present, .bool r.wish])) (by kernel_rfl) (by kernel_rfl) ⟨Bg0.z hd44, BT.z hd44⟩ fun ht => ?_
    obtain ⟨w7, hww7⟩ : ∃ W, W = w6.drewN 1 := ⟨_, rfl⟩
    rw [← hww7] at hd44 ⊢
    clear f84 hww7
    have szw7 := hd44.size
    replace Bg0 := Bg0.z hd44
    replace HK := HK.z hd44
    replace RO := Own.z RO hd44
    replace MR := IsAss.z MR hd44
    replace MG := IsAss.z MG hd44
    replace PS := PksS.kept0 PS hd44
    replace PQ := PksS.kept0 PQ hd44
    replace RQ := Own.z RQ hd44
    replace BT := BT.z hd44
    clear hd44
    refine R.u 0 f85 rfl ht ⟨Bg0, BT⟩ (fun W hW => (E.move f85 rfl)) fun a86 f86 => ?_
    refine R.u 1 f86 rfl ht ⟨Bg0, BT⟩ (fun W hW => (E.nilCheck f86 rfl)) fun a87 f87 => ?_
    refine R.u 2 f87 rfl ht ⟨Bg0, BT⟩ (fun W hW => (E.fa 6 f87 U56 rfl wsz54_tz)) fun a88 f88 => ?_
    refine R.u 3 f88 rfl ht ⟨Bg0, BT⟩ (fun W hW => (E.ld f88 U54 (hW.2))) fun a89 f89 => ?_
    refine R.u 4 f89 rfl ht ⟨Bg0, BT⟩ (fun W hW => (E.fa 4 f89 U34 rfl wsz3_tz)) fun a90 f90 => ?_
    refine R.u 5 f90 rfl ht ⟨Bg0, BT⟩ (fun W hW => (E.ld f90 U3 (hW.1))) fun a91 f91 => ?_
    refine R.u 6 f91 rfl ht ⟨Bg0, BT⟩ (fun W hW => (E.move f91 rfl)) fun a92 f92 => ?_
    clear f85 a84 f86 a86 f87 a87 f88 a88 f89 a89 f90 a90 f91 a91
    refine R.u 7 f92 rfl ht ⟨Bg0, BT⟩ (fun W hW => (E.nilCheck f92 rfl)) fun a93 f93 => ?_
    refine R.u 8 f93 rfl ht ⟨Bg0, BT⟩ (fun W hW => (E.fa 7 f93 U56 rfl wsz54_tz)) fun a94 f94 => ?_
    refine R.u 9 f94 rfl ht ⟨Bg0, BT⟩ (fun W hW => (E.ld f94 U54 (hW.2))) fun a95 f95 => ?_
    refine R.u 10 f95 rfl ht ⟨Bg0, BT⟩ (fun W hW => (E.fa 4 f95 U34 rfl wsz3_tz)) fun a96 f96 => ?_
    refine R.u 11 f96 rfl ht ⟨Bg0, BT⟩ (fun W hW => (E.ld f96 U3 (hW.1))) fun a97 f97 => ?_
    refine R.one 12 (by kernel_rfl) ?_
    have MB := IsAss.mapB MR
    refine O.mapEntryK f97 rfl wantedN (by decide) MR setOk U54 zero4 p.id hid rfl rfl (Nat.lt_of_le_of_lt hl3 (by unfold maxLen; omega)) (fun w' ks => ⟨Bg0.kept ks (ne_mapB Bg0 MB), BT.kept ks (ne_mapB BT MB)⟩) fun a98 w8 v0 stp EN MBn ks f98 => ?_
    have szw8 := ks.size
    have Bg0n := Bg0.kept ks (ne_mapB Bg0 MB)
    have HKn := HK.trans ks (fun x hx hlt => by obtain rfl := List.mem_singleton.1 hx; exact rp_r)
    have ROn := own_keptB RO ks MB
    have MGn := IsAss.kept MG ks (by simpa using (Ne.symm nof))
    have PSn := PksS.keptT PS ks (NoPk.mapB MB) (by intro y hy; obtain rfl := List.mem_singleton.1 hy; omega)
    have PQn := PksS.keptT PQ ks (NoPk.mapB MB) (by intro y hy; obtain rfl := List.mem_singleton.1 hy; omega)
    have RQn := own_keptB RQ ks MB
    have BTn := BT.kept ks (ne_mapB BT MB)
    clear f92 a92 f93 a93 f94 a94 f95 a95 f96 a96 f97 a97 ks MB MR Bg0 HK RO MG PS PQ RQ BT
    have Bg0 := Bg0n
    have HK := HKn
    have RO := ROn
    have MG := MGn
    have PS := PSn
    have PQ := PQn
    have RQ := RQn
    have BT := BTn
    have MB := MBn
    clear MBn Bg0n HKn ROn MGn PSn PQn RQn BTn
    refine R.u 13 f98 rfl ht ⟨Bg0, BT⟩ (fun W hW => (E.extract f98 rfl rfl)) fun a99 f99 => ?_
    refine R.one 14 (by kernel_rfl) ?_
    refine O.entryStoreA f99 rfl wantedN EN true rfl rfl rfl (fun w' _ ks => ⟨Bg0.kept ks (ne_mapB Bg0 MB), BT.kept ks (ne_mapB BT MB)⟩) fun a100 w9 MN ks f100 => ?_
    have szw9 := ks.size
    have Bg0n := Bg0.kept ks (ne_mapB Bg0 MB)
    have HKn := HK.trans ks (fun x hx hlt => by obtain rfl := List.mem_singleton.1 hx; exact rp_r)
    have ROn := own_keptB RO ks MB
    have MGn := IsAss.kept MG ks (by simpa using (Ne.symm nof))
    have PSn := PksS.keptT PS ks (NoPk.mapB MB) (by intro y hy; obtain rfl := List.mem_singleton.1 hy; omega)
    have PQn := PksS.keptT PQ ks (NoPk.mapB MB) (by intro y hy; obtain rfl := List.mem_singleton.1 hy; omega)
    have RQn := own_keptB RQ ks MB
    have BTn := BT.kept ks (ne_mapB BT MB)
    clear f98 a98 f99 a99 ks MB EN Bg0 HK RO MG PS PQ RQ BT
    have Bg0 := Bg0n
    have HK := HKn
    have RO := ROn
    have MG := MGn
    have PS := PSn
    have PQ := PQn
    have RQ := RQn
    have BT := BTn
    clear Bg0n HKn ROn MGn PSn PQn RQn BTn
    have MR := MN
    clear MN
    refine R.one 15 (by kernel_rfl) ?_
    have MB := IsAss.mapB MG
    refine O.mapEntryK f100 rfl wantedN (by decide) MG setOk U54 zero4 p.id hid rfl rfl (Nat.lt_of_le_of_lt hl4 (by unfold maxLen; omega)) (fun w' ks => ⟨Bg0.kept ks (ne_mapB Bg0 MB), BT.kept ks (ne_mapB BT MB)⟩) fun a101 w10 v0 stp EN MBn ks f101 => ?_
    have szw10 := ks.size
    have Bg0n := Bg0.kept ks (ne_mapB Bg0 MB)
    have HKn := HK.trans ks (fun x hx hlt => by obtain rfl := List.mem_singleton.1 hx; exact rp_m)
    have ROn := own_keptB RO ks MB
    have PSn := PksS.keptT PS ks (NoPk.mapB MB) (by intro y hy; obtain rfl := List.mem_singleton.1 hy; omega)
    have PQn := PksS.keptT PQ ks (NoPk.mapB MB) (by intro y hy; obtain rfl := List.mem_singleton.1 hy; omega)
    have RQn := own_keptB RQ ks MB
    have BTn := BT.kept ks (ne_mapB BT MB)
    have MRn := IsAss.kept MR ks (by simpa using nof)
    clear f100 a100 ks MB MG Bg0 HK RO PS PQ RQ BT MR
    have Bg0 := Bg0n
    have HK := HKn
    have RO := ROn
    have PS := PSn
    have PQ := PQn
    have RQ := RQn
    have BT := BTn
    have MR := MRn
    have MB := MBn
    clear MBn Bg0n HKn ROn PSn PQn RQn BTn MRn
    refine R.u 16 f101 rfl ht ⟨Bg0, BT⟩ (fun W hW => (E.extract f101 rfl rfl)) fun a102 f102 => ?_
    refine R.one 17 (by kernel_rfl) ?_
    refine O.entryStoreA f102 rfl wantedN EN true rfl rfl rfl (fun w' _ ks => ⟨Bg0.kept ks (ne_mapB Bg0 MB), BT.kept ks (ne_mapB BT MB)⟩) fun a103 w11 MN ks f103 => ?_
    have szw11 := ks.size
    have Bg0n := Bg0.kept ks (ne_mapB Bg0 MB)
    have HKn := HK.trans ks (fun x hx hlt => by obtain rfl := List.mem_singleton.1 hx; exact rp_m)
    have ROn := own_keptB RO ks MB
    have PSn := PksS.keptT PS ks (NoPk.mapB MB) (by intro y hy; obtain rfl := List.mem_singleton.1 hy; omega)
    have PQn := PksS.keptT PQ ks (NoPk.mapB MB) (by intro y hy; obtain rfl := List.mem_singleton.1 hy; omega)
    have RQn := own_keptB RQ ks MB
    have BTn := BT.kept ks (ne_mapB BT MB)
    have MRn := IsAss.kept MR ks (by simpa using nof)
    clear f101 a101 f102 a102 ks MB EN Bg0 HK RO PS PQ RQ BT MR
    have Bg0 := Bg0n
    have HK := HKn
    have RO := ROn
    have PS := PSn
    have PQ := PQn
    have RQ := RQn
    have BT := BTn
    have MR := MRn
    clear Bg0n HKn ROn PSn PQn RQn BTn MRn
    have MG := MN
    clear MN
    refine R.done (by kernel_rfl) (hK64 _ _ ?_)
    have f104 := f103.sub sn
    refine C.sk fun K65 hK65 => ?_
    refine L.ag f104 fun a105 f105 => ?_
    have f106 := f105.sub (sc 4 sn)
    refine wpList_nil (hK65 _ _ (wp_ret ?_)); (try simp only [xt, xb]); refine C.ret f106 rfl rfl ?_
    rw [outR_6 (by simpa using hs76) hs192, relR_new (atL_neg hs200) (by simpa using hs206)]
    exact ⟨rfl, { m with out := m.out ++ [(relP p.id, s0)], Aq := A5, cq := c5, n := m.n + 1 }, ⟨e1, (by rw [e2, List.map_append]; rfl), (by have e : (m.out ++ [(relP p.id, s0)]).length = m.out.length + 1 := List.length_append; rw [← e] at BT; exact BT), RO, RQ, MR, MG, nof, (Apart.symm (apart_new (Apart.symm oq) hwh hO0)), rp_lo hlo hgl (rpQ hwh), PS, PksS.app PQ (PksS.one (relP_ok _) (relP_len _)), Nat.le_succ_of_le hl1, (by rw [List.length_append]; exact Nat.succ_le_succ hl2), strike_le hl3 _ _, strike_le hl4 _ _⟩, Nat.le_refl _, HK, rpQ hwh⟩
   have hs206 := h25
   refine C.condF f71 rfl ?_
   refine wp_skip (hK61 _ _ ?_)
   have f72 := f71.sub (sc 0 (sc 3 (sc 18 sn)))
   refine wp_seq_k fun K66 hK66 => ?_
   refine wp_seq_k fun K67 hK67 => ?_
   replace Bg0 : Blk w2 g0 34 (p.cells s) := Bg0
   have hd46 : Kept [] w2 (w2.drewN 1) := (Kept.refl _ _).drewN 1
   refine R.beginT (S := fun W => (Kept [] w W) ∧ (PkS B W p s) ∧ (Blk W g0 34 (p.cells s))) (by kernel_rfl) (by kernel_rfl) ⟨HK.z hd46, PkS.kept0 PP hd46, Bg0.z hd46⟩ fun ht => ?_
   obtain ⟨w3, hww3⟩ : ∃ W, W = w2.drewN 1 := ⟨_, rfl⟩
   rw [← hww3] at hd46 ⊢
   clear f70 f71 hww3
   have szw3 := hd46.size
   replace HK := HK.z hd46
   replace PP := PkS.kept0 PP hd46
   replace Bg0 := Bg0.z hd46
   clear hd46
   refine R.u 0 f72 rfl ht ⟨HK, PP, Bg0⟩ (fun W hW => (E.move f72 rfl)) fun a73 f73 => ?_
   refine R.u 1 f73 rfl ht ⟨HK, PP, Bg0⟩ (fun W hW => (E.lss f73 rfl rfl)) fun a74 f74 => ?_
   refine R.u 2 f74 rfl ht ⟨HK, PP, Bg0⟩ (fun W hW => (E.move f74 rfl)) fun a75 f75 => ?_
   clear f72 a69 f73 a73 f74 a74
   refine f75.splitD 237 rfl (fun h26 f76 => ?_) (fun h26 f76 => ?_)
   ·refine R.runT [3, 4, 5, 6, 7, 8, 9, 10, 11, 12, 13, 14, 15, 16, 17, 18, 19, 20, 21, 22] (tf 23 []) f76 ht (fun _ _ _ _ h => h) ⟨HK, PP, Bg0⟩ (by kernel_rfl) fun a77 f77 => ?_
    have f78 := f77.sub (scT f77 0 (scT f77 3 (sv 257 (.bool true) sn)))
    refine R.done (by kernel_rfl) (hK67 _ _ ?_)
    have f79 := f78.sub (sc 0 (sc 3 (sc 257 sn)))
    refine C.condT f79 rfl ?_
    refine C.sk fun K68 hK68 => ?_
    refine L.ag f79 fun a80 f80 => ?_
    have f81 := f80.sub (sc 4 sn)
    refine wpList_nil (hK68 _ _ (wp_ret ?_)); (try simp only [xt, xb]); refine C.ret f81 rfl rfl ?_
    rw [outR_6 (by simpa using hs76) hs192, relR_no (atL_neg (by assumption)) (by simpa using hs206)]
    exact ⟨rfl, m, RR.kept0 HK, by omega, HK.mono0, fun x hx => .inl hx⟩
   clear f75
   exfalso
   omega
  have hs200 := h24
  refine L.run f63 (rest' := []) (by kernel_rfl) fun a64 f64 => ?_
  clear f62
  refine wpList_nil (hK62 _ _ ?_)
  have f65 := f64.sub (scR f64 0 (scR f64 3 (scR f64 18 (sv 206 (.bool false) sn))))
  refine C.condF f65 rfl ?_
  refine wp_skip (hK61 _ _ ?_)
  have f66 := f65.sub (sc 0 (sc 3 (sc 18 sn)))
  refine wp_seq_k fun K69 hK69 => ?_
  refine wp_seq_k fun K70 hK70 => ?_
  replace Bg0 : Blk w2 g0 34 (p.cells s) := Bg0
  have hd46 : Kept [] w2 (w2.drewN 1) := (Kept.refl _ _).drewN 1
  refine R.beginT (S := fun W => (Kept [] w W) ∧ (PkS B W p s) ∧ (Blk W g0 34 (p.cells s))) (by kernel_rfl) (by kernel_rfl) ⟨HK.z hd46, PkS.kept0 PP hd46, Bg0.z hd46⟩ fun ht => ?_
  obtain ⟨w3, hww3⟩ : ∃ W, W = w2.drewN 1 := ⟨_, rfl⟩
  rw [← hww3] at hd46 ⊢
  clear f64 f63 f65 hww3
  have szw3 := hd46.size
  replace HK := HK.z hd46
  replace PP := PkS.kept0 PP hd46
  replace Bg0 := Bg0.z hd46
  clear hd46
  refine R.u 0 f66 rfl ht ⟨HK, PP, Bg0⟩ (fun W hW => (E.move f66 rfl)) fun a67 f67 => ?_
  refine R.u 1 f67 rfl ht ⟨HK, PP, Bg0⟩ (fun W hW => (E.lss f67 rfl rfl)) fun a68 f68 => ?_
  refine R.u 2 f68 rfl ht ⟨HK, PP, Bg0⟩ (fun W hW => (E.move f68 rfl)) fun a69 f69 => ?_
  clear f66 a64 f67 a67 f68 a68
  refine f69.splitD 237 rfl (fun h27 f70 => ?_) (fun h27 f70 => ?_)
  ·clear f69
   exfalso
   omega
  obtain ⟨k, x, hat, hat2, hro, hx⟩ := at_hit RR.e2 h27
  obtain ⟨b, off, hA⟩ := Row.addr RR.rq (by have := (List.getElem?_eq_some_iff.1 hx).1; omega)
  have hkl := (List.getElem?_eq_some_iff.1 hx).1
  rw [hat2] at f70
  refine R.u 3 f70 rfl ht ⟨HK, PP, Bg0⟩ (fun W hW => (E.move f70 rfl)) (hw := (f70.yes rfl rfl)) fun a71 f71 => ?_
  refine R.u 4 f71 rfl ht ⟨HK, PP, Bg0⟩ (fun W hW => (E.nilCheck f71 rfl)) (hw := (f71.yes rfl rfl)) fun a72 f72 => ?_
  refine R.u 5 f72 rfl ht ⟨HK, PP, Bg0⟩ (fun W hW => (E.fa 5 f72 U56 rfl wsz51_tz)) (hw := (f72.yes rfl rfl)) fun a73 f73 => ?_
  refine R.u 6 f73 rfl ht ⟨HK, PP, Bg0⟩ (fun W hW => (E.load f73 U51 rfl rfl ((RR.kept0 hW.1).bt.cl rfl))) (hw := (f73.yes rfl rfl)) fun a74 f74 => ?_
  refine R.u 7 f74 rfl ht ⟨HK, PP, Bg0⟩ (fun W hW => (E.move f74 rfl)) (hw := (f74.yes rfl rfl)) fun a75 f75 => ?_
  refine R.u 8 f75 rfl ht ⟨HK, PP, Bg0⟩ (fun W hW => (E.indexA f75 (by assumption) U51 wsz34_tz rfl rfl (by omega) (by omega))) (hw := (f75.yes rfl rfl)) fun a76 f76 => ?_
  refine R.u 9 f76 rfl ht ⟨HK, PP, Bg0⟩ (fun W hW => (E.fa 3 f76 U34 rfl wsz3_tz)) (hw := (f76.yes rfl rfl)) fun a77 f77 => ?_
  clear f69 f70 a69 f71 a71 f72 a72 f73 a73 f74 a74 f75 a75 f76 a76
  refine R.u 10 f77 rfl ht ⟨HK, PP, Bg0⟩ (fun W hW => (E.load f77 U3 rfl rfl (Row.cellK (RR.kept0 hW.1).rq hA hx rfl))) (hw := (f77.yes rfl rfl)) fun a78 f78 => ?_
  refine R.u 11 f78 rfl ht ⟨HK, PP, Bg0⟩ (fun W hW => (E.neq f78 rfl rfl)) (hw := (f78.yes rfl rfl)) fun a79 f79 => ?_
  refine R.u 12 f79 rfl ht ⟨HK, PP, Bg0⟩ (fun W hW => (E.pickF f79 rfl rfl)) fun a80 f80 => ?_
  refine R.u 13 f80 rfl ht ⟨HK, PP, Bg0⟩ (fun W hW => (E.move f80 rfl)) fun a81 f81 => ?_
  clear f77 a77 f78 a78 f79 a79 f80 a80
  refine f81.splitN 248 rfl (fun h28 f82 => ?_) (fun h28 f82 => ?_)
  ·refine R.runT [14, 15, 16, 17, 18, 19, 20, 21, 22] (tf 23 []) f82 ht (fun _ _ _ _ h => h) ⟨HK, PP, Bg0⟩ (by kernel_rfl) fun a83 f83 => ?_
   have f84 := f83.sub (scT f83 0 (scT f83 3 (sv 257 (.bool true) sn)))
   refine R.done (by kernel_rfl) (hK70 _ _ ?_)
   have f85 := f84.sub (sc 0 (sc 3 (sc 257 sn)))
   refine C.condT f85 rfl ?_
   refine C.sk fun K71 hK71 => ?_
   refine L.ag f85 fun a86 f86 => ?_
   have f87 := f86.sub (sc 4 sn)
   refine wpList_nil (hK71 _ _ (wp_ret ?_)); (try simp only [xt, xb]); refine C.ret f87 rfl rfl ?_
   rw [outR_6 (by simpa using hs76) hs192, relR_bad hat hro (by (left; assumption))]
   exact ⟨rfl, m, RR.kept0 HK, by omega, HK.mono0, fun x hx => .inl hx⟩
  refine R.u 14 f82 rfl ht ⟨HK, PP, Bg0⟩ (fun W hW => (E.move f82 rfl)) (hw := (f82.yes rfl rfl)) fun a83 f83 => ?_
  refine R.u 15 f83 rfl ht ⟨HK, PP, Bg0⟩ (fun W hW => (E.nilCheck f83 rfl)) (hw := (f83.yes rfl rfl)) fun a84 f84 => ?_
  refine R.u 16 f84 rfl ht ⟨HK, PP, Bg0⟩ (fun W hW => (E.fa 6 f84 U56 rfl wsz54_tz)) (hw := (f84.yes rfl rfl)) fun a85 f85 => ?_
  refine R.u 17 f85 rfl ht ⟨HK, PP, Bg0⟩ (fun W hW => (E.load f85 U54 rfl rfl ((RR.kept0 hW.1).bt.cl rfl))) (hw := (f85.yes rfl rfl)) fun a86 f86 => ?_
  refine R.u 18 f86 rfl ht ⟨HK, PP, Bg0⟩ (fun W hW => (E.fa 4 f86 U34 rfl wsz3_tz)) (hw := (f86.yes rfl rfl)) fun a87 f87 => ?_
  refine R.u 19 f87 rfl ht ⟨HK, PP, Bg0⟩ (fun W hW => (E.ld f87 U3 (hW.2.2))) (hw := (f87.yes rfl rfl)) fun a88 f88 => ?_
  refine R.u 20 f88 rfl ht ⟨HK, PP, Bg0⟩ (fun W hW => (E.lookB f88 (RR.kept0 hW.1).mr (p.id) hid rfl rfl)) (hw := (f88.yes rfl rfl)) fun a89 f89 => ?_
  clear f81 f82 a81 f83 a83 f84 a84 f85 a85 f86 a86 f87 a87 f88 a88
  refine R.u 21 f89 rfl ht ⟨HK, PP, Bg0⟩ (fun W hW => (E.not f89 rfl)) (hw := (f89.yes rfl rfl)) fun a90 f90 => ?_
  refine R.u 22 f90 rfl ht ⟨HK, PP, Bg0⟩ (fun W hW => (E.pickF f90 rfl rfl)) fun a91 f91 => ?_
  refine R.done (by kernel_rfl) (hK70 _ _ ?_)
  have f92 := f91.sub (sc 0 (sc 3 (sc 257 sn)))
  clear f89 a89 f90 a90 f91
  refine f92.splitNB 257 rfl (fun h29 f93 => ?_) (fun h29 f93 => ?_)
  ·have hs257 := h29
   refine C.condT f93 rfl ?_
   refine C.sk fun K72 hK72 => ?_
   refine L.ag f93 fun a94 f94 => ?_
   have f95 := f94.sub (sc 4 sn)
   refine wpList_nil (hK72 _ _ (wp_ret ?_)); (try simp only [xt, xb]); refine C.ret f95 rfl rfl ?_
   rw [outR_6 (by simpa using hs76) hs192, relR_bad hat hro (by (right; simp_all; done))]
   exact ⟨rfl, m, RR.kept0 HK, by omega, HK.mono0, fun x hx => .inl hx⟩
  have hs257 := h29
  refine C.condF f93 rfl ?_
  refine wp_skip (hK69 _ _ ?_)
  have f94 := f93.sub (sc 0 (sc 3 sn))
  refine wp_seq_k fun K73 hK73 => ?_
  replace Bg0 : Blk w3 g0 34 (p.cells s) := Bg0
  obtain ⟨-, -, BT, RO, RQ, MR, MG, -, -, -, PS, PQ, -⟩ := RR.kept0 HK
  replace HK : Kept (m.fp g) w w3 := HK.mono0
  replace BT : Blk w3 g 56 #[.bool r.clean, .bool r.connect, .bool r.acked, .bool r.over, .slice m.Ao m.owed.length m.co, .slice m.Aq m.out.length m.cq, .map (some m.mr), .map (some m.mg), .bool r.present, .bool r.wish] := BT
  have hd48 : Kept [] w3 (w3.drewN 1) := (Kept.refl _ _).drewN 1
  refine RB.begin (S := fun W => (Blk W g0 34 (p.cells s)) ∧ (Kept (m.fp g) w W) ∧ (Blk W g 56 (rtL r m)) ∧ (Row W m.Ao m.co (m.owed)) ∧ (Row W m.Aq m.cq (m.out)) ∧ (IsAss setM Try.prog W m.mr (r.recd)) ∧ (IsAss setM Try.prog W m.mg (r.gone)) ∧ (PksS B W (m.owed)) ∧ (PksS B W (m.out))) 6 (by kernel_rfl) ⟨Bg0.z hd48, HK.z hd48, BT.z hd48, Own.z RO hd48, Own.z RQ hd48, IsAss.z MR hd48, IsAss.z MG hd48, PksS.kept0 PS hd48, PksS.kept0 PQ hd48⟩ ?_
  obtain ⟨w4, hww4⟩ : ∃ W, W = w3.drewN 1 := ⟨_, rfl⟩
  rw [← hww4] at hd48 ⊢
  clear f92 f93 hww4
  have szw4 := hd48.size
  replace Bg0 := Bg0.z hd48
  replace HK := HK.z hd48
  replace BT := BT.z hd48
  replace RO := Own.z RO hd48
  replace RQ := Own.z RQ hd48
  replace MR := IsAss.z MR hd48
  replace MG := IsAss.z MG hd48
  replace PS := PksS.kept0 PS hd48
  replace PQ := PksS.kept0 PQ hd48
  clear hd48
  refine RB.tk 0 f94 rfl ⟨Bg0, HK, BT, RO, RQ, MR, MG, PS, PQ⟩ (fun W hW => (E.move f94 rfl)) fun a95 f95 => ?_
  refine RB.tk 1 f95 rfl ⟨Bg0, HK, BT, RO, RQ, MR, MG, PS, PQ⟩ (fun W hW => (E.nilCheck f95 rfl)) fun a96 f96 => ?_
  refine RB.tk 2 f96 rfl ⟨Bg0, HK, BT, RO, RQ, MR, MG, PS, PQ⟩ (fun W hW => (E.fa 7 f96 U56 rfl wsz54_tz)) fun a97 f97 => ?_
  refine RB.tk 3 f97 rfl ⟨Bg0, HK, BT, RO, RQ, MR, MG, PS, PQ⟩ (fun W hW => (E.ld f97 U54 (hW.2.2.1))) fun a98 f98 => ?_
  refine RB.tk 4 f98 rfl ⟨Bg0, HK, BT, RO, RQ, MR, MG, PS, PQ⟩ (fun W hW => (E.fa 4 f98 U34 rfl wsz3_tz)) fun a99 f99 => ?_
  refine RB.tk 5 f99 rfl ⟨Bg0, HK, BT, RO, RQ, MR, MG, PS, PQ⟩ (fun W hW => (E.ld f99 U3 (hW.1))) fun a100 f100 => ?_
  refine RB.stop (by kernel_rfl) ?_
  refine R.one 6 (by kernel_rfl) ?_
  refine O.mapPutA f100 rfl wantedN MG setOk U54 (p.id) hid (true) rfl rfl rfl (Nat.lt_of_le_of_lt hl4 (by unfold maxLen; omega)) (fun w' _ ks => trivial) fun a101 w5 MN ks f101 => ?_
  have szw5 := ks.size
  have Bg0n := Bg0.kept ks (by simpa using Ne.symm (IsAss.ne_blk MG Bg0))
  have HKn := HK.trans ks (fun x hx hlt => by obtain rfl := List.mem_singleton.1 hx; exact rp_m)
  have BTn := BT.kept ks (by simpa using Ne.symm (IsAss.ne_blk MG BT))
  have ROn := own_keptM RO ks MG
  have RQn := own_keptM RQ ks MG
  have MRn := IsAss.kept MR ks (by simpa using nof)
  have PSn := PksS.keptT PS ks (NoPk.map MG) (by intro y hy; obtain rfl := List.mem_singleton.1 hy; omega)
  have PQn := PksS.keptT PQ ks (NoPk.map MG) (by intro y hy; obtain rfl := List.mem_singleton.1 hy; omega)
  clear f94 a91 f95 a95 f96 a96 f97 a97 f98 a98 f99 a99 f100 ks MG  Bg0 HK BT RO RQ MR PS PQ
  have Bg0 := Bg0n
  have HK := HKn
  have BT := BTn
  have RO := ROn
  have RQ := RQn
  have MR := MRn
  have PS := PSn
  have PQ := PQn
  clear Bg0n HKn BTn ROn RQn MRn PSn PQn
  have MG := MN
  clear MN
  refine R.done (by kernel_rfl) (hK73 _ _ ?_)
  have f102 := f101.sub sn
  refine C.sk fun K74 hK74 => ?_
  refine L.ag f102 fun a103 f103 => ?_
  have f104 := f103.sub (sc 4 sn)
  refine wpList_nil (hK74 _ _ (wp_ret ?_)); (try simp only [xt, xb]); refine C.ret f104 rfl rfl ?_
  rw [outR_6 (by simpa using hs76) hs192, relR_ok hat hro (by omega) (by simpa using hs257)]
  exact ⟨rfl, { m with n := m.n + 1 }, ⟨e1, e2, BT, RO, RQ, MR, MG, nof, oq, hlo, PS, PQ, Nat.le_succ_of_le hl1, Nat.le_succ_of_le hl2, Nat.le_succ_of_le hl3, strike_le hl4 _ _⟩, Nat.le_refl _, HK, fun x hx => .inl hx⟩
 have hs192 := h23
 refine C.condF f53 rfl ?_
 refine wp_skip (hK23 _ _ ?_)
 have f54 := f53.sub sn
 refine C.sk fun K75 hK75 => ?_
 refine L.ag f54 fun a55 f55 => ?_
 have f56 := f55.sub (sc 4 sn)
 refine wpList_nil (hK75 _ _ (wp_ret ?_)); (try simp only [xt, xb]); refine C.ret f56 rfl rfl ?_
 rw [outR_n hs21 (by omega)]
 exact ⟨rfl, m, RR.kept0 HK, by omega, HK.mono0, fun x hx => .inl hx⟩
end Go.Proofs.Ytkdeedhjkjffpaa
namespace Go.Hub
theorem rightR_is (p : Pk) : rightR p = rightB p := by
  cases hk : inB p.kind 1 14
  · simp [rightR, rightB, hk]
  by_cases hs : ¬ p = bareP p
  · have : samePk p (bareP p) = false := samePk_f hs
    simp [rightR, rightB, this]
  replace hs := Classical.not_not.1 hs
  have hsm : samePk p (bareP p) = true := samePk_iff.2 hs
  have t0 := txB_em
  rcases kind_cases hk with h | h | h | h | h | h | h | h | h | h | h | h | h | h
  · have e := hk
    clear hk
    have z_dup : p.dup = false := by rw [hs]; simp [bareP, h, numB, inB]
    have z_retain : p.retain = false := by rw [hs]; simp [bareP, h, numB, inB]
    have z_qos : p.qos = 0 := by rw [hs]; simp [bareP, h, numB, inB]
    have z_id : p.id = 0 := by rw [hs]; simp [bareP, h, numB, inB]
    have z_topic : p.topic = em := by rw [hs]; simp [bareP, h, numB, inB]
    have z_pay : p.pay = [] := by rw [hs]; simp [bareP, h, numB, inB]
    have z_present : p.present = false := by rw [hs]; simp [bareP, h, numB, inB]
    have z_code : p.code = 0 := by rw [hs]; simp [bareP, h, numB, inB]
    have z_subs : p.subs = [] := by rw [hs]; simp [bareP, h, numB, inB]
    have z_codes : p.codes = [] := by rw [hs]; simp [bareP, h, numB, inB]
    simp only [rightR, rightB, valB, numB, hsm, e, h, z_dup, z_retain, z_qos, z_id, z_topic, z_pay, z_present, z_code, z_subs, z_codes]
    rw [Bool.eq_iff_iff]
    simp [subB, codB, inB, txB_em, numB, h]
    try grind
  · have e := hk
    clear hk
    have z_dup : p.dup = false := by rw [hs]; simp [bareP, h, numB, inB]
    have z_retain : p.retain = false := by rw [hs]; simp [bareP, h, numB, inB]
    have z_qos : p.qos = 0 := by rw [hs]; simp [bareP, h, numB, inB]
    have z_id : p.id = 0 := by rw [hs]; simp [bareP, h, numB, inB]
    have z_topic : p.topic = em := by rw [hs]; simp [bareP, h, numB, inB]
    have z_pay : p.pay = [] := by rw [hs]; simp [bareP, h, numB, inB]
    have z_level : p.level = 0 := by rw [hs]; simp [bareP, h, numB, inB]
    have z_client : p.client = em := by rw [hs]; simp [bareP, h, numB, inB]
    have z_clean : p.clean = false := by rw [hs]; simp [bareP, h, numB, inB]
    have z_keep : p.keep = 0 := by rw [hs]; simp [bareP, h, numB, inB]
    have z_hasWill : p.hasWill = false := by rw [hs]; simp [bareP, h, numB, inB]
    have z_wt : p.wt = em := by rw [hs]; simp [bareP, h, numB, inB]
    have z_wp : p.wp = [] := by rw [hs]; simp [bareP, h, numB, inB]
    have z_wq : p.wq = 0 := by rw [hs]; simp [bareP, h, numB, inB]
    have z_wr : p.wr = false := by rw [hs]; simp [bareP, h, numB, inB]
    have z_hasUser : p.hasUser = false := by rw [hs]; simp [bareP, h, numB, inB]
    have z_hasPass : p.hasPass = false := by rw [hs]; simp [bareP, h, numB, inB]
    have z_user : p.user = em := by rw [hs]; simp [bareP, h, numB, inB]
    have z_subs : p.subs = [] := by rw [hs]; simp [bareP, h, numB, inB]
    have z_codes : p.codes = [] := by rw [hs]; simp [bareP, h, numB, inB]
    have z_pass : p.pass = [] := by rw [hs]; simp [bareP, h, numB, inB]
    simp only [rightR, rightB, valB, numB, hsm, e, h, z_dup, z_retain, z_qos, z_id, z_topic, z_pay, z_level, z_client, z_clean, z_keep, z_hasWill, z_wt, z_wp, z_wq, z_wr, z_hasUser, z_hasPass, z_user, z_subs, z_codes, z_pass]
    rw [Bool.eq_iff_iff]
    simp [subB, codB, inB, txB_em, numB, h]
    try grind
  · have e := hk
    clear hk
    have z_level : p.level = 0 := by rw [hs]; simp [bareP, h, numB, inB]
    have z_client : p.client = em := by rw [hs]; simp [bareP, h, numB, inB]
    have z_clean : p.clean = false := by rw [hs]; simp [bareP, h, numB, inB]
    have z_keep : p.keep = 0 := by rw [hs]; simp [bareP, h, numB, inB]
    have z_hasWill : p.hasWill = false := by rw [hs]; simp [bareP, h, numB, inB]
    have z_wt : p.wt = em := by rw [hs]; simp [bareP, h, numB, inB]
    have z_wp : p.wp = [] := by rw [hs]; simp [bareP, h, numB, inB]
    have z_wq : p.wq = 0 := by rw [hs]; simp [bareP, h, numB, inB]
    have z_wr : p.wr = false := by rw [hs]; simp [bareP, h, numB, inB]
    have z_hasUser : p.hasUser = false := by rw [hs]; simp [bareP, h, numB, inB]
    have z_hasPass : p.hasPass = false := by rw [hs]; simp [bareP, h, numB, inB]
    have z_user : p.user = em := by rw [hs]; simp [bareP, h, numB, inB]
    have z_present : p.present = false := by rw [hs]; simp [bareP, h, numB, inB]
    have z_code : p.code = 0 := by rw [hs]; simp [bareP, h, numB, inB]
    have z_subs : p.subs = [] := by rw [hs]; simp [bareP, h, numB, inB]
    have z_codes : p.codes = [] := by rw [hs]; simp [bareP, h, numB, inB]
    have z_pass : p.pass = [] := by rw [hs]; simp [bareP, h, numB, inB]
    simp only [rightR, rightB, valB, numB, hsm, e, h, z_level, z_client, z_clean, z_keep, z_hasWill, z_wt, z_wp, z_wq, z_wr, z_hasUser, z_hasPass, z_user, z_present, z_code, z_subs, z_codes, z_pass]
    rw [Bool.eq_iff_iff]
    simp [subB, codB, inB, txB_em, numB, h]
    try grind
  · have e := hk
    clear hk
    have z_dup : p.dup = false := by rw [hs]; simp [bareP, h, numB, inB]
    have z_retain : p.retain = false := by rw [hs]; simp [bareP, h, numB, inB]
    have z_qos : p.qos = 0 := by rw [hs]; simp [bareP, h, numB, inB]
    have z_topic : p.topic = em := by rw [hs]; simp [bareP, h, numB, inB]
    have z_pay : p.pay = [] := by rw [hs]; simp [bareP, h, numB, inB]
    have z_level : p.level = 0 := by rw [hs]; simp [bareP, h, numB, inB]
    have z_client : p.client = em := by rw [hs]; simp [bareP, h, numB, inB]
    have z_clean : p.clean = false := by rw [hs]; simp [bareP, h, numB, inB]
    have z_keep : p.keep = 0 := by rw [hs]; simp [bareP, h, numB, inB]
    have z_hasWill : p.hasWill = false := by rw [hs]; simp [bareP, h, numB, inB]
    have z_wt : p.wt = em := by rw [hs]; simp [bareP, h, numB, inB]
    have z_wp : p.wp = [] := by rw [hs]; simp [bareP, h, numB, inB]
    have z_wq : p.wq = 0 := by rw [hs]; simp [bareP, h, numB, inB]
    have z_wr : p.wr = false := by rw [hs]; simp [bareP, h, numB, inB]
    have z_hasUser : p.hasUser = false := by rw [hs]; simp [bareP, h, numB, inB]
    have z_hasPass : p.hasPass = false := by rw [hs]; simp [bareP, h, numB, inB]
    have z_user : p.user = em := by rw [hs]; simp [bareP, h, numB, inB]
    have z_present : p.present = false := by rw [hs]; simp [bareP, h, numB, inB]
    have z_code : p.code = 0 := by rw [hs]; simp [bareP, h, numB, inB]
    have z_subs : p.subs = [] := by rw [hs]; simp [bareP, h, numB, inB]
    have z_codes : p.codes = [] := by rw [hs]; simp [bareP, h, numB, inB]
    have z_pass : p.pass = [] := by rw [hs]; simp [bareP, h, numB, inB]
    simp only [rightR, rightB, valB, numB, hsm, e, h, z_dup, z_retain, z_qos, z_topic, z_pay, z_level, z_client, z_clean, z_keep, z_hasWill, z_wt, z_wp, z_wq, z_wr, z_hasUser, z_hasPass, z_user, z_present, z_code, z_subs, z_codes, z_pass]
    rw [Bool.eq_iff_iff]
    simp [subB, codB, inB, txB_em, numB, h]
    try grind
  · have e := hk
    clear hk
    have z_dup : p.dup = false := by rw [hs]; simp [bareP, h, numB, inB]
    have z_retain : p.retain = false := by rw [hs]; simp [bareP, h, numB, inB]
    have z_qos : p.qos = 0 := by rw [hs]; simp [bareP, h, numB, inB]
    have z_topic : p.topic = em := by rw [hs]; simp [bareP, h, numB, inB]
    have z_pay : p.pay = [] := by rw [hs]; simp [bareP, h, numB, inB]
    have z_level : p.level = 0 := by rw [hs]; simp [bareP, h, numB, inB]
    have z_client : p.client = em := by rw [hs]; simp [bareP, h, numB, inB]
    have z_clean : p.clean = false := by rw [hs]; simp [bareP, h, numB, inB]
    have z_keep : p.keep = 0 := by rw [hs]; simp [bareP, h, numB, inB]
    have z_hasWill : p.hasWill = false := by rw [hs]; simp [bareP, h, numB, inB]
    have z_wt : p.wt = em := by rw [hs]; simp [bareP, h, numB, inB]
    have z_wp : p.wp = [] := by rw [hs]; simp [bareP, h, numB, inB]
    have z_wq : p.wq = 0 := by rw [hs]; simp [bareP, h, numB, inB]
    have z_wr : p.wr = false := by rw [hs]; simp [bareP, h, numB, inB]
    have z_hasUser : p.hasUser = false := by rw [hs]; simp [bareP, h, numB, inB]
    have z_hasPass : p.hasPass = false := by rw [hs]; simp [bareP, h, numB, inB]
    have z_user : p.user = em := by rw [hs]; simp [bareP, h, numB, inB]
    have z_present : p.present = false := by rw [hs]; simp [bareP, h, numB, inB]
    have z_code : p.code = 0 := by rw [hs]; simp [bareP, h, numB, inB]
    have z_subs : p.subs = [] := by rw [hs]; simp [bareP, h, numB, inB]
    have z_codes : p.codes = [] := by rw [hs]; simp [bareP, h, numB, inB]
    have z_pass : p.pass = [] := by rw [hs]; simp [bareP, h, numB, inB]
    simp only [rightR, rightB, valB, numB, hsm, e, h, z_dup, z_retain, z_qos, z_topic, z_pay, z_level, z_client, z_clean, z_keep, z_hasWill, z_wt, z_wp, z_wq, z_wr, z_hasUser, z_hasPass, z_user, z_present, z_code, z_subs, z_codes, z_pass]
    rw [Bool.eq_iff_iff]
    simp [subB, codB, inB, txB_em, numB, h]
    try grind
  · have e := hk
    clear hk
    have z_dup : p.dup = false := by rw [hs]; simp [bareP, h, numB, inB]
    have z_retain : p.retain = false := by rw [hs]; simp [bareP, h, numB, inB]
    have z_qos : p.qos = 0 := by rw [hs]; simp [bareP, h, numB, inB]
    have z_topic : p.topic = em := by rw [hs]; simp [bareP, h, numB, inB]
    have z_pay : p.pay = [] := by rw [hs]; simp [bareP, h, numB, inB]
    have z_level : p.level = 0 := by rw [hs]; simp [bareP, h, numB, inB]
    have z_client : p.client = em := by rw [hs]; simp [bareP, h, numB, inB]
    have z_clean : p.clean = false := by rw [hs]; simp [bareP, h, numB, inB]
    have z_keep : p.keep = 0 := by rw [hs]; simp [bareP, h, numB, inB]
    have z_hasWill : p.hasWill = false := by rw [hs]; simp [bareP, h, numB, inB]
    have z_wt : p.wt = em := by rw [hs]; simp [bareP, h, numB, inB]
    have z_wp : p.wp = [] := by rw [hs]; simp [bareP, h, numB, inB]
    have z_wq : p.wq = 0 := by rw [hs]; simp [bareP, h, numB, inB]
    have z_wr : p.wr = false := by rw [hs]; simp [bareP, h, numB, inB]
    have z_hasUser : p.hasUser = false := by rw [hs]; simp [bareP, h, numB, inB]
    have z_hasPass : p.hasPass = false := by rw [hs]; simp [bareP, h, numB, inB]
    have z_user : p.user = em := by rw [hs]; simp [bareP, h, numB, inB]
    have z_present : p.present = false := by rw [hs]; simp [bareP, h, numB, inB]
    have z_code : p.code = 0 := by rw [hs]; simp [bareP, h, numB, inB]
    have z_subs : p.subs = [] := by rw [hs]; simp [bareP, h, numB, inB]
    have z_codes : p.codes = [] := by rw [hs]; simp [bareP, h, numB, inB]
    have z_pass : p.pass = [] := by rw [hs]; simp [bareP, h, numB, inB]
    simp only [rightR, rightB, valB, numB, hsm, e, h, z_dup, z_retain, z_qos, z_topic, z_pay, z_level, z_client, z_clean, z_keep, z_hasWill, z_wt, z_wp, z_wq, z_wr, z_hasUser, z_hasPass, z_user, z_present, z_code, z_subs, z_codes, z_pass]
    rw [Bool.eq_iff_iff]
    simp [subB, codB, inB, txB_em, numB, h]
    try grind
  · have e := hk
    clear hk
    have z_dup : p.dup = false := by rw [hs]; simp [bareP, h, numB, inB]
    have z_retain : p.retain = false := by rw [hs]; simp [bareP, h, numB, inB]
    have z_qos : p.qos = 0 := by rw [hs]; simp [bareP, h, numB, inB]
    have z_topic : p.topic = em := by rw [hs]; simp [bareP, h, numB, inB]
    have z_pay : p.pay = [] := by rw [hs]; simp [bareP, h, numB, inB]
    have z_level : p.level = 0 := by rw [hs]; simp [bareP, h, numB, inB]
    have z_client : p.client = em := by rw [hs]; simp [bareP, h, numB, inB]
    have z_clean : p.clean = false := by rw [hs]; simp [bareP, h, numB, inB]
    have z_keep : p.keep = 0 := by rw [hs]; simp [bareP, h, numB, inB]
    have z_hasWill : p.hasWill = false := by rw [hs]; simp [bareP, h, numB, inB]
    have z_wt : p.wt = em := by rw [hs]; simp [bareP, h, numB, inB]
    have z_wp : p.wp = [] := by rw [hs]; simp [bareP, h, numB, inB]
    have z_wq : p.wq = 0 := by rw [hs]; simp [bareP, h, numB, inB]
    have z_wr : p.wr = false := by rw [hs]; simp [bareP, h, numB, inB]
    have z_hasUser : p.hasUser = false := by rw [hs]; simp [bareP, h, numB, inB]
    have z_hasPass : p.hasPass = false := by rw [hs]; simp [bareP, h, numB, inB]
    have z_user : p.user = em := by rw [hs]; simp [bareP, h, numB, inB]
    have z_present : p.present = false := by rw [hs]; simp [bareP, h, numB, inB]
    have z_code : p.code = 0 := by rw [hs]; simp [bareP, h, numB, inB]
    have z_subs : p.subs = [] := by rw [hs]; simp [bareP, h, numB, inB]
    have z_codes : p.codes = [] := by rw [hs]; simp [bareP, h, numB, inB]
    have z_pass : p.pass = [] := by rw [hs]; simp [bareP, h, numB, inB]
    simp only [rightR, rightB, valB, numB, hsm, e, h, z_dup, z_retain, z_qos, z_topic, z_pay, z_level, z_client, z_clean, z_keep, z_hasWill, z_wt, z_wp, z_wq, z_wr, z_hasUser, z_hasPass, z_user, z_present, z_code, z_subs, z_codes, z_pass]
    rw [Bool.eq_iff_iff]
    simp [subB, codB, inB, txB_em, numB, h]
    try grind
  · have e := hk
    clear hk
    have z_dup : p.dup = false := by rw [hs]; simp [bareP, h, numB, inB]
    have z_retain : p.retain = false := by rw [hs]; simp [bareP, h, numB, inB]
    have z_qos : p.qos = 0 := by rw [hs]; simp [bareP, h, numB, inB]
    have z_topic : p.topic = em := by rw [hs]; simp [bareP, h, numB, inB]
    have z_pay : p.pay = [] := by rw [hs]; simp [bareP, h, numB, inB]
    have z_level : p.level = 0 := by rw [hs]; simp [bareP, h, numB, inB]
    have z_client : p.client = em := by rw [hs]; simp [bareP, h, numB, inB]
    have z_clean : p.clean = false := by rw [hs]; simp [bareP, h, numB, inB]
    have z_keep : p.keep = 0 := by rw [hs]; simp [bareP, h, numB, inB]
    have z_hasWill : p.hasWill = false := by rw [hs]; simp [bareP, h, numB, inB]
    have z_wt : p.wt = em := by rw [hs]; simp [bareP, h, numB, inB]
    have z_wp : p.wp = [] := by rw [hs]; simp [bareP, h, numB, inB]
    have z_wq : p.wq = 0 := by rw [hs]; simp [bareP, h, numB, inB]
    have z_wr : p.wr = false := by rw [hs]; simp [bareP, h, numB, inB]
    have z_hasUser : p.hasUser = false := by rw [hs]; simp [bareP, h, numB, inB]
    have z_hasPass : p.hasPass = false := by rw [hs]; simp [bareP, h, numB, inB]
    have z_user : p.user = em := by rw [hs]; simp [bareP, h, numB, inB]
    have z_present : p.present = false := by rw [hs]; simp [bareP, h, numB, inB]
    have z_code : p.code = 0 := by rw [hs]; simp [bareP, h, numB, inB]
    have z_codes : p.codes = [] := by rw [hs]; simp [bareP, h, numB, inB]
    have z_pass : p.pass = [] := by rw [hs]; simp [bareP, h, numB, inB]
    simp only [rightR, rightB, valB, numB, hsm, e, h, z_dup, z_retain, z_qos, z_topic, z_pay, z_level, z_client, z_clean, z_keep, z_hasWill, z_wt, z_wp, z_wq, z_wr, z_hasUser, z_hasPass, z_user, z_present, z_code, z_codes, z_pass]
    rw [Bool.eq_iff_iff]
    simp [subB, codB, inB, txB_em, numB, h]
    try grind
  · have e := hk
    clear hk
    have z_dup : p.dup = false := by rw [hs]; simp [bareP, h, numB, inB]
    have z_retain : p.retain = false := by rw [hs]; simp [bareP, h, numB, inB]
    have z_qos : p.qos = 0 := by rw [hs]; simp [bareP, h, numB, inB]
    have z_topic : p.topic = em := by rw [hs]; simp [bareP, h, numB, inB]
    have z_pay : p.pay = [] := by rw [hs]; simp [bareP, h, numB, inB]
    have z_level : p.level = 0 := by rw [hs]; simp [bareP, h, numB, inB]
    have z_client : p.client = em := by rw [hs]; simp [bareP, h, numB, inB]
    have z_clean : p.clean = false := by rw [hs]; simp [bareP, h, numB, inB]
    have z_keep : p.keep = 0 := by rw [hs]; simp [bareP, h, numB, inB]
    have z_hasWill : p.hasWill = false := by rw [hs]; simp [bareP, h, numB, inB]
    have z_wt : p.wt = em := by rw [hs]; simp [bareP, h, numB, inB]
    have z_wp : p.wp = [] := by rw [hs]; simp [bareP, h, numB, inB]
    have z_wq : p.wq = 0 := by rw [hs]; simp [bareP, h, numB, inB]
    have z_wr : p.wr = false := by rw [hs]; simp [bareP, h, numB, inB]
    have z_hasUser : p.hasUser = false := by rw [hs]; simp [bareP, h, numB, inB]
    have z_hasPass : p.hasPass = false := by rw [hs]; simp [bareP, h, numB, inB]
    have z_user : p.user = em := by rw [hs]; simp [bareP, h, numB, inB]
    have z_present : p.present = false := by rw [hs]; simp [bareP, h, numB, inB]
    have z_code : p.code = 0 := by rw [hs]; simp [bareP, h, numB, inB]
    have z_subs : p.subs = [] := by rw [hs]; simp [bareP, h, numB, inB]
    have z_pass : p.pass = [] := by rw [hs]; simp [bareP, h, numB, inB]
    simp only [rightR, rightB, valB, numB, hsm, e, h, z_dup, z_retain, z_qos, z_topic, z_pay, z_level, z_client, z_clean, z_keep, z_hasWill, z_wt, z_wp, z_wq, z_wr, z_hasUser, z_hasPass, z_user, z_present, z_code, z_subs, z_pass]
    rw [Bool.eq_iff_iff]
    simp [subB, codB, inB, txB_em, numB, h]
    try grind
  · have e := hk
    clear hk
    have z_dup : p.dup = false := by rw [hs]; simp [bareP, h, numB, inB]
    have z_retain : p.retain = false := by rw [hs]; simp [bareP, h, numB, inB]
    have z_qos : p.qos = 0 := by rw [hs]; simp [bareP, h, numB, inB]
    have z_topic : p.topic = em := by rw [hs]; simp [bareP, h, numB, inB]
    have z_pay : p.pay = [] := by rw [hs]; simp [bareP, h, numB, inB]
    have z_level : p.level = 0 := by rw [hs]; simp [bareP, h, numB, inB]
    have z_client : p.client = em := by rw [hs]; simp [bareP, h, numB, inB]
    have z_clean : p.clean = false := by rw [hs]; simp [bareP, h, numB, inB]
    have z_keep : p.keep = 0 := by rw [hs]; simp [bareP, h, numB, inB]
    have z_hasWill : p.hasWill = false := by rw [hs]; simp [bareP, h, numB, inB]
    have z_wt : p.wt = em := by rw [hs]; simp [bareP, h, numB, inB]
    have z_wp : p.wp = [] := by rw [hs]; simp [bareP, h, numB, inB]
    have z_wq : p.wq = 0 := by rw [hs]; simp [bareP, h, numB, inB]
    have z_wr : p.wr = false := by rw [hs]; simp [bareP, h, numB, inB]
    have z_hasUser : p.hasUser = false := by rw [hs]; simp [bareP, h, numB, inB]
    have z_hasPass : p.hasPass = false := by rw [hs]; simp [bareP, h, numB, inB]
    have z_user : p.user = em := by rw [hs]; simp [bareP, h, numB, inB]
    have z_present : p.present = false := by rw [hs]; simp [bareP, h, numB, inB]
    have z_code : p.code = 0 := by rw [hs]; simp [bareP, h, numB, inB]
    have z_codes : p.codes = [] := by rw [hs]; simp [bareP, h, numB, inB]
    have z_pass : p.pass = [] := by rw [hs]; simp [bareP, h, numB, inB]
    simp only [rightR, rightB, valB, numB, hsm, e, h, z_dup, z_retain, z_qos, z_topic, z_pay, z_level, z_client, z_clean, z_keep, z_hasWill, z_wt, z_wp, z_wq, z_wr, z_hasUser, z_hasPass, z_user, z_present, z_code, z_codes, z_pass]
    rw [Bool.eq_iff_iff]
    simp [subB, codB, inB, txB_em, numB, h]
    try grind
  · have e := hk
    clear hk
    have z_dup : p.dup = false := by rw [hs]; simp [bareP, h, numB, inB]
    have z_retain : p.retain = false := by rw [hs]; simp [bareP, h, numB, inB]
    have z_qos : p.qos = 0 := by rw [hs]; simp [bareP, h, numB, inB]
    have z_topic : p.topic = em := by rw [hs]; simp [bareP, h, numB, inB]
    have z_pay : p.pay = [] := by rw [hs]; simp [bareP, h, numB, inB]
    have z_level : p.level = 0 := by rw [hs]; simp [bareP, h, numB, inB]
    have z_client : p.client = em := by rw [hs]; simp [bareP, h, numB, inB]
    have z_clean : p.clean = false := by rw [hs]; simp [bareP, h, numB, inB]
    have z_keep : p.keep = 0 := by rw [hs]; simp [bareP, h, numB, inB]
    have z_hasWill : p.hasWill = false := by rw [hs]; simp [bareP, h, numB, inB]
    have z_wt : p.wt = em := by rw [hs]; simp [bareP, h, numB, inB]
    have z_wp : p.wp = [] := by rw [hs]; simp [bareP, h, numB, inB]
    have z_wq : p.wq = 0 := by rw [hs]; simp [bareP, h, numB, inB]
    have z_wr : p.wr = false := by rw [hs]; simp [bareP, h, numB, inB]
    have z_hasUser : p.hasUser = false := by rw [hs]; simp [bareP, h, numB, inB]
    have z_hasPass : p.hasPass = false := by rw [hs]; simp [bareP, h, numB, inB]
    have z_user : p.user = em := by rw [hs]; simp [bareP, h, numB, inB]
    have z_present : p.present = false := by rw [hs]; simp [bareP, h, numB, inB]
    have z_code : p.code = 0 := by rw [hs]; simp [bareP, h, numB, inB]
    have z_subs : p.subs = [] := by rw [hs]; simp [bareP, h, numB, inB]
    have z_codes : p.codes = [] := by rw [hs]; simp [bareP, h, numB, inB]
    have z_pass : p.pass = [] := by rw [hs]; simp [bareP, h, numB, inB]
    simp only [rightR, rightB, valB, numB, hsm, e, h, z_dup, z_retain, z_qos, z_topic, z_pay, z_level, z_client, z_clean, z_keep, z_hasWill, z_wt, z_wp, z_wq, z_wr, z_hasUser, z_hasPass, z_user, z_present, z_code, z_subs, z_codes, z_pass]
    rw [Bool.eq_iff_iff]
    simp [subB, codB, inB, txB_em, numB, h]
    try grind
  · have e := hk
    clear hk
    have z_dup : p.dup = false := by rw [hs]; simp [bareP, h, numB, inB]
    have z_retain : p.retain = false := by rw [hs]; simp [bareP, h, numB, inB]
    have z_qos : p.qos = 0 := by rw [hs]; simp [bareP, h, numB, inB]
    have z_id : p.id = 0 := by rw [hs]; simp [bareP, h, numB, inB]
    have z_topic : p.topic = em := by rw [hs]; simp [bareP, h, numB, inB]
    have z_pay : p.pay = [] := by rw [hs]; simp [bareP, h, numB, inB]
    have z_level : p.level = 0 := by rw [hs]; simp [bareP, h, numB, inB]
    have z_client : p.client = em := by rw [hs]; simp [bareP, h, numB, inB]
    have z_clean : p.clean = false := by rw [hs]; simp [bareP, h, numB, inB]
    have z_keep : p.keep = 0 := by rw [hs]; simp [bareP, h, numB, inB]
    have z_hasWill : p.hasWill = false := by rw [hs]; simp [bareP, h, numB, inB]
    have z_wt : p.wt = em := by rw [hs]; simp [bareP, h, numB, inB]
    have z_wp : p.wp = [] := by rw [hs]; simp [bareP, h, numB, inB]
    have z_wq : p.wq = 0 := by rw [hs]; simp [bareP, h, numB, inB]
    have z_wr : p.wr = false := by rw [hs]; simp [bareP, h, numB, inB]
    have z_hasUser : p.hasUser = false := by rw [hs]; simp [bareP, h, numB, inB]
    have z_hasPass : p.hasPass = false := by rw [hs]; simp [bareP, h, numB, inB]
    have z_user : p.user = em := by rw [hs]; simp [bareP, h, numB, inB]
    have z_present : p.present = false := by rw [hs]; simp [bareP, h, numB, inB]
    have z_code : p.code = 0 := by rw [hs]; simp [bareP, h, numB, inB]
    have z_subs : p.subs = [] := by rw [hs]; simp [bareP, h, numB, inB]
    have z_codes : p.codes = [] := by rw [hs]; simp [bareP, h, numB, inB]
    have z_pass : p.pass = [] := by rw [hs]; simp [bareP, h, numB, inB]
    simp only [rightR, rightB, valB, numB, hsm, e, h, z_dup, z_retain, z_qos, z_id, z_topic, z_pay, z_level, z_client, z_clean, z_keep, z_hasWill, z_wt, z_wp, z_wq, z_wr, z_hasUser, z_hasPass, z_user, z_present, z_code, z_subs, z_codes, z_pass]
    rw [Bool.eq_iff_iff]
    simp [subB, codB, inB, txB_em, numB, h]
    try grind
  · have e := hk
    clear hk
    have z_dup : p.dup = false := by rw [hs]; simp [bareP, h, numB, inB]
    have z_retain : p.retain = false := by rw [hs]; simp [bareP, h, numB, inB]
    have z_qos : p.qos = 0 := by rw [hs]; simp [bareP, h, numB, inB]
    have z_id : p.id = 0 := by rw [hs]; simp [bareP, h, numB, inB]
    have z_topic : p.topic = em := by rw [hs]; simp [bareP, h, numB, inB]
    have z_pay : p.pay = [] := by rw [hs]; simp [bareP, h, numB, inB]
    have z_level : p.level = 0 := by rw [hs]; simp [bareP, h, numB, inB]
    have z_client : p.client = em := by rw [hs]; simp [bareP, h, numB, inB]
    have z_clean : p.clean = false := by rw [hs]; simp [bareP, h, numB, inB]
    have z_keep : p.keep = 0 := by rw [hs]; simp [bareP, h, numB, inB]
    have z_hasWill : p.hasWill = false := by rw [hs]; simp [bareP, h, numB, inB]
    have z_wt : p.wt = em := by rw [hs]; simp [bareP, h, numB, inB]
    have z_wp : p.wp = [] := by rw [hs]; simp [bareP, h, numB, inB]
    have z_wq : p.wq = 0 := by rw [hs]; simp [bareP, h, numB, inB]
    have z_wr : p.wr = false := by rw [hs]; simp [bareP, h, numB, inB]
    have z_hasUser : p.hasUser = false := by rw [hs]; simp [bareP, h, numB, inB]
    have z_hasPass : p.hasPass = false := by rw [hs]; simp [bareP, h, numB, inB]
    have z_user : p.user = em := by rw [hs]; simp [bareP, h, numB, inB]
    have z_present : p.present = false := by rw [hs]; simp [bareP, h, numB, inB]
    have z_code : p.code = 0 := by rw [hs]; simp [bareP, h, numB, inB]
    have z_subs : p.subs = [] := by rw [hs]; simp [bareP, h, numB, inB]
    have z_codes : p.codes = [] := by rw [hs]; simp [bareP, h, numB, inB]
    have z_pass : p.pass = [] := by rw [hs]; simp [bareP, h, numB, inB]
    simp only [rightR, rightB, valB, numB, hsm, e, h, z_dup, z_retain, z_qos, z_id, z_topic, z_pay, z_level, z_client, z_clean, z_keep, z_hasWill, z_wt, z_wp, z_wq, z_wr, z_hasUser, z_hasPass, z_user, z_present, z_code, z_subs, z_codes, z_pass]
    rw [Bool.eq_iff_iff]
    simp [subB, codB, inB, txB_em, numB, h]
    try grind
  have e := hk
  clear hk
  have z_dup : p.dup = false := by rw [hs]; simp [bareP, h, numB, inB]
  have z_retain : p.retain = false := by rw [hs]; simp [bareP, h, numB, inB]
  have z_qos : p.qos = 0 := by rw [hs]; simp [bareP, h, numB, inB]
  have z_id : p.id = 0 := by rw [hs]; simp [bareP, h, numB, inB]
  have z_topic : p.topic = em := by rw [hs]; simp [bareP, h, numB, inB]
  have z_pay : p.pay = [] := by rw [hs]; simp [bareP, h, numB, inB]
  have z_level : p.level = 0 := by rw [hs]; simp [bareP, h, numB, inB]
  have z_client : p.client = em := by rw [hs]; simp [bareP, h, numB, inB]
  have z_clean : p.clean = false := by rw [hs]; simp [bareP, h, numB, inB]
  have z_keep : p.keep = 0 := by rw [hs]; simp [bareP, h, numB, inB]
  have z_hasWill : p.hasWill = false := by rw [hs]; simp [bareP, h, numB, inB]
  have z_wt : p.wt = em := by rw [hs]; simp [bareP, h, numB, inB]
  have z_wp : p.wp = [] := by rw [hs]; simp [bareP, h, numB, inB]
  have z_wq : p.wq = 0 := by rw [hs]; simp [bareP, h, numB, inB]
  have z_wr : p.wr = false := by rw [hs]; simp [bareP, h, numB, inB]
  have z_hasUser : p.hasUser = false := by rw [hs]; simp [bareP, h, numB, inB]
  have z_hasPass : p.hasPass = false := by rw [hs]; simp [bareP, h, numB, inB]
  have z_user : p.user = em := by rw [hs]; simp [bareP, h, numB, inB]
  have z_present : p.present = false := by rw [hs]; simp [bareP, h, numB, inB]
  have z_code : p.code = 0 := by rw [hs]; simp [bareP, h, numB, inB]
  have z_subs : p.subs = [] := by rw [hs]; simp [bareP, h, numB, inB]
  have z_codes : p.codes = [] := by rw [hs]; simp [bareP, h, numB, inB]
  have z_pass : p.pass = [] := by rw [hs]; simp [bareP, h, numB, inB]
  simp only [rightR, rightB, valB, numB, hsm, e, h, z_dup, z_retain, z_qos, z_id, z_topic, z_pay, z_level, z_client, z_clean, z_keep, z_hasWill, z_wt, z_wp, z_wq, z_wr, z_hasUser, z_hasPass, z_user, z_present, z_code, z_subs, z_codes, z_pass]
  rw [Bool.eq_iff_iff]
  simp [subB, codB, inB, txB_em, numB, h]
  try grind
structure RightP (p : Pk) : Prop where
  kd : inB p.kind 1 14 = true
  bare : p = bareP p
  val : valB p = true
  len : (behindL p).length ≤ 8192
theorem rightB_iff {p : Pk} : rightB p = true ↔ RightP p := by
  unfold rightB
  simp only [Bool.and_eq_true, decide_eq_true_eq, samePk_iff]
  exact ⟨fun ⟨⟨⟨a, b⟩, c⟩, d⟩ => ⟨a, b, c, d⟩, fun ⟨a, b, c, d⟩ => ⟨⟨⟨a, b⟩, c⟩, d⟩⟩
theorem pub_facts {p : Pk} (h : RightP p) (hk : p.kind = 3) : (0 ≤ p.qos ∧ p.qos ≤ 2) ∧ (p.dup = true → 0 < p.qos) := by
  have hv := h.val
  simp [valB, hk, inB] at hv
  refine ⟨hv.2.1, fun hd => ?_⟩
  have hb := h.bare
  have : p.dup = (p.dup && decide (0 < p.qos)) := by
    conv => lhs; rw [hb]
    simp [bareP, hk]
  rw [hd] at this
  simpa using this.symm
theorem id_ok {p : Pk} (h : RightP p) (hn : numB p = true) : 0 ≤ p.id ∧ p.id ≤ 65535 := by
  have hv := h.val
  unfold valB at hv
  rw [Bool.and_eq_true] at hv
  have h1 := hv.1
  rw [hn] at h1
  simp [inB] at h1
  omega
end Go.Hub
namespace Go.Proofs.Ytkdeedhjkjffpaa
open Go.RowKit Go.Hub
def keyP (p : Pk) : Option (Int × Int) := if p.kind = 3 then some (if p.qos = 1 then 4 else 5, p.id) else if p.kind = 6 then some (7, p.id) else if p.kind = 12 then some (13, 0) else none
def OwedOk (p : Pk) : Prop := p.kind = 8 ∨ p.kind = 10 ∨ p.kind = 6 ∨ (p.kind = 12 ∧ p.id = 0) ∨ (p.kind = 3 ∧ (p.qos = 1 ∨ p.qos = 2))
def OutOk (p : Pk) : Prop := p = { kind := 3, dup := p.dup, retain := p.retain, qos := p.qos, id := p.id, topic := p.topic, pay := p.pay }
def cntP (l : List Pk) (k : Int × Int) : Nat := l.countP fun p => decide (keyP p = some k)
def cntA (l : List Pk) : Nat := l.countP fun p => (keyP p).isSome
def findP (l : List Pk) (i : Int) : Option Pk := l.find? fun o => decide (o.id = i)
structure Sim (t : Tr) (r : Rt) : Prop where
  cl : t.clean = r.clean
  con : t.greeted = r.connect
  ov : t.left = r.over
  told : (t.told = [] ∧ r.present = false ∧ r.acked = false ∧ (r.connect = true → r.wish = t.gr.clean)) ∨ (∃ c, t.told = [c] ∧ r.present = true ∧ r.connect = true ∧ r.acked = decide (c.code = 0) ∧ r.wish = !c.present)
  subs : t.subs = r.owed.filter fun p => decide (p.kind = 8)
  uns : t.unsubs = r.owed.filter fun p => decide (p.kind = 10)
  nd : (t.owed.map (·.1)).Nodup
  cnt : ∀ k, (lk t.owed k).getD 0 = (cntP r.owed k : Int)
  sum : (t.owed.map (·.2)).sum = (cntA r.owed : Int)
  ok : ∀ p ∈ r.owed, OwedOk p
  out1 : ∀ i, (lk t.out i).map (·.1) = findP r.out i
  out2 : ∀ i f, lk t.out i = some f → f.2.2.1 = isM r.recd i ∧ f.2.2.2 = isM r.gone i ∧ (f.2.1 = true → f.2.2.1 = true) ∧ (f.2.2.2 = true → f.1.qos = 2)
  out3 : ∀ i, lk t.out i = none → isM r.recd i = false ∧ isM r.gone i = false
  okO : ∀ o ∈ r.out, OutOk o
  ndO : (r.out.map (·.id)).Nodup
section
variable {l : List Pk} {i j : Int} {k : Nat} {p o : Pk} {q kd : Int}
theorem find_none (h : findP l i = none) : atL i l = none := by
  induction l with
  | nil => rfl
  | cons o r ih =>
    unfold findP at h
    rw [List.find?_cons] at h
    by_cases e : o.id = i
    · simp [e] at h
    rw [atL, if_neg e, ih (by simpa [e, findP] using h)]; rfl
theorem find_some (h : findP l i = some o) : ∃ k, atL i l = some k ∧ l[k]? = some o ∧ o.id = i := by
  induction l with
  | nil => cases h
  | cons x r ih =>
    unfold findP at h
    rw [List.find?_cons] at h
    by_cases e : x.id = i
    · simp [e] at h
      subst h
      exact ⟨0, by rw [atL, if_pos e], rfl, e⟩
    obtain ⟨k, h1, h2, h3⟩ := ih (by simpa [e, findP] using h)
    exact ⟨k + 1, by rw [atL, if_neg e, h1]; rfl, by simpa using h2, h3⟩
theorem find_app (h : findP l p.id = none) : findP (l ++ [p]) i = if p.id = i then some p else findP l i := by
  unfold findP at *
  rw [List.find?_append]
  by_cases e : p.id = i
  · subst e
    rw [h]; simp
  rw [if_neg e]
  simp [e]
theorem nd_app (h : findP l p.id = none) (hn : (l.map (·.id)).Nodup) : ((l ++ [p]).map (·.id)).Nodup := by
  rw [List.map_append, List.nodup_append]
  refine ⟨hn, by simp, fun a ha b hb e => ?_⟩
  simp at hb
  subst hb
  obtain ⟨o, ho, rfl⟩ := List.mem_map.1 ha
  unfold findP at h
  have := List.find?_eq_none.1 h o ho
  simp [e] at this
theorem del_find (h : atL i l = some k) (hn : (l.map (·.id)).Nodup) : findP (l.take k ++ l.drop (k + 1)) j = if i = j then none else findP l j := by
  induction l generalizing k with
  | nil => cases h
  | cons x r ih =>
    rw [List.map_cons, List.nodup_cons] at hn
    by_cases e : x.id = i
    · rw [atL, if_pos e] at h
      injection h with h
      subst h
      show findP r j = _
      by_cases e2 : i = j
      · rw [if_pos e2]
        unfold findP
        rw [List.find?_eq_none]
        intro y hy c
        apply hn.1
        rw [e, e2]
        exact List.mem_map.2 ⟨y, hy, by simpa using c⟩
      rw [if_neg e2]
      unfold findP
      rw [List.find?_cons, decide_eq_false (by rw [e]; exact e2)]
    rw [atL, if_neg e] at h
    obtain ⟨k', h1, rfl⟩ := Option.map_eq_some_iff.1 h
    have := ih h1 hn.2
    show findP (x :: (r.take k' ++ r.drop (k' + 1))) j = _
    unfold findP at this ⊢
    rw [List.find?_cons, List.find?_cons, this]
    by_cases e2 : x.id = j
    · have e3 : ¬ i = j := fun c => e (e2.trans c.symm)
      rw [if_neg e3]; simp [e2, e3]
    simp [e2]
theorem del_sub {α : Type} (l : List α) (k : Nat) : (l.take k ++ l.drop (k + 1)).Sublist l := by
  rw [← List.eraseIdx_eq_take_drop_succ]
  exact List.eraseIdx_sublist _ _
theorem isM_set (l : List (Int × Bool)) (i j : Int) : isM (setL l i) j = if i = j then true else isM l j := by
  unfold isM setL
  rw [lk_cons]
  by_cases e : i = j
  · rw [if_pos e, if_pos e]; rfl
  rw [if_neg e, if_neg e, lk_strike_other l (fun c => e c.symm)]
theorem isM_strike (l : List (Int × Bool)) (i j : Int) : isM (strike l i) j = if i = j then false else isM l j := by
  unfold isM
  by_cases e : i = j
  · subst e; rw [if_pos rfl, lk_strike_same]; rfl
  rw [if_neg e, lk_strike_other l (fun c => e c.symm)]
theorem pay_spec (hk : kd = 3 ∨ kd = 6 ∨ kd = 12) (l : List Pk) : (payL kd q i l = none ∧ ∀ o ∈ l, ¬ (o.kind = kd ∧ (kd = 3 → o.qos = q) ∧ o.id = i)) ∨ ∃ a o b, l = a ++ o :: b ∧ payL kd q i l = some (a ++ b) ∧ o.kind = kd ∧ (kd = 3 → o.qos = q) ∧ o.id = i := by
  induction l with
  | nil => exact .inl ⟨rfl, fun o ho => by cases ho⟩
  | cons x r ih =>
    by_cases c : x.kind ≠ kd ∨ (kd = 3 ∧ x.qos ≠ q)
    · have e : payL kd q i (x :: r) = (payL kd q i r).map (x :: ·) := by rw [payL, if_pos c]
      rcases ih with ⟨h1, h2⟩ | ⟨a, o, b, h1, h2, h3⟩
      · refine .inl ⟨by rw [e, h1]; rfl, fun o ho => ?_⟩
        rcases List.mem_cons.1 ho with rfl | ho
        · rintro ⟨d1, d2, _⟩
          rcases c with c | c
          · exact c d1
          exact c.2 (d2 c.1)
        exact h2 o ho
      exact .inr ⟨x :: a, o, b, by rw [h1]; rfl, by rw [e, h2]; rfl, h3⟩
    have d1 : x.kind = kd := Classical.not_not.1 fun d => c (.inl d)
    have d2 : kd = 3 → x.qos = q := fun d => Classical.not_not.1 fun d' => c (.inr ⟨d, d'⟩)
    by_cases e : x.id = i
    · exact .inr ⟨[], x, r, rfl, by rw [payL, if_neg c, if_pos e]; rfl, d1, d2, e⟩
    have e' : payL kd q i (x :: r) = (payL kd q i r).map (x :: ·) := by rw [payL, if_neg c, if_neg e, if_neg (by omega)]
    rcases ih with ⟨h1, h2⟩ | ⟨a, o, b, h1, h2, h3⟩
    · refine .inl ⟨by rw [e', h1]; rfl, fun o ho => ?_⟩
      rcases List.mem_cons.1 ho with rfl | ho
      · exact fun d => e d.2.2
      exact h2 o ho
    exact .inr ⟨x :: a, o, b, by rw [h1]; rfl, by rw [e', h2]; rfl, h3⟩
theorem pay_first (hk : kd = 8 ∨ kd = 10) (l : List Pk) : (payL kd 0 i l = none ∧ ∀ x r, (l.filter fun p => decide (p.kind = kd)) = x :: r → ¬ x.id = i) ∨ ∃ a x b, l = a ++ x :: b ∧ payL kd 0 i l = some (a ++ b) ∧ (∀ y ∈ a, ¬ y.kind = kd) ∧ x.kind = kd ∧ x.id = i := by
  induction l with
  | nil => exact .inl ⟨rfl, fun x r h => by cases h⟩
  | cons x r ih =>
    by_cases c : x.kind = kd
    · have c' : ¬ (x.kind ≠ kd ∨ (kd = 3 ∧ x.qos ≠ 0)) := by rintro (d | d); exact d c; omega
      by_cases e : x.id = i
      · exact .inr ⟨[], x, r, rfl, by rw [payL, if_neg c', if_pos e]; rfl, by simp, c, e⟩
      refine .inl ⟨by rw [payL, if_neg c', if_neg e, if_pos hk], fun y s h => ?_⟩
      rw [List.filter_cons, if_pos (by simpa using c)] at h
      injection h with h _
      rw [← h]; exact e
    have e' : payL kd 0 i (x :: r) = (payL kd 0 i r).map (x :: ·) := by rw [payL, if_pos (.inl c)]
    rcases ih with ⟨h1, h2⟩ | ⟨a, o, b, h1, h2, h3, h4⟩
    · refine .inl ⟨by rw [e', h1]; rfl, fun y s h => ?_⟩
      rw [List.filter_cons, if_neg (by simpa using c)] at h
      exact h2 y s h
    refine .inr ⟨x :: a, o, b, by rw [h1]; rfl, by rw [e', h2]; rfl, fun y hy => ?_, h4⟩
    rcases List.mem_cons.1 hy with rfl | hy
    · exact c
    exact h3 y hy
end
theorem getDput (E : List ((Int × Int) × Int)) (k k' : Int × Int) (v : Int) : (lk ((k, v) :: strike E k) k').getD 0 = if k = k' then v else (lk E k').getD 0 := by
  rw [lk_cons]
  by_cases e : k = k'
  · rw [if_pos e, if_pos e]; rfl
  rw [if_neg e, if_neg e, lk_strike_other E (fun c => e c.symm)]
theorem sumStrike {E : List ((Int × Int) × Int)} (hd : (E.map (·.1)).Nodup) (k : Int × Int) : (E.map (·.2)).sum = (lk E k).getD 0 + ((strike E k).map (·.2)).sum := by
  cases h : lk E k with
  | none => rw [strike_none h]; simp
  | some u =>
    have := lk_some h
    clear h
    induction E with
    | nil => cases this
    | cons p q ih =>
      rw [List.map_cons, List.nodup_cons] at hd
      unfold strike
      rw [List.filter_cons]
      by_cases e : p.1 = k
      · have hr : (q.filter fun p => !decide (p.1 = k)) = q := by
          rw [List.filter_eq_self]
          intro z hz
          have : z.1 ≠ k := fun c => hd.1 (List.mem_map.2 ⟨z, hz, c.trans e.symm⟩)
          simpa using this
        have hpu : p = (k, u) := by
          rcases List.mem_cons.1 this with h | h
          · exact h.symm
          exact absurd (List.mem_map.2 ⟨_, h, e.symm⟩) hd.1
        rw [if_neg (by simp [e]), hr, hpu]
        simp
      have hm : (k, u) ∈ q := by
        rcases List.mem_cons.1 this with h | h
        · rw [← h] at e; exact absurd rfl e
        exact h
      rw [if_pos (by simp [e]), List.map_cons, List.sum_cons, List.map_cons, List.sum_cons, ih hd.2 hm]
      unfold strike
      simp only [Option.getD_some]
      omega
theorem sumPut {E : List ((Int × Int) × Int)} (hd : (E.map (·.1)).Nodup) (k : Int × Int) (d : Int) : ((((k, (lk E k).getD 0 + d) :: strike E k) : List ((Int × Int) × Int)).map (·.2)).sum = (E.map (·.2)).sum + d := by
  rw [List.map_cons, List.sum_cons, sumStrike hd k]
  omega
section
variable {t : Tr} {r : Rt} {p o : Pk} {k : Int × Int} {kd q i : Int} {a b : List Pk}
theorem cntP_app (l : List Pk) (p : Pk) (k : Int × Int) : cntP (l ++ [p]) k = cntP l k + if keyP p = some k then 1 else 0 := by
  unfold cntP
  rw [List.countP_append, List.countP_cons, List.countP_nil]
  simp
theorem cntA_app (l : List Pk) (p : Pk) : cntA (l ++ [p]) = cntA l + if (keyP p).isSome then 1 else 0 := by
  unfold cntA
  rw [List.countP_append, List.countP_cons, List.countP_nil]
  simp
theorem cntP_mid (a b : List Pk) (p : Pk) (k : Int × Int) : cntP (a ++ p :: b) k = cntP (a ++ b) k + if keyP p = some k then 1 else 0 := by
  unfold cntP
  rw [List.countP_append, List.countP_append, List.countP_cons]
  simp
  omega
theorem cntA_mid (a b : List Pk) (p : Pk) : cntA (a ++ p :: b) = cntA (a ++ b) + if (keyP p).isSome then 1 else 0 := by
  unfold cntA
  rw [List.countP_append, List.countP_append, List.countP_cons]
  omega
theorem key_8 (h : p.kind = 8 ∨ p.kind = 10) : keyP p = none := by
  unfold keyP
  rw [if_neg (by omega), if_neg (by omega), if_neg (by omega)]
theorem fil_app (l : List Pk) (kd : Int) (h : ¬ p.kind = kd) : ((l ++ [p]).filter fun p => decide (p.kind = kd)) = l.filter fun p => decide (p.kind = kd) := by
  rw [List.filter_append, List.filter_cons, if_neg (by simpa using h)]
  simp
theorem fil_mid (a b : List Pk) (kd : Int) (h : ¬ p.kind = kd) : ((a ++ p :: b).filter fun p => decide (p.kind = kd)) = (a ++ b).filter fun p => decide (p.kind = kd) := by
  rw [List.filter_append, List.filter_append, List.filter_cons, if_neg (by simpa using h)]
theorem ok_app (h : ∀ x ∈ r.owed, OwedOk x) (hp : OwedOk p) : ∀ x ∈ r.owed ++ [p], OwedOk x := fun x hx => by
  rcases List.mem_append.1 hx with hx | hx
  · exact h x hx
  obtain rfl := List.mem_singleton.1 hx; exact hp
theorem ok_mid {l : List Pk} (h : ∀ x ∈ l, OwedOk x) (e : l = a ++ p :: b) : ∀ x ∈ a ++ b, OwedOk x := fun x hx => h x (by
  rw [e]
  rcases List.mem_append.1 hx with hx | hx
  · exact List.mem_append_left _ hx
  exact List.mem_append_right _ (List.mem_cons_of_mem _ hx))
theorem Sim.owe (h : Sim t r) (hk : keyP p = some k) (hp : OwedOk p) (h8 : ¬ p.kind = 8) (h10 : ¬ p.kind = 10) : Sim (t.owe k) { r with owed := r.owed ++ [p] } := by
  refine ⟨h.cl, h.con, h.ov, h.told, ?_, ?_, put_nodup h.nd _ _, fun k' => ?_, ?_, ok_app h.ok hp, h.out1, h.out2, h.out3, h.okO, h.ndO⟩
  · show t.subs = _
    rw [h.subs, fil_app _ _ h8]
  · show t.unsubs = _
    rw [h.uns, fil_app _ _ h10]
  · show (lk ((k, (lk t.owed k).getD 0 + 1) :: strike t.owed k) k').getD 0 = _
    rw [getDput, cntP_app, hk]
    by_cases e : k = k'
    · subst e
      rw [if_pos rfl, if_pos rfl, h.cnt]
      omega
    rw [if_neg e, if_neg (fun c => e (Option.some.inj c)), h.cnt]
    omega
  show ((((k, (lk t.owed k).getD 0 + 1) :: strike t.owed k) : List ((Int × Int) × Int)).map (·.2)).sum = _
  rw [sumPut h.nd, h.sum, cntA_app, hk]
  simp
theorem Sim.pay (h : Sim t r) (hk : kd = 3 ∨ kd = 6 ∨ kd = 12) (hm : ∀ o, OwedOk o → ((o.kind = kd ∧ (kd = 3 → o.qos = q) ∧ o.id = i) ↔ keyP o = some k)) :
    (t.payT k).1 = (r.payR kd q i).1 ∧ Sim (t.payT k).2 (r.payR kd q i).2 := by
  rcases pay_spec (q := q) (i := i) hk r.owed with ⟨h1, h2⟩ | ⟨a, o, b, h1, h2, h3, h4, h5⟩
  · have h0 : cntP r.owed k = 0 := by
      unfold cntP
      rw [List.countP_eq_zero]
      intro o ho c
      exact h2 o ho ((hm o (h.ok o ho)).2 (by simpa using c))
    rw [pay_f (by rw [h.cnt, h0]; rfl), payR_no h1]
    exact ⟨rfl, h⟩
  have ho : OwedOk o := h.ok o (by rw [h1]; simp)
  have hko := (hm o ho).1 ⟨h3, h4, h5⟩
  have hc : cntP r.owed k = cntP (a ++ b) k + 1 := by rw [h1, cntP_mid, if_pos hko]
  have e8 : ¬ o.kind = 8 := by omega
  have e10 : ¬ o.kind = 10 := by omega
  rw [pay_t (by rw [h.cnt, hc]; omega), payR_hit h2]
  refine ⟨rfl, h.cl, h.con, h.ov, h.told, ?_, ?_, put_nodup h.nd _ _, fun k' => ?_, ?_, ok_mid h.ok h1, h.out1, h.out2, h.out3, h.okO, h.ndO⟩
  · show t.subs = _
    rw [h.subs, h1, fil_mid _ _ _ e8]
  · show t.unsubs = _
    rw [h.uns, h1, fil_mid _ _ _ e10]
  · show (lk ((k, (lk t.owed k).getD 0 - 1) :: strike t.owed k) k').getD 0 = (cntP (a ++ b) k' : Int)
    rw [getDput]
    by_cases e : k = k'
    · subst e
      rw [if_pos rfl, h.cnt, hc]
      omega
    rw [if_neg e, h.cnt, h1, cntP_mid, hko, if_neg (fun c => e (Option.some.inj c))]
    omega
  show ((((k, (lk t.owed k).getD 0 + (-1)) :: strike t.owed k) : List ((Int × Int) × Int)).map (·.2)).sum = (cntA (a ++ b) : Int)
  rw [sumPut h.nd, h.sum, h1, cntA_mid, hko]
  simp
  omega
theorem first_head (kd : Int) : ∀ l : List Pk, firstL kd l = (l.filter fun p => decide (p.kind = kd)).head?
  | [] => rfl
  | o :: l => by
    rw [firstL, List.filter_cons]
    by_cases e : o.kind = kd
    · rw [if_pos e, if_pos (by simpa using e)]; rfl
    rw [if_neg e, if_neg (by simpa using e)]; exact first_head kd l
theorem fil_nil (h : ∀ y ∈ a, ¬ y.kind = kd) : (a.filter fun p => decide (p.kind = kd)) = [] := List.filter_eq_nil_iff.2 fun y hy c => h y hy (by simpa using c)
theorem Sim.front (h : Sim t r) (hk : kd = 8 ∨ kd = 10) {x : Pk} {s : List Pk} (hf : (r.owed.filter fun p => decide (p.kind = kd)) = x :: s) (hx : x.id = i) :
    (r.payR kd 0 i).1 = true ∧ Sim (if kd = 8 then { t with subs := s } else { t with unsubs := s }) (r.payR kd 0 i).2 := by
  rcases pay_first (i := i) hk r.owed with ⟨_, h2⟩ | ⟨a, o, b, h1, h2, h3, h4, h5⟩
  · exact absurd hx (h2 x s hf)
  rw [payR_hit h2]
  refine ⟨rfl, ?_⟩
  have hs : ((a ++ b).filter fun p => decide (p.kind = kd)) = s := by
    rw [h1, List.filter_append, fil_nil h3, List.nil_append, List.filter_cons, if_pos (by simpa using h4)] at hf
    injection hf with _ hf
    rw [List.filter_append, fil_nil h3, List.nil_append, hf]
  have hno : keyP o = none := key_8 (by omega)
  have hc : ∀ k, cntP r.owed k = cntP (a ++ b) k := fun k => by rw [h1, cntP_mid, hno]; simp
  have hA : cntA r.owed = cntA (a ++ b) := by rw [h1, cntA_mid, hno]; simp
  rcases hk with rfl | rfl
  · rw [if_pos rfl]
    exact ⟨h.cl, h.con, h.ov, h.told, hs.symm, (h.uns.trans (by rw [h1, fil_mid _ _ _ (by omega)]) : t.unsubs = _), h.nd, fun k => (h.cnt k).trans (by rw [hc]), h.sum.trans (by rw [hA]), ok_mid h.ok h1, h.out1, h.out2, h.out3, h.okO, h.ndO⟩
  rw [if_neg (by decide)]
  exact ⟨h.cl, h.con, h.ov, h.told, (h.subs.trans (by rw [h1, fil_mid _ _ _ (by omega)]) : t.subs = _), hs.symm, h.nd, fun k => (h.cnt k).trans (by rw [hc]), h.sum.trans (by rw [hA]), ok_mid h.ok h1, h.out1, h.out2, h.out3, h.okO, h.ndO⟩
theorem Sim.sub (h : Sim t r) : (t.subT p).1 = (r.subR p).1 ∧ Sim (t.subT p).2 (r.subR p).2 := by
  cases hs : t.subs with
  | nil =>
    have hf : firstL 8 r.owed = none := by rw [first_head, ← h.subs, hs]; rfl
    rw [subR_none hf]
    unfold Tr.subT
    rw [hs]
    exact ⟨rfl, h⟩
  | cons x s =>
    have hF : (r.owed.filter fun p => decide (p.kind = 8)) = x :: s := by rw [← h.subs, hs]
    have hf : firstL 8 r.owed = some x := by rw [first_head, hF]; rfl
    unfold Tr.subT Rt.subR
    rw [hs, hf]
    show ((if _ then _ else _ : Bool × Tr)).1 = ((if _ then _ else _ : Bool × Rt)).1 ∧ Sim ((if _ then _ else _ : Bool × Tr)).2 ((if _ then _ else _ : Bool × Rt)).2
    by_cases c : x.id ≠ p.id ∨ x.subs.length ≠ p.codes.length ∨ codesB x.subs p.codes = false
    · rw [if_pos c, if_pos c]; exact ⟨rfl, h⟩
    rw [if_neg c, if_neg c]
    have := h.front (i := p.id) (.inl rfl) hF (Classical.not_not.1 fun d => c (.inl d))
    rw [if_pos rfl] at this
    exact ⟨this.1.symm, this.2⟩
theorem Sim.uns_ (h : Sim t r) : (t.unsT p).1 = (r.payR 10 0 p.id).1 ∧ Sim (t.unsT p).2 (r.payR 10 0 p.id).2 := by
  cases hs : t.unsubs with
  | nil =>
    have hF : (r.owed.filter fun p => decide (p.kind = 10)) = [] := by rw [← h.uns, hs]
    rcases pay_first (i := p.id) (.inr rfl : (10 : Int) = 8 ∨ (10 : Int) = 10) r.owed with ⟨h1, _⟩ | ⟨a, o, b, h1, _, _, h4, _⟩
    · rw [payR_no h1]
      unfold Tr.unsT
      rw [hs]
      exact ⟨rfl, h⟩
    rw [h1, List.filter_append, List.filter_cons, if_pos (by simpa using h4)] at hF
    simp at hF
  | cons x s =>
    have hF : (r.owed.filter fun p => decide (p.kind = 10)) = x :: s := by rw [← h.uns, hs]
    unfold Tr.unsT
    rw [hs]
    show ((if _ then _ else _ : Bool × Tr)).1 = _ ∧ Sim ((if _ then _ else _ : Bool × Tr)).2 _
    by_cases c : x.id = p.id
    · rw [if_neg (fun d => d c)]
      have := h.front (i := p.id) (.inr rfl) hF c
      rw [if_neg (by decide)] at this
      exact ⟨this.1.symm, this.2⟩
    rw [if_pos c]
    rcases pay_first (i := p.id) (.inr rfl : (10 : Int) = 8 ∨ (10 : Int) = 10) r.owed with ⟨h1, _⟩ | ⟨a, o, b, h1, _, h3, h4, h5⟩
    · rw [payR_no h1]; exact ⟨rfl, h⟩
    rw [h1, List.filter_append, fil_nil h3, List.nil_append, List.filter_cons, if_pos (by simpa using h4)] at hF
    injection hF with e _
    exact absurd (e ▸ h5) c
theorem Sim.ready (h : Sim t r) : t.readyB = r.acked := by
  unfold Tr.readyB
  rcases h.told with ⟨h1, _, h3, _⟩ | ⟨c, h1, _, _, h4, _⟩
  · rw [h1, h3]
  rw [h1, h4]
theorem Sim.conn (h : Sim t r) : (t.connT p).1 = (r.conR p).1 ∧ Sim (t.connT p).2 (r.conR p).2 := by
  unfold Tr.connT Rt.conR
  rcases h.told with ⟨h1, h2, h3, h4⟩ | ⟨c, h1, h2, _⟩
  · by_cases hc : r.connect = true
    · by_cases hp : p.present = true ∧ (r.clean = true ∨ r.wish = true)
      · rw [if_pos (.inr (.inr (by rw [h.cl, ← h4 hc]; exact hp))), if_pos (.inr (.inr (.inr hp)))]
        exact ⟨rfl, h⟩
      rw [if_neg (by rw [h.con, hc, h1, h.cl, ← h4 hc]; rintro (d | d | d); cases d; exact d rfl; exact hp d), if_neg (by rw [hc, h3, h2]; rintro (d | d | d | d); cases d; cases d; cases d; exact hp d)]
      exact ⟨rfl, h.cl, h.con, h.ov, .inr ⟨p, rfl, rfl, hc, rfl, rfl⟩, h.subs, h.uns, h.nd, h.cnt, h.sum, h.ok, h.out1, h.out2, h.out3, h.okO, h.ndO⟩
    have hc : r.connect = false := by simpa using hc
    rw [if_pos (.inl (h.con.trans hc)), if_pos (.inl hc)]
    exact ⟨rfl, h⟩
  rw [if_pos (.inr (.inl (by rw [h1]; simp))), if_pos (.inr (.inr (.inl h2)))]
  exact ⟨rfl, h⟩
theorem Sim.lkf (h : Sim t r) {i : Int} {f : FlP} (hf : lk t.out i = some f) : ∃ k, atL i r.out = some k ∧ r.out[k]? = some f.1 ∧ f.1.id = i ∧ OutOk f.1 := by
  have h1 := h.out1 i
  rw [hf] at h1
  obtain ⟨k, a1, a2, a3⟩ := find_some h1.symm
  exact ⟨k, a1, a2, a3, h.okO _ (List.mem_of_getElem? a2)⟩
theorem Sim.lkn (h : Sim t r) {i : Int} (hf : lk t.out i = none) : atL i r.out = none ∧ findP r.out i = none := by
  have h1 := h.out1 i
  rw [hf] at h1
  exact ⟨find_none h1.symm, h1.symm⟩
theorem same_out (ho : OutOk o) (hp : OutOk p) (hi : o.id = p.id) : samePk { o with dup := p.dup, retain := p.retain } p = (decide (o.topic = p.topic) && decide (o.pay = p.pay) && decide (o.qos = p.qos)) := by
  rw [Bool.eq_iff_iff, samePk_iff]
  simp only [Bool.and_eq_true, decide_eq_true_eq]
  constructor
  · intro h
    rw [← h]
    exact ⟨⟨rfl, rfl⟩, rfl⟩
  rintro ⟨⟨a, b⟩, c⟩
  rw [ho, hp]
  simp [a, b, c, hi]
theorem Sim.pub (h : Sim t r) (hp : OutOk p) : (t.pubT p).1 = (r.pubR p).1 ∧ Sim (t.pubT p).2 (r.pubR p).2 := by
  by_cases hq : p.qos = 0
  · rw [pubR_0 hq]
    unfold Tr.pubT
    rw [if_pos hq]
    exact ⟨rfl, h⟩
  cases hf : lk t.out p.id with
  | none =>
    obtain ⟨h1, h2⟩ := h.lkn hf
    rw [pubR_new hq h1]
    unfold Tr.pubT
    rw [if_neg hq, hf]
    refine ⟨rfl, h.cl, h.con, h.ov, h.told, h.subs, h.uns, h.nd, h.cnt, h.sum, h.ok, fun i => ?_, fun i f hi => ?_, fun i hi => ?_, fun o ho => ?_, nd_app h2 h.ndO⟩
    · show (lk ((p.id, (p, false, false, false)) :: strike t.out p.id) i).map (·.1) = findP (r.out ++ [p]) i
      rw [lk_cons, find_app h2]
      by_cases e : p.id = i
      · rw [if_pos e, if_pos e]; rfl
      rw [if_neg e, if_neg e, lk_strike_other _ (fun c => e c.symm), h.out1]
    · have hi : lk ((p.id, (p, false, false, false)) :: strike t.out p.id) i = some f := hi
      rw [lk_cons] at hi
      by_cases e : p.id = i
      · rw [if_pos e] at hi
        injection hi with hi
        subst hi e
        obtain ⟨a, b⟩ := h.out3 _ hf
        exact ⟨a.symm, b.symm, (fun c => by cases c), (fun c => by cases c)⟩
      rw [if_neg e, lk_strike_other _ (fun c => e c.symm)] at hi
      exact h.out2 i f hi
    · have hi : lk ((p.id, (p, false, false, false)) :: strike t.out p.id) i = none := hi
      rw [lk_cons] at hi
      by_cases e : p.id = i
      · rw [if_pos e] at hi; cases hi
      rw [if_neg e, lk_strike_other _ (fun c => e c.symm)] at hi
      exact h.out3 i hi
    rcases List.mem_append.1 ho with ho | ho
    · exact h.okO o ho
    obtain rfl := List.mem_singleton.1 ho; exact hp
  | some f =>
    obtain ⟨k, h1, h2, h3, h4⟩ := h.lkf hf
    obtain ⟨g1, _, g3, _⟩ := h.out2 _ f hf
    rw [pubR_dup hq h1 h2]
    unfold Tr.pubT
    rw [if_neg hq, hf]
    refine ⟨?_, h⟩
    show (p.dup && !f.2.1 && !f.2.2.1 && samePk { f.1 with dup := p.dup, retain := p.retain } p) = _
    rw [same_out h4 hp h3, g1]
    cases ha : f.2.1 with
    | false => simp [Bool.and_assoc]
    | true =>
      have := g3 ha
      rw [g1] at this
      simp [this]
theorem Sim.rel (h : Sim t r) (hr : r.acked = true) : (t.relT p).1 = (r.relR p).1 ∧ Sim (t.relT p).2 (r.relR p).2 := by
  obtain ⟨c, hc, hw⟩ : ∃ c, t.told = [c] ∧ r.wish = !c.present := by
    rcases h.told with ⟨_, _, h3, _⟩ | ⟨c, h1, _, _, _, h5⟩
    · rw [h3] at hr; cases hr
    exact ⟨c, h1, h5⟩
  cases hf : lk t.out p.id with
  | none =>
    obtain ⟨h1, h2⟩ := h.lkn hf
    unfold Tr.relT
    rw [hf]
    show ((if _ then _ else _ : Bool × Tr)).1 = _ ∧ Sim ((if _ then _ else _ : Bool × Tr)).2 _
    cases hb : c.present with
    | false =>
      rw [relR_no h1 (by rw [hw, hb]; rfl), if_neg (by rw [hc]; simp [hb])]
      exact ⟨rfl, h⟩
    | true =>
      rw [relR_new h1 (by rw [hw, hb]; rfl), if_pos (by rw [hc]; simp [hb])]
      refine ⟨rfl, h.cl, h.con, h.ov, h.told, h.subs, h.uns, h.nd, h.cnt, h.sum, h.ok, fun i => ?_, fun i f hi => ?_, fun i hi => ?_, fun o ho => ?_, nd_app (p := relP p.id) h2 h.ndO⟩
      · show (lk ((p.id, (({ kind := 3, qos := 2, id := p.id } : Pk), true, true, true)) :: strike t.out p.id) i).map (·.1) = findP (r.out ++ [relP p.id]) i
        rw [lk_cons, find_app (p := relP p.id) h2]
        show _ = if p.id = i then _ else _
        by_cases e : p.id = i
        · rw [if_pos e, if_pos e]; rfl
        rw [if_neg e, if_neg e, lk_strike_other _ (fun c => e c.symm), h.out1]
      · have hi : lk ((p.id, (({ kind := 3, qos := 2, id := p.id } : Pk), true, true, true)) :: strike t.out p.id) i = some f := hi
        rw [lk_cons] at hi
        show f.2.2.1 = isM (setL r.recd p.id) i ∧ f.2.2.2 = isM (setL r.gone p.id) i ∧ _
        rw [isM_set, isM_set]
        by_cases e : p.id = i
        · rw [if_pos e] at hi
          injection hi with hi
          subst hi
          rw [if_pos e, if_pos e]
          exact ⟨rfl, rfl, fun _ => rfl, fun _ => rfl⟩
        rw [if_neg e, lk_strike_other _ (fun c => e c.symm)] at hi
        rw [if_neg e, if_neg e]
        exact h.out2 i f hi
      · have hi : lk ((p.id, (({ kind := 3, qos := 2, id := p.id } : Pk), true, true, true)) :: strike t.out p.id) i = none := hi
        rw [lk_cons] at hi
        show isM (setL r.recd p.id) i = false ∧ isM (setL r.gone p.id) i = false
        rw [isM_set, isM_set]
        by_cases e : p.id = i
        · rw [if_pos e] at hi; cases hi
        rw [if_neg e, lk_strike_other _ (fun c => e c.symm)] at hi
        rw [if_neg e, if_neg e]
        exact h.out3 i hi
      rcases List.mem_append.1 ho with ho | ho
      · exact h.okO o ho
      obtain rfl := List.mem_singleton.1 ho; rfl
  | some f =>
    obtain ⟨k, h1, h2, h3, h4⟩ := h.lkf hf
    obtain ⟨g1, g2, g3, g4⟩ := h.out2 _ f hf
    unfold Tr.relT
    rw [hf]
    show ((if _ then _ else _ : Bool × Tr)).1 = _ ∧ Sim ((if _ then _ else _ : Bool × Tr)).2 _
    by_cases c : f.1.qos ≠ 2 ∨ f.2.2.1 = false
    · rw [if_pos c, relR_bad h1 h2 (c.imp id fun d => g1 ▸ d)]
      exact ⟨rfl, h⟩
    have c1 : f.1.qos = 2 := Classical.not_not.1 fun d => c (.inl d)
    have c2 : f.2.2.1 = true := by
      cases hb : f.2.2.1 with
      | false => exact absurd (.inr hb) c
      | true => rfl
    rw [if_neg c, relR_ok h1 h2 c1 (g1 ▸ c2)]
    refine ⟨rfl, h.cl, h.con, h.ov, h.told, h.subs, h.uns, h.nd, h.cnt, h.sum, h.ok, fun i => ?_, fun i f' hi => ?_, fun i hi => ?_, h.okO, h.ndO⟩
    · show (lk ((p.id, (f.1, f.2.1, f.2.2.1, true)) :: strike t.out p.id) i).map (·.1) = findP r.out i
      rw [lk_cons]
      by_cases e : p.id = i
      · rw [if_pos e, ← h.out1, ← e, hf]; rfl
      rw [if_neg e, lk_strike_other _ (fun c => e c.symm), h.out1]
    · have hi : lk ((p.id, (f.1, f.2.1, f.2.2.1, true)) :: strike t.out p.id) i = some f' := hi
      rw [lk_cons] at hi
      show f'.2.2.1 = isM r.recd i ∧ f'.2.2.2 = isM (setL r.gone p.id) i ∧ _
      rw [isM_set]
      by_cases e : p.id = i
      · rw [if_pos e] at hi
        injection hi with hi
        subst hi
        rw [if_pos e, ← e]
        exact ⟨g1, rfl, g3, fun _ => c1⟩
      rw [if_neg e, lk_strike_other _ (fun c => e c.symm)] at hi
      rw [if_neg e]
      exact h.out2 i f' hi
    have hi : lk ((p.id, (f.1, f.2.1, f.2.2.1, true)) :: strike t.out p.id) i = none := hi
    rw [lk_cons] at hi
    show isM r.recd i = false ∧ isM (setL r.gone p.id) i = false
    rw [isM_set]
    by_cases e : p.id = i
    · rw [if_pos e] at hi; cases hi
    rw [if_neg e, lk_strike_other _ (fun c => e c.symm)] at hi
    rw [if_neg e]
    exact h.out3 i hi
theorem ackT_none (h6 : ¬ p.kind = 6) (h : lk t.out p.id = none) : t.ackT p = t := by unfold Tr.ackT; rw [if_neg h6, h]
theorem ackT_some {f : FlP} (h6 : ¬ p.kind = 6) (h : lk t.out p.id = some f) : t.ackT p = if (p.kind = 4 ∧ f.1.qos = 1) ∨ (p.kind = 7 ∧ f.2.2.2 = true) then { t with out := strike t.out p.id }
    else if p.kind = 5 ∧ f.1.qos = 2 then { t with out := (p.id, (f.1, f.2.1, true, f.2.2.2)) :: strike t.out p.id } else t := by unfold Tr.ackT; rw [if_neg h6, h]
theorem Sim.ack (h : Sim t r) (hk : p.kind = 4 ∨ p.kind = 5 ∨ p.kind = 7) : Sim (t.ackT p) (r.ackR p) := by
  cases hf : lk t.out p.id with
  | none =>
    obtain ⟨h1, h2⟩ := h.lkn hf
    rw [ackT_none (by omega) hf]
    have : r.ackR p = r := by unfold Rt.ackR; rw [h1]
    rw [this]; exact h
  | some f =>
    obtain ⟨k, h1, h2, h3, h4⟩ := h.lkf hf
    obtain ⟨g1, g2, g3, g4⟩ := h.out2 _ f hf
    rw [ackT_some (by omega) hf]
    by_cases c5 : p.kind = 5 ∧ f.1.qos = 2
    · rw [if_neg (by omega), if_pos c5, ackR_rec h1 h2 c5.1 c5.2]
      refine ⟨h.cl, h.con, h.ov, h.told, h.subs, h.uns, h.nd, h.cnt, h.sum, h.ok, fun i => ?_, fun i f' hi => ?_, fun i hi => ?_, h.okO, h.ndO⟩
      · show (lk ((p.id, (f.1, f.2.1, true, f.2.2.2)) :: strike t.out p.id) i).map (·.1) = findP r.out i
        rw [lk_cons]
        by_cases e : p.id = i
        · rw [if_pos e, ← h.out1, ← e, hf]; rfl
        rw [if_neg e, lk_strike_other _ (fun c => e c.symm), h.out1]
      · have hi : lk ((p.id, (f.1, f.2.1, true, f.2.2.2)) :: strike t.out p.id) i = some f' := hi
        rw [lk_cons] at hi
        show f'.2.2.1 = isM (setL r.recd p.id) i ∧ f'.2.2.2 = isM r.gone i ∧ _
        rw [isM_set]
        by_cases e : p.id = i
        · rw [if_pos e] at hi
          injection hi with hi
          subst hi
          rw [if_pos e, ← e]
          exact ⟨rfl, g2, fun _ => rfl, g4⟩
        rw [if_neg e, lk_strike_other _ (fun c => e c.symm)] at hi
        rw [if_neg e]
        exact h.out2 i f' hi
      have hi : lk ((p.id, (f.1, f.2.1, true, f.2.2.2)) :: strike t.out p.id) i = none := hi
      rw [lk_cons] at hi
      show isM (setL r.recd p.id) i = false ∧ isM r.gone i = false
      rw [isM_set]
      by_cases e : p.id = i
      · rw [if_pos e] at hi; cases hi
      rw [if_neg e, lk_strike_other _ (fun c => e c.symm)] at hi
      rw [if_neg e]
      exact h.out3 i hi
    by_cases cd : (p.kind = 4 ∧ f.1.qos = 1) ∨ (p.kind = 7 ∧ f.2.2.2 = true)
    · have cd' : (p.kind = 4 ∧ f.1.qos = 1) ∨ ((p.kind = 7 ∧ f.1.qos = 2) ∧ isM r.gone p.id = true) := cd.imp id fun ⟨d1, d2⟩ => ⟨⟨d1, g4 d2⟩, g2 ▸ d2⟩
      rw [if_pos cd, ackR_del h1 h2 cd']
      refine ⟨h.cl, h.con, h.ov, h.told, h.subs, h.uns, h.nd, h.cnt, h.sum, h.ok, fun i => ?_, fun i f' hi => ?_, fun i hi => ?_, fun o ho => h.okO o ((del_sub r.out k).subset ho), h.ndO.sublist (List.Sublist.map _ (del_sub r.out k))⟩
      · show (lk (strike t.out p.id) i).map (·.1) = findP (r.out.take k ++ r.out.drop (k + 1)) i
        rw [del_find h1 h.ndO]
        by_cases e : p.id = i
        · rw [if_pos e, ← e, lk_strike_same]; rfl
        rw [if_neg e, lk_strike_other _ (fun c => e c.symm), h.out1]
      · have hi : lk (strike t.out p.id) i = some f' := hi
        show f'.2.2.1 = isM (strike r.recd p.id) i ∧ f'.2.2.2 = isM (strike r.gone p.id) i ∧ _
        rw [isM_strike, isM_strike]
        by_cases e : p.id = i
        · rw [← e, lk_strike_same] at hi; cases hi
        rw [lk_strike_other _ (fun c => e c.symm)] at hi
        rw [if_neg e, if_neg e]
        exact h.out2 i f' hi
      have hi : lk (strike t.out p.id) i = none := hi
      show isM (strike r.recd p.id) i = false ∧ isM (strike r.gone p.id) i = false
      rw [isM_strike, isM_strike]
      by_cases e : p.id = i
      · rw [if_pos e, if_pos e]; exact ⟨rfl, rfl⟩
      rw [lk_strike_other _ (fun c => e c.symm)] at hi
      rw [if_neg e, if_neg e]
      exact h.out3 i hi
    rw [if_neg cd, if_neg c5, ackR_else h1 h2 c5 (fun c => cd (c.imp id fun ⟨⟨d1, _⟩, d3⟩ => ⟨d1, g2.trans d3⟩))]
    exact h
theorem right_pub (hr : RightP p) (hk : p.kind = 3) (hq : ¬ p.qos = 0) : OutOk p ∧ (p.qos = 1 ∨ p.qos = 2) := by
  have hf := (pub_facts hr hk).1
  refine ⟨?_, by omega⟩
  have hb := hr.bare
  have hn : numB p = true := by unfold numB; rw [if_pos hk]; simp; omega
  unfold OutOk
  conv => lhs; rw [hb]
  unfold bareP
  simp [hk, hn]
  exact ⟨fun _ => by omega, fun _ => by omega⟩
theorem right_ping (hr : RightP p) (hk : p.kind = 12) : p.id = 0 := by
  have hb := hr.bare
  have hn : numB p = false := by unfold numB; rw [if_neg (by omega)]; simp [inB]; omega
  rw [hb]
  unfold bareP
  simp [hk, hn]
theorem Sim.in_ (h : Sim t r) (hr : RightP p) : Sim (t.inT p) (r.inR p) := by
  have hkd := inB_iff.1 hr.kd
  by_cases hg : t.left = true ∨ t.greeted = decide (p.kind = 1)
  · rw [in_skip hg]
    by_cases hg' : r.over = true ∨ (r.connect = false ∧ p.kind ≠ 1)
    · rw [inR_skip hg']; exact h
    have ho : ¬ r.over = true := fun c => hg' (.inl c)
    have hc : t.greeted = decide (p.kind = 1) := hg.resolve_left (fun c => ho (h.ov ▸ c))
    have h1 : p.kind = 1 := Classical.not_not.1 fun c => hg' (.inr ⟨by rw [← h.con, hc, decide_eq_false c], c⟩)
    rw [inR_con2 hg' h1 (by rw [← h.con, hc, decide_eq_true h1])]
    exact h
  have hg' : ¬ (r.over = true ∨ (r.connect = false ∧ p.kind ≠ 1)) := by
    rintro (c | ⟨c, d⟩)
    · exact hg (.inl (h.ov.trans c))
    exact hg (.inr (by rw [h.con, c, decide_eq_false d]))
  have hl : t.left = false := by
    cases hb : t.left with
    | false => rfl
    | true => exact absurd (.inl hb) hg
  by_cases k1 : p.kind = 1
  · have hc : r.connect = false := by
      rw [← h.con]
      cases hb : t.greeted with
      | false => rfl
      | true => exact absurd (.inr (by rw [hb, decide_eq_true k1])) hg
    rw [in_1 hg k1, inR_con hg' k1 hc]
    refine ⟨h.cl, rfl, h.ov, ?_, h.subs, h.uns, h.nd, h.cnt, h.sum, h.ok, h.out1, h.out2, h.out3, h.okO, h.ndO⟩
    rcases h.told with ⟨a1, a2, a3, _⟩ | ⟨c, _, _, a3, _⟩
    · exact .inl ⟨a1, a2, a3, fun _ => rfl⟩
    rw [hc] at a3; cases a3
  by_cases k2 : p.kind = 2
  · rw [in_2 hg (.inr k2) k1, inR_else hg' (by omega)]; exact h
  by_cases k3 : p.kind = 3
  · rw [in_3 hg k3]
    by_cases hq : 0 < p.qos
    · obtain ⟨_, hq2⟩ := right_pub hr k3 (by omega)
      rw [inR_pub hg' k3 hq]
      have hk : keyP p = some (if p.qos = 1 then 4 else 5, p.id) := by unfold keyP; rw [if_pos k3]
      have := h.owe hk (by unfold OwedOk; omega) (by omega) (by omega)
      unfold Tr.msgT
      rw [if_pos hq]
      exact this
    rw [inR_pub0 hg' k3 hq, msg_f hq]; exact h
  by_cases k6 : p.kind = 6
  · rw [in_ack hg (by omega), inR_owe hg' (by omega)]
    have hk : keyP p = some (7, p.id) := by unfold keyP; rw [if_neg k3, if_pos k6]
    have := h.owe hk (by unfold OwedOk; omega) (by omega) (by omega)
    unfold Tr.ackT
    rw [if_pos k6]
    exact this
  by_cases ka : p.kind = 4 ∨ p.kind = 5 ∨ p.kind = 7
  · rw [in_ack hg (by omega), inR_ack hg' ka]; exact h.ack ka
  by_cases kb : p.kind = 9 ∨ p.kind = 11
  · rw [in_ack hg (by omega), inR_else hg' (by omega)]
    have : t.ackT p = t := by
      cases hf : lk t.out p.id with
      | none => exact ackT_none k6 hf
      | some f => rw [ackT_some k6 hf, if_neg (by omega), if_neg (by omega)]
    rw [this]; exact h
  by_cases k8 : p.kind = 8
  · rw [in_8 hg k8, inR_owe hg' (.inl k8)]
    have hn := key_8 (.inl k8)
    refine ⟨h.cl, h.con, h.ov, h.told, ?_, ?_, h.nd, fun k => ?_, ?_, ok_app h.ok (.inl k8), h.out1, h.out2, h.out3, h.okO, h.ndO⟩
    · show t.subs ++ [p] = _
      rw [List.filter_append, h.subs]
      simp [k8]
    · show t.unsubs = _
      rw [h.uns, fil_app _ _ (by omega)]
    · rw [h.cnt, cntP_app, hn]; simp
    rw [h.sum, cntA_app, hn]; simp
  by_cases k10 : p.kind = 10
  · rw [in_10 hg (.inr k10) k8, inR_owe hg' (by omega)]
    have hn := key_8 (.inr k10)
    refine ⟨h.cl, h.con, h.ov, h.told, ?_, ?_, h.nd, fun k => ?_, ?_, ok_app h.ok (.inr (.inl k10)), h.out1, h.out2, h.out3, h.okO, h.ndO⟩
    · show t.subs = _
      rw [h.subs, fil_app _ _ (by omega)]
    · show t.unsubs ++ [p] = _
      rw [List.filter_append, h.uns]
      simp [k10]
    · rw [h.cnt, cntP_app, hn]; simp
    rw [h.sum, cntA_app, hn]; simp
  by_cases k12 : p.kind = 12
  · have hi := right_ping hr k12
    rw [in_12 hg k12, inR_owe hg' (by omega)]
    have hk : keyP p = some (13, 0) := by unfold keyP; rw [if_neg k3, if_neg k6, if_pos k12]
    have h2 := h.owe hk (.inr (.inr (.inr (.inl ⟨k12, hi⟩)))) (by omega) (by omega)
    exact ⟨h2.cl, h2.con, hl.symm.trans h.ov, h2.told, h2.subs, h2.uns, h2.nd, h2.cnt, h2.sum, h2.ok, h2.out1, h2.out2, h2.out3, h2.okO, h2.ndO⟩
  by_cases k14 : p.kind = 14
  · rw [in_sig hg (by omega) k12, inR_over hg' k14]
    exact ⟨h.cl, h.con, decide_eq_true k14, h.told, h.subs, h.uns, h.nd, h.cnt, h.sum, h.ok, h.out1, h.out2, h.out3, h.okO, h.ndO⟩
  rw [in_sig hg (by omega) k12, inR_else hg' (by omega)]
  exact ⟨h.cl, h.con, (decide_eq_false k14).trans (hl.symm.trans h.ov), h.told, h.subs, h.uns, h.nd, h.cnt, h.sum, h.ok, h.out1, h.out2, h.out3, h.okO, h.ndO⟩
theorem Sim.out_ (h : Sim t r) (hr : RightP p) : (t.outT p).1 = (r.outR p).1 ∧ Sim (t.outT p).2 (r.outR p).2 := by
  have hkd := inB_iff.1 hr.kd
  by_cases k2 : p.kind = 2
  · rw [out_2 k2, outR_2 k2]; exact h.conn
  cases ha : r.acked with
  | false =>
    rw [out_no k2 (h.ready.trans ha), outR_no k2 ha]
    exact ⟨rfl, h⟩
  | true =>
    have hrd := h.ready.trans ha
    by_cases k3 : p.kind = 3
    · rw [out_3 hrd k3, outR_3 ha k3]
      by_cases hq : p.qos = 0
      · rw [pubR_0 hq]
        unfold Tr.pubT
        rw [if_pos hq]
        exact ⟨rfl, h⟩
      exact h.pub (right_pub hr k3 hq).1
    by_cases k6 : p.kind = 6
    · rw [out_6 hrd k6, outR_6 ha k6]; exact h.rel ha
    by_cases k9 : p.kind = 9
    · rw [out_9 hrd k9, outR_9 ha k9]; exact h.sub
    by_cases k11 : p.kind = 11
    · rw [out_11 hrd k11, outR_11 ha k11]; exact h.uns_
    have hm : ∀ (kd q i : Int) (k : Int × Int), (∀ o, OwedOk o → ((o.kind = kd ∧ (kd = 3 → o.qos = q) ∧ o.id = i) ↔ keyP o = some k)) → (kd = 3 ∨ kd = 6 ∨ kd = 12) → (t.payT k).1 = (r.payR kd q i).1 ∧ Sim (t.payT k).2 (r.payR kd q i).2 := fun kd q i k hm hk => h.pay hk hm
    have key3 : ∀ o : Pk, o.kind = 3 → keyP o = some (if o.qos = 1 then 4 else 5, o.id) := fun o ho => by unfold keyP; rw [if_pos ho]
    have key6 : ∀ o : Pk, o.kind = 6 → keyP o = some (7, o.id) := fun o ho => by unfold keyP; rw [if_neg (by omega), if_pos ho]
    have key12 : ∀ o : Pk, o.kind = 12 → keyP o = some (13, 0) := fun o ho => by unfold keyP; rw [if_neg (by omega), if_neg (by omega), if_pos ho]
    by_cases k4 : p.kind = 4
    · rw [out_pay hrd (.inl k4), outR_4 ha k4]
      rw [k4]
      refine hm 3 1 p.id (4, p.id) (fun o ho => ?_) (.inl rfl)
      rcases ho with e | e | e | ⟨e, _⟩ | ⟨e, e2⟩
      · rw [key_8 (.inl e)]; simp; omega
      · rw [key_8 (.inr e)]; simp; omega
      · rw [key6 o e]; simp; omega
      · rw [key12 o e]; simp; omega
      rw [key3 o e]; rcases e2 with e2 | e2 <;> simp [e, e2]
    by_cases k5 : p.kind = 5
    · rw [out_pay hrd (.inr (.inl k5)), outR_5 ha k5]
      rw [k5]
      refine hm 3 2 p.id (5, p.id) (fun o ho => ?_) (.inl rfl)
      rcases ho with e | e | e | ⟨e, _⟩ | ⟨e, e2⟩
      · rw [key_8 (.inl e)]; simp; omega
      · rw [key_8 (.inr e)]; simp; omega
      · rw [key6 o e]; simp; omega
      · rw [key12 o e]; simp; omega
      rw [key3 o e]; rcases e2 with e2 | e2 <;> simp [e, e2]
    by_cases k7 : p.kind = 7
    · rw [out_pay hrd (.inr (.inr k7)), outR_7 ha k7]
      rw [k7]
      refine hm 6 0 p.id (7, p.id) (fun o ho => ?_) (.inr (.inl rfl))
      rcases ho with e | e | e | ⟨e, _⟩ | ⟨e, e2⟩
      · rw [key_8 (.inl e)]; simp; omega
      · rw [key_8 (.inr e)]; simp; omega
      · rw [key6 o e]; simp [e]
      · rw [key12 o e]; simp; omega
      rw [key3 o e]; rcases e2 with e2 | e2 <;> simp [e, e2]
    by_cases k13 : p.kind = 13
    · rw [out_13 hrd k13, outR_13 ha k13]
      rw [k13]
      refine hm 12 0 0 (13, 0) (fun o ho => ?_) (.inr (.inr rfl))
      rcases ho with e | e | e | ⟨e, e3⟩ | ⟨e, e2⟩
      · rw [key_8 (.inl e)]; simp; omega
      · rw [key_8 (.inr e)]; simp; omega
      · rw [key6 o e]; simp; omega
      · rw [key12 o e]; simp [e, e3]
      rw [key3 o e]; rcases e2 with e2 | e2 <;> simp [e, e2]
    rw [out_n k2 k3 k6 k9 k11 (by omega) k13, outR_n k2 (by omega)]
    exact ⟨rfl, h⟩
theorem owed_split : ∀ l : List Pk, (∀ p ∈ l, OwedOk p) → l.length = (l.filter fun p => decide (p.kind = 8)).length + (l.filter fun p => decide (p.kind = 10)).length + cntA l
  | [], _ => rfl
  | p :: l, h => by
    have ih := owed_split l fun x hx => h x (List.mem_cons_of_mem _ hx)
    have hp := h p List.mem_cons_self
    have hc : cntA (p :: l) = cntA l + if (keyP p).isSome then 1 else 0 := by unfold cntA; rw [List.countP_cons]
    rw [hc, List.filter_cons, List.filter_cons, List.length_cons]
    rcases hp with e | e | e | ⟨e, _⟩ | ⟨e, _⟩
    · rw [key_8 (.inl e), if_pos (by simpa using e), if_neg (by simp; omega)]; simp; omega
    · rw [key_8 (.inr e), if_neg (by simp; omega), if_pos (by simpa using e)]; simp; omega
    all_goals
      have hk : (keyP p).isSome = true := by unfold keyP; simp [e]
      rw [hk, if_neg (by simp; omega), if_neg (by simp; omega)]; simp; omega
theorem Sim.owed_ (h : Sim t r) : t.owedI = (r.owed.length : Int) := by
  unfold Tr.owedI
  rw [h.sum, h.subs, h.uns, owed_split r.owed h.ok]
  omega
theorem Sim.new (c : Bool) : Sim (Tr.new c) (Rt.new c) :=
  ⟨rfl, rfl, rfl, .inl ⟨rfl, rfl, rfl, (fun h => by cases h)⟩, rfl, rfl, List.nodup_nil, fun _ => rfl, rfl, (fun p hp => by cases hp), fun _ => rfl, (fun i f hf => by cases hf), fun i _ => ⟨rfl, rfl⟩, (fun o ho => by cases ho), List.nodup_nil⟩
end
end Go.Proofs.Ytkdeedhjkjffpaa
namespace Go.Proofs.Ytkdeedhjkjffpaa
open Go.RowKit Go.Hub Go.Lib Go.Vl
theorem wsz3_wa : (Try.prog.info? 3).map (·.size) = some 1 := by kernel_rfl
theorem wzib5_wa : (Try.prog.info? 5).map (fun i => (i.zero, i.size, i.bytes)) = some (some (.int .u8 0), 1, 1) := by kernel_rfl
theorem wzi5_wa : (Try.prog.info? 5).map (fun i => (i.zero, i.size)) = some (some (.int .u8 0), 1) := by kernel_rfl
theorem wbs28_2_wa (x0 : Int) (x1 : Int) : Instr.fill (fun i => some (i * 1, 1)) ((Array.range (2 * 1)).map fun j => (Value.cells (.int .u8 0))[j % (Value.cells (.int .u8 0)).size]!) [(0, .int .u8 x0), (1, .int .u8 x1)] = some #[.int .u8 x0, .int .u8 x1] := by kernel_rfl
theorem wsz4_wa : (Try.prog.info? 4).map (·.size) = some 1 := by kernel_rfl
theorem wsz9_wa : (Try.prog.info? 9).map (·.size) = some 1 := by kernel_rfl
theorem wsz28_wa : (Try.prog.info? 28).map (·.size) = some 1 := by kernel_rfl
theorem numB_3 {p : Pk} (h : p.kind = 3) : numB p = decide (0 < p.qos) := by simp [numB, h]
theorem numB_t {p : Pk} (h : 4 ≤ p.kind ∧ p.kind ≤ 11) : numB p = true := by unfold numB; rw [if_neg (by omega)]; simp [inB]; omega
theorem numB_f {p : Pk} (h : ¬ p.kind = 3) (h2 : ¬ (4 ≤ p.kind ∧ p.kind ≤ 11)) : numB p = false := by unfold numB; rw [if_neg h]; simp [inB]; omega
def NewB (l : List UInt8) (w : World) (e : Ending) (w' : World) : Prop := Kept [] w w' ∧ ∃ A c, e = .returned (.slice A l.length c) ∧ Fresh w w' 5 1 A l.length c (l.map u8)
def AppPost (w : World) (A : Option Addr) (k c : Nat) (xs : List Value) (b : List UInt8) (e : Ending) (w' : World) : Prop := ∃ A' c', e = .returned (.slice A' (k + b.length) c') ∧ App w w' 5 1 A k c xs (b.map u8) b.length A' c'
theorem _root_.Go.Hub.App.pre {w w1 w' : World} {e size k c m c' : Nat} {A A' : Option Addr} {xs news : List Value} (h : App w1 w' e size A k c xs news m A' c') (hk : Kept [] w w1) : App w w' e size A k c xs news m A' c' :=
  ⟨h.own, (hk.mono (L' := (Value.slice A k c).ownBlock.toList) (by simp)).trans h.kept (fun x hx _ => hx), fun b hb => (h.where_ b hb).imp id fun hl => Nat.le_trans hk.size hl⟩
theorem _root_.Go.Hub.App.seq {w w1 w' : World} {e size k c m c1 m2 c2 : Nat} {A A1 A2 : Option Addr} {xs n1 n2 : List Value} (h : App w w1 e size A k c xs n1 m A1 c1) (h2 : App w1 w' e size A1 (k + m) c1 (xs ++ n1) n2 m2 A2 c2) : App w w' e size A k c xs (n1 ++ n2) (m + m2) A2 c2 :=
  ⟨by rw [← List.append_assoc, ← Nat.add_assoc]; exact h2.own, h.kept.trans h2.kept fun x hx hlt => by
      have hb : A1.map (·.block) = some x := (own_block A1 (k + m) c1 x).1 (by simpa using hx)
      rcases h.where_ x hb with h3 | h3
      · have := (own_block A k c x).2 h3
        simpa using this
      omega,
   fun b hb => by
      rcases h2.where_ b hb with h3 | h3
      · exact h.where_ b h3
      exact .inr (Nat.le_trans h.kept.size h3)⟩
theorem _root_.Go.Hub.Blk.sl1 {w : World} {g : Nat} {t : TypeId} {cs : Array Value} (h : Blk w g t cs) {n : Nat} (hn : cs.size = n) : Sl w (some ⟨g, 0, none⟩) n 1 cs.toList :=
  ⟨by simp [hn], fun _ => ⟨g, 0, rfl, h.lt, fun j u hu => by rw [Nat.zero_add]; exact h.cl hu⟩⟩
theorem lump_bytes (b : ByteArray) : (lumpL b.toList).map u8 = (twoL (b.size : Int)).map u8 ++ b.toList.map u8 := by simp [lumpL, bytes_len]
theorem lump_len (b : ByteArray) : (lumpL b.toList).length = (twoL (b.size : Int)).length + b.size := by rw [lumpL_len, twoL_len, bytes_len]
theorem lump_ret {A : Option Addr} {k c : Nat} {b : ByteArray} : (Ending.returned (.slice A (k + (twoL (b.size : Int)).length + b.size) c)) = .returned (.slice A (k + (lumpL b.toList).length) c) := by
  rw [show k + (twoL (b.size : Int)).length + b.size = k + (lumpL b.toList).length by simp [lumpL, bytes_len, twoL_len]; omega]
set_option maxHeartbeats 1000000 in
theorem inR_any (v a b : Int) (w : World) : Calls Try.prog 21 #[.int .i64 v, .int .i64 a, .int .i64 b] w (fun e w' => w = w' ∧ e = .returned (.bool (inB v a b))) := by
 refine C.enter Try.func21 rfl Try.ntmps21 rfl ?_
 intro a0 f0
 have f1 : Fr 15 a0 [(0, .int .i64 v), (1, .int .i64 a), (2, .int .i64 b)] := f0
 refine C.sk fun K0 hK0 => ?_
 refine L.ag f1 fun a2 f2 => ?_
 have f3 := f2.sub (sc 0 (sc 1 (sc 2 (sc 6 sn))))
 refine wpList_nil (hK0 _ _ (C.sk fun K1 hK1 => ?_))
 refine L.mv f3 fun a4 f4 => ?_
 refine L.mv f4 fun a5 f5 => ?_
 refine L.va f5 (E.geq f5 rfl rfl) fun a6 f6 => ?_
 refine L.mv f6 fun a7 f7 => ?_
 clear f0 f1 a0 f2 f3 a2 f4 a4 f5 a5 f6 a6
 refine f7.splitD 10 rfl (fun h0 f8 => ?_) (fun h0 f8 => ?_)
 ·refine L.mv f8 (hw := (f8.yes rfl rfl)) fun a9 f9 => ?_
  refine L.mv f9 (hw := (f9.yes rfl rfl)) fun a10 f10 => ?_
  refine L.va f10 (E.leq f10 rfl rfl) (hw := (f10.yes rfl rfl)) fun a11 f11 => ?_
  refine L.va f11 (E.pickT f11 rfl rfl) fun a12 f12 => ?_
  refine L.ag f12 fun a13 f13 => ?_
  have f14 := f13.sub (sc 6 sn)
  refine wpList_nil (hK1 _ _ (wp_ret ?_)); (try simp only [xt, xb]); refine C.ret f14 rfl rfl ?_
  exact ⟨rfl, by simp [inB, *]⟩
 refine L.run f8 (rest' := []) (by kernel_rfl) fun a9 f9 => ?_
 clear f7
 have f10 := f9.sub (sv 6 (.bool false) sn)
 refine wpList_nil (hK1 _ _ (wp_ret ?_)); (try simp only [xt, xb]); refine C.ret f10 rfl rfl ?_
 exact ⟨rfl, by simp [inB, *]⟩
set_option maxHeartbeats 1000000 in
theorem bit_any (b : Bool) (n : Int) (w : World) : Calls Try.prog 48 #[.bool b, .int .i64 n] w (fun e w' => w = w' ∧ e = .returned (.int .i64 (flg b n))) := by
 refine C.enter Try.func48 rfl Try.ntmps48 rfl ?_
 intro a0 f0
 have f1 : Fr 7 a0 [(0, .bool b), (1, .int .i64 n)] := f0
 refine C.sk fun K0 hK0 => ?_
 refine L.ag f1 fun a2 f2 => ?_
 refine wpList_nil (hK0 _ _ ?_)
 have f3 := f2.sub (sc 0 (sc 1 (sc 4 sn)))
 refine wp_seq_k fun K1 hK1 => ?_
 refine C.sk fun K2 hK2 => ?_
 refine L.mv f3 fun a4 f4 => ?_
 refine wpList_nil (hK2 _ _ ?_)
 have f5 := f4.sub (sc 1 (sc 4 (sc 5 sn)))
 clear f0 f1 a0 f2 f3 a2 f4
 refine f5.split 5 rfl (fun h0 f6 => ?_) (fun h0 f6 => ?_)
 ·refine C.condT f6 rfl ?_
  refine C.sk fun K3 hK3 => ?_
  refine L.mv f6 fun a7 f7 => ?_
  refine L.ag f7 fun a8 f8 => ?_
  have f9 := f8.sub (sc 4 sn)
  refine wpList_nil (hK3 _ _ (wp_ret ?_)); (try simp only [xt, xb]); refine C.ret f9 rfl rfl ?_
  exact ⟨rfl, by simp [flg, *]⟩
 refine C.condF f6 rfl ?_
 refine wp_skip (hK1 _ _ ?_)
 have f7 := f6.sub (sc 4 sn)
 refine C.sk fun K4 hK4 => ?_
 refine L.ag f7 fun a8 f8 => ?_
 have f9 := f8.sub (sc 4 sn)
 refine wpList_nil (hK4 _ _ (wp_ret ?_)); (try simp only [xt, xb]); refine C.ret f9 rfl rfl ?_
 exact ⟨rfl, by simp [flg, *]⟩
set_option maxHeartbeats 1000000 in
theorem numR_any (p : Pk) (s : Ad) (w : World) : Calls Try.prog 24 #[.agg (p.cells s)] w (fun e w' => Kept [] w w' ∧ e = .returned (.bool (numB p))) := by
 have HK : Kept [] w w := Kept.refl [] w
 refine C.enter Try.func24 rfl Try.ntmps24 rfl ?_
 intro a0 f0
 have f1 : Fr 19 a0 [(0, .agg (p.cells s))] := f0
 refine C.sk fun K0 hK0 => ?_
 refine L.box f1 wantedN (by decide) rfl rfl fun a2 w1 g0 N0 f2 => ?_
 have Bg0 := N0.blk
 have kg0 := N0.kept
 have log0 := N0.lo
 have ltg0 := Bg0.lt
 have szw1 := kg0.size
 have frg0 : w.heap.size ≤ g0 := Nat.le_trans HK.size log0
 replace HK := HK.z kg0
 clear f0 N0 kg0
 refine L.ag f2 fun a3 f3 => ?_
 refine wpList_nil (hK0 _ _ ?_)
 have f4 := f3.sub (sc 1 (sc 2 sn))
 refine wp_seq_k fun K1 hK1 => ?_
 refine C.sk fun K2 hK2 => ?_
 refine L.fa 0 f4 U34 rfl wsz3_wa fun a5 f5 => ?_
 refine L.ld f5 U3 Bg0 fun a6 f6 => ?_
 refine wpList_nil (hK2 _ _ ?_)
 have f7 := f6.sub (sc 1 (sc 2 (sc 4 sn)))
 refine wp_block ?_
 refine C.sk fun K3 hK3 => ?_
 refine L.va f7 (E.eq f7) fun a8 f8 => ?_
 refine L.ag f8 fun a9 f9 => ?_
 clear f1 a0 f2 a2 f3 f4 a3 f5 a5 f6 f7 a6 f8 a8
 refine wpList_nil (hK3 _ _ ?_)
 have f10 := f9.sub (sc 1 (sc 2 (sc 4 (sc 5 sn))))
 clear f9
 refine f10.splitD 5 rfl (fun h0 f11 => ?_) (fun h0 f11 => ?_)
 ·refine C.condT f11 rfl ?_
  refine C.sk fun K4 hK4 => ?_
  refine L.fa 3 f11 U34 rfl wsz3_wa fun a12 f12 => ?_
  refine L.ld f12 U3 Bg0 fun a13 f13 => ?_
  refine L.va f13 (E.gtr f13 rfl rfl) fun a14 f14 => ?_
  refine L.ag f14 fun a15 f15 => ?_
  have f16 := f15.sub (sc 2 sn)
  refine wpList_nil (hK4 _ _ (wp_ret ?_)); (try simp only [xt, xb]); refine C.ret f16 rfl rfl ?_
  exact ⟨HK, by rw [numB_3 (by omega)]⟩
 refine C.condF f11 rfl ?_
 refine wp_seq_k fun K5 hK5 => ?_
 refine C.sk fun K6 hK6 => ?_
 refine L.va f11 (E.eq f11) fun a12 f12 => ?_
 refine L.ag f12 fun a13 f13 => ?_
 refine wpList_nil (hK6 _ _ ?_)
 have f14 := f13.sub (sc 2 (sc 4 (sc 10 sn)))
 clear f10 f11 a9 f12 a12 f13
 refine f14.splitD 10 rfl (fun h1 f15 => ?_) (fun h1 f15 => ?_)
 ·refine C.condT f15 rfl ?_
  refine wp_skip (hK5 _ _ ?_)
  have f16 := f15.sub (sc 2 (sc 10 sn))
  refine C.condT f16 rfl ?_
  refine C.sk fun K7 hK7 => ?_
  refine L.ag f16 fun a17 f17 => ?_
  have f18 := f17.sub (sc 2 sn)
  refine wpList_nil (hK7 _ _ (wp_ret ?_)); (try simp only [xt, xb]); refine C.ret f18 rfl rfl ?_
  exact ⟨HK, by rw [numB_t (by omega)]⟩
 refine C.condF f15 rfl ?_
 refine C.sk fun K8 hK8 => ?_
 refine L.va f15 (E.eq f15) fun a16 f16 => ?_
 refine L.ag f16 fun a17 f17 => ?_
 refine wpList_nil (hK8 _ _ ?_)
 have f18 := f17.sub (sc 2 (sc 4 (sc 10 sn)))
 clear f14 f15 a13 f16 a16 f17
 refine f18.splitD 10 rfl (fun h2 f19 => ?_) (fun h2 f19 => ?_)
 ·refine C.condT f19 rfl ?_
  refine wp_skip (hK5 _ _ ?_)
  have f20 := f19.sub (sc 2 (sc 10 sn))
  refine C.condT f20 rfl ?_
  refine C.sk fun K9 hK9 => ?_
  refine L.ag f20 fun a21 f21 => ?_
  have f22 := f21.sub (sc 2 sn)
  refine wpList_nil (hK9 _ _ (wp_ret ?_)); (try simp only [xt, xb]); refine C.ret f22 rfl rfl ?_
  exact ⟨HK, by rw [numB_t (by omega)]⟩
 refine C.condF f19 rfl ?_
 refine C.sk fun K10 hK10 => ?_
 refine L.va f19 (E.eq f19) fun a20 f20 => ?_
 refine L.ag f20 fun a21 f21 => ?_
 refine wpList_nil (hK10 _ _ ?_)
 have f22 := f21.sub (sc 2 (sc 4 (sc 10 sn)))
 clear f18 f19 a17 f20 a20 f21
 refine f22.splitD 10 rfl (fun h3 f23 => ?_) (fun h3 f23 => ?_)
 ·refine C.condT f23 rfl ?_
  refine wp_skip (hK5 _ _ ?_)
  have f24 := f23.sub (sc 2 (sc 10 sn))
  refine C.condT f24 rfl ?_
  refine C.sk fun K11 hK11 => ?_
  refine L.ag f24 fun a25 f25 => ?_
  have f26 := f25.sub (sc 2 sn)
  refine wpList_nil (hK11 _ _ (wp_ret ?_)); (try simp only [xt, xb]); refine C.ret f26 rfl rfl ?_
  exact ⟨HK, by rw [numB_t (by omega)]⟩
 refine C.condF f23 rfl ?_
 refine C.sk fun K12 hK12 => ?_
 refine L.va f23 (E.eq f23) fun a24 f24 => ?_
 refine L.ag f24 fun a25 f25 => ?_
 refine wpList_nil (hK12 _ _ ?_)
 have f26 := f25.sub (sc 2 (sc 4 (sc 10 sn)))
 clear f22 f23 a21 f24 a24 f25
 refine f26.splitD 10 rfl (fun h4 f27 => ?_) (fun h4 f27 => ?_)
 ·refine C.condT f27 rfl ?_
  refine wp_skip (hK5 _ _ ?_)
  have f28 := f27.sub (sc 2 (sc 10 sn))
  refine C.condT f28 rfl ?_
  refine C.sk fun K13 hK13 => ?_
  refine L.ag f28 fun a29 f29 => ?_
  have f30 := f29.sub (sc 2 sn)
  refine wpList_nil (hK13 _ _ (wp_ret ?_)); (try simp only [xt, xb]); refine C.ret f30 rfl rfl ?_
  exact ⟨HK, by rw [numB_t (by omega)]⟩
 refine C.condF f27 rfl ?_
 refine C.sk fun K14 hK14 => ?_
 refine L.va f27 (E.eq f27) fun a28 f28 => ?_
 refine L.ag f28 fun a29 f29 => ?_
 refine wpList_nil (hK14 _ _ ?_)
 have f30 := f29.sub (sc 2 (sc 4 (sc 10 sn)))
 clear f26 f27 a25 f28 a28 f29
 refine f30.splitD 10 rfl (fun h5 f31 => ?_) (fun h5 f31 => ?_)
 ·refine C.condT f31 rfl ?_
  refine wp_skip (hK5 _ _ ?_)
  have f32 := f31.sub (sc 2 (sc 10 sn))
  refine C.condT f32 rfl ?_
  refine C.sk fun K15 hK15 => ?_
  refine L.ag f32 fun a33 f33 => ?_
  have f34 := f33.sub (sc 2 sn)
  refine wpList_nil (hK15 _ _ (wp_ret ?_)); (try simp only [xt, xb]); refine C.ret f34 rfl rfl ?_
  exact ⟨HK, by rw [numB_t (by omega)]⟩
 refine C.condF f31 rfl ?_
 refine C.sk fun K16 hK16 => ?_
 refine L.va f31 (E.eq f31) fun a32 f32 => ?_
 refine L.ag f32 fun a33 f33 => ?_
 refine wpList_nil (hK16 _ _ ?_)
 have f34 := f33.sub (sc 2 (sc 4 (sc 10 sn)))
 clear f30 f31 a29 f32 a32 f33
 refine f34.splitD 10 rfl (fun h6 f35 => ?_) (fun h6 f35 => ?_)
 ·refine C.condT f35 rfl ?_
  refine wp_skip (hK5 _ _ ?_)
  have f36 := f35.sub (sc 2 (sc 10 sn))
  refine C.condT f36 rfl ?_
  refine C.sk fun K17 hK17 => ?_
  refine L.ag f36 fun a37 f37 => ?_
  have f38 := f37.sub (sc 2 sn)
  refine wpList_nil (hK17 _ _ (wp_ret ?_)); (try simp only [xt, xb]); refine C.ret f38 rfl rfl ?_
  exact ⟨HK, by rw [numB_t (by omega)]⟩
 refine C.condF f35 rfl ?_
 refine C.sk fun K18 hK18 => ?_
 refine L.va f35 (E.eq f35) fun a36 f36 => ?_
 refine L.ag f36 fun a37 f37 => ?_
 refine wpList_nil (hK18 _ _ ?_)
 have f38 := f37.sub (sc 2 (sc 4 (sc 10 sn)))
 clear f34 f35 a33 f36 a36 f37
 refine f38.splitD 10 rfl (fun h7 f39 => ?_) (fun h7 f39 => ?_)
 ·refine C.condT f39 rfl ?_
  refine wp_skip (hK5 _ _ ?_)
  have f40 := f39.sub (sc 2 (sc 10 sn))
  refine C.condT f40 rfl ?_
  refine C.sk fun K19 hK19 => ?_
  refine L.ag f40 fun a41 f41 => ?_
  have f42 := f41.sub (sc 2 sn)
  refine wpList_nil (hK19 _ _ (wp_ret ?_)); (try simp only [xt, xb]); refine C.ret f42 rfl rfl ?_
  exact ⟨HK, by rw [numB_t (by omega)]⟩
 refine C.condF f39 rfl ?_
 refine C.region ?_
 refine L.va f39 (E.eq f39) fun a40 f40 => ?_
 refine L.ag f40 fun a41 f41 => ?_
 refine wpList_nil (hK5 _ _ ?_)
 have f42 := f41.sub (sc 2 (sc 10 sn))
 clear f38 f39 a37 f40 a40 f41
 refine f42.splitD 10 rfl (fun h8 f43 => ?_) (fun h8 f43 => ?_)
 ·refine C.condT f43 rfl ?_
  refine C.sk fun K20 hK20 => ?_
  refine L.ag f43 fun a44 f44 => ?_
  have f45 := f44.sub (sc 2 sn)
  refine wpList_nil (hK20 _ _ (wp_ret ?_)); (try simp only [xt, xb]); refine C.ret f45 rfl rfl ?_
  exact ⟨HK, by rw [numB_t (by omega)]⟩
 refine C.condF f43 rfl ?_
 refine wp_skip (hK1 _ _ ?_)
 have f44 := f43.sub (sc 2 sn)
 refine C.sk fun K21 hK21 => ?_
 refine L.ag f44 fun a45 f45 => ?_
 have f46 := f45.sub (sc 2 sn)
 refine wpList_nil (hK21 _ _ (wp_ret ?_)); (try simp only [xt, xb]); refine C.ret f46 rfl rfl ?_
 exact ⟨HK, by rw [numB_f (by omega) (by omega)]⟩
set_option maxHeartbeats 1000000 in
theorem twoR_any (A : Option Addr) (k c : Nat) (xs : List Value) (n : Int) (w : World) (O : Own w 5 1 (.slice A k c) k xs) (hk : k ≤ 10000000000000) : Calls Try.prog 49 #[.slice A k c, .int .i64 n] w (AppPost w A k c xs (twoL n)) := by
 have HK : Kept [] w w := Kept.refl [] w
 refine C.enter Try.func49 rfl Try.ntmps49 rfl ?_
 intro a0 f0
 have f1 : Fr 13 a0 [(0, .slice A k c), (1, .int .i64 n)] := f0
 refine C.sk fun K0 hK0 => ?_
 refine L.ag f1 fun a2 f2 => ?_
 have f3 := f2.sub (sc 0 (sc 1 (sc 4 sn)))
 refine wpList_nil (hK0 _ _ (C.sk fun K1 hK1 => ?_))
 refine L.mv f3 fun a4 f4 => ?_
 refine L.mv f4 fun a5 f5 => ?_
 refine L.va f5 (E.shrN f5 rfl rfl (by decide) (by decide) (show n / 2 ^ (8 : Int).toNat = n / 256 from rfl)) fun a6 f6 => ?_
 refine L.va f6 (E.conv f6 U3 U5 rfl (wrap_u8 _)) fun a7 f7 => ?_
 refine L.mv f7 fun a8 f8 => ?_
 clear f0 f1 a0 f2 f3 a2 f4 a4 f5 a5 f6 a6 f7 a7
 refine L.va f8 (E.conv f8 U3 U5 rfl (wrap_u8 _)) fun a9 f9 => ?_
 refine L.buildSlice f9 wantedN (by decide) (parts2 f9 rfl rfl) U28 wzi5_wa rfl rfl (wbs28_2_wa _ _) fun a10 w1 g0 N0 f10 => ?_
 have Bg0 := N0.blk
 have kg0 := N0.kept
 have log0 := N0.lo
 have ltg0 := Bg0.lt
 have szw1 := kg0.size
 have frg0 : w.heap.size ≤ g0 := Nat.le_trans HK.size log0
 replace HK := HK.z kg0
 clear f8 a8 N0 kg0
 refine L.append f10 wantedN (by decide) U28 wzib5_wa rfl rfl rfl rfl (O.kept HK (by simp)) (Blk.sl1 Bg0 rfl) (by intro u hu; simp at hu; rcases hu with rfl | rfl <;> rfl) (by unfold maxLen; omega) (by omega) fun a11 w2 A1 c1 AP2 f11 => ?_
 have kap2 := AP2.kept
 have AP := AP2.pre HK
 have szw2 := kap2.size
 clear f9 a9 f10 a10 kap2
 refine L.ag f11 fun a12 f12 => ?_
 have f13 := f12.sub (sc 4 sn)
 refine wpList_nil (hK1 _ _ (wp_ret ?_)); (try simp only [xt, xb]); refine C.ret f13 rfl rfl ?_
 exact ⟨_, _, rfl, by simpa [twoL, u8_b8] using AP⟩
set_option maxHeartbeats 1000000 in
theorem lumpR_any (A : Option Addr) (k c : Nat) (xs : List Value) (b : ByteArray) (w : World) (O : Own w 5 1 (.slice A k c) k xs) (hk : k ≤ 5000000000000) (hb : b.size ≤ 1000000) : Calls Try.prog 47 #[.slice A k c, .string b] w (AppPost w A k c xs (lumpL b.toList)) := by
 refine C.enter Try.func47 rfl Try.ntmps47 rfl ?_
 intro a0 f0
 have f1 : Fr 11 a0 [(0, .slice A k c), (1, .string b)] := f0
 refine C.sk fun K0 hK0 => ?_
 refine L.ag f1 fun a2 f2 => ?_
 have f3 := f2.sub (sc 0 (sc 1 (sc 4 sn)))
 refine wpList_nil (hK0 _ _ (C.sk fun K1 hK1 => ?_))
 refine L.mv f3 fun a4 f4 => ?_
 refine L.mv f4 fun a5 f5 => ?_
 refine L.va f5 (E.lenS f5 U9 rfl) fun a6 f6 => ?_
 refine L.cl f6 (run_call Try.call49 (args2 f6 rfl rfl)) (twoR_any A k c xs _ _ O (by omega)) ?_
 clear f0 f1 a0 f2 f3 a2 f4 a4 f5 a5
 rintro e w1 ⟨A1, c1, rfl, AP1⟩
 have kc1 := AP1.kept
 refine ⟨_, rfl, fun a7 f7 => ?_⟩
 have szw1 := kc1.size
 clear f6 a6 kc1
 refine L.mv f7 fun a8 f8 => ?_
 refine L.appendS f8 wantedN (by decide) U28 U9 wzib5_wa rfl rfl AP1.own (by rw [twoL_len]; omega) fun a9 w2 A2 c2 AP2 f9 => ?_
 refine L.ag f9 fun a10 f10 => ?_
 have f11 := f10.sub (sc 4 sn)
 refine wpList_nil (hK1 _ _ (wp_ret ?_)); (try simp only [xt, xb]); refine C.ret f11 rfl rfl ?_
 exact ⟨_, _, lump_ret, by rw [lump_bytes, lump_len]; exact AP1.seq AP2⟩
set_option maxHeartbeats 1000000 in
theorem willsR_any (p q : Pk) (s t : Ad) (w : World) (IP : p.In w s) (IQ : q.In w t) : Calls Try.prog 45 #[.agg #[.string p.wt, .slice s.wa p.wp.length s.wc, .int .i64 p.wq, .bool p.wr], .agg #[.string q.wt, .slice t.wa q.wp.length t.wc, .int .i64 q.wq, .bool q.wr]] w (fun e w' => Kept [] w w' ∧ e = .returned (.bool (willB p q))) := by
 have HK : Kept [] w w := Kept.refl [] w
 refine C.enter Try.func45 rfl Try.ntmps45 rfl ?_
 intro a0 f0
 have f1 : Fr 33 a0 [(0, .agg #[.string p.wt, .slice s.wa p.wp.length s.wc, .int .i64 p.wq, .bool p.wr]), (1, .agg #[.string q.wt, .slice t.wa q.wp.length t.wc, .int .i64 q.wq, .bool q.wr])] := f0
 refine C.sk fun K0 hK0 => ?_
 refine L.box f1 wantedN (by decide) rfl rfl fun a2 w1 g0 N0 f2 => ?_
 have Bg0 := N0.blk
 have kg0 := N0.kept
 have log0 := N0.lo
 have ltg0 := Bg0.lt
 have szw1 := kg0.size
 have frg0 : w.heap.size ≤ g0 := Nat.le_trans HK.size log0
 replace HK := HK.z kg0
 clear f0 N0 kg0
 refine L.box f2 wantedN (by decide) rfl rfl fun a3 w2 g1 N1 f3 => ?_
 have Bg1 := N1.blk
 have kg1 := N1.kept
 have log1 := N1.lo
 have ltg1 := Bg1.lt
 have szw2 := kg1.size
 have frg1 : w.heap.size ≤ g1 := Nat.le_trans HK.size log1
 have neg0_g1 : g0 ≠ g1 := by have := Bg0.lt; omega
 replace HK := HK.z kg1
 replace Bg0 := Bg0.z kg1
 clear f1 a0 N1 kg1
 refine L.ag f3 fun a4 f4 => ?_
 have f5 := f4.sub (sc 2 (sc 3 (sc 4 sn)))
 refine wpList_nil (hK0 _ _ (C.sk fun K1 hK1 => ?_))
 refine L.fa 0 f5 U30 rfl wsz9_wa fun a6 f6 => ?_
 refine L.ld f6 U9 Bg0 fun a7 f7 => ?_
 refine L.fa 0 f7 U30 rfl wsz9_wa fun a8 f8 => ?_
 refine L.ld f8 U9 Bg1 fun a9 f9 => ?_
 refine L.va f9 (E.eqlS f9 rfl rfl) fun a10 f10 => ?_
 clear f2 a2 f3 a3 f4 f5 a4 f6 a6 f7 a7 f8 a8 f9 a9
 refine L.mv f10 fun a11 f11 => ?_
 clear f10 a10
 refine f11.splitD 10 rfl (fun h0 f12 => ?_) (fun h0 f12 => ?_)
 ·refine L.fa 1 f12 U30 rfl wsz28_wa (hw := (f12.yes rfl rfl)) fun a13 f13 => ?_
  refine L.ld f13 U28 Bg0 (hw := (f13.yes rfl rfl)) fun a14 f14 => ?_
  refine L.va f14 (E.toStr f14 rfl U28 U5 U9 (IP.wp.kept HK)) (hw := (f14.yes rfl rfl)) fun a15 f15 => ?_
  refine L.fa 1 f15 U30 rfl wsz28_wa (hw := (f15.yes rfl rfl)) fun a16 f16 => ?_
  refine L.ld f16 U28 Bg1 (hw := (f16.yes rfl rfl)) fun a17 f17 => ?_
  refine L.va f17 (E.toStr f17 rfl U28 U5 U9 (IQ.wp.kept HK)) (hw := (f17.yes rfl rfl)) fun a18 f18 => ?_
  refine L.va f18 (E.eqlS f18 rfl rfl) (hw := (f18.yes rfl rfl)) fun a19 f19 => ?_
  clear f11 f12 a11 f13 a13 f14 a14 f15 a15 f16 a16 f17 a17 f18 a18
  refine L.va f19 (E.pickT f19 rfl rfl) fun a20 f20 => ?_
  refine L.mv f20 fun a21 f21 => ?_
  clear f19 a19 f20 a20
  refine f21.splitD 19 rfl (fun h1 f22 => ?_) (fun h1 f22 => ?_)
  ·refine L.fa 2 f22 U30 rfl wsz3_wa (hw := (f22.yes rfl rfl)) fun a23 f23 => ?_
   refine L.ld f23 U3 Bg0 (hw := (f23.yes rfl rfl)) fun a24 f24 => ?_
   refine L.fa 2 f24 U30 rfl wsz3_wa (hw := (f24.yes rfl rfl)) fun a25 f25 => ?_
   refine L.ld f25 U3 Bg1 (hw := (f25.yes rfl rfl)) fun a26 f26 => ?_
   refine L.va f26 (E.eq f26) (hw := (f26.yes rfl rfl)) fun a27 f27 => ?_
   refine L.va f27 (E.pickT f27 rfl rfl) fun a28 f28 => ?_
   refine L.mv f28 fun a29 f29 => ?_
   clear f21 f22 a21 f23 a23 f24 a24 f25 a25 f26 a26 f27 a27 f28 a28
   refine f29.splitD 26 rfl (fun h2 f30 => ?_) (fun h2 f30 => ?_)
   ·refine L.fa 3 f30 U30 rfl wsz4_wa (hw := (f30.yes rfl rfl)) fun a31 f31 => ?_
    refine L.ld f31 U4 Bg0 (hw := (f31.yes rfl rfl)) fun a32 f32 => ?_
    refine L.fa 3 f32 U30 rfl wsz4_wa (hw := (f32.yes rfl rfl)) fun a33 f33 => ?_
    refine L.ld f33 U4 Bg1 (hw := (f33.yes rfl rfl)) fun a34 f34 => ?_
    refine L.va f34 (E.eqlB f34 U4 rfl rfl) (hw := (f34.yes rfl rfl)) fun a35 f35 => ?_
    refine L.va f35 (E.pickT f35 rfl rfl) fun a36 f36 => ?_
    refine L.ag f36 fun a37 f37 => ?_
    clear f29 f30 a29 f31 a31 f32 a32 f33 a33 f34 a34 f35 a35 f36 a36
    have f38 := f37.sub (sc 4 sn)
    refine wpList_nil (hK1 _ _ (wp_ret ?_)); (try simp only [xt, xb]); refine C.ret f38 rfl rfl ?_
    try simp only [bytes_eq] at *
    exact ⟨HK, by simp [willB, *]⟩
   refine L.run f30 (rest' := []) (by kernel_rfl) fun a31 f31 => ?_
   clear f29
   have f32 := f31.sub (sv 4 (.bool false) sn)
   refine wpList_nil (hK1 _ _ (wp_ret ?_)); (try simp only [xt, xb]); refine C.ret f32 rfl rfl ?_
   try simp only [bytes_eq] at *
   exact ⟨HK, by simp [willB, *]⟩
  refine L.run f22 (rest' := []) (by kernel_rfl) fun a23 f23 => ?_
  clear f21
  have f24 := f23.sub (sv 4 (.bool false) sn)
  refine wpList_nil (hK1 _ _ (wp_ret ?_)); (try simp only [xt, xb]); refine C.ret f24 rfl rfl ?_
  try simp only [bytes_eq] at *
  exact ⟨HK, by simp [willB, *]⟩
 refine L.run f12 (rest' := []) (by kernel_rfl) fun a13 f13 => ?_
 clear f11
 have f14 := f13.sub (sv 4 (.bool false) sn)
 refine wpList_nil (hK1 _ _ (wp_ret ?_)); (try simp only [xt, xb]); refine C.ret f14 rfl rfl ?_
 try simp only [bytes_eq] at *
 exact ⟨HK, by simp [willB, *]⟩
end Go.Proofs.Ytkdeedhjkjffpaa
namespace Go.Hub
open Go.Lib Go.RowKit
def ac (l : List UInt8) (m : Nat) : Nat → Nat
  | 0 => 0
  | 1 => (l.getD 0 0).toNat % m
  | k + 2 => ac l m (k + 1) * 64 + (l.getD (k + 1) 0).toNat % 64
theorem ac_one (l : List UInt8) (m : Nat) : ac l m 1 = (l.getD 0 0).toNat % m := rfl
theorem ac_succ (l : List UInt8) (m k : Nat) (h : 1 ≤ k) : ac l m (k + 1) = ac l m k * 64 + (l.getD k 0).toNat % 64 := by
  obtain ⟨j, rfl⟩ : ∃ j, k = j + 1 := ⟨k - 1, by omega⟩
  rfl
def Cls (b0 n m least : Nat) : Prop := (192 ≤ b0 ∧ b0 < 224 ∧ n = 2 ∧ m = 32 ∧ least = 128) ∨ (224 ≤ b0 ∧ b0 < 240 ∧ n = 3 ∧ m = 16 ∧ least = 2048) ∨ (240 ≤ b0 ∧ b0 < 248 ∧ n = 4 ∧ m = 8 ∧ least = 65536)
theorem ac_bd {l : List UInt8} {n m least : Nat} (h : Cls (l.getD 0 0).toNat n m least) (k : Nat) (h1 : 1 ≤ k) (h2 : k ≤ n) : ac l m k ≤ 2097151 ∧ (k < n → ac l m k ≤ 32767) := by
  have e1 : ac l m 1 = (l.getD 0 0).toNat % m := rfl
  have e2 : ac l m 2 = ac l m 1 * 64 + (l.getD 1 0).toNat % 64 := rfl
  have e3 : ac l m 3 = ac l m 2 * 64 + (l.getD 2 0).toNat % 64 := rfl
  have e4 : ac l m 4 = ac l m 3 * 64 + (l.getD 3 0).toNat % 64 := rfl
  rcases h with ⟨_, _, rfl, rfl, _⟩ | ⟨_, _, rfl, rfl, _⟩ | ⟨_, _, rfl, rfl, _⟩
  · rcases (show k = 1 ∨ k = 2 by omega) with rfl | rfl <;> omega
  · rcases (show k = 1 ∨ k = 2 ∨ k = 3 by omega) with rfl | rfl | rfl <;> omega
  rcases (show k = 1 ∨ k = 2 ∨ k = 3 ∨ k = 4 by omega) with rfl | rfl | rfl | rfl <;> omega
def stepV (l : List UInt8) : Value := .tuple #[.int .i32 ((if badL l then 0 else (decodeL l).1 : Nat) : Int), .int .i64 ((decodeL l).2 : Int), .bool (!badL l)]
theorem stepV_bad {l : List UInt8} (h : decodeL l = (65533, 1)) : stepV l = .tuple #[.int .i32 0, .int .i64 1, .bool false] := by
  unfold stepV badL; rw [h]; rfl
theorem stepV_ok {l : List UInt8} {r n : Nat} (h : decodeL l = (r, n)) (hn : ¬ (r = 65533 ∧ n = 1)) : stepV l = .tuple #[.int .i32 r, .int .i64 n, .bool true] := by
  have hb : badL l = false := by
    unfold badL
    rw [h]
    simp
    intro h1 h2
    exact hn ⟨h1, h2⟩
  unfold stepV
  rw [hb, h]
  rfl
theorem dec_ascii {l : List UInt8} (h : (l.getD 0 0).toNat < 128) : decodeL l = ((l.getD 0 0).toNat, 1) := by
  rw [decodeL_N]; unfold decodeN; rw [if_pos h]
theorem dec_none {l : List UInt8} (h1 : 128 ≤ (l.getD 0 0).toNat) (h2 : (l.getD 0 0).toNat < 192 ∨ 248 ≤ (l.getD 0 0).toNat) : decodeL l = (65533, 1) := by
  have := (l.getD 0 0).toNat_lt
  rw [decodeL_N]; unfold decodeN
  rw [if_neg (by omega), if_neg (by omega), if_neg (by omega), if_neg (by omega)]
theorem dec_short {l : List UInt8} {n m least : Nat} (h : Cls (l.getD 0 0).toNat n m least) (hl : l.length < n) : decodeL l = (65533, 1) := by
  rw [decodeL_N]; unfold decodeN
  rcases h with ⟨_, _, rfl, rfl, _⟩ | ⟨_, _, rfl, rfl, _⟩ | ⟨_, _, rfl, rfl, _⟩
  · rw [if_neg (by omega), if_neg (by omega), if_neg (by omega), if_neg (by omega)]
  · rw [if_neg (by omega), if_neg (by omega), if_neg (by omega), if_neg (by omega)]
  rw [if_neg (by omega), if_neg (by omega), if_neg (by omega), if_neg (by omega)]
theorem dec_broken {l : List UInt8} {n m least k : Nat} (h : Cls (l.getD 0 0).toNat n m least) (h1 : 1 ≤ k) (h2 : k < n) (hb : (l.getD k 0).toNat / 64 ≠ 2) : decodeL l = (65533, 1) := by
  rw [decodeL_N]; unfold decodeN
  rcases h with ⟨_, _, rfl, rfl, _⟩ | ⟨_, _, rfl, rfl, _⟩ | ⟨_, _, rfl, rfl, _⟩
  · rcases (show k = 1 by omega) with rfl
    rw [if_neg (by omega), if_neg (by omega), if_neg (by omega), if_neg (by omega)]
  · rcases (show k = 1 ∨ k = 2 by omega) with rfl | rfl <;> rw [if_neg (by omega), if_neg (by omega), if_neg (by omega), if_neg (by omega)]
  rcases (show k = 1 ∨ k = 2 ∨ k = 3 by omega) with rfl | rfl | rfl <;> rw [if_neg (by omega), if_neg (by omega), if_neg (by omega), if_neg (by omega)]
theorem dec_whole {l : List UInt8} {n m least : Nat} (h : Cls (l.getD 0 0).toNat n m least) (hl : n ≤ l.length) (hc : ∀ k, 1 ≤ k → k < n → (l.getD k 0).toNat / 64 = 2) :
    decodeL l = if least ≤ ac l m n ∧ ac l m n ≤ 1114111 ∧ ¬ (55296 ≤ ac l m n ∧ ac l m n < 57344) then (ac l m n, n) else (65533, 1) := by
  have e1 : ac l m 1 = (l.getD 0 0).toNat % m := rfl
  have e2 : ac l m 2 = ac l m 1 * 64 + (l.getD 1 0).toNat % 64 := rfl
  have e3 : ac l m 3 = ac l m 2 * 64 + (l.getD 2 0).toNat % 64 := rfl
  have e4 : ac l m 4 = ac l m 3 * 64 + (l.getD 3 0).toNat % 64 := rfl
  have c1 := hc 1 (by omega)
  have c2 := hc 2 (by omega)
  have c3 := hc 3 (by omega)
  rw [decodeL_N]; unfold decodeN
  rcases h with ⟨_, _, rfl, rfl, rfl⟩ | ⟨_, _, rfl, rfl, rfl⟩ | ⟨_, _, rfl, rfl, rfl⟩
  · have c1 := c1 (by omega)
    rw [if_neg (by omega), if_pos (by omega)]
    split
    · rw [if_pos (by omega)]; exact Prod.ext (by dsimp only; omega) rfl
    rw [if_neg (by omega)]
  · have c1 := c1 (by omega)
    have c2 := c2 (by omega)
    rw [if_neg (by omega), if_neg (by omega), if_pos (by omega)]
    split
    · rw [if_pos (by omega)]; exact Prod.ext (by dsimp only; omega) rfl
    rw [if_neg (by omega)]
  have c1 := c1 (by omega)
  have c2 := c2 (by omega)
  have c3 := c3 (by omega)
  rw [if_neg (by omega), if_neg (by omega), if_neg (by omega), if_pos (by omega)]
  split
  · rw [if_pos (by omega)]; exact Prod.ext (by dsimp only; omega) rfl
  rw [if_neg (by omega)]
theorem u8_m5 : ∀ x : Fin 256, bits .and .u8 (x.val : Int) 31 = ((x.val % 32 : Nat) : Int) := by decide +kernel
theorem u8_m4 : ∀ x : Fin 256, bits .and .u8 (x.val : Int) 15 = ((x.val % 16 : Nat) : Int) := by decide +kernel
theorem u8_m3 : ∀ x : Fin 256, bits .and .u8 (x.val : Int) 7 = ((x.val % 8 : Nat) : Int) := by decide +kernel
theorem u8_m6 : ∀ x : Fin 256, bits .and .u8 (x.val : Int) 63 = ((x.val % 64 : Nat) : Int) := by decide +kernel
theorem u8_hi : ∀ x : Fin 256, bits .and .u8 (x.val : Int) 192 = ((x.val / 64 * 64 : Nat) : Int) := by decide +kernel
theorem wraps_i32 (n : Int) (h0 : 0 ≤ n) (h1 : n < 2 ^ 31) : IntKind.i32.wrap n = n := by rw [IntKind.wrap_i32]; omega
theorem i32_or (i : Nat) (a b : Int) (ha : 0 ≤ a) (ha1 : a < 2 ^ i) (hb : 0 ≤ b) (hb1 : b % 2 ^ i = 0) (hb2 : b < 2 ^ 30) (hi : a < 2 ^ 30) : bits .or .i32 b a = b + a :=
  bits_join .i32 31 (by decide) wraps_i32 i b a hb hb1 (by omega) ha ha1 (by omega)
end Go.Hub
