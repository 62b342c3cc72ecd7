/- Merged by program (shrink.py): contracts and plain laws that the claim's statement uses, part 4. -/
import Derived.Test.YtkdeedhjkjffpaaMa3
set_option linter.all false

namespace Go.Proofs.Ytkdeedhjkjffpaa
open Go.RowKit Go.Hub Go.Lib Go.WideShapes Go.ChangeMaps
theorem wzi3_tr1 : (Try.prog.info? 3).map (fun i => (i.zero, i.size)) = some (some (.int .i64 0), 1) := by kernel_rfl
theorem wzi5_tr1 : (Try.prog.info? 5).map (fun i => (i.zero, i.size)) = some (some (.int .u8 0), 1) := by kernel_rfl
theorem wbs28_1_tr1 (x0 : Int) : Instr.fill (fun i => some (i * 1, 1)) ((Array.range (1 * 1)).map fun j => (Value.cells (.int .u8 0))[j % (Value.cells (.int .u8 0)).size]!) [(0, .int .u8 x0)] = some #[.int .u8 x0] := by kernel_rfl
theorem wbs32_2_tr1 (x0 : Int) (x1 : Int) : Instr.fill (fun i => some (i * 1, 1)) ((Array.range (2 * 1)).map fun j => (Value.cells (.int .i64 0))[j % (Value.cells (.int .i64 0)).size]!) [(0, .int .i64 x0), (1, .int .i64 x1)] = some #[.int .i64 x0, .int .i64 x1] := by kernel_rfl
theorem wsz3_tr1 : (Try.prog.info? 3).map (·.size) = some 1 := by kernel_rfl
theorem wsz4_tr1 : (Try.prog.info? 4).map (·.size) = some 1 := by kernel_rfl
theorem wsz28_tr1 : (Try.prog.info? 28).map (·.size) = some 1 := by kernel_rfl
theorem wsz34_tr1 : (Try.prog.info? 34).map (·.size) = some 24 := by kernel_rfl
theorem wbl34_0_tr1 (x0 : Int) : Try.prog.built 34 [(0, .int .i64 x0)] = some #[.int .i64 x0, (.bool false), (.bool false), (.int .i64 0), (.int .i64 0), (.string ⟨#[]⟩), (.slice none 0 0), (.int .i64 0), (.string ⟨#[]⟩), (.bool false), (.int .i64 0), (.bool false), (.string ⟨#[]⟩), (.slice none 0 0), (.int .i64 0), (.bool false), (.bool false), (.bool false), (.string ⟨#[]⟩), (.slice none 0 0), (.bool false), (.int .i64 0), (.slice none 0 0), (.slice none 0 0)] := by kernel_rfl
theorem wbl34_0_4_tr1 (x0 : Int) (x1 : Int) : Try.prog.built 34 [(0, .int .i64 x0), (4, .int .i64 x1)] = some #[.int .i64 x0, (.bool false), (.bool false), (.int .i64 0), .int .i64 x1, (.string ⟨#[]⟩), (.slice none 0 0), (.int .i64 0), (.string ⟨#[]⟩), (.bool false), (.int .i64 0), (.bool false), (.string ⟨#[]⟩), (.slice none 0 0), (.int .i64 0), (.bool false), (.bool false), (.bool false), (.string ⟨#[]⟩), (.slice none 0 0), (.bool false), (.int .i64 0), (.slice none 0 0), (.slice none 0 0)] := by kernel_rfl
theorem wbl34_0_5_6_3_4_tr1 (x0 : Int) (x1 : ByteArray) (x2 : Option Addr) (y2 z2 : Nat) (x3 : Int) (x4 : Int) : Try.prog.built 34 [(0, .int .i64 x0), (5, .string x1), (6, .slice x2 y2 z2), (3, .int .i64 x3), (4, .int .i64 x4)] = some #[.int .i64 x0, (.bool false), (.bool false), .int .i64 x3, .int .i64 x4, .string x1, .slice x2 y2 z2, (.int .i64 0), (.string ⟨#[]⟩), (.bool false), (.int .i64 0), (.bool false), (.string ⟨#[]⟩), (.slice none 0 0), (.int .i64 0), (.bool false), (.bool false), (.bool false), (.string ⟨#[]⟩), (.slice none 0 0), (.bool false), (.int .i64 0), (.slice none 0 0), (.slice none 0 0)] := by kernel_rfl
theorem run_mark {P : Program} {w : World} {g : Nat} {t e : TypeId} {cs : Array Value} {n c : Nat} (h : Blk w g e cs) (ht : P.underlying t = some (.slice e)) (he : P.underlying e = some (.int .u8)) : ∃ w', (convert t t (.slice (some ⟨g, 0, none⟩) n c)).run P w = .ok (.slice (some ⟨g, 0, none⟩) n c) w' ∧ Kept [g] w w' ∧ w'.heap[g]? = some (.cells cs e (cs.size, cs.size + 1)) := by
  have hsh : w.shape? g = some (e, cs.size) := by
    unfold World.shape?
    rw [h]
  refine ⟨w.freeze ⟨g, cs.size, none⟩ 1, by simp [convert, run_underlying ht, run_underlying he, markStringish, hsh], ?_, ?_⟩
  · unfold World.freeze
    rw [if_neg (by decide)]
    exact ⟨rfl, rfl, rfl, by simp, fun i hi hx => by
      show (w.heap.modify g _)[i]? = _
      rw [Array.getElem?_modify, if_neg (fun c => hx (by simp [c]))]⟩
  unfold World.freeze
  rw [if_neg (by decide)]
  show (w.heap.modify g _)[g]? = _
  rw [Array.getElem?_modify, if_pos rfl, h]
  rfl
theorem heap_kept {L : List Nat} {w w' : World} {g : Nat} {o : Obj} (h : w.heap[g]? = some o) (hk : Kept L w w') (hg : g ∉ L) : w'.heap[g]? = some o := (hk.block g (Array.getElem?_eq_some_iff.1 h).1 hg).trans h
def PhiP (i : Int) (v : Value) (W : World) : Prop := ∃ g, v = .pointer (some ⟨g, 0 + i.toNat * 1, none⟩) ∧ Blk W g 3 #[.int .i64 4, .int .i64 7]
theorem PhiP.kept {i : Int} {v : Value} {W W' : World} (h : PhiP i v W) (hk : Kept [] W W') : PhiP i v W' := by
  obtain ⟨g, e, b⟩ := h
  exact ⟨g, e, b.kept hk (by simp)⟩
theorem kd_cell {W : World} {g : Nat} {qa : Int} (B : Blk W g 3 #[.int .i64 4, .int .i64 7]) (h : qa % 2 = 0 ∨ qa % 2 = 1) : W.cell? ⟨g, 0 + (qa % 2 + 1 - 1).toNat * 1, none⟩ = some (.int .i64 (if qa % 2 + 1 = 1 then 4 else 7)) := by
  rcases h with h | h <;> rw [h] <;> exact B.cl rfl
theorem TrIn.base {B B' g : Nat} {t : Tr} {m : TrM} {w : World} (h : TrIn B w g t m) (hB : B' ≤ B) : TrIn B' w g t m := { h with lo := fun x hx => Nat.le_trans hB (h.lo x hx) }
theorem TrIn.keptX {B g x : Nat} {t : Tr} {m : TrM} {w w' : World} (h : TrIn B w g t m) (hk : Kept [x] w w') (hx : x ∉ m.fp g) (hn : NoPk w [x]) : TrIn B w' g t m := by
  have ne : ∀ y, y ∈ m.fp g → y ∉ [x] := fun y hy hm => by
    obtain rfl := List.mem_singleton.1 hm
    exact hx hy
  exact ⟨h.e1, h.e2, h.e3, h.e4, h.bt.kept hk (ne _ (fp_mem.2 (.inl rfl))), Own.kept h.rt hk (fun b hb => ne _ (fp_mem.2 (.inr (.inr (.inr (.inl ((own_block _ _ _ _).1 hb))))))), Own.kept h.rs hk (fun b hb => ne _ (fp_mem.2 (.inr (.inr (.inr (.inr (.inl ((own_block _ _ _ _).1 hb)))))))), Own.kept h.ru hk (fun b hb => ne _ (fp_mem.2 (.inr (.inr (.inr (.inr (.inr ((own_block _ _ _ _).1 hb)))))))), IsAss.kept h.mo hk (ne _ (fp_mem.2 (.inr (.inl rfl)))), IsAss.kept h.mf hk (ne _ (fp_mem.2 (.inr (.inr (.inl rfl))))), h.nof, h.tu, h.tn, h.un, h.lo, h.ps.keptT hk hn, h.pf.keptT hk hn, h.len⟩
theorem TrIn.noPk {B g : Nat} {t : Tr} {m : TrM} {w : World} (h : TrIn B w g t m) : NoPk w (m.fp g) := fun y hy hlt ht => by
  rcases fp_mem.1 hy with rfl | rfl | rfl | e | e | e
  · exact h.bt.not_typ (by decide) ht
  · exact ht.not_map (IsAss.mapB h.mo)
  · exact ht.not_map (IsAss.mapB h.mf)
  · exact NoPk.own h.rt y (by simpa using (own_block _ _ _ _).2 e) hlt ht
  · exact NoPk.own h.rs y (by simpa using (own_block _ _ _ _).2 e) hlt ht
  exact NoPk.own h.ru y (by simpa using (own_block _ _ _ _).2 e) hlt ht
theorem TrIn.fp_lt {B g : Nat} {t : Tr} {m : TrM} {w : World} (h : TrIn B w g t m) : ∀ x ∈ m.fp g, x < w.heap.size := fun x hx => by
  rcases fp_mem.1 hx with rfl | rfl | rfl | e | e | e
  · exact h.bt.lt
  · exact IsAss.lt h.mo
  · exact IsAss.lt h.mf
  · exact own_lt h.rt _ e
  · exact own_lt h.rs _ e
  exact own_lt h.ru _ e
theorem pay_o {W : World} {g : Nat} {x : UInt8} {fz : Nat × Nat} (h : W.heap[g]? = some (.cells #[.int .u8 x.toNat] 5 fz)) (p : Pk) (h1 : p.pay = [x]) (h2 : p.wp = []) (h3 : p.pass = []) (h4 : p.subs = []) (h5 : p.codes = []) : PkO W p { s0 with pa := some ⟨g, 0, none⟩, pc := 1 } :=
  ⟨by
    rw [h1]
    refine ⟨rfl, fun _ => ⟨g, 0, rfl, (Array.getElem?_eq_some_iff.1 h).1, .inr ⟨_, 5, _, h, by simp⟩, fun j y hj => ?_⟩⟩
    match j, hj with
    | 0, hj => simp at hj; subst hj; simp [World.cell?, h]; rfl, by rw [h2]; exact Bs.nil _ _ _ _, by rw [h3]; exact Bs.nil _ _ _ _, by rw [h4]; exact Own.nil _ _ _, by rw [h5]; exact Own.nil _ _ _⟩
theorem len_id (k i : Int) : Pk.Len { kind := k, id := i } := by constructor <;> first | exact Nat.zero_le _ | exact fun x hx => absurd hx (by simp) | decide
theorem len_pub (q i : Int) (d : Bool) (tp : ByteArray) (l : List UInt8) (h : tp.size ≤ 1000000 ∧ l.length ≤ 1000000) : Pk.Len { kind := 3, qos := q, id := i, dup := d, topic := tp, pay := l } := by constructor <;> first | exact h.1 | exact h.2 | exact Nat.zero_le _ | exact fun x hx => absurd hx (by simp) | decide
def idsB (q i : Int) (dup same rec ack : Bool) : Bool :=
  let p : Pk := { kind := 3, qos := q, id := i, topic := ⟨#[97]⟩, pay := [120] }
  let o1 := trG.outT p
  let r := if rec then ((o1.2.inT { kind := 5, id := i }).outT { kind := 6, id := i }) else (decide (q = 2), o1.2)
  let t3 := if ack then r.2.inT { kind := if q = 1 then 4 else 7, id := i } else r.2
  let done := ack && (decide (q = 1) || rec)
  let o4 := t3.outT { p with dup := dup, pay := if same then [120] else [121] }
  o1.1 && (r.1 == decide (q = 2)) && (o4.1 == (done || (dup && same && !(decide (q = 2) && rec)))) && !(o4.2.outT { kind := 2 }).1
theorem ids_all : ((List.range 256).all fun i => [1, 2].all fun q => [true, false].all fun dup => [true, false].all fun same => [true, false].all fun rec => [true, false].all fun ack => idsB q ((i : Nat) + 1) dup same rec ack) = true := by kernel_rfl
theorem ids_true {q i : Int} (hq : q = 1 ∨ q = 2) (hi : 1 ≤ i ∧ i ≤ 256) (dup same rec ack : Bool) : idsB q i dup same rec ack = true := by
  have h := List.all_eq_true.1 ids_all (i - 1).toNat (List.mem_range.2 (by omega))
  rw [show (((i - 1).toNat : Nat) : Int) + 1 = i by omega] at h
  have h2 := List.all_eq_true.1 h q (by rcases hq with rfl | rfl <;> simp)
  have h3 := List.all_eq_true.1 h2 dup (by cases dup <;> simp)
  have h4 := List.all_eq_true.1 h3 same (by cases same <;> simp)
  have h5 := List.all_eq_true.1 h4 rec (by cases rec <;> simp)
  exact List.all_eq_true.1 h5 ack (by cases ack <;> simp)
theorem ids1 {q i : Int} (hq : q = 1 ∨ q = 2) (hi : 1 ≤ i ∧ i ≤ 256) : (trG.outT { kind := 3, qos := q, id := i, topic := ⟨#[97]⟩, pay := [120] }).1 = true := by
  have h := ids_true hq hi false false false false
  unfold idsB at h
  simp only [Bool.and_eq_true] at h
  exact h.1.1.1
theorem ids2 {q i : Int} (hq : q = 1 ∨ q = 2) (hi : 1 ≤ i ∧ i ≤ 256) : (((trG.outT { kind := 3, qos := q, id := i, topic := ⟨#[97]⟩, pay := [120] }).2.inT { kind := 5, id := i }).outT { kind := 6, id := i }).1 = decide (q = 2) := by
  have h := ids_true hq hi false false true false
  unfold idsB at h
  simp only [Bool.and_eq_true, beq_iff_eq] at h
  exact h.1.1.2
set_option maxRecDepth 100000 in
set_option maxHeartbeats 4000000 in
theorem ids_walk (qa ib : Int) (dup same rec ack : Bool) (ha : 0 ≤ qa ∧ qa < 256) (hb : 0 ≤ ib ∧ ib < 256) (w : World) : Calls Try.prog 5 #[.int .u8 qa, .int .u8 ib, .bool dup, .bool same, .bool rec, .bool ack] w (fun e w' => Kept [] w w' ∧ e = .returned (.bool true)) := by
 have HK : Kept [] w w := Kept.refl [] w
 have hq' : qa % 2 + 1 = 1 ∨ qa % 2 + 1 = 2 := by omega
 have hi' : 1 ≤ ib + 1 ∧ ib + 1 ≤ 256 := by omega
 have hq : qa % 2 = 0 ∨ qa % 2 = 1 := by omega
 refine C.enter Try.func5 rfl Try.ntmps5 rfl ?_
 intro a0 f0
 have f1 : Fr 100 a0 [(0, .int .u8 qa), (1, .int .u8 ib), (2, .bool dup), (3, .bool same), (4, .bool rec), (5, .bool ack)] := f0
 refine C.sk fun K0 hK0 => ?_
 refine L.ag f1 fun a2 f2 => ?_
 refine wpList_nil (hK0 _ _ ?_)
 have f3 := f2.sub (sc 0 (sc 1 (sc 2 (sc 3 (sc 4 (sc 5 sn))))))
 refine wp_seq_k fun K1 hK1 => ?_
 refine C.sk fun K2 hK2 => ?_
 refine L.cl f3 (run_call Try.call6 (args0 f3)) (known_any _) ?_
 clear f0 f1 a0 f2
 rintro e w1 ⟨kc1, rfl⟩
 refine ⟨_, rfl, fun a4 f4 => ?_⟩
 have szw1 := kc1.size
 replace HK := HK.trans kc1 (by simp)
 clear f3 a2 kc1
 have f5 := f4.as (i := 17) (v' := .bool true) rfl (by rfl)
 refine L.va f5 (E.not f5 rfl) fun a6 f6 => ?_
 refine wpList_nil (hK2 _ _ ?_)
 have f7 := f6.sub (sc 0 (sc 1 (sc 2 (sc 3 (sc 4 (sc 5 (sc 18 sn)))))))
 refine C.condF f7 rfl ?_
 refine wp_skip (hK1 _ _ ?_)
 have f8 := f7.sub (sc 0 (sc 1 (sc 2 (sc 3 (sc 4 (sc 5 sn))))))
 refine C.sk fun K3 hK3 => ?_
 refine L.cl f8 (run_call Try.call18 (args0 f8)) (greeted_any _) ?_
 clear f4 f5 a4 f6 f7
 rintro e w2 ⟨g, m2, rfl, T, hn2, kc2⟩
 replace T := T.base HK.size
 refine ⟨_, rfl, fun a9 f9 => ?_⟩
 have szw2 := kc2.size
 replace HK := HK.trans kc2 (by simp)
 clear f8 a6 kc2
 refine L.ag f9 fun a10 f10 => ?_
 refine wpList_nil (hK3 _ _ ?_)
 have f11 := f10.sub (sc 0 (sc 1 (sc 2 (sc 3 (sc 4 (sc 5 (sc 13 sn)))))))
 refine C.sk fun K4 hK4 => ?_
 refine L.mv f11 fun a12 f12 => ?_
 refine L.va f12 (E.rem f12 rfl rfl (by omega) (Int.tmod_eq_emod_of_nonneg (by omega))) fun a13 f13 => ?_
 refine L.va f13 (E.conv f13 Try.underlying5 Try.underlying3 rfl (IntWalk.i64_in _ (by omega))) fun a14 f14 => ?_
 refine L.va f14 (E.add f14 rfl rfl (IntWalk.i64_in _ (by omega))) fun a15 f15 => ?_
 refine L.ag f15 fun a16 f16 => ?_
 refine wpList_nil (hK4 _ _ ?_)
 have f17 := f16.sub (sc 1 (sc 2 (sc 3 (sc 4 (sc 5 (sc 13 (sc 14 sn)))))))
 clear f9 a9 f10 f11 a10 f12 a12 f13 a13 f14 a14 f15 a15 f16
 refine wp_seq_k fun K5 hK5 => ?_
 have HR : Kept [] w2 w2 := Kept.refl _ _
 refine C.region ?_
 refine L.buildSlice f17 wantedN (by decide) (parts1 f17 rfl) Try.underlying28 wzi5_tr1 rfl rfl (wbs28_1_tr1 _) fun a18 w3 g2 N2 f18 => ?_
 have Bg2 := N2.blk
 have kg2 := N2.kept
 have log2 := N2.lo
 have ltg2 := Bg2.lt
 have szw3 := kg2.size
 have frg2 : w.heap.size ≤ g2 := Nat.le_trans HK.size log2
 have frg2_HR : w2.heap.size ≤ g2 := Nat.le_trans HR.size log2
 replace HK := HK.trans kg2 (by simp)
 replace HR := HR.trans kg2 (by simp)
 clear N2 kg2
 obtain ⟨w4, hcv, ks, HM⟩ := run_mark (n := 1) (c := 1) Bg2 Try.underlying28 Try.underlying5
 refine L.va f18 (E.convV f18 rfl hcv) fun a19 f19 => ?_
 have szw4 := ks.size
 replace HK := HK.trans ks (fun x hx hlt => by obtain rfl := List.mem_singleton.1 hx; exfalso; omega)
 replace HR := HR.trans ks (ktr (by omega))
 clear f17 a16 hcv ks f18 a18
 refine L.mv f19 fun a20 f20 => ?_
 refine L.mv f20 fun a21 f21 => ?_
 refine L.va f21 (E.conv f21 Try.underlying5 Try.underlying3 rfl (IntWalk.i64_in _ (by omega))) fun a22 f22 => ?_
 refine L.va f22 (E.add f22 rfl rfl (IntWalk.i64_in _ (by omega))) fun a23 f23 => ?_
 refine L.va f23 (E.build f23 (parts5 f23 rfl rfl rfl rfl rfl) (wbl34_0_5_6_3_4_tr1 _ _ _ _ _ _ _)) fun a24 f24 => ?_
 refine L.alloc f24 wantedN (by decide) (z := (.agg #[(.int .i64 0), (.bool false), (.bool false), (.int .i64 0), (.int .i64 0), (.string ⟨#[]⟩), (.slice none 0 0), (.int .i64 0), (.string ⟨#[]⟩), (.bool false), (.int .i64 0), (.bool false), (.string ⟨#[]⟩), (.slice none 0 0), (.int .i64 0), (.bool false), (.bool false), (.bool false), (.string ⟨#[]⟩), (.slice none 0 0), (.bool false), (.int .i64 0), (.slice none 0 0), (.slice none 0 0)])) (fun _ => by kernel_rfl) rfl fun a25 w5 g4 N4 f25 => ?_
 have Bg4 := N4.blk
 have kg4 := N4.kept
 have log4 := N4.lo
 have ltg4 := Bg4.lt
 have szw5 := kg4.size
 have frg4 : w.heap.size ≤ g4 := Nat.le_trans HK.size log4
 have frg4_HR : w2.heap.size ≤ g4 := Nat.le_trans HR.size log4
 replace HK := HK.trans kg4 (by simp)
 replace HR := HR.trans kg4 (by simp)
 replace HM := heap_kept HM kg4 (by simp)
 clear f19 a19 f20 a20 f21 a21 f22 a22 f23 a23 N4 kg4
 refine L.storeR f25 wantedN wsz34_tr1 rfl rfl rfl Bg4 rfl rfl fun a26 w6 f26 NB6 ks6 => ?_
 have szw6 := ks6.size
 replace HK := HK.trans ks6 (fun x hx hlt => by obtain rfl := List.mem_singleton.1 hx; exfalso; omega)
 replace HR := HR.trans ks6 (ktr (by omega))
 replace HM := heap_kept HM ks6 (by simp; omega)
 replace Bg4 := NB6
 clear f24 a24 ks6 f25 a25
 refine wpList_nil (hK5 _ _ ?_)
 have f27 := f26.sub (sc 2 (sc 3 (sc 4 (sc 5 (sc 13 (sc 14 (sc 15 sn)))))))
 refine wp_seq_k fun K6 hK6 => ?_
 refine wp_seq_k fun K7 hK7 => ?_
 have NF : g4 ∉ m2.fp g := fun h => by have := T.fp_lt _ h; omega
 replace T := T.kept0 HR
 clear f26 HR
 have PO : PkO w6 ({ kind := 3, qos := qa % 2 + 1, id := ib + 1, topic := ⟨#[97]⟩, pay := [120] } : Pk) ({ s0 with pa := some ⟨g2, 0, none⟩, pc := 1 } : Ad) := pay_o HM _ rfl rfl rfl rfl rfl
 skip
 replace Bg4 : Blk w6 g4 34 #[.int .i64 ({ kind := 3, qos := qa % 2 + 1, id := ib + 1, topic := ⟨#[97]⟩, pay := [120] } : Pk).kind, .bool ({ kind := 3, qos := qa % 2 + 1, id := ib + 1, topic := ⟨#[97]⟩, pay := [120] } : Pk).dup, .bool ({ kind := 3, qos := qa % 2 + 1, id := ib + 1, topic := ⟨#[97]⟩, pay := [120] } : Pk).retain, .int .i64 ({ kind := 3, qos := qa % 2 + 1, id := ib + 1, topic := ⟨#[97]⟩, pay := [120] } : Pk).qos, .int .i64 ({ kind := 3, qos := qa % 2 + 1, id := ib + 1, topic := ⟨#[97]⟩, pay := [120] } : Pk).id, .string ({ kind := 3, qos := qa % 2 + 1, id := ib + 1, topic := ⟨#[97]⟩, pay := [120] } : Pk).topic, .slice ({ s0 with pa := some ⟨g2, 0, none⟩, pc := 1 } : Ad).pa ({ kind := 3, qos := qa % 2 + 1, id := ib + 1, topic := ⟨#[97]⟩, pay := [120] } : Pk).pay.length ({ s0 with pa := some ⟨g2, 0, none⟩, pc := 1 } : Ad).pc, .int .i64 ({ kind := 3, qos := qa % 2 + 1, id := ib + 1, topic := ⟨#[97]⟩, pay := [120] } : Pk).level, .string ({ kind := 3, qos := qa % 2 + 1, id := ib + 1, topic := ⟨#[97]⟩, pay := [120] } : Pk).client, .bool ({ kind := 3, qos := qa % 2 + 1, id := ib + 1, topic := ⟨#[97]⟩, pay := [120] } : Pk).clean, .int .i64 ({ kind := 3, qos := qa % 2 + 1, id := ib + 1, topic := ⟨#[97]⟩, pay := [120] } : Pk).keep, .bool ({ kind := 3, qos := qa % 2 + 1, id := ib + 1, topic := ⟨#[97]⟩, pay := [120] } : Pk).hasWill, .string ({ kind := 3, qos := qa % 2 + 1, id := ib + 1, topic := ⟨#[97]⟩, pay := [120] } : Pk).wt, .slice ({ s0 with pa := some ⟨g2, 0, none⟩, pc := 1 } : Ad).wa ({ kind := 3, qos := qa % 2 + 1, id := ib + 1, topic := ⟨#[97]⟩, pay := [120] } : Pk).wp.length ({ s0 with pa := some ⟨g2, 0, none⟩, pc := 1 } : Ad).wc, .int .i64 ({ kind := 3, qos := qa % 2 + 1, id := ib + 1, topic := ⟨#[97]⟩, pay := [120] } : Pk).wq, .bool ({ kind := 3, qos := qa % 2 + 1, id := ib + 1, topic := ⟨#[97]⟩, pay := [120] } : Pk).wr, .bool ({ kind := 3, qos := qa % 2 + 1, id := ib + 1, topic := ⟨#[97]⟩, pay := [120] } : Pk).hasUser, .bool ({ kind := 3, qos := qa % 2 + 1, id := ib + 1, topic := ⟨#[97]⟩, pay := [120] } : Pk).hasPass, .string ({ kind := 3, qos := qa % 2 + 1, id := ib + 1, topic := ⟨#[97]⟩, pay := [120] } : Pk).user, .slice ({ s0 with pa := some ⟨g2, 0, none⟩, pc := 1 } : Ad).sa ({ kind := 3, qos := qa % 2 + 1, id := ib + 1, topic := ⟨#[97]⟩, pay := [120] } : Pk).pass.length ({ s0 with pa := some ⟨g2, 0, none⟩, pc := 1 } : Ad).sc, .bool ({ kind := 3, qos := qa % 2 + 1, id := ib + 1, topic := ⟨#[97]⟩, pay := [120] } : Pk).present, .int .i64 ({ kind := 3, qos := qa % 2 + 1, id := ib + 1, topic := ⟨#[97]⟩, pay := [120] } : Pk).code, .slice ({ s0 with pa := some ⟨g2, 0, none⟩, pc := 1 } : Ad).ua ({ kind := 3, qos := qa % 2 + 1, id := ib + 1, topic := ⟨#[97]⟩, pay := [120] } : Pk).subs.length ({ s0 with pa := some ⟨g2, 0, none⟩, pc := 1 } : Ad).uc, .slice ({ s0 with pa := some ⟨g2, 0, none⟩, pc := 1 } : Ad).ca ({ kind := 3, qos := qa % 2 + 1, id := ib + 1, topic := ⟨#[97]⟩, pay := [120] } : Pk).codes.length ({ s0 with pa := some ⟨g2, 0, none⟩, pc := 1 } : Ad).cc] := Bg4
 refine C.region ?_
 refine L.mv f27 fun a28 f28 => ?_
 refine L.va f28 (by exact E.loadB f28 Try.underlying34 rfl wsz34_tr1 rfl (Bg4) rfl) fun a29 f29 => ?_
 refine L.cl f29 (run_call Try.call14 (args2 f29 rfl rfl)) (out_any ({ kind := 3, qos := qa % 2 + 1, id := ib + 1, topic := ⟨#[97]⟩, pay := [120] } : Pk) ({ s0 with pa := some ⟨g2, 0, none⟩, pc := 1 } : Ad) (wf_small (by show (0 : Int) ≤ ib + 1; omega) (by show ib + 1 ≤ (1000000 : Int); omega)) w.heap.size g (trG) m2 _ T (by omega) PO (len_pub _ _ _ _ _ (by decide))) ?_
 clear f27 a26 f28 a28
 rintro e w7 ⟨rfl, m3, T3, up3, kc7, nw3⟩
 have lo0 := T.lo
 have npk0 := T.noPk
 have ltp := Bg4.lt
 refine ⟨_, rfl, fun a30 f30 => ?_⟩
 have szw7 := kc7.size
 replace HK := HK.trans kc7 (fun x hx hlt => by have := lo0 x hx; omega)
 replace Bg4 := Bg4.kept kc7 NF
 replace PO := PO.keptT kc7 npk0
 clear f29 a29 kc7
 have T := T3
 clear T3
 replace NF : g4 ∉ m3.fp g := fun h => (nw3.1 _ h).elim NF (fun h => by omega)
 have f31 := f30.as (i := 33) (v' := .bool true) rfl (by rw [ids1 hq' hi'])
 refine L.va f31 (E.not f31 rfl) fun a32 f32 => ?_
 refine wpList_nil (hK7 _ _ ?_)
 have f33 := f32.sub (sc 2 (sc 3 (sc 4 (sc 5 (sc 13 (sc 14 (sc 15 (sc 34 sn))))))))
 refine C.condF f33 rfl ?_
 refine wp_skip (hK6 _ _ ?_)
 have f34 := f33.sub (sc 2 (sc 3 (sc 4 (sc 5 (sc 13 (sc 14 (sc 15 sn)))))))
 refine wp_seq_k fun K8 hK8 => ?_
 refine C.sk fun K9 hK9 => ?_
 refine L.mv f34 fun a35 f35 => ?_
 refine wpList_nil (hK9 _ _ ?_)
 have f36 := f35.sub (sc 2 (sc 3 (sc 4 (sc 5 (sc 13 (sc 14 (sc 15 (sc 35 sn))))))))
 clear f30 f31 a30 f32 f33 f34 a32 f35
 refine f36.split 35 rfl (fun h0 f37 => ?_) (fun h0 f37 => ?_)
 ·clear f36
  subst h0
  refine C.condT f37 rfl ?_
  refine C.sk fun K10 hK10 => ?_
  refine L.mv f37 fun a38 f38 => ?_
  refine L.va f38 (E.fa 4 f38 Try.underlying34 rfl wsz3_tr1) fun a39 f39 => ?_
  refine L.va f39 (by exact E.ld f39 Try.underlying3 (Bg4)) fun a40 f40 => ?_
  refine L.va f40 (E.build f40 (parts2 f40 rfl rfl) (wbl34_0_4_tr1 _ _)) fun a41 f41 => ?_
  refine L.cl f41 (run_call Try.call12 (args2 f41 rfl rfl)) (in_any ({ kind := 5, id := ib + 1 } : Pk) s0 (wf_small (by show (0 : Int) ≤ ib + 1; omega) (by show ib + 1 ≤ (1000000 : Int); omega)) w.heap.size g (((trG).outT ({ kind := 3, qos := qa % 2 + 1, id := ib + 1, topic := ⟨#[97]⟩, pay := [120] } : Pk)).2) m3 _ T (by omega) (flat_o _ _ ⟨rfl, rfl, rfl, rfl, rfl⟩) (len_id _ _)) ?_
  clear f37 a35 f38 a38 f39 a39 f40 a40
  rintro e w8 ⟨rfl, m4, T4, up4, kc8, nw4⟩
  have lo0 := T.lo
  have npk0 := T.noPk
  have ltp := Bg4.lt
  refine ⟨_, rfl, fun a42 f42 => ?_⟩
  have szw8 := kc8.size
  replace HK := HK.trans kc8 (fun x hx hlt => by have := lo0 x hx; omega)
  replace Bg4 := Bg4.kept kc8 NF
  replace PO := PO.keptT kc8 npk0
  clear f41 a41 kc8
  have T := T4
  clear T4
  replace NF : g4 ∉ m4.fp g := fun h => (nw4.1 _ h).elim NF (fun h => by omega)
  refine wpList_nil (hK10 _ _ ?_)
  have f43 := f42.sub (sc 2 (sc 3 (sc 4 (sc 5 (sc 13 (sc 14 (sc 15 sn)))))))
  refine C.sk fun K11 hK11 => ?_
  refine L.mv f43 fun a44 f44 => ?_
  refine L.va f44 (E.fa 4 f44 Try.underlying34 rfl wsz3_tr1) fun a45 f45 => ?_
  refine L.va f45 (by exact E.ld f45 Try.underlying3 (Bg4)) fun a46 f46 => ?_
  refine L.va f46 (E.build f46 (parts2 f46 rfl rfl) (wbl34_0_4_tr1 _ _)) fun a47 f47 => ?_
  refine L.cl f47 (run_call Try.call14 (args2 f47 rfl rfl)) (out_any ({ kind := 6, id := ib + 1 } : Pk) s0 (wf_small (by show (0 : Int) ≤ ib + 1; omega) (by show ib + 1 ≤ (1000000 : Int); omega)) w.heap.size g ((((trG).outT ({ kind := 3, qos := qa % 2 + 1, id := ib + 1, topic := ⟨#[97]⟩, pay := [120] } : Pk)).2).inT ({ kind := 5, id := ib + 1 } : Pk)) m4 _ T (by omega) (flat_o _ _ ⟨rfl, rfl, rfl, rfl, rfl⟩) (len_id _ _)) ?_
  clear f42 f43 a42 f44 a44 f45 a45 f46 a46
  rintro e w9 ⟨rfl, m5, T5, up5, kc9, nw5⟩
  have lo0 := T.lo
  have npk0 := T.noPk
  have ltp := Bg4.lt
  refine ⟨_, rfl, fun a48 f48 => ?_⟩
  have szw9 := kc9.size
  replace HK := HK.trans kc9 (fun x hx hlt => by have := lo0 x hx; omega)
  replace Bg4 := Bg4.kept kc9 NF
  replace PO := PO.keptT kc9 npk0
  clear f47 a47 kc9
  have T := T5
  clear T5
  replace NF : g4 ∉ m5.fp g := fun h => (nw5.1 _ h).elim NF (fun h => by omega)
  refine L.mv f48 fun a49 f49 => ?_
  refine L.va f49 (E.eq f49) fun a50 f50 => ?_
  refine L.va f50 (E.neqB f50 Try.underlying4 rfl rfl) fun a51 f51 => ?_
  have f52 := f51.as (i := 48) (v' := .bool false) rfl (by rw [ids2 hq' hi']; simp)
  refine wpList_nil (hK11 _ _ ?_)
  have f53 := f52.sub (sc 2 (sc 3 (sc 4 (sc 5 (sc 13 (sc 14 (sc 15 (sc 48 sn))))))))
  refine C.condF f53 rfl ?_
  refine wp_skip (hK8 _ _ ?_)
  have f54 := f53.sub (sc 2 (sc 3 (sc 4 (sc 5 (sc 13 (sc 14 (sc 15 sn)))))))
  refine wp_seq_k fun K12 hK12 => ?_
  refine C.sk fun K13 hK13 => ?_
  refine L.mv f54 fun a55 f55 => ?_
  refine wpList_nil (hK13 _ _ ?_)
  have f56 := f55.sub (sc 2 (sc 3 (sc 4 (sc 5 (sc 13 (sc 14 (sc 15 (sc 49 sn))))))))
  clear f48 a48 f49 a49 f50 a50 f51 f52 f53 f54 a51 f55
  refine f56.split 49 rfl (fun h1 f57 => ?_) (fun h1 f57 => ?_)
  ·clear f56
   subst h1
   refine C.condT f57 rfl ?_
   have hd13 : Kept [] w9 (w9.drewN 1) := (Kept.refl _ _).drewN 1
   refine R.beginT (S := fun _ => True) (by kernel_rfl) (by kernel_rfl) trivial fun ht => ?_
   obtain ⟨w10, hww10⟩ : ∃ W, W = w9.drewN 1 := ⟨_, rfl⟩
   rw [← hww10] at hd13 ⊢
   clear hww10
   have szw10 := hd13.size
   replace HK := HK.trans hd13 (by simp)
   replace Bg4 := Bg4.kept hd13 (by simp)
   replace PO := PO.kept0 hd13
   replace T := T.kept0 hd13
   clear hd13
   refine R.u 0 f57 rfl ht trivial (fun W hW => (E.move f57 rfl)) fun a58 f58 => ?_
   refine R.u 2 f58 rfl ht trivial (fun W hW => (E.move f58 rfl)) fun a59 f59 => ?_
   refine R.u 3 f59 rfl ht trivial (fun W hW => (E.sub f59 rfl rfl (IntWalk.i64_in _ (by omega)))) fun a60 f60 => ?_
   refine R.u 6 f60 rfl ht trivial (fun W hW => (E.fa 4 f60 Try.underlying34 rfl wsz3_tr1)) fun a61 f61 => ?_
   clear f57 a55 f58 a58 f59 a59 f60 a60
   refine Gp.enter (G := [1, 4, 5, 7]) (L0 := #[true, false, true, true, false, false, true, false, false, false]) (L1 := #[true, true, true, true, true, true, true, true, false, false]) (fuel := 2) (fun mS a W => ∃ v51 v54 v55 v57 : Value, Fr 100 a [(2, .bool dup), (3, .bool same), (4, .bool true), (5, .bool true), (13, .pointer (some ⟨g, 0, none⟩)), (14, .int .i64 (qa % 2 + 1)), (15, .pointer (some ⟨g4, 0, none⟩)), (50, .pointer (some ⟨g, 0, none⟩)), (53, .int .i64 (qa % 2 + 1 - 1)), (56, .pointer (some ⟨g4, 0 + 4, none⟩)), (51, v51), (54, v54), (55, v55), (57, v57)] ∧ (Kept [] w W) ∧ (Blk W g4 34 #[.int .i64 ({ kind := 3, qos := qa % 2 + 1, id := ib + 1, topic := ⟨#[97]⟩, pay := [120] } : Pk).kind, .bool ({ kind := 3, qos := qa % 2 + 1, id := ib + 1, topic := ⟨#[97]⟩, pay := [120] } : Pk).dup, .bool ({ kind := 3, qos := qa % 2 + 1, id := ib + 1, topic := ⟨#[97]⟩, pay := [120] } : Pk).retain, .int .i64 ({ kind := 3, qos := qa % 2 + 1, id := ib + 1, topic := ⟨#[97]⟩, pay := [120] } : Pk).qos, .int .i64 ({ kind := 3, qos := qa % 2 + 1, id := ib + 1, topic := ⟨#[97]⟩, pay := [120] } : Pk).id, .string ({ kind := 3, qos := qa % 2 + 1, id := ib + 1, topic := ⟨#[97]⟩, pay := [120] } : Pk).topic, .slice ({ s0 with pa := some ⟨g2, 0, none⟩, pc := 1 } : Ad).pa ({ kind := 3, qos := qa % 2 + 1, id := ib + 1, topic := ⟨#[97]⟩, pay := [120] } : Pk).pay.length ({ s0 with pa := some ⟨g2, 0, none⟩, pc := 1 } : Ad).pc, .int .i64 ({ kind := 3, qos := qa % 2 + 1, id := ib + 1, topic := ⟨#[97]⟩, pay := [120] } : Pk).level, .string ({ kind := 3, qos := qa % 2 + 1, id := ib + 1, topic := ⟨#[97]⟩, pay := [120] } : Pk).client, .bool ({ kind := 3, qos := qa % 2 + 1, id := ib + 1, topic := ⟨#[97]⟩, pay := [120] } : Pk).clean, .int .i64 ({ kind := 3, qos := qa % 2 + 1, id := ib + 1, topic := ⟨#[97]⟩, pay := [120] } : Pk).keep, .bool ({ kind := 3, qos := qa % 2 + 1, id := ib + 1, topic := ⟨#[97]⟩, pay := [120] } : Pk).hasWill, .string ({ kind := 3, qos := qa % 2 + 1, id := ib + 1, topic := ⟨#[97]⟩, pay := [120] } : Pk).wt, .slice ({ s0 with pa := some ⟨g2, 0, none⟩, pc := 1 } : Ad).wa ({ kind := 3, qos := qa % 2 + 1, id := ib + 1, topic := ⟨#[97]⟩, pay := [120] } : Pk).wp.length ({ s0 with pa := some ⟨g2, 0, none⟩, pc := 1 } : Ad).wc, .int .i64 ({ kind := 3, qos := qa % 2 + 1, id := ib + 1, topic := ⟨#[97]⟩, pay := [120] } : Pk).wq, .bool ({ kind := 3, qos := qa % 2 + 1, id := ib + 1, topic := ⟨#[97]⟩, pay := [120] } : Pk).wr, .bool ({ kind := 3, qos := qa % 2 + 1, id := ib + 1, topic := ⟨#[97]⟩, pay := [120] } : Pk).hasUser, .bool ({ kind := 3, qos := qa % 2 + 1, id := ib + 1, topic := ⟨#[97]⟩, pay := [120] } : Pk).hasPass, .string ({ kind := 3, qos := qa % 2 + 1, id := ib + 1, topic := ⟨#[97]⟩, pay := [120] } : Pk).user, .slice ({ s0 with pa := some ⟨g2, 0, none⟩, pc := 1 } : Ad).sa ({ kind := 3, qos := qa % 2 + 1, id := ib + 1, topic := ⟨#[97]⟩, pay := [120] } : Pk).pass.length ({ s0 with pa := some ⟨g2, 0, none⟩, pc := 1 } : Ad).sc, .bool ({ kind := 3, qos := qa % 2 + 1, id := ib + 1, topic := ⟨#[97]⟩, pay := [120] } : Pk).present, .int .i64 ({ kind := 3, qos := qa % 2 + 1, id := ib + 1, topic := ⟨#[97]⟩, pay := [120] } : Pk).code, .slice ({ s0 with pa := some ⟨g2, 0, none⟩, pc := 1 } : Ad).ua ({ kind := 3, qos := qa % 2 + 1, id := ib + 1, topic := ⟨#[97]⟩, pay := [120] } : Pk).subs.length ({ s0 with pa := some ⟨g2, 0, none⟩, pc := 1 } : Ad).uc, .slice ({ s0 with pa := some ⟨g2, 0, none⟩, pc := 1 } : Ad).ca ({ kind := 3, qos := qa % 2 + 1, id := ib + 1, topic := ⟨#[97]⟩, pay := [120] } : Pk).codes.length ({ s0 with pa := some ⟨g2, 0, none⟩, pc := 1 } : Ad).cc]) ∧ (PkO W ({ kind := 3, qos := qa % 2 + 1, id := ib + 1, topic := ⟨#[97]⟩, pay := [120] } : Pk) ({ s0 with pa := some ⟨g2, 0, none⟩, pc := 1 } : Ad)) ∧ (TrIn w.heap.size W g ((((((trG).outT ({ kind := 3, qos := qa % 2 + 1, id := ib + 1, topic := ⟨#[97]⟩, pay := [120] } : Pk)).2).inT ({ kind := 5, id := ib + 1 } : Pk)).outT ({ kind := 6, id := ib + 1 } : Pk)).2) m5) ∧ (mS.testBit 1 = true → PhiN 3 2 #[.int .i64 4, .int .i64 7] v51 W) ∧ (mS.testBit 4 = true → PhiP (qa % 2 + 1 - 1) v54 W) ∧ (mS.testBit 5 = true → PhiV (.int .i64 (if qa % 2 + 1 = 1 then 4 else 7 : Int)) v55 W) ∧ (mS.testBit 7 = true → PhiV (.int .i64 (ib + 1)) v57 W)) (by kernel_rfl) (by kernel_rfl) ?_ ?_ ?_
   ·obtain ⟨v51, f62⟩ := f61.any 51 (by decide)
    obtain ⟨v54, f63⟩ := f62.any 54 (by decide)
    obtain ⟨v55, f64⟩ := f63.any 55 (by decide)
    obtain ⟨v57, f65⟩ := f64.any 57 (by decide)
    exact ⟨v51, v54, v55, v57, f65.sub (sub_cons rfl (sub_cons rfl (sub_cons rfl (sub_cons rfl (sub_cons rfl (sub_cons rfl (sub_cons rfl (sub_cons rfl (sub_cons rfl (sub_cons rfl (sub_cons rfl (sub_cons rfl (sub_cons rfl (sub_cons rfl sn)))))))))))))), HK, Bg4, PO, T, fun q => absurd q (by simp), fun q => absurd q (by simp), fun q => absurd q (by simp), fun q => absurd q (by simp)⟩
   ·intro mS i_ a62 w11 hm hcl hi hG hI
    obtain ⟨v51, v54, v55, v57, f62, HK, Bg4, PO, T, P1, P4, P5, P7⟩ := hI
    simp only [List.mem_cons, List.not_mem_nil, or_false] at hG
    rcases hG with rfl | rfl | rfl | rfl
    ·skip
     refine O.buildSlice f62 rfl wantedN (by decide) (parts2 f62 rfl rfl) Try.underlying32 wzi3_tr1 rfl rfl (wbs32_2_tr1 _ _) (fun _ _ => trivial) fun a63 w12 g11 N11 hSn f63 => ?_
     clear hSn
     have Bg11 := N11.blk
     have kg11 := N11.kept
     have log11 := N11.lo
     have ltg11 := Bg11.lt
     have szw12 := kg11.size
     have frg11 : w.heap.size ≤ g11 := Nat.le_trans HK.size log11
     have neg4_g11 : g4 ≠ g11 := by have := Bg4.lt; omega
     replace HK := HK.trans kg11 (by simp)
     replace Bg4 := Bg4.kept kg11 (by simp)
     replace PO := PO.kept0 kg11
     replace T := T.kept0 kg11
     replace P1 := fun q => (P1 q).kept kg11
     replace P4 := fun q => (P4 q).kept kg11
     replace P5 := fun q => (P5 q).kept kg11
     replace P7 := fun q => (P7 q).kept kg11
     clear N11 kg11
     exact ⟨_, _, _, _, f63.sub (sub_cons rfl (sub_cons rfl (sub_cons rfl (sub_cons rfl (sub_cons rfl (sub_cons rfl (sub_cons rfl (sub_cons rfl (sub_cons rfl (sub_cons rfl (sub_cons rfl (sub_cons rfl (sub_cons rfl (sub_cons rfl sn)))))))))))))), HK, Bg4, PO, T, fun _ => ⟨g11, rfl, Bg11⟩, fun q => P4 (by rwa [Gp.other (by decide)] at q), fun q => P5 (by rwa [Gp.other (by decide)] at q), fun q => P7 (by rwa [Gp.other (by decide)] at q)⟩
    ·skip
     have D1 := P1 (Gp.need (j := 1) (by kernel_rfl) hm hcl hi)
     obtain ⟨gz, rfl, Bgz⟩ := D1
     refine O.val f62 rfl rfl (by decide) wantedN (E.indexA f62 (by rfl) Try.underlying32 wsz3_tr1 rfl rfl (by omega) (by omega)) trivial fun a63 f63 => ?_
     exact ⟨_, _, _, _, f63.sub (sub_cons rfl (sub_cons rfl (sub_cons rfl (sub_cons rfl (sub_cons rfl (sub_cons rfl (sub_cons rfl (sub_cons rfl (sub_cons rfl (sub_cons rfl (sub_cons rfl (sub_cons rfl (sub_cons rfl (sub_cons rfl sn)))))))))))))), HK, Bg4, PO, T, fun q => P1 (by rwa [Gp.other (by decide)] at q), fun _ => ⟨_, rfl, Bgz⟩, fun q => P5 (by rwa [Gp.other (by decide)] at q), fun q => P7 (by rwa [Gp.other (by decide)] at q)⟩
    ·skip
     have D4 := P4 (Gp.need (j := 4) (by kernel_rfl) hm hcl hi)
     obtain ⟨gy, rfl, Bgy⟩ := D4
     refine O.val f62 rfl rfl (by decide) wantedN (E.load f62 Try.underlying3 rfl rfl (kd_cell Bgy hq)) trivial fun a63 f63 => ?_
     exact ⟨_, _, _, _, f63.sub (sub_cons rfl (sub_cons rfl (sub_cons rfl (sub_cons rfl (sub_cons rfl (sub_cons rfl (sub_cons rfl (sub_cons rfl (sub_cons rfl (sub_cons rfl (sub_cons rfl (sub_cons rfl (sub_cons rfl (sub_cons rfl sn)))))))))))))), HK, Bg4, PO, T, fun q => P1 (by rwa [Gp.other (by decide)] at q), fun q => P4 (by rwa [Gp.other (by decide)] at q), fun _ => rfl, fun q => P7 (by rwa [Gp.other (by decide)] at q)⟩
    skip
    refine O.val f62 rfl rfl (by decide) wantedN (by exact E.ld f62 Try.underlying3 (Bg4)) trivial fun a63 f63 => ?_
    exact ⟨_, _, _, _, f63.sub (sub_cons rfl (sub_cons rfl (sub_cons rfl (sub_cons rfl (sub_cons rfl (sub_cons rfl (sub_cons rfl (sub_cons rfl (sub_cons rfl (sub_cons rfl (sub_cons rfl (sub_cons rfl (sub_cons rfl (sub_cons rfl sn)))))))))))))), HK, Bg4, PO, T, fun q => P1 (by rwa [Gp.other (by decide)] at q), fun q => P4 (by rwa [Gp.other (by decide)] at q), fun q => P5 (by rwa [Gp.other (by decide)] at q), fun _ => rfl⟩
   intro mS a62 w11 hm hI
   obtain ⟨v51, v54, v55, v57, f62, HK, Bg4, PO, T, P1, P4, P5, P7⟩ := hI
   have D5 := P5 (hm 5 (by decide))
   obtain rfl := D5
   have D7 := P7 (hm 7 (by decide))
   obtain rfl := D7
   clear P1 P4 P5 P7
   refine R.u 8 f62 rfl ht trivial (fun W hW => (E.build f62 (parts2 f62 rfl rfl) (wbl34_0_4_tr1 _ _))) fun a63 f63 => ?_
   refine R.one 9 (by kernel_rfl) ?_
   refine O.call f63 rfl rfl (by decide) wantedN (run_call Try.call12 (args2 f63 rfl rfl)) (in_any ({ kind := (if qa % 2 + 1 = 1 then 4 else 7), id := ib + 1 } : Pk) s0 (wf_small (by show (0 : Int) ≤ ib + 1; omega) (by show ib + 1 ≤ (1000000 : Int); omega)) w.heap.size g ((((((trG).outT ({ kind := 3, qos := qa % 2 + 1, id := ib + 1, topic := ⟨#[97]⟩, pay := [120] } : Pk)).2).inT ({ kind := 5, id := ib + 1 } : Pk)).outT ({ kind := 6, id := ib + 1 } : Pk)).2) m5 _ T (by omega) (flat_o _ _ ⟨rfl, rfl, rfl, rfl, rfl⟩) (len_id _ _)) ?_
   clear f62 a62
   rintro e w12 ⟨rfl, m6, T6, up6, kc12, nw6⟩
   have lo0 := T.lo
   have npk0 := T.noPk
   have ltp := Bg4.lt
   refine ⟨_, rfl, trivial, fun a64 f64 => ?_⟩
   have szw12 := kc12.size
   replace HK := HK.trans kc12 (fun x hx hlt => by have := lo0 x hx; omega)
   replace Bg4 := Bg4.kept kc12 NF
   replace PO := PO.keptT kc12 npk0
   clear f63 a63 kc12
   have T := T6
   clear T6
   replace NF : g4 ∉ m6.fp g := fun h => (nw6.1 _ h).elim NF (fun h => by omega)
   refine R.done (by kernel_rfl) (hK12 _ _ ?_)
   have f65 := f64.sub (sc 2 (sc 3 (sc 4 (sc 5 (sc 13 (sc 14 (sc 15 sn)))))))
   refine C.sk fun K14 hK14 => ?_
   refine L.mv f65 fun a66 f66 => ?_
   refine L.mv f66 fun a67 f67 => ?_
   clear f64 f65 a64 f66 a66
   refine f67.split 61 rfl (fun h2 f68 => ?_) (fun h2 f68 => ?_)
   ·have hs61 := h2
    refine L.mv f68 (hw := (f68.yes rfl rfl)) fun a69 f69 => ?_
    refine L.va f69 (E.eq f69) (hw := (f69.yes rfl rfl)) fun a70 f70 => ?_
    refine L.mv f70 (hw := (f70.yes rfl rfl)) fun a71 f71 => ?_
    clear f67 f68 a67 f69 a69 f70 a70
    refine f71.splitD 64 rfl (fun h3 f72 => ?_) (fun h3 f72 => ?_)
    ·have hs64 := h3
     refine L.sk f72 (f72.noF rfl rfl) fun a73 f73 => ?_
     refine L.va f73 (E.pickT f73 rfl rfl) (hw := (f73.yes rfl rfl)) fun a74 f74 => ?_
     refine L.va f74 (E.pickT f74 rfl rfl) fun a75 f75 => ?_
     refine L.ag f75 fun a76 f76 => ?_
     refine wpList_nil (hK14 _ _ ?_)
     have f77 := f76.sub (sc 2 (sc 3 (sc 4 (sc 13 (sc 14 (sc 15 (sc 16 sn)))))))
     refine C.sk fun K15 hK15 => ?_
     refine L.mv f77 fun a78 f78 => ?_
     refine L.va f78 (E.fa 1 f78 Try.underlying34 rfl wsz4_tr1) fun a79 f79 => ?_
     clear f71 f72 a71 f73 a73 f74 a74 f75 a75 f76 f77 a76 f78 a78
     refine L.store f79 wantedN wsz4_tr1 rfl rfl rfl Bg4 (by (simp [Value.cells]; done)) fun a80 w13 f80 NB13 ks13 => ?_
     have szw13 := ks13.size
     replace HK := HK.trans ks13 (fun x hx hlt => by obtain rfl := List.mem_singleton.1 hx; exfalso; omega)
     replace PO := PO.keptT ks13 (NoPk.blk Bg4 (by decide))
     replace T := T.keptX ks13 NF (NoPk.blk Bg4 (by decide))
     replace Bg4 := NB13
     simp only [Value.cells, z1, z2, z3, Nat.reduceAdd, Nat.zero_add] at Bg4
     clear ks13 f79 a79
     refine wpList_nil (hK15 _ _ ?_)
     have f81 := f80.sub (sc 2 (sc 3 (sc 4 (sc 13 (sc 14 (sc 15 (sc 16 sn)))))))
     refine wp_seq_k fun K16 hK16 => ?_
     refine C.sk fun K17 hK17 => ?_
     refine L.mv f81 fun a82 f82 => ?_
     refine L.va f82 (E.not f82 rfl) fun a83 f83 => ?_
     refine wpList_nil (hK17 _ _ ?_)
     have f84 := f83.sub (sc 2 (sc 3 (sc 4 (sc 13 (sc 14 (sc 15 (sc 16 (sc 71 sn))))))))
     clear f80 f81 a80 f82 a82 f83
     refine f84.splitNB 71 rfl (fun h4 f85 => ?_) (fun h4 f85 => ?_)
     ·have hs71 := h4
      refine C.condT f85 rfl ?_
      have HR : Kept [g4] w13 w13 := Kept.refl _ _
      have nop := NoPk.blk Bg4 (by decide : 34 ∉ [5, 46, 3])
      refine C.region ?_
      refine L.buildSlice f85 wantedN (by decide) (parts1 f85 rfl) Try.underlying28 wzi5_tr1 rfl rfl (wbs28_1_tr1 _) fun a86 w14 g13 N13 f86 => ?_
      have Bg13 := N13.blk
      have kg13 := N13.kept
      have log13 := N13.lo
      have ltg13 := Bg13.lt
      have szw14 := kg13.size
      have frg13 : w.heap.size ≤ g13 := Nat.le_trans HK.size log13
      have frg13_HR : w13.heap.size ≤ g13 := Nat.le_trans HR.size log13
      have neg4_g13 : g4 ≠ g13 := by have := Bg4.lt; omega
      replace HK := HK.trans kg13 (by simp)
      replace Bg4 := Bg4.kept kg13 (by simp)
      replace HR := HR.trans kg13 (by simp)
      clear f84 N13 kg13
      obtain ⟨w15, hcv, ks, HM⟩ := run_mark (n := 1) (c := 1) Bg13 Try.underlying28 Try.underlying5
      refine L.va f86 (E.convV f86 rfl hcv) fun a87 f87 => ?_
      have szw15 := ks.size
      replace HK := HK.trans ks (fun x hx hlt => by obtain rfl := List.mem_singleton.1 hx; exfalso; omega)
      replace Bg4 := Bg4.kept ks (by simp; omega)
      replace HR := HR.trans ks (fun x hx hlt => by obtain rfl := List.mem_singleton.1 hx; exfalso; omega)
      clear f85 a83 hcv ks f86 a86
      refine L.va f87 (E.fa 6 f87 Try.underlying34 rfl wsz28_tr1) fun a88 f88 => ?_
      refine L.store f88 wantedN wsz28_tr1 rfl rfl rfl Bg4 (by (simp [Value.cells]; done)) fun a89 w16 f89 NB16 ks16 => ?_
      have szw16 := ks16.size
      replace HK := HK.trans ks16 (fun x hx hlt => by obtain rfl := List.mem_singleton.1 hx; exfalso; omega)
      replace HR := HR.trans ks16 (fun x hx hlt => hx)
      replace HM := heap_kept HM ks16 (by simp; omega)
      replace Bg4 := NB16
      simp only [Value.cells, z1, z2, z3, Nat.reduceAdd, Nat.zero_add] at Bg4
      clear f87 a87 ks16 f88 a88
      refine wpList_nil (hK16 _ _ ?_)
      have f90 := f89.sub (sc 2 (sc 3 (sc 4 (sc 13 (sc 14 (sc 15 (sc 16 sn)))))))
      refine wp_seq_k fun K18 hK18 => ?_
      have hI := ids_true hq' hi' dup same true true
      clear f89
      unfold idsB at hI
      simp only [Bool.and_eq_true, beq_iff_eq, if_true, Bool.false_eq_true, if_false, Bool.not_eq_true'] at hI
      obtain ⟨⟨⟨i1, i2⟩, i3⟩, i4⟩ := hI
      simp only [hs71, if_true, if_false, Bool.false_eq_true, reduceIte, ite_true, ite_false] at i3 i4
      clear i1 i2
      have PO : PkO w16 ({ kind := 3, qos := qa % 2 + 1, id := ib + 1, topic := ⟨#[97]⟩, pay := [121], dup := dup } : Pk) ({ s0 with pa := some ⟨g13, 0, none⟩, pc := 1 } : Ad) := pay_o HM _ rfl rfl rfl rfl rfl
      replace T := T.keptX HR NF nop
      clear HR
      refine C.region ?_
      refine L.mv f90 fun a91 f91 => ?_
      refine L.va f91 (by exact E.loadB f91 Try.underlying34 rfl wsz34_tr1 rfl (Bg4) rfl) fun a92 f92 => ?_
      refine L.cl f92 (run_call Try.call14 (args2 f92 rfl rfl)) (out_any ({ kind := 3, qos := qa % 2 + 1, id := ib + 1, topic := ⟨#[97]⟩, pay := [121], dup := dup } : Pk) ({ s0 with pa := some ⟨g13, 0, none⟩, pc := 1 } : Ad) (wf_small (by show (0 : Int) ≤ ib + 1; omega) (by show ib + 1 ≤ (1000000 : Int); omega)) w.heap.size g (((((((trG).outT ({ kind := 3, qos := qa % 2 + 1, id := ib + 1, topic := ⟨#[97]⟩, pay := [120] } : Pk)).2).inT ({ kind := 5, id := ib + 1 } : Pk)).outT ({ kind := 6, id := ib + 1 } : Pk)).2).inT ({ kind := (if qa % 2 + 1 = 1 then 4 else 7), id := ib + 1 } : Pk)) m6 _ T (by omega) PO (len_pub _ _ _ _ _ (by decide))) ?_
      clear f90 a89 f91 a91
      rintro e w17 ⟨rfl, m7, T7, up7, kc17, nw7⟩
      have lo0 := T.lo
      have npk0 := T.noPk
      have ltp := Bg4.lt
      refine ⟨_, rfl, fun a93 f93 => ?_⟩
      have szw17 := kc17.size
      replace HK := HK.trans kc17 (fun x hx hlt => by have := lo0 x hx; omega)
      replace Bg4 := Bg4.kept kc17 NF
      replace PO := PO.keptT kc17 npk0
      clear f92 a92 kc17
      have T := T7
      clear T7
      replace NF : g4 ∉ m7.fp g := fun h => (nw7.1 _ h).elim NF (fun h => by omega)
      refine L.mv f93 fun a94 f94 => ?_
      refine L.mv f94 fun a95 f95 => ?_
      refine L.sk f95 (f95.noF rfl rfl) fun a96 f96 => ?_
      refine L.sk f96 (f96.noF rfl rfl) fun a97 f97 => ?_
      refine L.sk f97 (f97.noU rfl rfl) fun a98 f98 => ?_
      refine L.sk f98 (f98.noF rfl rfl) fun a99 f99 => ?_
      refine L.sk f99 (f99.noF rfl rfl) fun a100 f100 => ?_
      clear f93 a93 f94 a94 f95 a95 f96 a96 f97 a97 f98 a98 f99 a99
      refine L.sk f100 (f100.noU rfl rfl) fun a101 f101 => ?_
      refine L.sk f101 (f101.noU rfl rfl) fun a102 f102 => ?_
      refine L.sk f102 (f102.noU rfl rfl) fun a103 f103 => ?_
      refine L.sk f103 (f103.noU rfl rfl) fun a104 f104 => ?_
      refine L.sk f104 (f104.noU rfl rfl) fun a105 f105 => ?_
      refine L.sk f105 (f105.noU rfl rfl) fun a106 f106 => ?_
      refine L.sk f106 (f106.noF rfl rfl) fun a107 f107 => ?_
      clear f100 a100 f101 a101 f102 a102 f103 a103 f104 a104 f105 a105 f106 a106
      refine L.va f107 (E.pickT f107 rfl rfl) fun a108 f108 => ?_
      refine L.va f108 (E.eqlB f108 Try.underlying4 rfl rfl) fun a109 f109 => ?_
      refine L.mv f109 fun a110 f110 => ?_
      clear f107 a107 f108 a108 f109 a109
      refine f110.splitD 94 rfl (fun h5 f111 => ?_) (fun h5 f111 => ?_)
      ·have hs94 := h5
       refine L.mv f111 (hw := (f111.yes rfl rfl)) fun a112 f112 => ?_
       refine L.va f112 (E.build f112 (parts1 f112 rfl) (wbl34_0_tr1 _)) (hw := (f112.yes rfl rfl)) fun a113 f113 => ?_
       refine L.cl f113 (run_call Try.call14 (args2 f113 rfl rfl)) (out_any ({ kind := 2 } : Pk) s0 (by decide) w.heap.size g (((((((((trG).outT ({ kind := 3, qos := qa % 2 + 1, id := ib + 1, topic := ⟨#[97]⟩, pay := [120] } : Pk)).2).inT ({ kind := 5, id := ib + 1 } : Pk)).outT ({ kind := 6, id := ib + 1 } : Pk)).2).inT ({ kind := (if qa % 2 + 1 = 1 then 4 else 7), id := ib + 1 } : Pk)).outT ({ kind := 3, qos := qa % 2 + 1, id := ib + 1, topic := ⟨#[97]⟩, pay := [121], dup := dup } : Pk)).2) m7 _ T (by omega) (flat_o _ _ (by decide)) (by constructor <;> decide)) ?_ (hw := (f113.yes rfl rfl))
       clear f110 f111 a110 f112 a112
       rintro e w18 ⟨rfl, m8, T8, up8, kc18, nw8⟩
       have lo0 := T.lo
       have npk0 := T.noPk
       have ltp := Bg4.lt
       refine ⟨_, rfl, fun a114 f114 => ?_⟩
       have szw18 := kc18.size
       replace HK := HK.trans kc18 (fun x hx hlt => by have := lo0 x hx; omega)
       replace Bg4 := Bg4.kept kc18 NF
       replace PO := PO.keptT kc18 npk0
       clear f113 a113 kc18
       have T := T8
       clear T8
       replace NF : g4 ∉ m8.fp g := fun h => (nw8.1 _ h).elim NF (fun h => by omega)
       refine L.va f114 (E.not f114 rfl) (hw := (f114.yes rfl rfl)) fun a115 f115 => ?_
       refine L.va f115 (E.pickT f115 rfl rfl) fun a116 f116 => ?_
       refine L.ag f116 fun a117 f117 => ?_
       refine wpList_nil (hK18 _ _ ?_)
       have f118 := f117.sub (sc 12 sn)
       refine wp_ret ?_
       try simp only [Exit.inBlock, Exit.then]
       refine C.ret (P := Try.prog) (fn := Try.f5) f118 rfl rfl ?_
       refine ⟨HK, ?_⟩
       clear f114 a114 f115 a115 f116 a116 f117
       (simp only [i4, Bool.not_false]; done)
      have hs94 := h5
      refine L.run f111 (rest' := []) (by kernel_rfl) fun a112 f112 => ?_
      clear f110
      skip
      refine wpList_nil (hK18 _ _ ?_)
      have f113 := f112.sub (sub_cons (i := 12) (v := .bool false) (by kernel_rfl) sn)
      refine wp_ret ?_
      try simp only [Exit.inBlock, Exit.then]
      refine C.ret (P := Try.prog) (fn := Try.f5) f113 rfl rfl ?_
      refine ⟨HK, ?_⟩
      clear f112 f111
      (exfalso; simp_all; done)
     have hs71 := h4
     refine C.condF f85 rfl ?_
     refine wp_skip (hK16 _ _ ?_)
     have f86 := f85.sub (sc 2 (sc 3 (sc 4 (sc 13 (sc 14 (sc 15 (sc 16 sn)))))))
     refine wp_seq_k fun K19 hK19 => ?_
     have hI := ids_true hq' hi' dup same true true
     clear f84 f85
     unfold idsB at hI
     simp only [Bool.and_eq_true, beq_iff_eq, if_true, Bool.false_eq_true, if_false, Bool.not_eq_true'] at hI
     obtain ⟨⟨⟨i1, i2⟩, i3⟩, i4⟩ := hI
     simp only [hs71, if_true, if_false, Bool.false_eq_true, reduceIte, ite_true, ite_false] at i3 i4
     clear i1 i2
     replace PO : PkO w13 ({ kind := 3, qos := qa % 2 + 1, id := ib + 1, topic := ⟨#[97]⟩, pay := [120], dup := dup } : Pk) ({ s0 with pa := some ⟨g2, 0, none⟩, pc := 1 } : Ad) := ⟨PO.pay, PO.wp, PO.pass, PO.subs, PO.codes⟩
     refine C.region ?_
     refine L.mv f86 fun a87 f87 => ?_
     refine L.va f87 (by exact E.loadB f87 Try.underlying34 rfl wsz34_tr1 rfl (Bg4) rfl) fun a88 f88 => ?_
     refine L.cl f88 (run_call Try.call14 (args2 f88 rfl rfl)) (out_any ({ kind := 3, qos := qa % 2 + 1, id := ib + 1, topic := ⟨#[97]⟩, pay := [120], dup := dup } : Pk) ({ s0 with pa := some ⟨g2, 0, none⟩, pc := 1 } : Ad) (wf_small (by show (0 : Int) ≤ ib + 1; omega) (by show ib + 1 ≤ (1000000 : Int); omega)) w.heap.size g (((((((trG).outT ({ kind := 3, qos := qa % 2 + 1, id := ib + 1, topic := ⟨#[97]⟩, pay := [120] } : Pk)).2).inT ({ kind := 5, id := ib + 1 } : Pk)).outT ({ kind := 6, id := ib + 1 } : Pk)).2).inT ({ kind := (if qa % 2 + 1 = 1 then 4 else 7), id := ib + 1 } : Pk)) m6 _ T (by omega) PO (len_pub _ _ _ _ _ (by decide))) ?_
     clear f86 a83 f87 a87
     rintro e w14 ⟨rfl, m7, T7, up7, kc14, nw7⟩
     have lo0 := T.lo
     have npk0 := T.noPk
     have ltp := Bg4.lt
     refine ⟨_, rfl, fun a89 f89 => ?_⟩
     have szw14 := kc14.size
     replace HK := HK.trans kc14 (fun x hx hlt => by have := lo0 x hx; omega)
     replace Bg4 := Bg4.kept kc14 NF
     replace PO := PO.keptT kc14 npk0
     clear f88 a88 kc14
     have T := T7
     clear T7
     replace NF : g4 ∉ m7.fp g := fun h => (nw7.1 _ h).elim NF (fun h => by omega)
     refine L.mv f89 fun a90 f90 => ?_
     refine L.mv f90 fun a91 f91 => ?_
     refine L.sk f91 (f91.noF rfl rfl) fun a92 f92 => ?_
     refine L.sk f92 (f92.noF rfl rfl) fun a93 f93 => ?_
     refine L.sk f93 (f93.noU rfl rfl) fun a94 f94 => ?_
     refine L.sk f94 (f94.noF rfl rfl) fun a95 f95 => ?_
     refine L.sk f95 (f95.noF rfl rfl) fun a96 f96 => ?_
     clear f89 a89 f90 a90 f91 a91 f92 a92 f93 a93 f94 a94 f95 a95
     refine L.sk f96 (f96.noU rfl rfl) fun a97 f97 => ?_
     refine L.sk f97 (f97.noU rfl rfl) fun a98 f98 => ?_
     refine L.sk f98 (f98.noU rfl rfl) fun a99 f99 => ?_
     refine L.sk f99 (f99.noU rfl rfl) fun a100 f100 => ?_
     refine L.sk f100 (f100.noU rfl rfl) fun a101 f101 => ?_
     refine L.sk f101 (f101.noU rfl rfl) fun a102 f102 => ?_
     refine L.sk f102 (f102.noF rfl rfl) fun a103 f103 => ?_
     clear f96 a96 f97 a97 f98 a98 f99 a99 f100 a100 f101 a101 f102 a102
     refine L.va f103 (E.pickT f103 rfl rfl) fun a104 f104 => ?_
     refine L.va f104 (E.eqlB f104 Try.underlying4 rfl rfl) fun a105 f105 => ?_
     refine L.mv f105 fun a106 f106 => ?_
     clear f103 a103 f104 a104 f105 a105
     refine f106.splitD 94 rfl (fun h6 f107 => ?_) (fun h6 f107 => ?_)
     ·have hs94 := h6
      refine L.mv f107 (hw := (f107.yes rfl rfl)) fun a108 f108 => ?_
      refine L.va f108 (E.build f108 (parts1 f108 rfl) (wbl34_0_tr1 _)) (hw := (f108.yes rfl rfl)) fun a109 f109 => ?_
      refine L.cl f109 (run_call Try.call14 (args2 f109 rfl rfl)) (out_any ({ kind := 2 } : Pk) s0 (by decide) w.heap.size g (((((((((trG).outT ({ kind := 3, qos := qa % 2 + 1, id := ib + 1, topic := ⟨#[97]⟩, pay := [120] } : Pk)).2).inT ({ kind := 5, id := ib + 1 } : Pk)).outT ({ kind := 6, id := ib + 1 } : Pk)).2).inT ({ kind := (if qa % 2 + 1 = 1 then 4 else 7), id := ib + 1 } : Pk)).outT ({ kind := 3, qos := qa % 2 + 1, id := ib + 1, topic := ⟨#[97]⟩, pay := [120], dup := dup } : Pk)).2) m7 _ T (by omega) (flat_o _ _ (by decide)) (by constructor <;> decide)) ?_ (hw := (f109.yes rfl rfl))
      clear f106 f107 a106 f108 a108
      rintro e w15 ⟨rfl, m8, T8, up8, kc15, nw8⟩
      have lo0 := T.lo
      have npk0 := T.noPk
      have ltp := Bg4.lt
      refine ⟨_, rfl, fun a110 f110 => ?_⟩
      have szw15 := kc15.size
      replace HK := HK.trans kc15 (fun x hx hlt => by have := lo0 x hx; omega)
      replace Bg4 := Bg4.kept kc15 NF
      replace PO := PO.keptT kc15 npk0
      clear f109 a109 kc15
      have T := T8
      clear T8
      replace NF : g4 ∉ m8.fp g := fun h => (nw8.1 _ h).elim NF (fun h => by omega)
      refine L.va f110 (E.not f110 rfl) (hw := (f110.yes rfl rfl)) fun a111 f111 => ?_
      refine L.va f111 (E.pickT f111 rfl rfl) fun a112 f112 => ?_
      refine L.ag f112 fun a113 f113 => ?_
      refine wpList_nil (hK19 _ _ ?_)
      have f114 := f113.sub (sc 12 sn)
      refine wp_ret ?_
      try simp only [Exit.inBlock, Exit.then]
      refine C.ret (P := Try.prog) (fn := Try.f5) f114 rfl rfl ?_
      refine ⟨HK, ?_⟩
      clear f110 a110 f111 a111 f112 a112 f113
      (simp only [i4, Bool.not_false]; done)
     have hs94 := h6
     refine L.run f107 (rest' := []) (by kernel_rfl) fun a108 f108 => ?_
     clear f106
     skip
     refine wpList_nil (hK19 _ _ ?_)
     have f109 := f108.sub (sub_cons (i := 12) (v := .bool false) (by kernel_rfl) sn)
     refine wp_ret ?_
     try simp only [Exit.inBlock, Exit.then]
     refine C.ret (P := Try.prog) (fn := Try.f5) f109 rfl rfl ?_
     refine ⟨HK, ?_⟩
     clear f108 f107
     (exfalso; simp_all; done)
    have hs64 := h3
    refine L.mv f72 (hw := (f72.yes rfl rfl)) fun a73 f73 => ?_
    refine L.va f73 (E.pickF f73 rfl rfl) (hw := (f73.yes rfl rfl)) fun a74 f74 => ?_
    refine L.va f74 (E.pickT f74 rfl rfl) fun a75 f75 => ?_
    refine L.ag f75 fun a76 f76 => ?_
    refine wpList_nil (hK14 _ _ ?_)
    have f77 := f76.sub (sc 2 (sc 3 (sc 4 (sc 13 (sc 14 (sc 15 (sc 16 sn)))))))
    refine C.sk fun K20 hK20 => ?_
    refine L.mv f77 fun a78 f78 => ?_
    refine L.va f78 (E.fa 1 f78 Try.underlying34 rfl wsz4_tr1) fun a79 f79 => ?_
    clear f71 f72 a71 f73 a73 f74 a74 f75 a75 f76 f77 a76 f78 a78
    refine L.store f79 wantedN wsz4_tr1 rfl rfl rfl Bg4 (by (simp [Value.cells]; done)) fun a80 w13 f80 NB13 ks13 => ?_
    have szw13 := ks13.size
    replace HK := HK.trans ks13 (fun x hx hlt => by obtain rfl := List.mem_singleton.1 hx; exfalso; omega)
    replace PO := PO.keptT ks13 (NoPk.blk Bg4 (by decide))
    replace T := T.keptX ks13 NF (NoPk.blk Bg4 (by decide))
    replace Bg4 := NB13
    simp only [Value.cells, z1, z2, z3, Nat.reduceAdd, Nat.zero_add] at Bg4
    clear ks13 f79 a79
    refine wpList_nil (hK20 _ _ ?_)
    have f81 := f80.sub (sc 2 (sc 3 (sc 4 (sc 13 (sc 14 (sc 15 (sc 16 sn)))))))
    refine wp_seq_k fun K21 hK21 => ?_
    refine C.sk fun K22 hK22 => ?_
    refine L.mv f81 fun a82 f82 => ?_
    refine L.va f82 (E.not f82 rfl) fun a83 f83 => ?_
    refine wpList_nil (hK22 _ _ ?_)
    have f84 := f83.sub (sc 2 (sc 3 (sc 4 (sc 13 (sc 14 (sc 15 (sc 16 (sc 71 sn))))))))
    clear f80 f81 a80 f82 a82 f83
    refine f84.splitNB 71 rfl (fun h7 f85 => ?_) (fun h7 f85 => ?_)
    ·have hs71 := h7
     refine C.condT f85 rfl ?_
     have HR : Kept [g4] w13 w13 := Kept.refl _ _
     have nop := NoPk.blk Bg4 (by decide : 34 ∉ [5, 46, 3])
     refine C.region ?_
     refine L.buildSlice f85 wantedN (by decide) (parts1 f85 rfl) Try.underlying28 wzi5_tr1 rfl rfl (wbs28_1_tr1 _) fun a86 w14 g13 N13 f86 => ?_
     have Bg13 := N13.blk
     have kg13 := N13.kept
     have log13 := N13.lo
     have ltg13 := Bg13.lt
     have szw14 := kg13.size
     have frg13 : w.heap.size ≤ g13 := Nat.le_trans HK.size log13
     have frg13_HR : w13.heap.size ≤ g13 := Nat.le_trans HR.size log13
     have neg4_g13 : g4 ≠ g13 := by have := Bg4.lt; omega
     replace HK := HK.trans kg13 (by simp)
     replace Bg4 := Bg4.kept kg13 (by simp)
     replace HR := HR.trans kg13 (by simp)
     clear f84 N13 kg13
     obtain ⟨w15, hcv, ks, HM⟩ := run_mark (n := 1) (c := 1) Bg13 Try.underlying28 Try.underlying5
     refine L.va f86 (E.convV f86 rfl hcv) fun a87 f87 => ?_
     have szw15 := ks.size
     replace HK := HK.trans ks (fun x hx hlt => by obtain rfl := List.mem_singleton.1 hx; exfalso; omega)
     replace Bg4 := Bg4.kept ks (by simp; omega)
     replace HR := HR.trans ks (fun x hx hlt => by obtain rfl := List.mem_singleton.1 hx; exfalso; omega)
     clear f85 a83 hcv ks f86 a86
     refine L.va f87 (E.fa 6 f87 Try.underlying34 rfl wsz28_tr1) fun a88 f88 => ?_
     refine L.store f88 wantedN wsz28_tr1 rfl rfl rfl Bg4 (by (simp [Value.cells]; done)) fun a89 w16 f89 NB16 ks16 => ?_
     have szw16 := ks16.size
     replace HK := HK.trans ks16 (fun x hx hlt => by obtain rfl := List.mem_singleton.1 hx; exfalso; omega)
     replace HR := HR.trans ks16 (fun x hx hlt => hx)
     replace HM := heap_kept HM ks16 (by simp; omega)
     replace Bg4 := NB16
     simp only [Value.cells, z1, z2, z3, Nat.reduceAdd, Nat.zero_add] at Bg4
     clear f87 a87 ks16 f88 a88
     refine wpList_nil (hK21 _ _ ?_)
     have f90 := f89.sub (sc 2 (sc 3 (sc 4 (sc 13 (sc 14 (sc 15 (sc 16 sn)))))))
     refine wp_seq_k fun K23 hK23 => ?_
     have hI := ids_true hq' hi' dup same true true
     clear f89
     unfold idsB at hI
     simp only [Bool.and_eq_true, beq_iff_eq, if_true, Bool.false_eq_true, if_false, Bool.not_eq_true'] at hI
     obtain ⟨⟨⟨i1, i2⟩, i3⟩, i4⟩ := hI
     simp only [hs71, if_true, if_false, Bool.false_eq_true, reduceIte, ite_true, ite_false] at i3 i4
     clear i1 i2
     have PO : PkO w16 ({ kind := 3, qos := qa % 2 + 1, id := ib + 1, topic := ⟨#[97]⟩, pay := [121], dup := dup } : Pk) ({ s0 with pa := some ⟨g13, 0, none⟩, pc := 1 } : Ad) := pay_o HM _ rfl rfl rfl rfl rfl
     replace T := T.keptX HR NF nop
     clear HR
     refine C.region ?_
     refine L.mv f90 fun a91 f91 => ?_
     refine L.va f91 (by exact E.loadB f91 Try.underlying34 rfl wsz34_tr1 rfl (Bg4) rfl) fun a92 f92 => ?_
     refine L.cl f92 (run_call Try.call14 (args2 f92 rfl rfl)) (out_any ({ kind := 3, qos := qa % 2 + 1, id := ib + 1, topic := ⟨#[97]⟩, pay := [121], dup := dup } : Pk) ({ s0 with pa := some ⟨g13, 0, none⟩, pc := 1 } : Ad) (wf_small (by show (0 : Int) ≤ ib + 1; omega) (by show ib + 1 ≤ (1000000 : Int); omega)) w.heap.size g (((((((trG).outT ({ kind := 3, qos := qa % 2 + 1, id := ib + 1, topic := ⟨#[97]⟩, pay := [120] } : Pk)).2).inT ({ kind := 5, id := ib + 1 } : Pk)).outT ({ kind := 6, id := ib + 1 } : Pk)).2).inT ({ kind := (if qa % 2 + 1 = 1 then 4 else 7), id := ib + 1 } : Pk)) m6 _ T (by omega) PO (len_pub _ _ _ _ _ (by decide))) ?_
     clear f90 a89 f91 a91
     rintro e w17 ⟨rfl, m7, T7, up7, kc17, nw7⟩
     have lo0 := T.lo
     have npk0 := T.noPk
     have ltp := Bg4.lt
     refine ⟨_, rfl, fun a93 f93 => ?_⟩
     have szw17 := kc17.size
     replace HK := HK.trans kc17 (fun x hx hlt => by have := lo0 x hx; omega)
     replace Bg4 := Bg4.kept kc17 NF
     replace PO := PO.keptT kc17 npk0
     clear f92 a92 kc17
     have T := T7
     clear T7
     replace NF : g4 ∉ m7.fp g := fun h => (nw7.1 _ h).elim NF (fun h => by omega)
     refine L.mv f93 fun a94 f94 => ?_
     refine L.mv f94 fun a95 f95 => ?_
     clear f93 a93 f94 a94
     refine f95.split 79 rfl (fun h8 f96 => ?_) (fun h8 f96 => ?_)
     ·have hs79 := h8
      refine L.sk f96 (f96.noF rfl rfl) fun a97 f97 => ?_
      refine L.sk f97 (f97.noF rfl rfl) fun a98 f98 => ?_
      refine L.sk f98 (f98.noU rfl rfl) fun a99 f99 => ?_
      refine L.sk f99 (f99.noF rfl rfl) fun a100 f100 => ?_
      refine L.sk f100 (f100.noF rfl rfl) fun a101 f101 => ?_
      refine L.sk f101 (f101.noU rfl rfl) fun a102 f102 => ?_
      refine L.sk f102 (f102.noU rfl rfl) fun a103 f103 => ?_
      clear f95 f96 a95 f97 a97 f98 a98 f99 a99 f100 a100 f101 a101 f102 a102
      refine L.sk f103 (f103.noU rfl rfl) fun a104 f104 => ?_
      refine L.sk f104 (f104.noU rfl rfl) fun a105 f105 => ?_
      refine L.sk f105 (f105.noU rfl rfl) fun a106 f106 => ?_
      refine L.sk f106 (f106.noU rfl rfl) fun a107 f107 => ?_
      refine L.sk f107 (f107.noF rfl rfl) fun a108 f108 => ?_
      refine L.va f108 (E.pickT f108 rfl rfl) fun a109 f109 => ?_
      refine L.va f109 (E.eqlB f109 Try.underlying4 rfl rfl) fun a110 f110 => ?_
      clear f103 a103 f104 a104 f105 a105 f106 a106 f107 a107 f108 a108 f109 a109
      refine L.mv f110 fun a111 f111 => ?_
      clear f110 a110
      refine f111.splitD 94 rfl (fun h9 f112 => ?_) (fun h9 f112 => ?_)
      ·have hs94 := h9
       refine L.mv f112 (hw := (f112.yes rfl rfl)) fun a113 f113 => ?_
       refine L.va f113 (E.build f113 (parts1 f113 rfl) (wbl34_0_tr1 _)) (hw := (f113.yes rfl rfl)) fun a114 f114 => ?_
       refine L.cl f114 (run_call Try.call14 (args2 f114 rfl rfl)) (out_any ({ kind := 2 } : Pk) s0 (by decide) w.heap.size g (((((((((trG).outT ({ kind := 3, qos := qa % 2 + 1, id := ib + 1, topic := ⟨#[97]⟩, pay := [120] } : Pk)).2).inT ({ kind := 5, id := ib + 1 } : Pk)).outT ({ kind := 6, id := ib + 1 } : Pk)).2).inT ({ kind := (if qa % 2 + 1 = 1 then 4 else 7), id := ib + 1 } : Pk)).outT ({ kind := 3, qos := qa % 2 + 1, id := ib + 1, topic := ⟨#[97]⟩, pay := [121], dup := dup } : Pk)).2) m7 _ T (by omega) (flat_o _ _ (by decide)) (by constructor <;> decide)) ?_ (hw := (f114.yes rfl rfl))
       clear f111 f112 a111 f113 a113
       rintro e w18 ⟨rfl, m8, T8, up8, kc18, nw8⟩
       have lo0 := T.lo
       have npk0 := T.noPk
       have ltp := Bg4.lt
       refine ⟨_, rfl, fun a115 f115 => ?_⟩
       have szw18 := kc18.size
       replace HK := HK.trans kc18 (fun x hx hlt => by have := lo0 x hx; omega)
       replace Bg4 := Bg4.kept kc18 NF
       replace PO := PO.keptT kc18 npk0
       clear f114 a114 kc18
       have T := T8
       clear T8
       replace NF : g4 ∉ m8.fp g := fun h => (nw8.1 _ h).elim NF (fun h => by omega)
       refine L.va f115 (E.not f115 rfl) (hw := (f115.yes rfl rfl)) fun a116 f116 => ?_
       refine L.va f116 (E.pickT f116 rfl rfl) fun a117 f117 => ?_
       refine L.ag f117 fun a118 f118 => ?_
       refine wpList_nil (hK23 _ _ ?_)
       have f119 := f118.sub (sc 12 sn)
       refine wp_ret ?_
       try simp only [Exit.inBlock, Exit.then]
       refine C.ret (P := Try.prog) (fn := Try.f5) f119 rfl rfl ?_
       refine ⟨HK, ?_⟩
       clear f115 a115 f116 a116 f117 a117 f118
       (simp only [i4, Bool.not_false]; done)
      have hs94 := h9
      refine L.run f112 (rest' := []) (by kernel_rfl) fun a113 f113 => ?_
      clear f111
      skip
      refine wpList_nil (hK23 _ _ ?_)
      have f114 := f113.sub (sub_cons (i := 12) (v := .bool false) (by kernel_rfl) sn)
      refine wp_ret ?_
      try simp only [Exit.inBlock, Exit.then]
      refine C.ret (P := Try.prog) (fn := Try.f5) f114 rfl rfl ?_
      refine ⟨HK, ?_⟩
      clear f113 f112
      (exfalso; simp_all; done)
     have hs79 := h8
     refine L.mv f96 (hw := (f96.yes rfl rfl)) fun a97 f97 => ?_
     refine L.mv f97 (hw := (f97.yes rfl rfl)) fun a98 f98 => ?_
     clear f95 f96 a95 f97 a97
     refine f98.split 81 rfl (fun h10 f99 => ?_) (fun h10 f99 => ?_)
     ·have hs81 := h10
      refine L.mv f99 (hw := (f99.yes rfl rfl)) fun a100 f100 => ?_
      refine L.va f100 (E.pickT f100 rfl rfl) (hw := (f100.yes rfl rfl)) fun a101 f101 => ?_
      refine L.mv f101 (hw := (f101.yes rfl rfl)) fun a102 f102 => ?_
      clear f98 f99 a98 f100 a100 f101 a101
      refine f102.split 84 rfl (fun h11 f103 => ?_) (fun h11 f103 => ?_)
      ·have hs84 := h11
       refine L.mv f103 (hw := (f103.yes rfl rfl)) fun a104 f104 => ?_
       refine L.va f104 (E.eq f104) (hw := (f104.yes rfl rfl)) fun a105 f105 => ?_
       refine L.mv f105 (hw := (f105.yes rfl rfl)) fun a106 f106 => ?_
       clear f102 f103 a102 f104 a104 f105 a105
       refine f106.splitD 87 rfl (fun h12 f107 => ?_) (fun h12 f107 => ?_)
       ·have hs87 := h12
        refine L.mv f107 (hw := (f107.yes rfl rfl)) fun a108 f108 => ?_
        refine L.va f108 (E.pickT f108 rfl rfl) (hw := (f108.yes rfl rfl)) fun a109 f109 => ?_
        refine L.va f109 (E.not f109 rfl) (hw := (f109.yes rfl rfl)) fun a110 f110 => ?_
        refine L.va f110 (E.pickT f110 rfl rfl) (hw := (f110.yes rfl rfl)) fun a111 f111 => ?_
        refine L.va f111 (E.pickF f111 rfl rfl) fun a112 f112 => ?_
        refine L.va f112 (E.eqlB f112 Try.underlying4 rfl rfl) fun a113 f113 => ?_
        refine L.mv f113 fun a114 f114 => ?_
        clear f106 f107 a106 f108 a108 f109 a109 f110 a110 f111 a111 f112 a112 f113 a113
        refine f114.splitD 94 rfl (fun h13 f115 => ?_) (fun h13 f115 => ?_)
        ·have hs94 := h13
         refine L.mv f115 (hw := (f115.yes rfl rfl)) fun a116 f116 => ?_
         refine L.va f116 (E.build f116 (parts1 f116 rfl) (wbl34_0_tr1 _)) (hw := (f116.yes rfl rfl)) fun a117 f117 => ?_
         refine L.cl f117 (run_call Try.call14 (args2 f117 rfl rfl)) (out_any ({ kind := 2 } : Pk) s0 (by decide) w.heap.size g (((((((((trG).outT ({ kind := 3, qos := qa % 2 + 1, id := ib + 1, topic := ⟨#[97]⟩, pay := [120] } : Pk)).2).inT ({ kind := 5, id := ib + 1 } : Pk)).outT ({ kind := 6, id := ib + 1 } : Pk)).2).inT ({ kind := (if qa % 2 + 1 = 1 then 4 else 7), id := ib + 1 } : Pk)).outT ({ kind := 3, qos := qa % 2 + 1, id := ib + 1, topic := ⟨#[97]⟩, pay := [121], dup := dup } : Pk)).2) m7 _ T (by omega) (flat_o _ _ (by decide)) (by constructor <;> decide)) ?_ (hw := (f117.yes rfl rfl))
         clear f114 f115 a114 f116 a116
         rintro e w18 ⟨rfl, m8, T8, up8, kc18, nw8⟩
         have lo0 := T.lo
         have npk0 := T.noPk
         have ltp := Bg4.lt
         refine ⟨_, rfl, fun a118 f118 => ?_⟩
         have szw18 := kc18.size
         replace HK := HK.trans kc18 (fun x hx hlt => by have := lo0 x hx; omega)
         replace Bg4 := Bg4.kept kc18 NF
         replace PO := PO.keptT kc18 npk0
         clear f117 a117 kc18
         have T := T8
         clear T8
         replace NF : g4 ∉ m8.fp g := fun h => (nw8.1 _ h).elim NF (fun h => by omega)
         refine L.va f118 (E.not f118 rfl) (hw := (f118.yes rfl rfl)) fun a119 f119 => ?_
         refine L.va f119 (E.pickT f119 rfl rfl) fun a120 f120 => ?_
         refine L.ag f120 fun a121 f121 => ?_
         refine wpList_nil (hK23 _ _ ?_)
         have f122 := f121.sub (sc 12 sn)
         refine wp_ret ?_
         try simp only [Exit.inBlock, Exit.then]
         refine C.ret (P := Try.prog) (fn := Try.f5) f122 rfl rfl ?_
         refine ⟨HK, ?_⟩
         clear f118 a118 f119 a119 f120 a120 f121
         (simp only [i4, Bool.not_false]; done)
        have hs94 := h13
        refine L.run f115 (rest' := []) (by kernel_rfl) fun a116 f116 => ?_
        clear f114
        skip
        refine wpList_nil (hK23 _ _ ?_)
        have f117 := f116.sub (sub_cons (i := 12) (v := .bool false) (by kernel_rfl) sn)
        refine wp_ret ?_
        try simp only [Exit.inBlock, Exit.then]
        refine C.ret (P := Try.prog) (fn := Try.f5) f117 rfl rfl ?_
        refine ⟨HK, ?_⟩
        clear f116 f115
        (exfalso; simp_all; done)
       have hs87 := h12
       refine L.sk f107 (f107.noT rfl rfl) fun a108 f108 => ?_
       refine L.va f108 (E.pickF f108 rfl rfl) (hw := (f108.yes rfl rfl)) fun a109 f109 => ?_
       refine L.va f109 (E.not f109 rfl) (hw := (f109.yes rfl rfl)) fun a110 f110 => ?_
       refine L.va f110 (E.pickT f110 rfl rfl) (hw := (f110.yes rfl rfl)) fun a111 f111 => ?_
       refine L.va f111 (E.pickF f111 rfl rfl) fun a112 f112 => ?_
       refine L.va f112 (E.eqlB f112 Try.underlying4 rfl rfl) fun a113 f113 => ?_
       refine L.mv f113 fun a114 f114 => ?_
       clear f106 f107 a106 f108 a108 f109 a109 f110 a110 f111 a111 f112 a112 f113 a113
       refine f114.splitD 94 rfl (fun h14 f115 => ?_) (fun h14 f115 => ?_)
       ·have hs94 := h14
        refine L.mv f115 (hw := (f115.yes rfl rfl)) fun a116 f116 => ?_
        refine L.va f116 (E.build f116 (parts1 f116 rfl) (wbl34_0_tr1 _)) (hw := (f116.yes rfl rfl)) fun a117 f117 => ?_
        refine L.cl f117 (run_call Try.call14 (args2 f117 rfl rfl)) (out_any ({ kind := 2 } : Pk) s0 (by decide) w.heap.size g (((((((((trG).outT ({ kind := 3, qos := qa % 2 + 1, id := ib + 1, topic := ⟨#[97]⟩, pay := [120] } : Pk)).2).inT ({ kind := 5, id := ib + 1 } : Pk)).outT ({ kind := 6, id := ib + 1 } : Pk)).2).inT ({ kind := (if qa % 2 + 1 = 1 then 4 else 7), id := ib + 1 } : Pk)).outT ({ kind := 3, qos := qa % 2 + 1, id := ib + 1, topic := ⟨#[97]⟩, pay := [121], dup := dup } : Pk)).2) m7 _ T (by omega) (flat_o _ _ (by decide)) (by constructor <;> decide)) ?_ (hw := (f117.yes rfl rfl))
        clear f114 f115 a114 f116 a116
        rintro e w18 ⟨rfl, m8, T8, up8, kc18, nw8⟩
        have lo0 := T.lo
        have npk0 := T.noPk
        have ltp := Bg4.lt
        refine ⟨_, rfl, fun a118 f118 => ?_⟩
        have szw18 := kc18.size
        replace HK := HK.trans kc18 (fun x hx hlt => by have := lo0 x hx; omega)
        replace Bg4 := Bg4.kept kc18 NF
        replace PO := PO.keptT kc18 npk0
        clear f117 a117 kc18
        have T := T8
        clear T8
        replace NF : g4 ∉ m8.fp g := fun h => (nw8.1 _ h).elim NF (fun h => by omega)
        refine L.va f118 (E.not f118 rfl) (hw := (f118.yes rfl rfl)) fun a119 f119 => ?_
        refine L.va f119 (E.pickT f119 rfl rfl) fun a120 f120 => ?_
        refine L.ag f120 fun a121 f121 => ?_
        refine wpList_nil (hK23 _ _ ?_)
        have f122 := f121.sub (sc 12 sn)
        refine wp_ret ?_
        try simp only [Exit.inBlock, Exit.then]
        refine C.ret (P := Try.prog) (fn := Try.f5) f122 rfl rfl ?_
        refine ⟨HK, ?_⟩
        clear f118 a118 f119 a119 f120 a120 f121
        (simp only [i4, Bool.not_false]; done)
       have hs94 := h14
       refine L.run f115 (rest' := []) (by kernel_rfl) fun a116 f116 => ?_
       clear f114
       skip
       refine wpList_nil (hK23 _ _ ?_)
       have f117 := f116.sub (sub_cons (i := 12) (v := .bool false) (by kernel_rfl) sn)
       refine wp_ret ?_
       try simp only [Exit.inBlock, Exit.then]
       refine C.ret (P := Try.prog) (fn := Try.f5) f117 rfl rfl ?_
       refine ⟨HK, ?_⟩
       clear f116 f115
       (exfalso; simp_all; done)
      have hs84 := h11
      refine L.sk f103 (f103.noT rfl rfl) fun a104 f104 => ?_
      refine L.sk f104 (f104.noT rfl rfl) fun a105 f105 => ?_
      refine L.sk f105 (f105.noT rfl rfl) fun a106 f106 => ?_
      refine L.sk f106 (f106.noU rfl rfl) fun a107 f107 => ?_
      refine L.sk f107 (f107.noT rfl rfl) fun a108 f108 => ?_
      refine L.sk f108 (f108.noT rfl rfl) fun a109 f109 => ?_
      refine L.va f109 (E.pickF f109 rfl rfl) (hw := (f109.yes rfl rfl)) fun a110 f110 => ?_
      clear f102 f103 a102 f104 a104 f105 a105 f106 a106 f107 a107 f108 a108 f109 a109
      refine L.va f110 (E.pickF f110 rfl rfl) fun a111 f111 => ?_
      refine L.va f111 (E.eqlB f111 Try.underlying4 rfl rfl) fun a112 f112 => ?_
      refine L.mv f112 fun a113 f113 => ?_
      clear f110 a110 f111 a111 f112 a112
      refine f113.splitD 94 rfl (fun h15 f114 => ?_) (fun h15 f114 => ?_)
      ·have hs94 := h15
       refine L.mv f114 (hw := (f114.yes rfl rfl)) fun a115 f115 => ?_
       refine L.va f115 (E.build f115 (parts1 f115 rfl) (wbl34_0_tr1 _)) (hw := (f115.yes rfl rfl)) fun a116 f116 => ?_
       refine L.cl f116 (run_call Try.call14 (args2 f116 rfl rfl)) (out_any ({ kind := 2 } : Pk) s0 (by decide) w.heap.size g (((((((((trG).outT ({ kind := 3, qos := qa % 2 + 1, id := ib + 1, topic := ⟨#[97]⟩, pay := [120] } : Pk)).2).inT ({ kind := 5, id := ib + 1 } : Pk)).outT ({ kind := 6, id := ib + 1 } : Pk)).2).inT ({ kind := (if qa % 2 + 1 = 1 then 4 else 7), id := ib + 1 } : Pk)).outT ({ kind := 3, qos := qa % 2 + 1, id := ib + 1, topic := ⟨#[97]⟩, pay := [121], dup := dup } : Pk)).2) m7 _ T (by omega) (flat_o _ _ (by decide)) (by constructor <;> decide)) ?_ (hw := (f116.yes rfl rfl))
       clear f113 f114 a113 f115 a115
       rintro e w18 ⟨rfl, m8, T8, up8, kc18, nw8⟩
       have lo0 := T.lo
       have npk0 := T.noPk
       have ltp := Bg4.lt
       refine ⟨_, rfl, fun a117 f117 => ?_⟩
       have szw18 := kc18.size
       replace HK := HK.trans kc18 (fun x hx hlt => by have := lo0 x hx; omega)
       replace Bg4 := Bg4.kept kc18 NF
       replace PO := PO.keptT kc18 npk0
       clear f116 a116 kc18
       have T := T8
       clear T8
       replace NF : g4 ∉ m8.fp g := fun h => (nw8.1 _ h).elim NF (fun h => by omega)
       refine L.va f117 (E.not f117 rfl) (hw := (f117.yes rfl rfl)) fun a118 f118 => ?_
       refine L.va f118 (E.pickT f118 rfl rfl) fun a119 f119 => ?_
       refine L.ag f119 fun a120 f120 => ?_
       refine wpList_nil (hK23 _ _ ?_)
       have f121 := f120.sub (sc 12 sn)
       refine wp_ret ?_
       try simp only [Exit.inBlock, Exit.then]
       refine C.ret (P := Try.prog) (fn := Try.f5) f121 rfl rfl ?_
       refine ⟨HK, ?_⟩
       clear f117 a117 f118 a118 f119 a119 f120
       (simp only [i4, Bool.not_false]; done)
      have hs94 := h15
      refine L.run f114 (rest' := []) (by kernel_rfl) fun a115 f115 => ?_
      clear f113
      skip
      refine wpList_nil (hK23 _ _ ?_)
      have f116 := f115.sub (sub_cons (i := 12) (v := .bool false) (by kernel_rfl) sn)
      refine wp_ret ?_
      try simp only [Exit.inBlock, Exit.then]
      refine C.ret (P := Try.prog) (fn := Try.f5) f116 rfl rfl ?_
      refine ⟨HK, ?_⟩
      clear f115 f114
      (exfalso; simp_all; done)
     have hs81 := h10
     refine L.sk f99 (f99.noT rfl rfl) fun a100 f100 => ?_
     refine L.va f100 (E.pickF f100 rfl rfl) (hw := (f100.yes rfl rfl)) fun a101 f101 => ?_
     refine L.mv f101 (hw := (f101.yes rfl rfl)) fun a102 f102 => ?_
     refine L.sk f102 (f102.noT rfl rfl) fun a103 f103 => ?_
     refine L.sk f103 (f103.noT rfl rfl) fun a104 f104 => ?_
     refine L.sk f104 (f104.noT rfl rfl) fun a105 f105 => ?_
     refine L.sk f105 (f105.noU rfl rfl) fun a106 f106 => ?_
     clear f98 f99 a98 f100 a100 f101 a101 f102 a102 f103 a103 f104 a104 f105 a105
     refine L.sk f106 (f106.noT rfl rfl) fun a107 f107 => ?_
     refine L.sk f107 (f107.noT rfl rfl) fun a108 f108 => ?_
     refine L.va f108 (E.pickF f108 rfl rfl) (hw := (f108.yes rfl rfl)) fun a109 f109 => ?_
     refine L.va f109 (E.pickF f109 rfl rfl) fun a110 f110 => ?_
     refine L.va f110 (E.eqlB f110 Try.underlying4 rfl rfl) fun a111 f111 => ?_
     refine L.mv f111 fun a112 f112 => ?_
     clear f106 a106 f107 a107 f108 a108 f109 a109 f110 a110 f111 a111
     refine f112.splitD 94 rfl (fun h16 f113 => ?_) (fun h16 f113 => ?_)
     ·have hs94 := h16
      refine L.mv f113 (hw := (f113.yes rfl rfl)) fun a114 f114 => ?_
      refine L.va f114 (E.build f114 (parts1 f114 rfl) (wbl34_0_tr1 _)) (hw := (f114.yes rfl rfl)) fun a115 f115 => ?_
      refine L.cl f115 (run_call Try.call14 (args2 f115 rfl rfl)) (out_any ({ kind := 2 } : Pk) s0 (by decide) w.heap.size g (((((((((trG).outT ({ kind := 3, qos := qa % 2 + 1, id := ib + 1, topic := ⟨#[97]⟩, pay := [120] } : Pk)).2).inT ({ kind := 5, id := ib + 1 } : Pk)).outT ({ kind := 6, id := ib + 1 } : Pk)).2).inT ({ kind := (if qa % 2 + 1 = 1 then 4 else 7), id := ib + 1 } : Pk)).outT ({ kind := 3, qos := qa % 2 + 1, id := ib + 1, topic := ⟨#[97]⟩, pay := [121], dup := dup } : Pk)).2) m7 _ T (by omega) (flat_o _ _ (by decide)) (by constructor <;> decide)) ?_ (hw := (f115.yes rfl rfl))
      clear f112 f113 a112 f114 a114
      rintro e w18 ⟨rfl, m8, T8, up8, kc18, nw8⟩
      have lo0 := T.lo
      have npk0 := T.noPk
      have ltp := Bg4.lt
      refine ⟨_, rfl, fun a116 f116 => ?_⟩
      have szw18 := kc18.size
      replace HK := HK.trans kc18 (fun x hx hlt => by have := lo0 x hx; omega)
      replace Bg4 := Bg4.kept kc18 NF
      replace PO := PO.keptT kc18 npk0
      clear f115 a115 kc18
      have T := T8
      clear T8
      replace NF : g4 ∉ m8.fp g := fun h => (nw8.1 _ h).elim NF (fun h => by omega)
      refine L.va f116 (E.not f116 rfl) (hw := (f116.yes rfl rfl)) fun a117 f117 => ?_
      refine L.va f117 (E.pickT f117 rfl rfl) fun a118 f118 => ?_
      refine L.ag f118 fun a119 f119 => ?_
      refine wpList_nil (hK23 _ _ ?_)
      have f120 := f119.sub (sc 12 sn)
      refine wp_ret ?_
      try simp only [Exit.inBlock, Exit.then]
      refine C.ret (P := Try.prog) (fn := Try.f5) f120 rfl rfl ?_
      refine ⟨HK, ?_⟩
      clear f116 a116 f117 a117 f118 a118 f119
      (simp only [i4, Bool.not_false]; done)
     have hs94 := h16
     refine L.run f113 (rest' := []) (by kernel_rfl) fun a114 f114 => ?_
     clear f112
     skip
     refine wpList_nil (hK23 _ _ ?_)
     have f115 := f114.sub (sub_cons (i := 12) (v := .bool false) (by kernel_rfl) sn)
     refine wp_ret ?_
     try simp only [Exit.inBlock, Exit.then]
     refine C.ret (P := Try.prog) (fn := Try.f5) f115 rfl rfl ?_
     refine ⟨HK, ?_⟩
     clear f114 f113
     (exfalso; simp_all; done)
    have hs71 := h7
    refine C.condF f85 rfl ?_
    refine wp_skip (hK21 _ _ ?_)
    have f86 := f85.sub (sc 2 (sc 3 (sc 4 (sc 13 (sc 14 (sc 15 (sc 16 sn)))))))
    refine wp_seq_k fun K24 hK24 => ?_
    have hI := ids_true hq' hi' dup same true true
    clear f84 f85
    unfold idsB at hI
    simp only [Bool.and_eq_true, beq_iff_eq, if_true, Bool.false_eq_true, if_false, Bool.not_eq_true'] at hI
    obtain ⟨⟨⟨i1, i2⟩, i3⟩, i4⟩ := hI
    simp only [hs71, if_true, if_false, Bool.false_eq_true, reduceIte, ite_true, ite_false] at i3 i4
    clear i1 i2
    replace PO : PkO w13 ({ kind := 3, qos := qa % 2 + 1, id := ib + 1, topic := ⟨#[97]⟩, pay := [120], dup := dup } : Pk) ({ s0 with pa := some ⟨g2, 0, none⟩, pc := 1 } : Ad) := ⟨PO.pay, PO.wp, PO.pass, PO.subs, PO.codes⟩
    refine C.region ?_
    refine L.mv f86 fun a87 f87 => ?_
    refine L.va f87 (by exact E.loadB f87 Try.underlying34 rfl wsz34_tr1 rfl (Bg4) rfl) fun a88 f88 => ?_
    refine L.cl f88 (run_call Try.call14 (args2 f88 rfl rfl)) (out_any ({ kind := 3, qos := qa % 2 + 1, id := ib + 1, topic := ⟨#[97]⟩, pay := [120], dup := dup } : Pk) ({ s0 with pa := some ⟨g2, 0, none⟩, pc := 1 } : Ad) (wf_small (by show (0 : Int) ≤ ib + 1; omega) (by show ib + 1 ≤ (1000000 : Int); omega)) w.heap.size g (((((((trG).outT ({ kind := 3, qos := qa % 2 + 1, id := ib + 1, topic := ⟨#[97]⟩, pay := [120] } : Pk)).2).inT ({ kind := 5, id := ib + 1 } : Pk)).outT ({ kind := 6, id := ib + 1 } : Pk)).2).inT ({ kind := (if qa % 2 + 1 = 1 then 4 else 7), id := ib + 1 } : Pk)) m6 _ T (by omega) PO (len_pub _ _ _ _ _ (by decide))) ?_
    clear f86 a83 f87 a87
    rintro e w14 ⟨rfl, m7, T7, up7, kc14, nw7⟩
    have lo0 := T.lo
    have npk0 := T.noPk
    have ltp := Bg4.lt
    refine ⟨_, rfl, fun a89 f89 => ?_⟩
    have szw14 := kc14.size
    replace HK := HK.trans kc14 (fun x hx hlt => by have := lo0 x hx; omega)
    replace Bg4 := Bg4.kept kc14 NF
    replace PO := PO.keptT kc14 npk0
    clear f88 a88 kc14
    have T := T7
    clear T7
    replace NF : g4 ∉ m7.fp g := fun h => (nw7.1 _ h).elim NF (fun h => by omega)
    refine L.mv f89 fun a90 f90 => ?_
    refine L.mv f90 fun a91 f91 => ?_
    clear f89 a89 f90 a90
    refine f91.split 79 rfl (fun h17 f92 => ?_) (fun h17 f92 => ?_)
    ·have hs79 := h17
     refine L.sk f92 (f92.noF rfl rfl) fun a93 f93 => ?_
     refine L.sk f93 (f93.noF rfl rfl) fun a94 f94 => ?_
     refine L.sk f94 (f94.noU rfl rfl) fun a95 f95 => ?_
     refine L.sk f95 (f95.noF rfl rfl) fun a96 f96 => ?_
     refine L.sk f96 (f96.noF rfl rfl) fun a97 f97 => ?_
     refine L.sk f97 (f97.noU rfl rfl) fun a98 f98 => ?_
     refine L.sk f98 (f98.noU rfl rfl) fun a99 f99 => ?_
     clear f91 f92 a91 f93 a93 f94 a94 f95 a95 f96 a96 f97 a97 f98 a98
     refine L.sk f99 (f99.noU rfl rfl) fun a100 f100 => ?_
     refine L.sk f100 (f100.noU rfl rfl) fun a101 f101 => ?_
     refine L.sk f101 (f101.noU rfl rfl) fun a102 f102 => ?_
     refine L.sk f102 (f102.noU rfl rfl) fun a103 f103 => ?_
     refine L.sk f103 (f103.noF rfl rfl) fun a104 f104 => ?_
     refine L.va f104 (E.pickT f104 rfl rfl) fun a105 f105 => ?_
     refine L.va f105 (E.eqlB f105 Try.underlying4 rfl rfl) fun a106 f106 => ?_
     clear f99 a99 f100 a100 f101 a101 f102 a102 f103 a103 f104 a104 f105 a105
     refine L.mv f106 fun a107 f107 => ?_
     clear f106 a106
     refine f107.splitD 94 rfl (fun h18 f108 => ?_) (fun h18 f108 => ?_)
     ·have hs94 := h18
      refine L.mv f108 (hw := (f108.yes rfl rfl)) fun a109 f109 => ?_
      refine L.va f109 (E.build f109 (parts1 f109 rfl) (wbl34_0_tr1 _)) (hw := (f109.yes rfl rfl)) fun a110 f110 => ?_
      refine L.cl f110 (run_call Try.call14 (args2 f110 rfl rfl)) (out_any ({ kind := 2 } : Pk) s0 (by decide) w.heap.size g (((((((((trG).outT ({ kind := 3, qos := qa % 2 + 1, id := ib + 1, topic := ⟨#[97]⟩, pay := [120] } : Pk)).2).inT ({ kind := 5, id := ib + 1 } : Pk)).outT ({ kind := 6, id := ib + 1 } : Pk)).2).inT ({ kind := (if qa % 2 + 1 = 1 then 4 else 7), id := ib + 1 } : Pk)).outT ({ kind := 3, qos := qa % 2 + 1, id := ib + 1, topic := ⟨#[97]⟩, pay := [120], dup := dup } : Pk)).2) m7 _ T (by omega) (flat_o _ _ (by decide)) (by constructor <;> decide)) ?_ (hw := (f110.yes rfl rfl))
      clear f107 f108 a107 f109 a109
      rintro e w15 ⟨rfl, m8, T8, up8, kc15, nw8⟩
      have lo0 := T.lo
      have npk0 := T.noPk
      have ltp := Bg4.lt
      refine ⟨_, rfl, fun a111 f111 => ?_⟩
      have szw15 := kc15.size
      replace HK := HK.trans kc15 (fun x hx hlt => by have := lo0 x hx; omega)
      replace Bg4 := Bg4.kept kc15 NF
      replace PO := PO.keptT kc15 npk0
      clear f110 a110 kc15
      have T := T8
      clear T8
      replace NF : g4 ∉ m8.fp g := fun h => (nw8.1 _ h).elim NF (fun h => by omega)
      refine L.va f111 (E.not f111 rfl) (hw := (f111.yes rfl rfl)) fun a112 f112 => ?_
      refine L.va f112 (E.pickT f112 rfl rfl) fun a113 f113 => ?_
      refine L.ag f113 fun a114 f114 => ?_
      refine wpList_nil (hK24 _ _ ?_)
      have f115 := f114.sub (sc 12 sn)
      refine wp_ret ?_
      try simp only [Exit.inBlock, Exit.then]
      refine C.ret (P := Try.prog) (fn := Try.f5) f115 rfl rfl ?_
      refine ⟨HK, ?_⟩
      clear f111 a111 f112 a112 f113 a113 f114
      (simp only [i4, Bool.not_false]; done)
     have hs94 := h18
     refine L.run f108 (rest' := []) (by kernel_rfl) fun a109 f109 => ?_
     clear f107
     skip
     refine wpList_nil (hK24 _ _ ?_)
     have f110 := f109.sub (sub_cons (i := 12) (v := .bool false) (by kernel_rfl) sn)
     refine wp_ret ?_
     try simp only [Exit.inBlock, Exit.then]
     refine C.ret (P := Try.prog) (fn := Try.f5) f110 rfl rfl ?_
     refine ⟨HK, ?_⟩
     clear f109 f108
     (exfalso; simp_all; done)
    have hs79 := h17
    refine L.mv f92 (hw := (f92.yes rfl rfl)) fun a93 f93 => ?_
    refine L.mv f93 (hw := (f93.yes rfl rfl)) fun a94 f94 => ?_
    clear f91 f92 a91 f93 a93
    refine f94.split 81 rfl (fun h19 f95 => ?_) (fun h19 f95 => ?_)
    ·have hs81 := h19
     refine L.mv f95 (hw := (f95.yes rfl rfl)) fun a96 f96 => ?_
     refine L.va f96 (E.pickT f96 rfl rfl) (hw := (f96.yes rfl rfl)) fun a97 f97 => ?_
     refine L.mv f97 (hw := (f97.yes rfl rfl)) fun a98 f98 => ?_
     clear f94 f95 a94 f96 a96 f97 a97
     refine f98.split 84 rfl (fun h20 f99 => ?_) (fun h20 f99 => ?_)
     ·have hs84 := h20
      refine L.mv f99 (hw := (f99.yes rfl rfl)) fun a100 f100 => ?_
      refine L.va f100 (E.eq f100) (hw := (f100.yes rfl rfl)) fun a101 f101 => ?_
      refine L.mv f101 (hw := (f101.yes rfl rfl)) fun a102 f102 => ?_
      clear f98 f99 a98 f100 a100 f101 a101
      refine f102.splitD 87 rfl (fun h21 f103 => ?_) (fun h21 f103 => ?_)
      ·have hs87 := h21
       refine L.mv f103 (hw := (f103.yes rfl rfl)) fun a104 f104 => ?_
       refine L.va f104 (E.pickT f104 rfl rfl) (hw := (f104.yes rfl rfl)) fun a105 f105 => ?_
       refine L.va f105 (E.not f105 rfl) (hw := (f105.yes rfl rfl)) fun a106 f106 => ?_
       refine L.va f106 (E.pickT f106 rfl rfl) (hw := (f106.yes rfl rfl)) fun a107 f107 => ?_
       refine L.va f107 (E.pickF f107 rfl rfl) fun a108 f108 => ?_
       refine L.va f108 (E.eqlB f108 Try.underlying4 rfl rfl) fun a109 f109 => ?_
       refine L.mv f109 fun a110 f110 => ?_
       clear f102 f103 a102 f104 a104 f105 a105 f106 a106 f107 a107 f108 a108 f109 a109
       refine f110.splitD 94 rfl (fun h22 f111 => ?_) (fun h22 f111 => ?_)
       ·have hs94 := h22
        refine L.mv f111 (hw := (f111.yes rfl rfl)) fun a112 f112 => ?_
        refine L.va f112 (E.build f112 (parts1 f112 rfl) (wbl34_0_tr1 _)) (hw := (f112.yes rfl rfl)) fun a113 f113 => ?_
        refine L.cl f113 (run_call Try.call14 (args2 f113 rfl rfl)) (out_any ({ kind := 2 } : Pk) s0 (by decide) w.heap.size g (((((((((trG).outT ({ kind := 3, qos := qa % 2 + 1, id := ib + 1, topic := ⟨#[97]⟩, pay := [120] } : Pk)).2).inT ({ kind := 5, id := ib + 1 } : Pk)).outT ({ kind := 6, id := ib + 1 } : Pk)).2).inT ({ kind := (if qa % 2 + 1 = 1 then 4 else 7), id := ib + 1 } : Pk)).outT ({ kind := 3, qos := qa % 2 + 1, id := ib + 1, topic := ⟨#[97]⟩, pay := [120], dup := dup } : Pk)).2) m7 _ T (by omega) (flat_o _ _ (by decide)) (by constructor <;> decide)) ?_ (hw := (f113.yes rfl rfl))
        clear f110 f111 a110 f112 a112
        rintro e w15 ⟨rfl, m8, T8, up8, kc15, nw8⟩
        have lo0 := T.lo
        have npk0 := T.noPk
        have ltp := Bg4.lt
        refine ⟨_, rfl, fun a114 f114 => ?_⟩
        have szw15 := kc15.size
        replace HK := HK.trans kc15 (fun x hx hlt => by have := lo0 x hx; omega)
        replace Bg4 := Bg4.kept kc15 NF
        replace PO := PO.keptT kc15 npk0
        clear f113 a113 kc15
        have T := T8
        clear T8
        replace NF : g4 ∉ m8.fp g := fun h => (nw8.1 _ h).elim NF (fun h => by omega)
        refine L.va f114 (E.not f114 rfl) (hw := (f114.yes rfl rfl)) fun a115 f115 => ?_
        refine L.va f115 (E.pickT f115 rfl rfl) fun a116 f116 => ?_
        refine L.ag f116 fun a117 f117 => ?_
        refine wpList_nil (hK24 _ _ ?_)
        have f118 := f117.sub (sc 12 sn)
        refine wp_ret ?_
        try simp only [Exit.inBlock, Exit.then]
        refine C.ret (P := Try.prog) (fn := Try.f5) f118 rfl rfl ?_
        refine ⟨HK, ?_⟩
        clear f114 a114 f115 a115 f116 a116 f117
        (simp only [i4, Bool.not_false]; done)
       have hs94 := h22
       refine L.run f111 (rest' := []) (by kernel_rfl) fun a112 f112 => ?_
       clear f110
       skip
       refine wpList_nil (hK24 _ _ ?_)
       have f113 := f112.sub (sub_cons (i := 12) (v := .bool false) (by kernel_rfl) sn)
       refine wp_ret ?_
       try simp only [Exit.inBlock, Exit.then]
       refine C.ret (P := Try.prog) (fn := Try.f5) f113 rfl rfl ?_
       refine ⟨HK, ?_⟩
       clear f112 f111
       (exfalso; simp_all; done)
      have hs87 := h21
      refine L.sk f103 (f103.noT rfl rfl) fun a104 f104 => ?_
      refine L.va f104 (E.pickF f104 rfl rfl) (hw := (f104.yes rfl rfl)) fun a105 f105 => ?_
      refine L.va f105 (E.not f105 rfl) (hw := (f105.yes rfl rfl)) fun a106 f106 => ?_
      refine L.va f106 (E.pickT f106 rfl rfl) (hw := (f106.yes rfl rfl)) fun a107 f107 => ?_
      refine L.va f107 (E.pickF f107 rfl rfl) fun a108 f108 => ?_
      refine L.va f108 (E.eqlB f108 Try.underlying4 rfl rfl) fun a109 f109 => ?_
      refine L.mv f109 fun a110 f110 => ?_
      clear f102 f103 a102 f104 a104 f105 a105 f106 a106 f107 a107 f108 a108 f109 a109
      refine f110.splitD 94 rfl (fun h23 f111 => ?_) (fun h23 f111 => ?_)
      ·have hs94 := h23
       refine L.mv f111 (hw := (f111.yes rfl rfl)) fun a112 f112 => ?_
       refine L.va f112 (E.build f112 (parts1 f112 rfl) (wbl34_0_tr1 _)) (hw := (f112.yes rfl rfl)) fun a113 f113 => ?_
       refine L.cl f113 (run_call Try.call14 (args2 f113 rfl rfl)) (out_any ({ kind := 2 } : Pk) s0 (by decide) w.heap.size g (((((((((trG).outT ({ kind := 3, qos := qa % 2 + 1, id := ib + 1, topic := ⟨#[97]⟩, pay := [120] } : Pk)).2).inT ({ kind := 5, id := ib + 1 } : Pk)).outT ({ kind := 6, id := ib + 1 } : Pk)).2).inT ({ kind := (if qa % 2 + 1 = 1 then 4 else 7), id := ib + 1 } : Pk)).outT ({ kind := 3, qos := qa % 2 + 1, id := ib + 1, topic := ⟨#[97]⟩, pay := [120], dup := dup } : Pk)).2) m7 _ T (by omega) (flat_o _ _ (by decide)) (by constructor <;> decide)) ?_ (hw := (f113.yes rfl rfl))
       clear f110 f111 a110 f112 a112
       rintro e w15 ⟨rfl, m8, T8, up8, kc15, nw8⟩
       have lo0 := T.lo
       have npk0 := T.noPk
       have ltp := Bg4.lt
       refine ⟨_, rfl, fun a114 f114 => ?_⟩
       have szw15 := kc15.size
       replace HK := HK.trans kc15 (fun x hx hlt => by have := lo0 x hx; omega)
       replace Bg4 := Bg4.kept kc15 NF
       replace PO := PO.keptT kc15 npk0
       clear f113 a113 kc15
       have T := T8
       clear T8
       replace NF : g4 ∉ m8.fp g := fun h => (nw8.1 _ h).elim NF (fun h => by omega)
       refine L.va f114 (E.not f114 rfl) (hw := (f114.yes rfl rfl)) fun a115 f115 => ?_
       refine L.va f115 (E.pickT f115 rfl rfl) fun a116 f116 => ?_
       refine L.ag f116 fun a117 f117 => ?_
       refine wpList_nil (hK24 _ _ ?_)
       have f118 := f117.sub (sc 12 sn)
       refine wp_ret ?_
       try simp only [Exit.inBlock, Exit.then]
       refine C.ret (P := Try.prog) (fn := Try.f5) f118 rfl rfl ?_
       refine ⟨HK, ?_⟩
       clear f114 a114 f115 a115 f116 a116 f117
       (simp only [i4, Bool.not_false]; done)
      have hs94 := h23
      refine L.run f111 (rest' := []) (by kernel_rfl) fun a112 f112 => ?_
      clear f110
      skip
      refine wpList_nil (hK24 _ _ ?_)
      have f113 := f112.sub (sub_cons (i := 12) (v := .bool false) (by kernel_rfl) sn)
      refine wp_ret ?_
      try simp only [Exit.inBlock, Exit.then]
      refine C.ret (P := Try.prog) (fn := Try.f5) f113 rfl rfl ?_
      refine ⟨HK, ?_⟩
      clear f112 f111
      (exfalso; simp_all; done)
     have hs84 := h20
     refine L.sk f99 (f99.noT rfl rfl) fun a100 f100 => ?_
     refine L.sk f100 (f100.noT rfl rfl) fun a101 f101 => ?_
     refine L.sk f101 (f101.noT rfl rfl) fun a102 f102 => ?_
     refine L.sk f102 (f102.noU rfl rfl) fun a103 f103 => ?_
     refine L.sk f103 (f103.noT rfl rfl) fun a104 f104 => ?_
     refine L.sk f104 (f104.noT rfl rfl) fun a105 f105 => ?_
     refine L.va f105 (E.pickF f105 rfl rfl) (hw := (f105.yes rfl rfl)) fun a106 f106 => ?_
     clear f98 f99 a98 f100 a100 f101 a101 f102 a102 f103 a103 f104 a104 f105 a105
     refine L.va f106 (E.pickF f106 rfl rfl) fun a107 f107 => ?_
     refine L.va f107 (E.eqlB f107 Try.underlying4 rfl rfl) fun a108 f108 => ?_
     refine L.mv f108 fun a109 f109 => ?_
     clear f106 a106 f107 a107 f108 a108
     refine f109.splitD 94 rfl (fun h24 f110 => ?_) (fun h24 f110 => ?_)
     ·have hs94 := h24
      refine L.mv f110 (hw := (f110.yes rfl rfl)) fun a111 f111 => ?_
      refine L.va f111 (E.build f111 (parts1 f111 rfl) (wbl34_0_tr1 _)) (hw := (f111.yes rfl rfl)) fun a112 f112 => ?_
      refine L.cl f112 (run_call Try.call14 (args2 f112 rfl rfl)) (out_any ({ kind := 2 } : Pk) s0 (by decide) w.heap.size g (((((((((trG).outT ({ kind := 3, qos := qa % 2 + 1, id := ib + 1, topic := ⟨#[97]⟩, pay := [120] } : Pk)).2).inT ({ kind := 5, id := ib + 1 } : Pk)).outT ({ kind := 6, id := ib + 1 } : Pk)).2).inT ({ kind := (if qa % 2 + 1 = 1 then 4 else 7), id := ib + 1 } : Pk)).outT ({ kind := 3, qos := qa % 2 + 1, id := ib + 1, topic := ⟨#[97]⟩, pay := [120], dup := dup } : Pk)).2) m7 _ T (by omega) (flat_o _ _ (by decide)) (by constructor <;> decide)) ?_ (hw := (f112.yes rfl rfl))
      clear f109 f110 a109 f111 a111
      rintro e w15 ⟨rfl, m8, T8, up8, kc15, nw8⟩
      have lo0 := T.lo
      have npk0 := T.noPk
      have ltp := Bg4.lt
      refine ⟨_, rfl, fun a113 f113 => ?_⟩
      have szw15 := kc15.size
      replace HK := HK.trans kc15 (fun x hx hlt => by have := lo0 x hx; omega)
      replace Bg4 := Bg4.kept kc15 NF
      replace PO := PO.keptT kc15 npk0
      clear f112 a112 kc15
      have T := T8
      clear T8
      replace NF : g4 ∉ m8.fp g := fun h => (nw8.1 _ h).elim NF (fun h => by omega)
      refine L.va f113 (E.not f113 rfl) (hw := (f113.yes rfl rfl)) fun a114 f114 => ?_
      refine L.va f114 (E.pickT f114 rfl rfl) fun a115 f115 => ?_
      refine L.ag f115 fun a116 f116 => ?_
      refine wpList_nil (hK24 _ _ ?_)
      have f117 := f116.sub (sc 12 sn)
      refine wp_ret ?_
      try simp only [Exit.inBlock, Exit.then]
      refine C.ret (P := Try.prog) (fn := Try.f5) f117 rfl rfl ?_
      refine ⟨HK, ?_⟩
      clear f113 a113 f114 a114 f115 a115 f116
      (simp only [i4, Bool.not_false]; done)
     have hs94 := h24
     refine L.run f110 (rest' := []) (by kernel_rfl) fun a111 f111 => ?_
     clear f109
     skip
     refine wpList_nil (hK24 _ _ ?_)
     have f112 := f111.sub (sub_cons (i := 12) (v := .bool false) (by kernel_rfl) sn)
     refine wp_ret ?_
     try simp only [Exit.inBlock, Exit.then]
     refine C.ret (P := Try.prog) (fn := Try.f5) f112 rfl rfl ?_
     refine ⟨HK, ?_⟩
     clear f111 f110
     (exfalso; simp_all; done)
    have hs81 := h19
    refine L.sk f95 (f95.noT rfl rfl) fun a96 f96 => ?_
    refine L.va f96 (E.pickF f96 rfl rfl) (hw := (f96.yes rfl rfl)) fun a97 f97 => ?_
    refine L.mv f97 (hw := (f97.yes rfl rfl)) fun a98 f98 => ?_
    refine L.sk f98 (f98.noT rfl rfl) fun a99 f99 => ?_
    refine L.sk f99 (f99.noT rfl rfl) fun a100 f100 => ?_
    refine L.sk f100 (f100.noT rfl rfl) fun a101 f101 => ?_
    refine L.sk f101 (f101.noU rfl rfl) fun a102 f102 => ?_
    clear f94 f95 a94 f96 a96 f97 a97 f98 a98 f99 a99 f100 a100 f101 a101
    refine L.sk f102 (f102.noT rfl rfl) fun a103 f103 => ?_
    refine L.sk f103 (f103.noT rfl rfl) fun a104 f104 => ?_
    refine L.va f104 (E.pickF f104 rfl rfl) (hw := (f104.yes rfl rfl)) fun a105 f105 => ?_
    refine L.va f105 (E.pickF f105 rfl rfl) fun a106 f106 => ?_
    refine L.va f106 (E.eqlB f106 Try.underlying4 rfl rfl) fun a107 f107 => ?_
    refine L.mv f107 fun a108 f108 => ?_
    clear f102 a102 f103 a103 f104 a104 f105 a105 f106 a106 f107 a107
    refine f108.splitD 94 rfl (fun h25 f109 => ?_) (fun h25 f109 => ?_)
    ·have hs94 := h25
     refine L.mv f109 (hw := (f109.yes rfl rfl)) fun a110 f110 => ?_
     refine L.va f110 (E.build f110 (parts1 f110 rfl) (wbl34_0_tr1 _)) (hw := (f110.yes rfl rfl)) fun a111 f111 => ?_
     refine L.cl f111 (run_call Try.call14 (args2 f111 rfl rfl)) (out_any ({ kind := 2 } : Pk) s0 (by decide) w.heap.size g (((((((((trG).outT ({ kind := 3, qos := qa % 2 + 1, id := ib + 1, topic := ⟨#[97]⟩, pay := [120] } : Pk)).2).inT ({ kind := 5, id := ib + 1 } : Pk)).outT ({ kind := 6, id := ib + 1 } : Pk)).2).inT ({ kind := (if qa % 2 + 1 = 1 then 4 else 7), id := ib + 1 } : Pk)).outT ({ kind := 3, qos := qa % 2 + 1, id := ib + 1, topic := ⟨#[97]⟩, pay := [120], dup := dup } : Pk)).2) m7 _ T (by omega) (flat_o _ _ (by decide)) (by constructor <;> decide)) ?_ (hw := (f111.yes rfl rfl))
     clear f108 f109 a108 f110 a110
     rintro e w15 ⟨rfl, m8, T8, up8, kc15, nw8⟩
     have lo0 := T.lo
     have npk0 := T.noPk
     have ltp := Bg4.lt
     refine ⟨_, rfl, fun a112 f112 => ?_⟩
     have szw15 := kc15.size
     replace HK := HK.trans kc15 (fun x hx hlt => by have := lo0 x hx; omega)
     replace Bg4 := Bg4.kept kc15 NF
     replace PO := PO.keptT kc15 npk0
     clear f111 a111 kc15
     have T := T8
     clear T8
     replace NF : g4 ∉ m8.fp g := fun h => (nw8.1 _ h).elim NF (fun h => by omega)
     refine L.va f112 (E.not f112 rfl) (hw := (f112.yes rfl rfl)) fun a113 f113 => ?_
     refine L.va f113 (E.pickT f113 rfl rfl) fun a114 f114 => ?_
     refine L.ag f114 fun a115 f115 => ?_
     refine wpList_nil (hK24 _ _ ?_)
     have f116 := f115.sub (sc 12 sn)
     refine wp_ret ?_
     try simp only [Exit.inBlock, Exit.then]
     refine C.ret (P := Try.prog) (fn := Try.f5) f116 rfl rfl ?_
     refine ⟨HK, ?_⟩
     clear f112 a112 f113 a113 f114 a114 f115
     (simp only [i4, Bool.not_false]; done)
    have hs94 := h25
    refine L.run f109 (rest' := []) (by kernel_rfl) fun a110 f110 => ?_
    clear f108
    skip
    refine wpList_nil (hK24 _ _ ?_)
    have f111 := f110.sub (sub_cons (i := 12) (v := .bool false) (by kernel_rfl) sn)
    refine wp_ret ?_
    try simp only [Exit.inBlock, Exit.then]
    refine C.ret (P := Try.prog) (fn := Try.f5) f111 rfl rfl ?_
    refine ⟨HK, ?_⟩
    clear f110 f109
    (exfalso; simp_all; done)
   have hs61 := h2
   refine L.run f68 (rest' := []) (by kernel_rfl) fun a69 f69 => ?_
   clear f67
   skip
   refine wpList_nil (hK14 _ _ ?_)
   have f70 := f69.sub (sub_cons (i := 2) (Fr.kept f69 (by kernel_rfl) rfl) (sub_cons (i := 3) (Fr.kept f69 (by kernel_rfl) rfl) (sub_cons (i := 4) (Fr.kept f69 (by kernel_rfl) rfl) (sub_cons (i := 13) (Fr.kept f69 (by kernel_rfl) rfl) (sub_cons (i := 14) (Fr.kept f69 (by kernel_rfl) rfl) (sub_cons (i := 15) (Fr.kept f69 (by kernel_rfl) rfl) (sub_cons (i := 16) (v := .bool false) (by kernel_rfl) sn)))))))
   refine C.sk fun K25 hK25 => ?_
   refine L.mv f70 fun a71 f71 => ?_
   refine L.va f71 (E.fa 1 f71 Try.underlying34 rfl wsz4_tr1) fun a72 f72 => ?_
   refine L.store f72 wantedN wsz4_tr1 rfl rfl rfl Bg4 (by (simp [Value.cells]; done)) fun a73 w13 f73 NB13 ks13 => ?_
   have szw13 := ks13.size
   replace HK := HK.trans ks13 (fun x hx hlt => by obtain rfl := List.mem_singleton.1 hx; exfalso; omega)
   replace PO := PO.keptT ks13 (NoPk.blk Bg4 (by decide))
   replace T := T.keptX ks13 NF (NoPk.blk Bg4 (by decide))
   replace Bg4 := NB13
   simp only [Value.cells, z1, z2, z3, Nat.reduceAdd, Nat.zero_add] at Bg4
   clear f69 f68 f70 a69 f71 a71 ks13 f72 a72
   refine wpList_nil (hK25 _ _ ?_)
   have f74 := f73.sub (sc 2 (sc 3 (sc 4 (sc 13 (sc 14 (sc 15 (sc 16 sn)))))))
   refine wp_seq_k fun K26 hK26 => ?_
   refine C.sk fun K27 hK27 => ?_
   refine L.mv f74 fun a75 f75 => ?_
   refine L.va f75 (E.not f75 rfl) fun a76 f76 => ?_
   refine wpList_nil (hK27 _ _ ?_)
   have f77 := f76.sub (sc 2 (sc 3 (sc 4 (sc 13 (sc 14 (sc 15 (sc 16 (sc 71 sn))))))))
   clear f73 f74 a73 f75 a75 f76
   refine f77.splitNB 71 rfl (fun h26 f78 => ?_) (fun h26 f78 => ?_)
   ·have hs71 := h26
    refine C.condT f78 rfl ?_
    have HR : Kept [g4] w13 w13 := Kept.refl _ _
    have nop := NoPk.blk Bg4 (by decide : 34 ∉ [5, 46, 3])
    refine C.region ?_
    refine L.buildSlice f78 wantedN (by decide) (parts1 f78 rfl) Try.underlying28 wzi5_tr1 rfl rfl (wbs28_1_tr1 _) fun a79 w14 g13 N13 f79 => ?_
    have Bg13 := N13.blk
    have kg13 := N13.kept
    have log13 := N13.lo
    have ltg13 := Bg13.lt
    have szw14 := kg13.size
    have frg13 : w.heap.size ≤ g13 := Nat.le_trans HK.size log13
    have frg13_HR : w13.heap.size ≤ g13 := Nat.le_trans HR.size log13
    have neg4_g13 : g4 ≠ g13 := by have := Bg4.lt; omega
    replace HK := HK.trans kg13 (by simp)
    replace Bg4 := Bg4.kept kg13 (by simp)
    replace HR := HR.trans kg13 (by simp)
    clear f77 N13 kg13
    obtain ⟨w15, hcv, ks, HM⟩ := run_mark (n := 1) (c := 1) Bg13 Try.underlying28 Try.underlying5
    refine L.va f79 (E.convV f79 rfl hcv) fun a80 f80 => ?_
    have szw15 := ks.size
    replace HK := HK.trans ks (fun x hx hlt => by obtain rfl := List.mem_singleton.1 hx; exfalso; omega)
    replace Bg4 := Bg4.kept ks (by simp; omega)
    replace HR := HR.trans ks (fun x hx hlt => by obtain rfl := List.mem_singleton.1 hx; exfalso; omega)
    clear f78 a76 hcv ks f79 a79
    refine L.va f80 (E.fa 6 f80 Try.underlying34 rfl wsz28_tr1) fun a81 f81 => ?_
    refine L.store f81 wantedN wsz28_tr1 rfl rfl rfl Bg4 (by (simp [Value.cells]; done)) fun a82 w16 f82 NB16 ks16 => ?_
    have szw16 := ks16.size
    replace HK := HK.trans ks16 (fun x hx hlt => by obtain rfl := List.mem_singleton.1 hx; exfalso; omega)
    replace HR := HR.trans ks16 (fun x hx hlt => hx)
    replace HM := heap_kept HM ks16 (by simp; omega)
    replace Bg4 := NB16
    simp only [Value.cells, z1, z2, z3, Nat.reduceAdd, Nat.zero_add] at Bg4
    clear f80 a80 ks16 f81 a81
    refine wpList_nil (hK26 _ _ ?_)
    have f83 := f82.sub (sc 2 (sc 3 (sc 4 (sc 13 (sc 14 (sc 15 (sc 16 sn)))))))
    refine wp_seq_k fun K28 hK28 => ?_
    have hI := ids_true hq' hi' dup same true true
    clear f82
    unfold idsB at hI
    simp only [Bool.and_eq_true, beq_iff_eq, if_true, Bool.false_eq_true, if_false, Bool.not_eq_true'] at hI
    obtain ⟨⟨⟨i1, i2⟩, i3⟩, i4⟩ := hI
    simp only [hs71, if_true, if_false, Bool.false_eq_true, reduceIte, ite_true, ite_false] at i3 i4
    clear i1 i2
    have PO : PkO w16 ({ kind := 3, qos := qa % 2 + 1, id := ib + 1, topic := ⟨#[97]⟩, pay := [121], dup := dup } : Pk) ({ s0 with pa := some ⟨g13, 0, none⟩, pc := 1 } : Ad) := pay_o HM _ rfl rfl rfl rfl rfl
    replace T := T.keptX HR NF nop
    clear HR
    refine C.region ?_
    refine L.mv f83 fun a84 f84 => ?_
    refine L.va f84 (by exact E.loadB f84 Try.underlying34 rfl wsz34_tr1 rfl (Bg4) rfl) fun a85 f85 => ?_
    refine L.cl f85 (run_call Try.call14 (args2 f85 rfl rfl)) (out_any ({ kind := 3, qos := qa % 2 + 1, id := ib + 1, topic := ⟨#[97]⟩, pay := [121], dup := dup } : Pk) ({ s0 with pa := some ⟨g13, 0, none⟩, pc := 1 } : Ad) (wf_small (by show (0 : Int) ≤ ib + 1; omega) (by show ib + 1 ≤ (1000000 : Int); omega)) w.heap.size g (((((((trG).outT ({ kind := 3, qos := qa % 2 + 1, id := ib + 1, topic := ⟨#[97]⟩, pay := [120] } : Pk)).2).inT ({ kind := 5, id := ib + 1 } : Pk)).outT ({ kind := 6, id := ib + 1 } : Pk)).2).inT ({ kind := (if qa % 2 + 1 = 1 then 4 else 7), id := ib + 1 } : Pk)) m6 _ T (by omega) PO (len_pub _ _ _ _ _ (by decide))) ?_
    clear f83 a82 f84 a84
    rintro e w17 ⟨rfl, m7, T7, up7, kc17, nw7⟩
    have lo0 := T.lo
    have npk0 := T.noPk
    have ltp := Bg4.lt
    refine ⟨_, rfl, fun a86 f86 => ?_⟩
    have szw17 := kc17.size
    replace HK := HK.trans kc17 (fun x hx hlt => by have := lo0 x hx; omega)
    replace Bg4 := Bg4.kept kc17 NF
    replace PO := PO.keptT kc17 npk0
    clear f85 a85 kc17
    have T := T7
    clear T7
    replace NF : g4 ∉ m7.fp g := fun h => (nw7.1 _ h).elim NF (fun h => by omega)
    refine L.mv f86 fun a87 f87 => ?_
    refine L.mv f87 fun a88 f88 => ?_
    refine L.mv f88 (hw := (f88.yes rfl rfl)) fun a89 f89 => ?_
    refine L.mv f89 (hw := (f89.yes rfl rfl)) fun a90 f90 => ?_
    clear f86 a86 f87 a87 f88 a88 f89 a89
    refine f90.split 81 rfl (fun h27 f91 => ?_) (fun h27 f91 => ?_)
    ·have hs81 := h27
     refine L.mv f91 (hw := (f91.yes rfl rfl)) fun a92 f92 => ?_
     refine L.va f92 (E.pickT f92 rfl rfl) (hw := (f92.yes rfl rfl)) fun a93 f93 => ?_
     refine L.mv f93 (hw := (f93.yes rfl rfl)) fun a94 f94 => ?_
     clear f90 f91 a90 f92 a92 f93 a93
     refine f94.split 84 rfl (fun h28 f95 => ?_) (fun h28 f95 => ?_)
     ·have hs84 := h28
      refine L.mv f95 (hw := (f95.yes rfl rfl)) fun a96 f96 => ?_
      refine L.va f96 (E.eq f96) (hw := (f96.yes rfl rfl)) fun a97 f97 => ?_
      refine L.mv f97 (hw := (f97.yes rfl rfl)) fun a98 f98 => ?_
      clear f94 f95 a94 f96 a96 f97 a97
      refine f98.splitD 87 rfl (fun h29 f99 => ?_) (fun h29 f99 => ?_)
      ·have hs87 := h29
       refine L.mv f99 (hw := (f99.yes rfl rfl)) fun a100 f100 => ?_
       refine L.va f100 (E.pickT f100 rfl rfl) (hw := (f100.yes rfl rfl)) fun a101 f101 => ?_
       refine L.va f101 (E.not f101 rfl) (hw := (f101.yes rfl rfl)) fun a102 f102 => ?_
       refine L.va f102 (E.pickT f102 rfl rfl) (hw := (f102.yes rfl rfl)) fun a103 f103 => ?_
       refine L.va f103 (E.pickF f103 rfl rfl) fun a104 f104 => ?_
       refine L.va f104 (E.eqlB f104 Try.underlying4 rfl rfl) fun a105 f105 => ?_
       refine L.mv f105 fun a106 f106 => ?_
       clear f98 f99 a98 f100 a100 f101 a101 f102 a102 f103 a103 f104 a104 f105 a105
       refine f106.splitD 94 rfl (fun h30 f107 => ?_) (fun h30 f107 => ?_)
       ·have hs94 := h30
        refine L.mv f107 (hw := (f107.yes rfl rfl)) fun a108 f108 => ?_
        refine L.va f108 (E.build f108 (parts1 f108 rfl) (wbl34_0_tr1 _)) (hw := (f108.yes rfl rfl)) fun a109 f109 => ?_
        refine L.cl f109 (run_call Try.call14 (args2 f109 rfl rfl)) (out_any ({ kind := 2 } : Pk) s0 (by decide) w.heap.size g (((((((((trG).outT ({ kind := 3, qos := qa % 2 + 1, id := ib + 1, topic := ⟨#[97]⟩, pay := [120] } : Pk)).2).inT ({ kind := 5, id := ib + 1 } : Pk)).outT ({ kind := 6, id := ib + 1 } : Pk)).2).inT ({ kind := (if qa % 2 + 1 = 1 then 4 else 7), id := ib + 1 } : Pk)).outT ({ kind := 3, qos := qa % 2 + 1, id := ib + 1, topic := ⟨#[97]⟩, pay := [121], dup := dup } : Pk)).2) m7 _ T (by omega) (flat_o _ _ (by decide)) (by constructor <;> decide)) ?_ (hw := (f109.yes rfl rfl))
        clear f106 f107 a106 f108 a108
        rintro e w18 ⟨rfl, m8, T8, up8, kc18, nw8⟩
        have lo0 := T.lo
        have npk0 := T.noPk
        have ltp := Bg4.lt
        refine ⟨_, rfl, fun a110 f110 => ?_⟩
        have szw18 := kc18.size
        replace HK := HK.trans kc18 (fun x hx hlt => by have := lo0 x hx; omega)
        replace Bg4 := Bg4.kept kc18 NF
        replace PO := PO.keptT kc18 npk0
        clear f109 a109 kc18
        have T := T8
        clear T8
        replace NF : g4 ∉ m8.fp g := fun h => (nw8.1 _ h).elim NF (fun h => by omega)
        refine L.va f110 (E.not f110 rfl) (hw := (f110.yes rfl rfl)) fun a111 f111 => ?_
        refine L.va f111 (E.pickT f111 rfl rfl) fun a112 f112 => ?_
        refine L.ag f112 fun a113 f113 => ?_
        refine wpList_nil (hK28 _ _ ?_)
        have f114 := f113.sub (sc 12 sn)
        refine wp_ret ?_
        try simp only [Exit.inBlock, Exit.then]
        refine C.ret (P := Try.prog) (fn := Try.f5) f114 rfl rfl ?_
        refine ⟨HK, ?_⟩
        clear f110 a110 f111 a111 f112 a112 f113
        (simp only [i4, Bool.not_false]; done)
       have hs94 := h30
       refine L.run f107 (rest' := []) (by kernel_rfl) fun a108 f108 => ?_
       clear f106
       skip
       refine wpList_nil (hK28 _ _ ?_)
       have f109 := f108.sub (sub_cons (i := 12) (v := .bool false) (by kernel_rfl) sn)
       refine wp_ret ?_
       try simp only [Exit.inBlock, Exit.then]
       refine C.ret (P := Try.prog) (fn := Try.f5) f109 rfl rfl ?_
       refine ⟨HK, ?_⟩
       clear f108 f107
       (exfalso; simp_all; done)
      have hs87 := h29
      refine L.sk f99 (f99.noT rfl rfl) fun a100 f100 => ?_
      refine L.va f100 (E.pickF f100 rfl rfl) (hw := (f100.yes rfl rfl)) fun a101 f101 => ?_
      refine L.va f101 (E.not f101 rfl) (hw := (f101.yes rfl rfl)) fun a102 f102 => ?_
      refine L.va f102 (E.pickT f102 rfl rfl) (hw := (f102.yes rfl rfl)) fun a103 f103 => ?_
      refine L.va f103 (E.pickF f103 rfl rfl) fun a104 f104 => ?_
      refine L.va f104 (E.eqlB f104 Try.underlying4 rfl rfl) fun a105 f105 => ?_
      refine L.mv f105 fun a106 f106 => ?_
      clear f98 f99 a98 f100 a100 f101 a101 f102 a102 f103 a103 f104 a104 f105 a105
      refine f106.splitD 94 rfl (fun h31 f107 => ?_) (fun h31 f107 => ?_)
      ·have hs94 := h31
       refine L.mv f107 (hw := (f107.yes rfl rfl)) fun a108 f108 => ?_
       refine L.va f108 (E.build f108 (parts1 f108 rfl) (wbl34_0_tr1 _)) (hw := (f108.yes rfl rfl)) fun a109 f109 => ?_
       refine L.cl f109 (run_call Try.call14 (args2 f109 rfl rfl)) (out_any ({ kind := 2 } : Pk) s0 (by decide) w.heap.size g (((((((((trG).outT ({ kind := 3, qos := qa % 2 + 1, id := ib + 1, topic := ⟨#[97]⟩, pay := [120] } : Pk)).2).inT ({ kind := 5, id := ib + 1 } : Pk)).outT ({ kind := 6, id := ib + 1 } : Pk)).2).inT ({ kind := (if qa % 2 + 1 = 1 then 4 else 7), id := ib + 1 } : Pk)).outT ({ kind := 3, qos := qa % 2 + 1, id := ib + 1, topic := ⟨#[97]⟩, pay := [121], dup := dup } : Pk)).2) m7 _ T (by omega) (flat_o _ _ (by decide)) (by constructor <;> decide)) ?_ (hw := (f109.yes rfl rfl))
       clear f106 f107 a106 f108 a108
       rintro e w18 ⟨rfl, m8, T8, up8, kc18, nw8⟩
       have lo0 := T.lo
       have npk0 := T.noPk
       have ltp := Bg4.lt
       refine ⟨_, rfl, fun a110 f110 => ?_⟩
       have szw18 := kc18.size
       replace HK := HK.trans kc18 (fun x hx hlt => by have := lo0 x hx; omega)
       replace Bg4 := Bg4.kept kc18 NF
       replace PO := PO.keptT kc18 npk0
       clear f109 a109 kc18
       have T := T8
       clear T8
       replace NF : g4 ∉ m8.fp g := fun h => (nw8.1 _ h).elim NF (fun h => by omega)
       refine L.va f110 (E.not f110 rfl) (hw := (f110.yes rfl rfl)) fun a111 f111 => ?_
       refine L.va f111 (E.pickT f111 rfl rfl) fun a112 f112 => ?_
       refine L.ag f112 fun a113 f113 => ?_
       refine wpList_nil (hK28 _ _ ?_)
       have f114 := f113.sub (sc 12 sn)
       refine wp_ret ?_
       try simp only [Exit.inBlock, Exit.then]
       refine C.ret (P := Try.prog) (fn := Try.f5) f114 rfl rfl ?_
       refine ⟨HK, ?_⟩
       clear f110 a110 f111 a111 f112 a112 f113
       (simp only [i4, Bool.not_false]; done)
      have hs94 := h31
      refine L.run f107 (rest' := []) (by kernel_rfl) fun a108 f108 => ?_
      clear f106
      skip
      refine wpList_nil (hK28 _ _ ?_)
      have f109 := f108.sub (sub_cons (i := 12) (v := .bool false) (by kernel_rfl) sn)
      refine wp_ret ?_
      try simp only [Exit.inBlock, Exit.then]
      refine C.ret (P := Try.prog) (fn := Try.f5) f109 rfl rfl ?_
      refine ⟨HK, ?_⟩
      clear f108 f107
      (exfalso; simp_all; done)
     have hs84 := h28
     refine L.sk f95 (f95.noT rfl rfl) fun a96 f96 => ?_
     refine L.sk f96 (f96.noT rfl rfl) fun a97 f97 => ?_
     refine L.sk f97 (f97.noT rfl rfl) fun a98 f98 => ?_
     refine L.sk f98 (f98.noU rfl rfl) fun a99 f99 => ?_
     refine L.sk f99 (f99.noT rfl rfl) fun a100 f100 => ?_
     refine L.sk f100 (f100.noT rfl rfl) fun a101 f101 => ?_
     refine L.va f101 (E.pickF f101 rfl rfl) (hw := (f101.yes rfl rfl)) fun a102 f102 => ?_
     clear f94 f95 a94 f96 a96 f97 a97 f98 a98 f99 a99 f100 a100 f101 a101
     refine L.va f102 (E.pickF f102 rfl rfl) fun a103 f103 => ?_
     refine L.va f103 (E.eqlB f103 Try.underlying4 rfl rfl) fun a104 f104 => ?_
     refine L.mv f104 fun a105 f105 => ?_
     clear f102 a102 f103 a103 f104 a104
     refine f105.splitD 94 rfl (fun h32 f106 => ?_) (fun h32 f106 => ?_)
     ·have hs94 := h32
      refine L.mv f106 (hw := (f106.yes rfl rfl)) fun a107 f107 => ?_
      refine L.va f107 (E.build f107 (parts1 f107 rfl) (wbl34_0_tr1 _)) (hw := (f107.yes rfl rfl)) fun a108 f108 => ?_
      refine L.cl f108 (run_call Try.call14 (args2 f108 rfl rfl)) (out_any ({ kind := 2 } : Pk) s0 (by decide) w.heap.size g (((((((((trG).outT ({ kind := 3, qos := qa % 2 + 1, id := ib + 1, topic := ⟨#[97]⟩, pay := [120] } : Pk)).2).inT ({ kind := 5, id := ib + 1 } : Pk)).outT ({ kind := 6, id := ib + 1 } : Pk)).2).inT ({ kind := (if qa % 2 + 1 = 1 then 4 else 7), id := ib + 1 } : Pk)).outT ({ kind := 3, qos := qa % 2 + 1, id := ib + 1, topic := ⟨#[97]⟩, pay := [121], dup := dup } : Pk)).2) m7 _ T (by omega) (flat_o _ _ (by decide)) (by constructor <;> decide)) ?_ (hw := (f108.yes rfl rfl))
      clear f105 f106 a105 f107 a107
      rintro e w18 ⟨rfl, m8, T8, up8, kc18, nw8⟩
      have lo0 := T.lo
      have npk0 := T.noPk
      have ltp := Bg4.lt
      refine ⟨_, rfl, fun a109 f109 => ?_⟩
      have szw18 := kc18.size
      replace HK := HK.trans kc18 (fun x hx hlt => by have := lo0 x hx; omega)
      replace Bg4 := Bg4.kept kc18 NF
      replace PO := PO.keptT kc18 npk0
      clear f108 a108 kc18
      have T := T8
      clear T8
      replace NF : g4 ∉ m8.fp g := fun h => (nw8.1 _ h).elim NF (fun h => by omega)
      refine L.va f109 (E.not f109 rfl) (hw := (f109.yes rfl rfl)) fun a110 f110 => ?_
      refine L.va f110 (E.pickT f110 rfl rfl) fun a111 f111 => ?_
      refine L.ag f111 fun a112 f112 => ?_
      refine wpList_nil (hK28 _ _ ?_)
      have f113 := f112.sub (sc 12 sn)
      refine wp_ret ?_
      try simp only [Exit.inBlock, Exit.then]
      refine C.ret (P := Try.prog) (fn := Try.f5) f113 rfl rfl ?_
      refine ⟨HK, ?_⟩
      clear f109 a109 f110 a110 f111 a111 f112
      (simp only [i4, Bool.not_false]; done)
     have hs94 := h32
     refine L.run f106 (rest' := []) (by kernel_rfl) fun a107 f107 => ?_
     clear f105
     skip
     refine wpList_nil (hK28 _ _ ?_)
     have f108 := f107.sub (sub_cons (i := 12) (v := .bool false) (by kernel_rfl) sn)
     refine wp_ret ?_
     try simp only [Exit.inBlock, Exit.then]
     refine C.ret (P := Try.prog) (fn := Try.f5) f108 rfl rfl ?_
     refine ⟨HK, ?_⟩
     clear f107 f106
     (exfalso; simp_all; done)
    have hs81 := h27
    refine L.sk f91 (f91.noT rfl rfl) fun a92 f92 => ?_
    refine L.va f92 (E.pickF f92 rfl rfl) (hw := (f92.yes rfl rfl)) fun a93 f93 => ?_
    refine L.mv f93 (hw := (f93.yes rfl rfl)) fun a94 f94 => ?_
    refine L.sk f94 (f94.noT rfl rfl) fun a95 f95 => ?_
    refine L.sk f95 (f95.noT rfl rfl) fun a96 f96 => ?_
    refine L.sk f96 (f96.noT rfl rfl) fun a97 f97 => ?_
    refine L.sk f97 (f97.noU rfl rfl) fun a98 f98 => ?_
    clear f90 f91 a90 f92 a92 f93 a93 f94 a94 f95 a95 f96 a96 f97 a97
    refine L.sk f98 (f98.noT rfl rfl) fun a99 f99 => ?_
    refine L.sk f99 (f99.noT rfl rfl) fun a100 f100 => ?_
    refine L.va f100 (E.pickF f100 rfl rfl) (hw := (f100.yes rfl rfl)) fun a101 f101 => ?_
    refine L.va f101 (E.pickF f101 rfl rfl) fun a102 f102 => ?_
    refine L.va f102 (E.eqlB f102 Try.underlying4 rfl rfl) fun a103 f103 => ?_
    refine L.mv f103 fun a104 f104 => ?_
    clear f98 a98 f99 a99 f100 a100 f101 a101 f102 a102 f103 a103
    refine f104.splitD 94 rfl (fun h33 f105 => ?_) (fun h33 f105 => ?_)
    ·have hs94 := h33
     refine L.mv f105 (hw := (f105.yes rfl rfl)) fun a106 f106 => ?_
     refine L.va f106 (E.build f106 (parts1 f106 rfl) (wbl34_0_tr1 _)) (hw := (f106.yes rfl rfl)) fun a107 f107 => ?_
     refine L.cl f107 (run_call Try.call14 (args2 f107 rfl rfl)) (out_any ({ kind := 2 } : Pk) s0 (by decide) w.heap.size g (((((((((trG).outT ({ kind := 3, qos := qa % 2 + 1, id := ib + 1, topic := ⟨#[97]⟩, pay := [120] } : Pk)).2).inT ({ kind := 5, id := ib + 1 } : Pk)).outT ({ kind := 6, id := ib + 1 } : Pk)).2).inT ({ kind := (if qa % 2 + 1 = 1 then 4 else 7), id := ib + 1 } : Pk)).outT ({ kind := 3, qos := qa % 2 + 1, id := ib + 1, topic := ⟨#[97]⟩, pay := [121], dup := dup } : Pk)).2) m7 _ T (by omega) (flat_o _ _ (by decide)) (by constructor <;> decide)) ?_ (hw := (f107.yes rfl rfl))
     clear f104 f105 a104 f106 a106
     rintro e w18 ⟨rfl, m8, T8, up8, kc18, nw8⟩
     have lo0 := T.lo
     have npk0 := T.noPk
     have ltp := Bg4.lt
     refine ⟨_, rfl, fun a108 f108 => ?_⟩
     have szw18 := kc18.size
     replace HK := HK.trans kc18 (fun x hx hlt => by have := lo0 x hx; omega)
     replace Bg4 := Bg4.kept kc18 NF
     replace PO := PO.keptT kc18 npk0
     clear f107 a107 kc18
     have T := T8
     clear T8
     replace NF : g4 ∉ m8.fp g := fun h => (nw8.1 _ h).elim NF (fun h => by omega)
     refine L.va f108 (E.not f108 rfl) (hw := (f108.yes rfl rfl)) fun a109 f109 => ?_
     refine L.va f109 (E.pickT f109 rfl rfl) fun a110 f110 => ?_
     refine L.ag f110 fun a111 f111 => ?_
     refine wpList_nil (hK28 _ _ ?_)
     have f112 := f111.sub (sc 12 sn)
     refine wp_ret ?_
     try simp only [Exit.inBlock, Exit.then]
     refine C.ret (P := Try.prog) (fn := Try.f5) f112 rfl rfl ?_
     refine ⟨HK, ?_⟩
     clear f108 a108 f109 a109 f110 a110 f111
     (simp only [i4, Bool.not_false]; done)
    have hs94 := h33
    refine L.run f105 (rest' := []) (by kernel_rfl) fun a106 f106 => ?_
    clear f104
    skip
    refine wpList_nil (hK28 _ _ ?_)
    have f107 := f106.sub (sub_cons (i := 12) (v := .bool false) (by kernel_rfl) sn)
    refine wp_ret ?_
    try simp only [Exit.inBlock, Exit.then]
    refine C.ret (P := Try.prog) (fn := Try.f5) f107 rfl rfl ?_
    refine ⟨HK, ?_⟩
    clear f106 f105
    (exfalso; simp_all; done)
   have hs71 := h26
   refine C.condF f78 rfl ?_
   refine wp_skip (hK26 _ _ ?_)
   have f79 := f78.sub (sc 2 (sc 3 (sc 4 (sc 13 (sc 14 (sc 15 (sc 16 sn)))))))
   refine wp_seq_k fun K29 hK29 => ?_
   have hI := ids_true hq' hi' dup same true true
   clear f77 f78
   unfold idsB at hI
   simp only [Bool.and_eq_true, beq_iff_eq, if_true, Bool.false_eq_true, if_false, Bool.not_eq_true'] at hI
   obtain ⟨⟨⟨i1, i2⟩, i3⟩, i4⟩ := hI
   simp only [hs71, if_true, if_false, Bool.false_eq_true, reduceIte, ite_true, ite_false] at i3 i4
   clear i1 i2
   replace PO : PkO w13 ({ kind := 3, qos := qa % 2 + 1, id := ib + 1, topic := ⟨#[97]⟩, pay := [120], dup := dup } : Pk) ({ s0 with pa := some ⟨g2, 0, none⟩, pc := 1 } : Ad) := ⟨PO.pay, PO.wp, PO.pass, PO.subs, PO.codes⟩
   refine C.region ?_
   refine L.mv f79 fun a80 f80 => ?_
   refine L.va f80 (by exact E.loadB f80 Try.underlying34 rfl wsz34_tr1 rfl (Bg4) rfl) fun a81 f81 => ?_
   refine L.cl f81 (run_call Try.call14 (args2 f81 rfl rfl)) (out_any ({ kind := 3, qos := qa % 2 + 1, id := ib + 1, topic := ⟨#[97]⟩, pay := [120], dup := dup } : Pk) ({ s0 with pa := some ⟨g2, 0, none⟩, pc := 1 } : Ad) (wf_small (by show (0 : Int) ≤ ib + 1; omega) (by show ib + 1 ≤ (1000000 : Int); omega)) w.heap.size g (((((((trG).outT ({ kind := 3, qos := qa % 2 + 1, id := ib + 1, topic := ⟨#[97]⟩, pay := [120] } : Pk)).2).inT ({ kind := 5, id := ib + 1 } : Pk)).outT ({ kind := 6, id := ib + 1 } : Pk)).2).inT ({ kind := (if qa % 2 + 1 = 1 then 4 else 7), id := ib + 1 } : Pk)) m6 _ T (by omega) PO (len_pub _ _ _ _ _ (by decide))) ?_
   clear f79 a76 f80 a80
   rintro e w14 ⟨rfl, m7, T7, up7, kc14, nw7⟩
   have lo0 := T.lo
   have npk0 := T.noPk
   have ltp := Bg4.lt
   refine ⟨_, rfl, fun a82 f82 => ?_⟩
   have szw14 := kc14.size
   replace HK := HK.trans kc14 (fun x hx hlt => by have := lo0 x hx; omega)
   replace Bg4 := Bg4.kept kc14 NF
   replace PO := PO.keptT kc14 npk0
   clear f81 a81 kc14
   have T := T7
   clear T7
   replace NF : g4 ∉ m7.fp g := fun h => (nw7.1 _ h).elim NF (fun h => by omega)
   refine L.mv f82 fun a83 f83 => ?_
   refine L.mv f83 fun a84 f84 => ?_
   refine L.mv f84 (hw := (f84.yes rfl rfl)) fun a85 f85 => ?_
   refine L.mv f85 (hw := (f85.yes rfl rfl)) fun a86 f86 => ?_
   clear f82 a82 f83 a83 f84 a84 f85 a85
   refine f86.split 81 rfl (fun h34 f87 => ?_) (fun h34 f87 => ?_)
   ·have hs81 := h34
    refine L.mv f87 (hw := (f87.yes rfl rfl)) fun a88 f88 => ?_
    refine L.va f88 (E.pickT f88 rfl rfl) (hw := (f88.yes rfl rfl)) fun a89 f89 => ?_
    refine L.mv f89 (hw := (f89.yes rfl rfl)) fun a90 f90 => ?_
    clear f86 f87 a86 f88 a88 f89 a89
    refine f90.split 84 rfl (fun h35 f91 => ?_) (fun h35 f91 => ?_)
    ·have hs84 := h35
     refine L.mv f91 (hw := (f91.yes rfl rfl)) fun a92 f92 => ?_
     refine L.va f92 (E.eq f92) (hw := (f92.yes rfl rfl)) fun a93 f93 => ?_
     refine L.mv f93 (hw := (f93.yes rfl rfl)) fun a94 f94 => ?_
     clear f90 f91 a90 f92 a92 f93 a93
     refine f94.splitD 87 rfl (fun h36 f95 => ?_) (fun h36 f95 => ?_)
     ·have hs87 := h36
      refine L.mv f95 (hw := (f95.yes rfl rfl)) fun a96 f96 => ?_
      refine L.va f96 (E.pickT f96 rfl rfl) (hw := (f96.yes rfl rfl)) fun a97 f97 => ?_
      refine L.va f97 (E.not f97 rfl) (hw := (f97.yes rfl rfl)) fun a98 f98 => ?_
      refine L.va f98 (E.pickT f98 rfl rfl) (hw := (f98.yes rfl rfl)) fun a99 f99 => ?_
      refine L.va f99 (E.pickF f99 rfl rfl) fun a100 f100 => ?_
      refine L.va f100 (E.eqlB f100 Try.underlying4 rfl rfl) fun a101 f101 => ?_
      refine L.mv f101 fun a102 f102 => ?_
      clear f94 f95 a94 f96 a96 f97 a97 f98 a98 f99 a99 f100 a100 f101 a101
      refine f102.splitD 94 rfl (fun h37 f103 => ?_) (fun h37 f103 => ?_)
      ·have hs94 := h37
       refine L.mv f103 (hw := (f103.yes rfl rfl)) fun a104 f104 => ?_
       refine L.va f104 (E.build f104 (parts1 f104 rfl) (wbl34_0_tr1 _)) (hw := (f104.yes rfl rfl)) fun a105 f105 => ?_
       refine L.cl f105 (run_call Try.call14 (args2 f105 rfl rfl)) (out_any ({ kind := 2 } : Pk) s0 (by decide) w.heap.size g (((((((((trG).outT ({ kind := 3, qos := qa % 2 + 1, id := ib + 1, topic := ⟨#[97]⟩, pay := [120] } : Pk)).2).inT ({ kind := 5, id := ib + 1 } : Pk)).outT ({ kind := 6, id := ib + 1 } : Pk)).2).inT ({ kind := (if qa % 2 + 1 = 1 then 4 else 7), id := ib + 1 } : Pk)).outT ({ kind := 3, qos := qa % 2 + 1, id := ib + 1, topic := ⟨#[97]⟩, pay := [120], dup := dup } : Pk)).2) m7 _ T (by omega) (flat_o _ _ (by decide)) (by constructor <;> decide)) ?_ (hw := (f105.yes rfl rfl))
       clear f102 f103 a102 f104 a104
       rintro e w15 ⟨rfl, m8, T8, up8, kc15, nw8⟩
       have lo0 := T.lo
       have npk0 := T.noPk
       have ltp := Bg4.lt
       refine ⟨_, rfl, fun a106 f106 => ?_⟩
       have szw15 := kc15.size
       replace HK := HK.trans kc15 (fun x hx hlt => by have := lo0 x hx; omega)
       replace Bg4 := Bg4.kept kc15 NF
       replace PO := PO.keptT kc15 npk0
       clear f105 a105 kc15
       have T := T8
       clear T8
       replace NF : g4 ∉ m8.fp g := fun h => (nw8.1 _ h).elim NF (fun h => by omega)
       refine L.va f106 (E.not f106 rfl) (hw := (f106.yes rfl rfl)) fun a107 f107 => ?_
       refine L.va f107 (E.pickT f107 rfl rfl) fun a108 f108 => ?_
       refine L.ag f108 fun a109 f109 => ?_
       refine wpList_nil (hK29 _ _ ?_)
       have f110 := f109.sub (sc 12 sn)
       refine wp_ret ?_
       try simp only [Exit.inBlock, Exit.then]
       refine C.ret (P := Try.prog) (fn := Try.f5) f110 rfl rfl ?_
       refine ⟨HK, ?_⟩
       clear f106 a106 f107 a107 f108 a108 f109
       (simp only [i4, Bool.not_false]; done)
      have hs94 := h37
      refine L.run f103 (rest' := []) (by kernel_rfl) fun a104 f104 => ?_
      clear f102
      skip
      refine wpList_nil (hK29 _ _ ?_)
      have f105 := f104.sub (sub_cons (i := 12) (v := .bool false) (by kernel_rfl) sn)
      refine wp_ret ?_
      try simp only [Exit.inBlock, Exit.then]
      refine C.ret (P := Try.prog) (fn := Try.f5) f105 rfl rfl ?_
      refine ⟨HK, ?_⟩
      clear f104 f103
      (exfalso; simp_all; done)
     have hs87 := h36
     refine L.sk f95 (f95.noT rfl rfl) fun a96 f96 => ?_
     refine L.va f96 (E.pickF f96 rfl rfl) (hw := (f96.yes rfl rfl)) fun a97 f97 => ?_
     refine L.va f97 (E.not f97 rfl) (hw := (f97.yes rfl rfl)) fun a98 f98 => ?_
     refine L.va f98 (E.pickT f98 rfl rfl) (hw := (f98.yes rfl rfl)) fun a99 f99 => ?_
     refine L.va f99 (E.pickF f99 rfl rfl) fun a100 f100 => ?_
     refine L.va f100 (E.eqlB f100 Try.underlying4 rfl rfl) fun a101 f101 => ?_
     refine L.mv f101 fun a102 f102 => ?_
     clear f94 f95 a94 f96 a96 f97 a97 f98 a98 f99 a99 f100 a100 f101 a101
     refine f102.splitD 94 rfl (fun h38 f103 => ?_) (fun h38 f103 => ?_)
     ·have hs94 := h38
      refine L.mv f103 (hw := (f103.yes rfl rfl)) fun a104 f104 => ?_
      refine L.va f104 (E.build f104 (parts1 f104 rfl) (wbl34_0_tr1 _)) (hw := (f104.yes rfl rfl)) fun a105 f105 => ?_
      refine L.cl f105 (run_call Try.call14 (args2 f105 rfl rfl)) (out_any ({ kind := 2 } : Pk) s0 (by decide) w.heap.size g (((((((((trG).outT ({ kind := 3, qos := qa % 2 + 1, id := ib + 1, topic := ⟨#[97]⟩, pay := [120] } : Pk)).2).inT ({ kind := 5, id := ib + 1 } : Pk)).outT ({ kind := 6, id := ib + 1 } : Pk)).2).inT ({ kind := (if qa % 2 + 1 = 1 then 4 else 7), id := ib + 1 } : Pk)).outT ({ kind := 3, qos := qa % 2 + 1, id := ib + 1, topic := ⟨#[97]⟩, pay := [120], dup := dup } : Pk)).2) m7 _ T (by omega) (flat_o _ _ (by decide)) (by constructor <;> decide)) ?_ (hw := (f105.yes rfl rfl))
      clear f102 f103 a102 f104 a104
      rintro e w15 ⟨rfl, m8, T8, up8, kc15, nw8⟩
      have lo0 := T.lo
      have npk0 := T.noPk
      have ltp := Bg4.lt
      refine ⟨_, rfl, fun a106 f106 => ?_⟩
      have szw15 := kc15.size
      replace HK := HK.trans kc15 (fun x hx hlt => by have := lo0 x hx; omega)
      replace Bg4 := Bg4.kept kc15 NF
      replace PO := PO.keptT kc15 npk0
      clear f105 a105 kc15
      have T := T8
      clear T8
      replace NF : g4 ∉ m8.fp g := fun h => (nw8.1 _ h).elim NF (fun h => by omega)
      refine L.va f106 (E.not f106 rfl) (hw := (f106.yes rfl rfl)) fun a107 f107 => ?_
      refine L.va f107 (E.pickT f107 rfl rfl) fun a108 f108 => ?_
      refine L.ag f108 fun a109 f109 => ?_
      refine wpList_nil (hK29 _ _ ?_)
      have f110 := f109.sub (sc 12 sn)
      refine wp_ret ?_
      try simp only [Exit.inBlock, Exit.then]
      refine C.ret (P := Try.prog) (fn := Try.f5) f110 rfl rfl ?_
      refine ⟨HK, ?_⟩
      clear f106 a106 f107 a107 f108 a108 f109
      (simp only [i4, Bool.not_false]; done)
     have hs94 := h38
     refine L.run f103 (rest' := []) (by kernel_rfl) fun a104 f104 => ?_
     clear f102
     skip
     refine wpList_nil (hK29 _ _ ?_)
     have f105 := f104.sub (sub_cons (i := 12) (v := .bool false) (by kernel_rfl) sn)
     refine wp_ret ?_
     try simp only [Exit.inBlock, Exit.then]
     refine C.ret (P := Try.prog) (fn := Try.f5) f105 rfl rfl ?_
     refine ⟨HK, ?_⟩
     clear f104 f103
     (exfalso; simp_all; done)
    have hs84 := h35
    refine L.sk f91 (f91.noT rfl rfl) fun a92 f92 => ?_
    refine L.sk f92 (f92.noT rfl rfl) fun a93 f93 => ?_
    refine L.sk f93 (f93.noT rfl rfl) fun a94 f94 => ?_
    refine L.sk f94 (f94.noU rfl rfl) fun a95 f95 => ?_
    refine L.sk f95 (f95.noT rfl rfl) fun a96 f96 => ?_
    refine L.sk f96 (f96.noT rfl rfl) fun a97 f97 => ?_
    refine L.va f97 (E.pickF f97 rfl rfl) (hw := (f97.yes rfl rfl)) fun a98 f98 => ?_
    clear f90 f91 a90 f92 a92 f93 a93 f94 a94 f95 a95 f96 a96 f97 a97
    refine L.va f98 (E.pickF f98 rfl rfl) fun a99 f99 => ?_
    refine L.va f99 (E.eqlB f99 Try.underlying4 rfl rfl) fun a100 f100 => ?_
    refine L.mv f100 fun a101 f101 => ?_
    clear f98 a98 f99 a99 f100 a100
    refine f101.splitD 94 rfl (fun h39 f102 => ?_) (fun h39 f102 => ?_)
    ·have hs94 := h39
     refine L.mv f102 (hw := (f102.yes rfl rfl)) fun a103 f103 => ?_
     refine L.va f103 (E.build f103 (parts1 f103 rfl) (wbl34_0_tr1 _)) (hw := (f103.yes rfl rfl)) fun a104 f104 => ?_
     refine L.cl f104 (run_call Try.call14 (args2 f104 rfl rfl)) (out_any ({ kind := 2 } : Pk) s0 (by decide) w.heap.size g (((((((((trG).outT ({ kind := 3, qos := qa % 2 + 1, id := ib + 1, topic := ⟨#[97]⟩, pay := [120] } : Pk)).2).inT ({ kind := 5, id := ib + 1 } : Pk)).outT ({ kind := 6, id := ib + 1 } : Pk)).2).inT ({ kind := (if qa % 2 + 1 = 1 then 4 else 7), id := ib + 1 } : Pk)).outT ({ kind := 3, qos := qa % 2 + 1, id := ib + 1, topic := ⟨#[97]⟩, pay := [120], dup := dup } : Pk)).2) m7 _ T (by omega) (flat_o _ _ (by decide)) (by constructor <;> decide)) ?_ (hw := (f104.yes rfl rfl))
     clear f101 f102 a101 f103 a103
     rintro e w15 ⟨rfl, m8, T8, up8, kc15, nw8⟩
     have lo0 := T.lo
     have npk0 := T.noPk
     have ltp := Bg4.lt
     refine ⟨_, rfl, fun a105 f105 => ?_⟩
     have szw15 := kc15.size
     replace HK := HK.trans kc15 (fun x hx hlt => by have := lo0 x hx; omega)
     replace Bg4 := Bg4.kept kc15 NF
     replace PO := PO.keptT kc15 npk0
     clear f104 a104 kc15
     have T := T8
     clear T8
     replace NF : g4 ∉ m8.fp g := fun h => (nw8.1 _ h).elim NF (fun h => by omega)
     refine L.va f105 (E.not f105 rfl) (hw := (f105.yes rfl rfl)) fun a106 f106 => ?_
     refine L.va f106 (E.pickT f106 rfl rfl) fun a107 f107 => ?_
     refine L.ag f107 fun a108 f108 => ?_
     refine wpList_nil (hK29 _ _ ?_)
     have f109 := f108.sub (sc 12 sn)
     refine wp_ret ?_
     try simp only [Exit.inBlock, Exit.then]
     refine C.ret (P := Try.prog) (fn := Try.f5) f109 rfl rfl ?_
     refine ⟨HK, ?_⟩
     clear f105 a105 f106 a106 f107 a107 f108
     (simp only [i4, Bool.not_false]; done)
    have hs94 := h39
    refine L.run f102 (rest' := []) (by kernel_rfl) fun a103 f103 => ?_
    clear f101
    skip
    refine wpList_nil (hK29 _ _ ?_)
    have f104 := f103.sub (sub_cons (i := 12) (v := .bool false) (by kernel_rfl) sn)
    refine wp_ret ?_
    try simp only [Exit.inBlock, Exit.then]
    refine C.ret (P := Try.prog) (fn := Try.f5) f104 rfl rfl ?_
    refine ⟨HK, ?_⟩
    clear f103 f102
    (exfalso; simp_all; done)
   have hs81 := h34
   refine L.sk f87 (f87.noT rfl rfl) fun a88 f88 => ?_
   refine L.va f88 (E.pickF f88 rfl rfl) (hw := (f88.yes rfl rfl)) fun a89 f89 => ?_
   refine L.mv f89 (hw := (f89.yes rfl rfl)) fun a90 f90 => ?_
   refine L.sk f90 (f90.noT rfl rfl) fun a91 f91 => ?_
   refine L.sk f91 (f91.noT rfl rfl) fun a92 f92 => ?_
   refine L.sk f92 (f92.noT rfl rfl) fun a93 f93 => ?_
   refine L.sk f93 (f93.noU rfl rfl) fun a94 f94 => ?_
   clear f86 f87 a86 f88 a88 f89 a89 f90 a90 f91 a91 f92 a92 f93 a93
   refine L.sk f94 (f94.noT rfl rfl) fun a95 f95 => ?_
   refine L.sk f95 (f95.noT rfl rfl) fun a96 f96 => ?_
   refine L.va f96 (E.pickF f96 rfl rfl) (hw := (f96.yes rfl rfl)) fun a97 f97 => ?_
   refine L.va f97 (E.pickF f97 rfl rfl) fun a98 f98 => ?_
   refine L.va f98 (E.eqlB f98 Try.underlying4 rfl rfl) fun a99 f99 => ?_
   refine L.mv f99 fun a100 f100 => ?_
   clear f94 a94 f95 a95 f96 a96 f97 a97 f98 a98 f99 a99
   refine f100.splitD 94 rfl (fun h40 f101 => ?_) (fun h40 f101 => ?_)
   ·have hs94 := h40
    refine L.mv f101 (hw := (f101.yes rfl rfl)) fun a102 f102 => ?_
    refine L.va f102 (E.build f102 (parts1 f102 rfl) (wbl34_0_tr1 _)) (hw := (f102.yes rfl rfl)) fun a103 f103 => ?_
    refine L.cl f103 (run_call Try.call14 (args2 f103 rfl rfl)) (out_any ({ kind := 2 } : Pk) s0 (by decide) w.heap.size g (((((((((trG).outT ({ kind := 3, qos := qa % 2 + 1, id := ib + 1, topic := ⟨#[97]⟩, pay := [120] } : Pk)).2).inT ({ kind := 5, id := ib + 1 } : Pk)).outT ({ kind := 6, id := ib + 1 } : Pk)).2).inT ({ kind := (if qa % 2 + 1 = 1 then 4 else 7), id := ib + 1 } : Pk)).outT ({ kind := 3, qos := qa % 2 + 1, id := ib + 1, topic := ⟨#[97]⟩, pay := [120], dup := dup } : Pk)).2) m7 _ T (by omega) (flat_o _ _ (by decide)) (by constructor <;> decide)) ?_ (hw := (f103.yes rfl rfl))
    clear f100 f101 a100 f102 a102
    rintro e w15 ⟨rfl, m8, T8, up8, kc15, nw8⟩
    have lo0 := T.lo
    have npk0 := T.noPk
    have ltp := Bg4.lt
    refine ⟨_, rfl, fun a104 f104 => ?_⟩
    have szw15 := kc15.size
    replace HK := HK.trans kc15 (fun x hx hlt => by have := lo0 x hx; omega)
    replace Bg4 := Bg4.kept kc15 NF
    replace PO := PO.keptT kc15 npk0
    clear f103 a103 kc15
    have T := T8
    clear T8
    replace NF : g4 ∉ m8.fp g := fun h => (nw8.1 _ h).elim NF (fun h => by omega)
    refine L.va f104 (E.not f104 rfl) (hw := (f104.yes rfl rfl)) fun a105 f105 => ?_
    refine L.va f105 (E.pickT f105 rfl rfl) fun a106 f106 => ?_
    refine L.ag f106 fun a107 f107 => ?_
    refine wpList_nil (hK29 _ _ ?_)
    have f108 := f107.sub (sc 12 sn)
    refine wp_ret ?_
    try simp only [Exit.inBlock, Exit.then]
    refine C.ret (P := Try.prog) (fn := Try.f5) f108 rfl rfl ?_
    refine ⟨HK, ?_⟩
    clear f104 a104 f105 a105 f106 a106 f107
    (simp only [i4, Bool.not_false]; done)
   have hs94 := h40
   refine L.run f101 (rest' := []) (by kernel_rfl) fun a102 f102 => ?_
   clear f100
   skip
   refine wpList_nil (hK29 _ _ ?_)
   have f103 := f102.sub (sub_cons (i := 12) (v := .bool false) (by kernel_rfl) sn)
   refine wp_ret ?_
   try simp only [Exit.inBlock, Exit.then]
   refine C.ret (P := Try.prog) (fn := Try.f5) f103 rfl rfl ?_
   refine ⟨HK, ?_⟩
   clear f102 f101
   (exfalso; simp_all; done)
  clear f56
  subst h1
  refine C.condF f57 rfl ?_
  refine wp_skip (hK12 _ _ ?_)
  have f58 := f57.sub (sc 2 (sc 3 (sc 4 (sc 5 (sc 13 (sc 14 (sc 15 sn)))))))
  refine C.sk fun K30 hK30 => ?_
  refine L.run f58 (rest' := []) (by kernel_rfl) fun a59 f59 => ?_
  clear f57
  skip
  refine wpList_nil (hK30 _ _ ?_)
  have f60 := f59.sub (sub_cons (i := 2) (Fr.kept f59 (by kernel_rfl) rfl) (sub_cons (i := 3) (Fr.kept f59 (by kernel_rfl) rfl) (sub_cons (i := 4) (Fr.kept f59 (by kernel_rfl) rfl) (sub_cons (i := 13) (Fr.kept f59 (by kernel_rfl) rfl) (sub_cons (i := 14) (Fr.kept f59 (by kernel_rfl) rfl) (sub_cons (i := 15) (Fr.kept f59 (by kernel_rfl) rfl) (sub_cons (i := 16) (v := .bool false) (by kernel_rfl) sn)))))))
  refine C.sk fun K31 hK31 => ?_
  refine L.mv f60 fun a61 f61 => ?_
  refine L.va f61 (E.fa 1 f61 Try.underlying34 rfl wsz4_tr1) fun a62 f62 => ?_
  refine L.store f62 wantedN wsz4_tr1 rfl rfl rfl Bg4 (by (simp [Value.cells]; done)) fun a63 w10 f63 NB10 ks10 => ?_
  have szw10 := ks10.size
  replace HK := HK.trans ks10 (fun x hx hlt => by obtain rfl := List.mem_singleton.1 hx; exfalso; omega)
  replace PO := PO.keptT ks10 (NoPk.blk Bg4 (by decide))
  replace T := T.keptX ks10 NF (NoPk.blk Bg4 (by decide))
  replace Bg4 := NB10
  simp only [Value.cells, z1, z2, z3, Nat.reduceAdd, Nat.zero_add] at Bg4
  clear f59 f58 f60 a59 f61 a61 ks10 f62 a62
  refine wpList_nil (hK31 _ _ ?_)
  have f64 := f63.sub (sc 2 (sc 3 (sc 4 (sc 13 (sc 14 (sc 15 (sc 16 sn)))))))
  refine wp_seq_k fun K32 hK32 => ?_
  refine C.sk fun K33 hK33 => ?_
  refine L.mv f64 fun a65 f65 => ?_
  refine L.va f65 (E.not f65 rfl) fun a66 f66 => ?_
  refine wpList_nil (hK33 _ _ ?_)
  have f67 := f66.sub (sc 2 (sc 3 (sc 4 (sc 13 (sc 14 (sc 15 (sc 16 (sc 71 sn))))))))
  clear f63 f64 a63 f65 a65 f66
  refine f67.splitNB 71 rfl (fun h41 f68 => ?_) (fun h41 f68 => ?_)
  ·have hs71 := h41
   refine C.condT f68 rfl ?_
   have HR : Kept [g4] w10 w10 := Kept.refl _ _
   have nop := NoPk.blk Bg4 (by decide : 34 ∉ [5, 46, 3])
   refine C.region ?_
   refine L.buildSlice f68 wantedN (by decide) (parts1 f68 rfl) Try.underlying28 wzi5_tr1 rfl rfl (wbs28_1_tr1 _) fun a69 w11 g10 N10 f69 => ?_
   have Bg10 := N10.blk
   have kg10 := N10.kept
   have log10 := N10.lo
   have ltg10 := Bg10.lt
   have szw11 := kg10.size
   have frg10 : w.heap.size ≤ g10 := Nat.le_trans HK.size log10
   have frg10_HR : w10.heap.size ≤ g10 := Nat.le_trans HR.size log10
   have neg4_g10 : g4 ≠ g10 := by have := Bg4.lt; omega
   replace HK := HK.trans kg10 (by simp)
   replace Bg4 := Bg4.kept kg10 (by simp)
   replace HR := HR.trans kg10 (by simp)
   clear f67 N10 kg10
   obtain ⟨w12, hcv, ks, HM⟩ := run_mark (n := 1) (c := 1) Bg10 Try.underlying28 Try.underlying5
   refine L.va f69 (E.convV f69 rfl hcv) fun a70 f70 => ?_
   have szw12 := ks.size
   replace HK := HK.trans ks (fun x hx hlt => by obtain rfl := List.mem_singleton.1 hx; exfalso; omega)
   replace Bg4 := Bg4.kept ks (by simp; omega)
   replace HR := HR.trans ks (fun x hx hlt => by obtain rfl := List.mem_singleton.1 hx; exfalso; omega)
   clear f68 a66 hcv ks f69 a69
   refine L.va f70 (E.fa 6 f70 Try.underlying34 rfl wsz28_tr1) fun a71 f71 => ?_
   refine L.store f71 wantedN wsz28_tr1 rfl rfl rfl Bg4 (by (simp [Value.cells]; done)) fun a72 w13 f72 NB13 ks13 => ?_
   have szw13 := ks13.size
   replace HK := HK.trans ks13 (fun x hx hlt => by obtain rfl := List.mem_singleton.1 hx; exfalso; omega)
   replace HR := HR.trans ks13 (fun x hx hlt => hx)
   replace HM := heap_kept HM ks13 (by simp; omega)
   replace Bg4 := NB13
   simp only [Value.cells, z1, z2, z3, Nat.reduceAdd, Nat.zero_add] at Bg4
   clear f70 a70 ks13 f71 a71
   refine wpList_nil (hK32 _ _ ?_)
   have f73 := f72.sub (sc 2 (sc 3 (sc 4 (sc 13 (sc 14 (sc 15 (sc 16 sn)))))))
   refine wp_seq_k fun K34 hK34 => ?_
   have hI := ids_true hq' hi' dup same true false
   clear f72
   unfold idsB at hI
   simp only [Bool.and_eq_true, beq_iff_eq, if_true, Bool.false_eq_true, if_false, Bool.not_eq_true'] at hI
   obtain ⟨⟨⟨i1, i2⟩, i3⟩, i4⟩ := hI
   simp only [hs71, if_true, if_false, Bool.false_eq_true, reduceIte, ite_true, ite_false] at i3 i4
   clear i1 i2
   have PO : PkO w13 ({ kind := 3, qos := qa % 2 + 1, id := ib + 1, topic := ⟨#[97]⟩, pay := [121], dup := dup } : Pk) ({ s0 with pa := some ⟨g10, 0, none⟩, pc := 1 } : Ad) := pay_o HM _ rfl rfl rfl rfl rfl
   replace T := T.keptX HR NF nop
   clear HR
   refine C.region ?_
   refine L.mv f73 fun a74 f74 => ?_
   refine L.va f74 (by exact E.loadB f74 Try.underlying34 rfl wsz34_tr1 rfl (Bg4) rfl) fun a75 f75 => ?_
   refine L.cl f75 (run_call Try.call14 (args2 f75 rfl rfl)) (out_any ({ kind := 3, qos := qa % 2 + 1, id := ib + 1, topic := ⟨#[97]⟩, pay := [121], dup := dup } : Pk) ({ s0 with pa := some ⟨g10, 0, none⟩, pc := 1 } : Ad) (wf_small (by show (0 : Int) ≤ ib + 1; omega) (by show ib + 1 ≤ (1000000 : Int); omega)) w.heap.size g ((((((trG).outT ({ kind := 3, qos := qa % 2 + 1, id := ib + 1, topic := ⟨#[97]⟩, pay := [120] } : Pk)).2).inT ({ kind := 5, id := ib + 1 } : Pk)).outT ({ kind := 6, id := ib + 1 } : Pk)).2) m5 _ T (by omega) PO (len_pub _ _ _ _ _ (by decide))) ?_
   clear f73 a72 f74 a74
   rintro e w14 ⟨rfl, m6, T6, up6, kc14, nw6⟩
   have lo0 := T.lo
   have npk0 := T.noPk
   have ltp := Bg4.lt
   refine ⟨_, rfl, fun a76 f76 => ?_⟩
   have szw14 := kc14.size
   replace HK := HK.trans kc14 (fun x hx hlt => by have := lo0 x hx; omega)
   replace Bg4 := Bg4.kept kc14 NF
   replace PO := PO.keptT kc14 npk0
   clear f75 a75 kc14
   have T := T6
   clear T6
   replace NF : g4 ∉ m6.fp g := fun h => (nw6.1 _ h).elim NF (fun h => by omega)
   refine L.mv f76 fun a77 f77 => ?_
   refine L.mv f77 fun a78 f78 => ?_
   refine L.mv f78 (hw := (f78.yes rfl rfl)) fun a79 f79 => ?_
   refine L.mv f79 (hw := (f79.yes rfl rfl)) fun a80 f80 => ?_
   clear f76 a76 f77 a77 f78 a78 f79 a79
   refine f80.split 81 rfl (fun h42 f81 => ?_) (fun h42 f81 => ?_)
   ·have hs81 := h42
    refine L.mv f81 (hw := (f81.yes rfl rfl)) fun a82 f82 => ?_
    refine L.va f82 (E.pickT f82 rfl rfl) (hw := (f82.yes rfl rfl)) fun a83 f83 => ?_
    refine L.mv f83 (hw := (f83.yes rfl rfl)) fun a84 f84 => ?_
    clear f80 f81 a80 f82 a82 f83 a83
    refine f84.split 84 rfl (fun h43 f85 => ?_) (fun h43 f85 => ?_)
    ·have hs84 := h43
     refine L.mv f85 (hw := (f85.yes rfl rfl)) fun a86 f86 => ?_
     refine L.va f86 (E.eq f86) (hw := (f86.yes rfl rfl)) fun a87 f87 => ?_
     refine L.mv f87 (hw := (f87.yes rfl rfl)) fun a88 f88 => ?_
     clear f84 f85 a84 f86 a86 f87 a87
     refine f88.splitD 87 rfl (fun h44 f89 => ?_) (fun h44 f89 => ?_)
     ·have hs87 := h44
      refine L.mv f89 (hw := (f89.yes rfl rfl)) fun a90 f90 => ?_
      refine L.va f90 (E.pickT f90 rfl rfl) (hw := (f90.yes rfl rfl)) fun a91 f91 => ?_
      refine L.va f91 (E.not f91 rfl) (hw := (f91.yes rfl rfl)) fun a92 f92 => ?_
      refine L.va f92 (E.pickT f92 rfl rfl) (hw := (f92.yes rfl rfl)) fun a93 f93 => ?_
      refine L.va f93 (E.pickF f93 rfl rfl) fun a94 f94 => ?_
      refine L.va f94 (E.eqlB f94 Try.underlying4 rfl rfl) fun a95 f95 => ?_
      refine L.mv f95 fun a96 f96 => ?_
      clear f88 f89 a88 f90 a90 f91 a91 f92 a92 f93 a93 f94 a94 f95 a95
      refine f96.splitD 94 rfl (fun h45 f97 => ?_) (fun h45 f97 => ?_)
      ·have hs94 := h45
       refine L.mv f97 (hw := (f97.yes rfl rfl)) fun a98 f98 => ?_
       refine L.va f98 (E.build f98 (parts1 f98 rfl) (wbl34_0_tr1 _)) (hw := (f98.yes rfl rfl)) fun a99 f99 => ?_
       refine L.cl f99 (run_call Try.call14 (args2 f99 rfl rfl)) (out_any ({ kind := 2 } : Pk) s0 (by decide) w.heap.size g ((((((((trG).outT ({ kind := 3, qos := qa % 2 + 1, id := ib + 1, topic := ⟨#[97]⟩, pay := [120] } : Pk)).2).inT ({ kind := 5, id := ib + 1 } : Pk)).outT ({ kind := 6, id := ib + 1 } : Pk)).2).outT ({ kind := 3, qos := qa % 2 + 1, id := ib + 1, topic := ⟨#[97]⟩, pay := [121], dup := dup } : Pk)).2) m6 _ T (by omega) (flat_o _ _ (by decide)) (by constructor <;> decide)) ?_ (hw := (f99.yes rfl rfl))
       clear f96 f97 a96 f98 a98
       rintro e w15 ⟨rfl, m7, T7, up7, kc15, nw7⟩
       have lo0 := T.lo
       have npk0 := T.noPk
       have ltp := Bg4.lt
       refine ⟨_, rfl, fun a100 f100 => ?_⟩
       have szw15 := kc15.size
       replace HK := HK.trans kc15 (fun x hx hlt => by have := lo0 x hx; omega)
       replace Bg4 := Bg4.kept kc15 NF
       replace PO := PO.keptT kc15 npk0
       clear f99 a99 kc15
       have T := T7
       clear T7
       replace NF : g4 ∉ m7.fp g := fun h => (nw7.1 _ h).elim NF (fun h => by omega)
       refine L.va f100 (E.not f100 rfl) (hw := (f100.yes rfl rfl)) fun a101 f101 => ?_
       refine L.va f101 (E.pickT f101 rfl rfl) fun a102 f102 => ?_
       refine L.ag f102 fun a103 f103 => ?_
       refine wpList_nil (hK34 _ _ ?_)
       have f104 := f103.sub (sc 12 sn)
       refine wp_ret ?_
       try simp only [Exit.inBlock, Exit.then]
       refine C.ret (P := Try.prog) (fn := Try.f5) f104 rfl rfl ?_
       refine ⟨HK, ?_⟩
       clear f100 a100 f101 a101 f102 a102 f103
       (simp only [i4, Bool.not_false]; done)
      have hs94 := h45
      refine L.run f97 (rest' := []) (by kernel_rfl) fun a98 f98 => ?_
      clear f96
      skip
      refine wpList_nil (hK34 _ _ ?_)
      have f99 := f98.sub (sub_cons (i := 12) (v := .bool false) (by kernel_rfl) sn)
      refine wp_ret ?_
      try simp only [Exit.inBlock, Exit.then]
      refine C.ret (P := Try.prog) (fn := Try.f5) f99 rfl rfl ?_
      refine ⟨HK, ?_⟩
      clear f98 f97
      (exfalso; simp_all; done)
     have hs87 := h44
     refine L.sk f89 (f89.noT rfl rfl) fun a90 f90 => ?_
     refine L.va f90 (E.pickF f90 rfl rfl) (hw := (f90.yes rfl rfl)) fun a91 f91 => ?_
     refine L.va f91 (E.not f91 rfl) (hw := (f91.yes rfl rfl)) fun a92 f92 => ?_
     refine L.va f92 (E.pickT f92 rfl rfl) (hw := (f92.yes rfl rfl)) fun a93 f93 => ?_
     refine L.va f93 (E.pickF f93 rfl rfl) fun a94 f94 => ?_
     refine L.va f94 (E.eqlB f94 Try.underlying4 rfl rfl) fun a95 f95 => ?_
     refine L.mv f95 fun a96 f96 => ?_
     clear f88 f89 a88 f90 a90 f91 a91 f92 a92 f93 a93 f94 a94 f95 a95
     refine f96.splitD 94 rfl (fun h46 f97 => ?_) (fun h46 f97 => ?_)
     ·have hs94 := h46
      refine L.mv f97 (hw := (f97.yes rfl rfl)) fun a98 f98 => ?_
      refine L.va f98 (E.build f98 (parts1 f98 rfl) (wbl34_0_tr1 _)) (hw := (f98.yes rfl rfl)) fun a99 f99 => ?_
      refine L.cl f99 (run_call Try.call14 (args2 f99 rfl rfl)) (out_any ({ kind := 2 } : Pk) s0 (by decide) w.heap.size g ((((((((trG).outT ({ kind := 3, qos := qa % 2 + 1, id := ib + 1, topic := ⟨#[97]⟩, pay := [120] } : Pk)).2).inT ({ kind := 5, id := ib + 1 } : Pk)).outT ({ kind := 6, id := ib + 1 } : Pk)).2).outT ({ kind := 3, qos := qa % 2 + 1, id := ib + 1, topic := ⟨#[97]⟩, pay := [121], dup := dup } : Pk)).2) m6 _ T (by omega) (flat_o _ _ (by decide)) (by constructor <;> decide)) ?_ (hw := (f99.yes rfl rfl))
      clear f96 f97 a96 f98 a98
      rintro e w15 ⟨rfl, m7, T7, up7, kc15, nw7⟩
      have lo0 := T.lo
      have npk0 := T.noPk
      have ltp := Bg4.lt
      refine ⟨_, rfl, fun a100 f100 => ?_⟩
      have szw15 := kc15.size
      replace HK := HK.trans kc15 (fun x hx hlt => by have := lo0 x hx; omega)
      replace Bg4 := Bg4.kept kc15 NF
      replace PO := PO.keptT kc15 npk0
      clear f99 a99 kc15
      have T := T7
      clear T7
      replace NF : g4 ∉ m7.fp g := fun h => (nw7.1 _ h).elim NF (fun h => by omega)
      refine L.va f100 (E.not f100 rfl) (hw := (f100.yes rfl rfl)) fun a101 f101 => ?_
      refine L.va f101 (E.pickT f101 rfl rfl) fun a102 f102 => ?_
      refine L.ag f102 fun a103 f103 => ?_
      refine wpList_nil (hK34 _ _ ?_)
      have f104 := f103.sub (sc 12 sn)
      refine wp_ret ?_
      try simp only [Exit.inBlock, Exit.then]
      refine C.ret (P := Try.prog) (fn := Try.f5) f104 rfl rfl ?_
      refine ⟨HK, ?_⟩
      clear f100 a100 f101 a101 f102 a102 f103
      (simp only [i4, Bool.not_false]; done)
     have hs94 := h46
     refine L.run f97 (rest' := []) (by kernel_rfl) fun a98 f98 => ?_
     clear f96
     skip
     refine wpList_nil (hK34 _ _ ?_)
     have f99 := f98.sub (sub_cons (i := 12) (v := .bool false) (by kernel_rfl) sn)
     refine wp_ret ?_
     try simp only [Exit.inBlock, Exit.then]
     refine C.ret (P := Try.prog) (fn := Try.f5) f99 rfl rfl ?_
     refine ⟨HK, ?_⟩
     clear f98 f97
     (exfalso; simp_all; done)
    have hs84 := h43
    refine L.sk f85 (f85.noT rfl rfl) fun a86 f86 => ?_
    refine L.sk f86 (f86.noT rfl rfl) fun a87 f87 => ?_
    refine L.sk f87 (f87.noT rfl rfl) fun a88 f88 => ?_
    refine L.sk f88 (f88.noU rfl rfl) fun a89 f89 => ?_
    refine L.sk f89 (f89.noT rfl rfl) fun a90 f90 => ?_
    refine L.sk f90 (f90.noT rfl rfl) fun a91 f91 => ?_
    refine L.va f91 (E.pickF f91 rfl rfl) (hw := (f91.yes rfl rfl)) fun a92 f92 => ?_
    clear f84 f85 a84 f86 a86 f87 a87 f88 a88 f89 a89 f90 a90 f91 a91
    refine L.va f92 (E.pickF f92 rfl rfl) fun a93 f93 => ?_
    refine L.va f93 (E.eqlB f93 Try.underlying4 rfl rfl) fun a94 f94 => ?_
    refine L.mv f94 fun a95 f95 => ?_
    clear f92 a92 f93 a93 f94 a94
    refine f95.splitD 94 rfl (fun h47 f96 => ?_) (fun h47 f96 => ?_)
    ·have hs94 := h47
     refine L.mv f96 (hw := (f96.yes rfl rfl)) fun a97 f97 => ?_
     refine L.va f97 (E.build f97 (parts1 f97 rfl) (wbl34_0_tr1 _)) (hw := (f97.yes rfl rfl)) fun a98 f98 => ?_
     refine L.cl f98 (run_call Try.call14 (args2 f98 rfl rfl)) (out_any ({ kind := 2 } : Pk) s0 (by decide) w.heap.size g ((((((((trG).outT ({ kind := 3, qos := qa % 2 + 1, id := ib + 1, topic := ⟨#[97]⟩, pay := [120] } : Pk)).2).inT ({ kind := 5, id := ib + 1 } : Pk)).outT ({ kind := 6, id := ib + 1 } : Pk)).2).outT ({ kind := 3, qos := qa % 2 + 1, id := ib + 1, topic := ⟨#[97]⟩, pay := [121], dup := dup } : Pk)).2) m6 _ T (by omega) (flat_o _ _ (by decide)) (by constructor <;> decide)) ?_ (hw := (f98.yes rfl rfl))
     clear f95 f96 a95 f97 a97
     rintro e w15 ⟨rfl, m7, T7, up7, kc15, nw7⟩
     have lo0 := T.lo
     have npk0 := T.noPk
     have ltp := Bg4.lt
     refine ⟨_, rfl, fun a99 f99 => ?_⟩
     have szw15 := kc15.size
     replace HK := HK.trans kc15 (fun x hx hlt => by have := lo0 x hx; omega)
     replace Bg4 := Bg4.kept kc15 NF
     replace PO := PO.keptT kc15 npk0
     clear f98 a98 kc15
     have T := T7
     clear T7
     replace NF : g4 ∉ m7.fp g := fun h => (nw7.1 _ h).elim NF (fun h => by omega)
     refine L.va f99 (E.not f99 rfl) (hw := (f99.yes rfl rfl)) fun a100 f100 => ?_
     refine L.va f100 (E.pickT f100 rfl rfl) fun a101 f101 => ?_
     refine L.ag f101 fun a102 f102 => ?_
     refine wpList_nil (hK34 _ _ ?_)
     have f103 := f102.sub (sc 12 sn)
     refine wp_ret ?_
     try simp only [Exit.inBlock, Exit.then]
     refine C.ret (P := Try.prog) (fn := Try.f5) f103 rfl rfl ?_
     refine ⟨HK, ?_⟩
     clear f99 a99 f100 a100 f101 a101 f102
     (simp only [i4, Bool.not_false]; done)
    have hs94 := h47
    refine L.run f96 (rest' := []) (by kernel_rfl) fun a97 f97 => ?_
    clear f95
    skip
    refine wpList_nil (hK34 _ _ ?_)
    have f98 := f97.sub (sub_cons (i := 12) (v := .bool false) (by kernel_rfl) sn)
    refine wp_ret ?_
    try simp only [Exit.inBlock, Exit.then]
    refine C.ret (P := Try.prog) (fn := Try.f5) f98 rfl rfl ?_
    refine ⟨HK, ?_⟩
    clear f97 f96
    (exfalso; simp_all; done)
   have hs81 := h42
   refine L.sk f81 (f81.noT rfl rfl) fun a82 f82 => ?_
   refine L.va f82 (E.pickF f82 rfl rfl) (hw := (f82.yes rfl rfl)) fun a83 f83 => ?_
   refine L.mv f83 (hw := (f83.yes rfl rfl)) fun a84 f84 => ?_
   refine L.sk f84 (f84.noT rfl rfl) fun a85 f85 => ?_
   refine L.sk f85 (f85.noT rfl rfl) fun a86 f86 => ?_
   refine L.sk f86 (f86.noT rfl rfl) fun a87 f87 => ?_
   refine L.sk f87 (f87.noU rfl rfl) fun a88 f88 => ?_
   clear f80 f81 a80 f82 a82 f83 a83 f84 a84 f85 a85 f86 a86 f87 a87
   refine L.sk f88 (f88.noT rfl rfl) fun a89 f89 => ?_
   refine L.sk f89 (f89.noT rfl rfl) fun a90 f90 => ?_
   refine L.va f90 (E.pickF f90 rfl rfl) (hw := (f90.yes rfl rfl)) fun a91 f91 => ?_
   refine L.va f91 (E.pickF f91 rfl rfl) fun a92 f92 => ?_
   refine L.va f92 (E.eqlB f92 Try.underlying4 rfl rfl) fun a93 f93 => ?_
   refine L.mv f93 fun a94 f94 => ?_
   clear f88 a88 f89 a89 f90 a90 f91 a91 f92 a92 f93 a93
   refine f94.splitD 94 rfl (fun h48 f95 => ?_) (fun h48 f95 => ?_)
   ·have hs94 := h48
    refine L.mv f95 (hw := (f95.yes rfl rfl)) fun a96 f96 => ?_
    refine L.va f96 (E.build f96 (parts1 f96 rfl) (wbl34_0_tr1 _)) (hw := (f96.yes rfl rfl)) fun a97 f97 => ?_
    refine L.cl f97 (run_call Try.call14 (args2 f97 rfl rfl)) (out_any ({ kind := 2 } : Pk) s0 (by decide) w.heap.size g ((((((((trG).outT ({ kind := 3, qos := qa % 2 + 1, id := ib + 1, topic := ⟨#[97]⟩, pay := [120] } : Pk)).2).inT ({ kind := 5, id := ib + 1 } : Pk)).outT ({ kind := 6, id := ib + 1 } : Pk)).2).outT ({ kind := 3, qos := qa % 2 + 1, id := ib + 1, topic := ⟨#[97]⟩, pay := [121], dup := dup } : Pk)).2) m6 _ T (by omega) (flat_o _ _ (by decide)) (by constructor <;> decide)) ?_ (hw := (f97.yes rfl rfl))
    clear f94 f95 a94 f96 a96
    rintro e w15 ⟨rfl, m7, T7, up7, kc15, nw7⟩
    have lo0 := T.lo
    have npk0 := T.noPk
    have ltp := Bg4.lt
    refine ⟨_, rfl, fun a98 f98 => ?_⟩
    have szw15 := kc15.size
    replace HK := HK.trans kc15 (fun x hx hlt => by have := lo0 x hx; omega)
    replace Bg4 := Bg4.kept kc15 NF
    replace PO := PO.keptT kc15 npk0
    clear f97 a97 kc15
    have T := T7
    clear T7
    replace NF : g4 ∉ m7.fp g := fun h => (nw7.1 _ h).elim NF (fun h => by omega)
    refine L.va f98 (E.not f98 rfl) (hw := (f98.yes rfl rfl)) fun a99 f99 => ?_
    refine L.va f99 (E.pickT f99 rfl rfl) fun a100 f100 => ?_
    refine L.ag f100 fun a101 f101 => ?_
    refine wpList_nil (hK34 _ _ ?_)
    have f102 := f101.sub (sc 12 sn)
    refine wp_ret ?_
    try simp only [Exit.inBlock, Exit.then]
    refine C.ret (P := Try.prog) (fn := Try.f5) f102 rfl rfl ?_
    refine ⟨HK, ?_⟩
    clear f98 a98 f99 a99 f100 a100 f101
    (simp only [i4, Bool.not_false]; done)
   have hs94 := h48
   refine L.run f95 (rest' := []) (by kernel_rfl) fun a96 f96 => ?_
   clear f94
   skip
   refine wpList_nil (hK34 _ _ ?_)
   have f97 := f96.sub (sub_cons (i := 12) (v := .bool false) (by kernel_rfl) sn)
   refine wp_ret ?_
   try simp only [Exit.inBlock, Exit.then]
   refine C.ret (P := Try.prog) (fn := Try.f5) f97 rfl rfl ?_
   refine ⟨HK, ?_⟩
   clear f96 f95
   (exfalso; simp_all; done)
  have hs71 := h41
  refine C.condF f68 rfl ?_
  refine wp_skip (hK32 _ _ ?_)
  have f69 := f68.sub (sc 2 (sc 3 (sc 4 (sc 13 (sc 14 (sc 15 (sc 16 sn)))))))
  refine wp_seq_k fun K35 hK35 => ?_
  have hI := ids_true hq' hi' dup same true false
  clear f67 f68
  unfold idsB at hI
  simp only [Bool.and_eq_true, beq_iff_eq, if_true, Bool.false_eq_true, if_false, Bool.not_eq_true'] at hI
  obtain ⟨⟨⟨i1, i2⟩, i3⟩, i4⟩ := hI
  simp only [hs71, if_true, if_false, Bool.false_eq_true, reduceIte, ite_true, ite_false] at i3 i4
  clear i1 i2
  replace PO : PkO w10 ({ kind := 3, qos := qa % 2 + 1, id := ib + 1, topic := ⟨#[97]⟩, pay := [120], dup := dup } : Pk) ({ s0 with pa := some ⟨g2, 0, none⟩, pc := 1 } : Ad) := ⟨PO.pay, PO.wp, PO.pass, PO.subs, PO.codes⟩
  refine C.region ?_
  refine L.mv f69 fun a70 f70 => ?_
  refine L.va f70 (by exact E.loadB f70 Try.underlying34 rfl wsz34_tr1 rfl (Bg4) rfl) fun a71 f71 => ?_
  refine L.cl f71 (run_call Try.call14 (args2 f71 rfl rfl)) (out_any ({ kind := 3, qos := qa % 2 + 1, id := ib + 1, topic := ⟨#[97]⟩, pay := [120], dup := dup } : Pk) ({ s0 with pa := some ⟨g2, 0, none⟩, pc := 1 } : Ad) (wf_small (by show (0 : Int) ≤ ib + 1; omega) (by show ib + 1 ≤ (1000000 : Int); omega)) w.heap.size g ((((((trG).outT ({ kind := 3, qos := qa % 2 + 1, id := ib + 1, topic := ⟨#[97]⟩, pay := [120] } : Pk)).2).inT ({ kind := 5, id := ib + 1 } : Pk)).outT ({ kind := 6, id := ib + 1 } : Pk)).2) m5 _ T (by omega) PO (len_pub _ _ _ _ _ (by decide))) ?_
  clear f69 a66 f70 a70
  rintro e w11 ⟨rfl, m6, T6, up6, kc11, nw6⟩
  have lo0 := T.lo
  have npk0 := T.noPk
  have ltp := Bg4.lt
  refine ⟨_, rfl, fun a72 f72 => ?_⟩
  have szw11 := kc11.size
  replace HK := HK.trans kc11 (fun x hx hlt => by have := lo0 x hx; omega)
  replace Bg4 := Bg4.kept kc11 NF
  replace PO := PO.keptT kc11 npk0
  clear f71 a71 kc11
  have T := T6
  clear T6
  replace NF : g4 ∉ m6.fp g := fun h => (nw6.1 _ h).elim NF (fun h => by omega)
  refine L.mv f72 fun a73 f73 => ?_
  refine L.mv f73 fun a74 f74 => ?_
  refine L.mv f74 (hw := (f74.yes rfl rfl)) fun a75 f75 => ?_
  refine L.mv f75 (hw := (f75.yes rfl rfl)) fun a76 f76 => ?_
  clear f72 a72 f73 a73 f74 a74 f75 a75
  refine f76.split 81 rfl (fun h49 f77 => ?_) (fun h49 f77 => ?_)
  ·have hs81 := h49
   refine L.mv f77 (hw := (f77.yes rfl rfl)) fun a78 f78 => ?_
   refine L.va f78 (E.pickT f78 rfl rfl) (hw := (f78.yes rfl rfl)) fun a79 f79 => ?_
   refine L.mv f79 (hw := (f79.yes rfl rfl)) fun a80 f80 => ?_
   clear f76 f77 a76 f78 a78 f79 a79
   refine f80.split 84 rfl (fun h50 f81 => ?_) (fun h50 f81 => ?_)
   ·have hs84 := h50
    refine L.mv f81 (hw := (f81.yes rfl rfl)) fun a82 f82 => ?_
    refine L.va f82 (E.eq f82) (hw := (f82.yes rfl rfl)) fun a83 f83 => ?_
    refine L.mv f83 (hw := (f83.yes rfl rfl)) fun a84 f84 => ?_
    clear f80 f81 a80 f82 a82 f83 a83
    refine f84.splitD 87 rfl (fun h51 f85 => ?_) (fun h51 f85 => ?_)
    ·have hs87 := h51
     refine L.mv f85 (hw := (f85.yes rfl rfl)) fun a86 f86 => ?_
     refine L.va f86 (E.pickT f86 rfl rfl) (hw := (f86.yes rfl rfl)) fun a87 f87 => ?_
     refine L.va f87 (E.not f87 rfl) (hw := (f87.yes rfl rfl)) fun a88 f88 => ?_
     refine L.va f88 (E.pickT f88 rfl rfl) (hw := (f88.yes rfl rfl)) fun a89 f89 => ?_
     refine L.va f89 (E.pickF f89 rfl rfl) fun a90 f90 => ?_
     refine L.va f90 (E.eqlB f90 Try.underlying4 rfl rfl) fun a91 f91 => ?_
     refine L.mv f91 fun a92 f92 => ?_
     clear f84 f85 a84 f86 a86 f87 a87 f88 a88 f89 a89 f90 a90 f91 a91
     refine f92.splitD 94 rfl (fun h52 f93 => ?_) (fun h52 f93 => ?_)
     ·have hs94 := h52
      refine L.mv f93 (hw := (f93.yes rfl rfl)) fun a94 f94 => ?_
      refine L.va f94 (E.build f94 (parts1 f94 rfl) (wbl34_0_tr1 _)) (hw := (f94.yes rfl rfl)) fun a95 f95 => ?_
      refine L.cl f95 (run_call Try.call14 (args2 f95 rfl rfl)) (out_any ({ kind := 2 } : Pk) s0 (by decide) w.heap.size g ((((((((trG).outT ({ kind := 3, qos := qa % 2 + 1, id := ib + 1, topic := ⟨#[97]⟩, pay := [120] } : Pk)).2).inT ({ kind := 5, id := ib + 1 } : Pk)).outT ({ kind := 6, id := ib + 1 } : Pk)).2).outT ({ kind := 3, qos := qa % 2 + 1, id := ib + 1, topic := ⟨#[97]⟩, pay := [120], dup := dup } : Pk)).2) m6 _ T (by omega) (flat_o _ _ (by decide)) (by constructor <;> decide)) ?_ (hw := (f95.yes rfl rfl))
      clear f92 f93 a92 f94 a94
      rintro e w12 ⟨rfl, m7, T7, up7, kc12, nw7⟩
      have lo0 := T.lo
      have npk0 := T.noPk
      have ltp := Bg4.lt
      refine ⟨_, rfl, fun a96 f96 => ?_⟩
      have szw12 := kc12.size
      replace HK := HK.trans kc12 (fun x hx hlt => by have := lo0 x hx; omega)
      replace Bg4 := Bg4.kept kc12 NF
      replace PO := PO.keptT kc12 npk0
      clear f95 a95 kc12
      have T := T7
      clear T7
      replace NF : g4 ∉ m7.fp g := fun h => (nw7.1 _ h).elim NF (fun h => by omega)
      refine L.va f96 (E.not f96 rfl) (hw := (f96.yes rfl rfl)) fun a97 f97 => ?_
      refine L.va f97 (E.pickT f97 rfl rfl) fun a98 f98 => ?_
      refine L.ag f98 fun a99 f99 => ?_
      refine wpList_nil (hK35 _ _ ?_)
      have f100 := f99.sub (sc 12 sn)
      refine wp_ret ?_
      try simp only [Exit.inBlock, Exit.then]
      refine C.ret (P := Try.prog) (fn := Try.f5) f100 rfl rfl ?_
      refine ⟨HK, ?_⟩
      clear f96 a96 f97 a97 f98 a98 f99
      (simp only [i4, Bool.not_false]; done)
     have hs94 := h52
     refine L.run f93 (rest' := []) (by kernel_rfl) fun a94 f94 => ?_
     clear f92
     skip
     refine wpList_nil (hK35 _ _ ?_)
     have f95 := f94.sub (sub_cons (i := 12) (v := .bool false) (by kernel_rfl) sn)
     refine wp_ret ?_
     try simp only [Exit.inBlock, Exit.then]
     refine C.ret (P := Try.prog) (fn := Try.f5) f95 rfl rfl ?_
     refine ⟨HK, ?_⟩
     clear f94 f93
     (exfalso; simp_all; done)
    have hs87 := h51
    refine L.sk f85 (f85.noT rfl rfl) fun a86 f86 => ?_
    refine L.va f86 (E.pickF f86 rfl rfl) (hw := (f86.yes rfl rfl)) fun a87 f87 => ?_
    refine L.va f87 (E.not f87 rfl) (hw := (f87.yes rfl rfl)) fun a88 f88 => ?_
    refine L.va f88 (E.pickT f88 rfl rfl) (hw := (f88.yes rfl rfl)) fun a89 f89 => ?_
    refine L.va f89 (E.pickF f89 rfl rfl) fun a90 f90 => ?_
    refine L.va f90 (E.eqlB f90 Try.underlying4 rfl rfl) fun a91 f91 => ?_
    refine L.mv f91 fun a92 f92 => ?_
    clear f84 f85 a84 f86 a86 f87 a87 f88 a88 f89 a89 f90 a90 f91 a91
    refine f92.splitD 94 rfl (fun h53 f93 => ?_) (fun h53 f93 => ?_)
    ·have hs94 := h53
     refine L.mv f93 (hw := (f93.yes rfl rfl)) fun a94 f94 => ?_
     refine L.va f94 (E.build f94 (parts1 f94 rfl) (wbl34_0_tr1 _)) (hw := (f94.yes rfl rfl)) fun a95 f95 => ?_
     refine L.cl f95 (run_call Try.call14 (args2 f95 rfl rfl)) (out_any ({ kind := 2 } : Pk) s0 (by decide) w.heap.size g ((((((((trG).outT ({ kind := 3, qos := qa % 2 + 1, id := ib + 1, topic := ⟨#[97]⟩, pay := [120] } : Pk)).2).inT ({ kind := 5, id := ib + 1 } : Pk)).outT ({ kind := 6, id := ib + 1 } : Pk)).2).outT ({ kind := 3, qos := qa % 2 + 1, id := ib + 1, topic := ⟨#[97]⟩, pay := [120], dup := dup } : Pk)).2) m6 _ T (by omega) (flat_o _ _ (by decide)) (by constructor <;> decide)) ?_ (hw := (f95.yes rfl rfl))
     clear f92 f93 a92 f94 a94
     rintro e w12 ⟨rfl, m7, T7, up7, kc12, nw7⟩
     have lo0 := T.lo
     have npk0 := T.noPk
     have ltp := Bg4.lt
     refine ⟨_, rfl, fun a96 f96 => ?_⟩
     have szw12 := kc12.size
     replace HK := HK.trans kc12 (fun x hx hlt => by have := lo0 x hx; omega)
     replace Bg4 := Bg4.kept kc12 NF
     replace PO := PO.keptT kc12 npk0
     clear f95 a95 kc12
     have T := T7
     clear T7
     replace NF : g4 ∉ m7.fp g := fun h => (nw7.1 _ h).elim NF (fun h => by omega)
     refine L.va f96 (E.not f96 rfl) (hw := (f96.yes rfl rfl)) fun a97 f97 => ?_
     refine L.va f97 (E.pickT f97 rfl rfl) fun a98 f98 => ?_
     refine L.ag f98 fun a99 f99 => ?_
     refine wpList_nil (hK35 _ _ ?_)
     have f100 := f99.sub (sc 12 sn)
     refine wp_ret ?_
     try simp only [Exit.inBlock, Exit.then]
     refine C.ret (P := Try.prog) (fn := Try.f5) f100 rfl rfl ?_
     refine ⟨HK, ?_⟩
     clear f96 a96 f97 a97 f98 a98 f99
     (simp only [i4, Bool.not_false]; done)
    have hs94 := h53
    refine L.run f93 (rest' := []) (by kernel_rfl) fun a94 f94 => ?_
    clear f92
    skip
    refine wpList_nil (hK35 _ _ ?_)
    have f95 := f94.sub (sub_cons (i := 12) (v := .bool false) (by kernel_rfl) sn)
    refine wp_ret ?_
    try simp only [Exit.inBlock, Exit.then]
    refine C.ret (P := Try.prog) (fn := Try.f5) f95 rfl rfl ?_
    refine ⟨HK, ?_⟩
    clear f94 f93
    (exfalso; simp_all; done)
   have hs84 := h50
   refine L.sk f81 (f81.noT rfl rfl) fun a82 f82 => ?_
   refine L.sk f82 (f82.noT rfl rfl) fun a83 f83 => ?_
   refine L.sk f83 (f83.noT rfl rfl) fun a84 f84 => ?_
   refine L.sk f84 (f84.noU rfl rfl) fun a85 f85 => ?_
   refine L.sk f85 (f85.noT rfl rfl) fun a86 f86 => ?_
   refine L.sk f86 (f86.noT rfl rfl) fun a87 f87 => ?_
   refine L.va f87 (E.pickF f87 rfl rfl) (hw := (f87.yes rfl rfl)) fun a88 f88 => ?_
   clear f80 f81 a80 f82 a82 f83 a83 f84 a84 f85 a85 f86 a86 f87 a87
   refine L.va f88 (E.pickF f88 rfl rfl) fun a89 f89 => ?_
   refine L.va f89 (E.eqlB f89 Try.underlying4 rfl rfl) fun a90 f90 => ?_
   refine L.mv f90 fun a91 f91 => ?_
   clear f88 a88 f89 a89 f90 a90
   refine f91.splitD 94 rfl (fun h54 f92 => ?_) (fun h54 f92 => ?_)
   ·have hs94 := h54
    refine L.mv f92 (hw := (f92.yes rfl rfl)) fun a93 f93 => ?_
    refine L.va f93 (E.build f93 (parts1 f93 rfl) (wbl34_0_tr1 _)) (hw := (f93.yes rfl rfl)) fun a94 f94 => ?_
    refine L.cl f94 (run_call Try.call14 (args2 f94 rfl rfl)) (out_any ({ kind := 2 } : Pk) s0 (by decide) w.heap.size g ((((((((trG).outT ({ kind := 3, qos := qa % 2 + 1, id := ib + 1, topic := ⟨#[97]⟩, pay := [120] } : Pk)).2).inT ({ kind := 5, id := ib + 1 } : Pk)).outT ({ kind := 6, id := ib + 1 } : Pk)).2).outT ({ kind := 3, qos := qa % 2 + 1, id := ib + 1, topic := ⟨#[97]⟩, pay := [120], dup := dup } : Pk)).2) m6 _ T (by omega) (flat_o _ _ (by decide)) (by constructor <;> decide)) ?_ (hw := (f94.yes rfl rfl))
    clear f91 f92 a91 f93 a93
    rintro e w12 ⟨rfl, m7, T7, up7, kc12, nw7⟩
    have lo0 := T.lo
    have npk0 := T.noPk
    have ltp := Bg4.lt
    refine ⟨_, rfl, fun a95 f95 => ?_⟩
    have szw12 := kc12.size
    replace HK := HK.trans kc12 (fun x hx hlt => by have := lo0 x hx; omega)
    replace Bg4 := Bg4.kept kc12 NF
    replace PO := PO.keptT kc12 npk0
    clear f94 a94 kc12
    have T := T7
    clear T7
    replace NF : g4 ∉ m7.fp g := fun h => (nw7.1 _ h).elim NF (fun h => by omega)
    refine L.va f95 (E.not f95 rfl) (hw := (f95.yes rfl rfl)) fun a96 f96 => ?_
    refine L.va f96 (E.pickT f96 rfl rfl) fun a97 f97 => ?_
    refine L.ag f97 fun a98 f98 => ?_
    refine wpList_nil (hK35 _ _ ?_)
    have f99 := f98.sub (sc 12 sn)
    refine wp_ret ?_
    try simp only [Exit.inBlock, Exit.then]
    refine C.ret (P := Try.prog) (fn := Try.f5) f99 rfl rfl ?_
    refine ⟨HK, ?_⟩
    clear f95 a95 f96 a96 f97 a97 f98
    (simp only [i4, Bool.not_false]; done)
   have hs94 := h54
   refine L.run f92 (rest' := []) (by kernel_rfl) fun a93 f93 => ?_
   clear f91
   skip
   refine wpList_nil (hK35 _ _ ?_)
   have f94 := f93.sub (sub_cons (i := 12) (v := .bool false) (by kernel_rfl) sn)
   refine wp_ret ?_
   try simp only [Exit.inBlock, Exit.then]
   refine C.ret (P := Try.prog) (fn := Try.f5) f94 rfl rfl ?_
   refine ⟨HK, ?_⟩
   clear f93 f92
   (exfalso; simp_all; done)
  have hs81 := h49
  refine L.sk f77 (f77.noT rfl rfl) fun a78 f78 => ?_
  refine L.va f78 (E.pickF f78 rfl rfl) (hw := (f78.yes rfl rfl)) fun a79 f79 => ?_
  refine L.mv f79 (hw := (f79.yes rfl rfl)) fun a80 f80 => ?_
  refine L.sk f80 (f80.noT rfl rfl) fun a81 f81 => ?_
  refine L.sk f81 (f81.noT rfl rfl) fun a82 f82 => ?_
  refine L.sk f82 (f82.noT rfl rfl) fun a83 f83 => ?_
  refine L.sk f83 (f83.noU rfl rfl) fun a84 f84 => ?_
  clear f76 f77 a76 f78 a78 f79 a79 f80 a80 f81 a81 f82 a82 f83 a83
  refine L.sk f84 (f84.noT rfl rfl) fun a85 f85 => ?_
  refine L.sk f85 (f85.noT rfl rfl) fun a86 f86 => ?_
  refine L.va f86 (E.pickF f86 rfl rfl) (hw := (f86.yes rfl rfl)) fun a87 f87 => ?_
  refine L.va f87 (E.pickF f87 rfl rfl) fun a88 f88 => ?_
  refine L.va f88 (E.eqlB f88 Try.underlying4 rfl rfl) fun a89 f89 => ?_
  refine L.mv f89 fun a90 f90 => ?_
  clear f84 a84 f85 a85 f86 a86 f87 a87 f88 a88 f89 a89
  refine f90.splitD 94 rfl (fun h55 f91 => ?_) (fun h55 f91 => ?_)
  ·have hs94 := h55
   refine L.mv f91 (hw := (f91.yes rfl rfl)) fun a92 f92 => ?_
   refine L.va f92 (E.build f92 (parts1 f92 rfl) (wbl34_0_tr1 _)) (hw := (f92.yes rfl rfl)) fun a93 f93 => ?_
   refine L.cl f93 (run_call Try.call14 (args2 f93 rfl rfl)) (out_any ({ kind := 2 } : Pk) s0 (by decide) w.heap.size g ((((((((trG).outT ({ kind := 3, qos := qa % 2 + 1, id := ib + 1, topic := ⟨#[97]⟩, pay := [120] } : Pk)).2).inT ({ kind := 5, id := ib + 1 } : Pk)).outT ({ kind := 6, id := ib + 1 } : Pk)).2).outT ({ kind := 3, qos := qa % 2 + 1, id := ib + 1, topic := ⟨#[97]⟩, pay := [120], dup := dup } : Pk)).2) m6 _ T (by omega) (flat_o _ _ (by decide)) (by constructor <;> decide)) ?_ (hw := (f93.yes rfl rfl))
   clear f90 f91 a90 f92 a92
   rintro e w12 ⟨rfl, m7, T7, up7, kc12, nw7⟩
   have lo0 := T.lo
   have npk0 := T.noPk
   have ltp := Bg4.lt
   refine ⟨_, rfl, fun a94 f94 => ?_⟩
   have szw12 := kc12.size
   replace HK := HK.trans kc12 (fun x hx hlt => by have := lo0 x hx; omega)
   replace Bg4 := Bg4.kept kc12 NF
   replace PO := PO.keptT kc12 npk0
   clear f93 a93 kc12
   have T := T7
   clear T7
   replace NF : g4 ∉ m7.fp g := fun h => (nw7.1 _ h).elim NF (fun h => by omega)
   refine L.va f94 (E.not f94 rfl) (hw := (f94.yes rfl rfl)) fun a95 f95 => ?_
   refine L.va f95 (E.pickT f95 rfl rfl) fun a96 f96 => ?_
   refine L.ag f96 fun a97 f97 => ?_
   refine wpList_nil (hK35 _ _ ?_)
   have f98 := f97.sub (sc 12 sn)
   refine wp_ret ?_
   try simp only [Exit.inBlock, Exit.then]
   refine C.ret (P := Try.prog) (fn := Try.f5) f98 rfl rfl ?_
   refine ⟨HK, ?_⟩
   clear f94 a94 f95 a95 f96 a96 f97
   (simp only [i4, Bool.not_false]; done)
  have hs94 := h55
  refine L.run f91 (rest' := []) (by kernel_rfl) fun a92 f92 => ?_
  clear f90
  skip
  refine wpList_nil (hK35 _ _ ?_)
  have f93 := f92.sub (sub_cons (i := 12) (v := .bool false) (by kernel_rfl) sn)
  refine wp_ret ?_
  try simp only [Exit.inBlock, Exit.then]
  refine C.ret (P := Try.prog) (fn := Try.f5) f93 rfl rfl ?_
  refine ⟨HK, ?_⟩
  clear f92 f91
  (exfalso; simp_all; done)
 clear f36
 subst h0
 refine C.condF f37 rfl ?_
 refine wp_skip (hK8 _ _ ?_)
 have f38 := f37.sub (sc 2 (sc 3 (sc 4 (sc 5 (sc 13 (sc 14 (sc 15 sn)))))))
 refine wp_seq_k fun K36 hK36 => ?_
 refine C.sk fun K37 hK37 => ?_
 refine L.mv f38 fun a39 f39 => ?_
 refine wpList_nil (hK37 _ _ ?_)
 have f40 := f39.sub (sc 2 (sc 3 (sc 4 (sc 5 (sc 13 (sc 14 (sc 15 (sc 49 sn))))))))
 clear f37 f38 a35 f39
 refine f40.split 49 rfl (fun h56 f41 => ?_) (fun h56 f41 => ?_)
 ·clear f40
  subst h56
  refine C.condT f41 rfl ?_
  have hd13 : Kept [] w7 (w7.drewN 1) := (Kept.refl _ _).drewN 1
  refine R.beginT (S := fun _ => True) (by kernel_rfl) (by kernel_rfl) trivial fun ht => ?_
  obtain ⟨w8, hww8⟩ : ∃ W, W = w7.drewN 1 := ⟨_, rfl⟩
  rw [← hww8] at hd13 ⊢
  clear hww8
  have szw8 := hd13.size
  replace HK := HK.trans hd13 (by simp)
  replace Bg4 := Bg4.kept hd13 (by simp)
  replace PO := PO.kept0 hd13
  replace T := T.kept0 hd13
  clear hd13
  refine R.u 0 f41 rfl ht trivial (fun W hW => (E.move f41 rfl)) fun a42 f42 => ?_
  refine R.u 2 f42 rfl ht trivial (fun W hW => (E.move f42 rfl)) fun a43 f43 => ?_
  refine R.u 3 f43 rfl ht trivial (fun W hW => (E.sub f43 rfl rfl (IntWalk.i64_in _ (by omega)))) fun a44 f44 => ?_
  refine R.u 6 f44 rfl ht trivial (fun W hW => (E.fa 4 f44 Try.underlying34 rfl wsz3_tr1)) fun a45 f45 => ?_
  clear f41 a39 f42 a42 f43 a43 f44 a44
  refine Gp.enter (G := [1, 4, 5, 7]) (L0 := #[true, false, true, true, false, false, true, false, false, false]) (L1 := #[true, true, true, true, true, true, true, true, false, false]) (fuel := 2) (fun mS a W => ∃ v51 v54 v55 v57 : Value, Fr 100 a [(2, .bool dup), (3, .bool same), (4, .bool false), (5, .bool true), (13, .pointer (some ⟨g, 0, none⟩)), (14, .int .i64 (qa % 2 + 1)), (15, .pointer (some ⟨g4, 0, none⟩)), (50, .pointer (some ⟨g, 0, none⟩)), (53, .int .i64 (qa % 2 + 1 - 1)), (56, .pointer (some ⟨g4, 0 + 4, none⟩)), (51, v51), (54, v54), (55, v55), (57, v57)] ∧ (Kept [] w W) ∧ (Blk W g4 34 #[.int .i64 ({ kind := 3, qos := qa % 2 + 1, id := ib + 1, topic := ⟨#[97]⟩, pay := [120] } : Pk).kind, .bool ({ kind := 3, qos := qa % 2 + 1, id := ib + 1, topic := ⟨#[97]⟩, pay := [120] } : Pk).dup, .bool ({ kind := 3, qos := qa % 2 + 1, id := ib + 1, topic := ⟨#[97]⟩, pay := [120] } : Pk).retain, .int .i64 ({ kind := 3, qos := qa % 2 + 1, id := ib + 1, topic := ⟨#[97]⟩, pay := [120] } : Pk).qos, .int .i64 ({ kind := 3, qos := qa % 2 + 1, id := ib + 1, topic := ⟨#[97]⟩, pay := [120] } : Pk).id, .string ({ kind := 3, qos := qa % 2 + 1, id := ib + 1, topic := ⟨#[97]⟩, pay := [120] } : Pk).topic, .slice ({ s0 with pa := some ⟨g2, 0, none⟩, pc := 1 } : Ad).pa ({ kind := 3, qos := qa % 2 + 1, id := ib + 1, topic := ⟨#[97]⟩, pay := [120] } : Pk).pay.length ({ s0 with pa := some ⟨g2, 0, none⟩, pc := 1 } : Ad).pc, .int .i64 ({ kind := 3, qos := qa % 2 + 1, id := ib + 1, topic := ⟨#[97]⟩, pay := [120] } : Pk).level, .string ({ kind := 3, qos := qa % 2 + 1, id := ib + 1, topic := ⟨#[97]⟩, pay := [120] } : Pk).client, .bool ({ kind := 3, qos := qa % 2 + 1, id := ib + 1, topic := ⟨#[97]⟩, pay := [120] } : Pk).clean, .int .i64 ({ kind := 3, qos := qa % 2 + 1, id := ib + 1, topic := ⟨#[97]⟩, pay := [120] } : Pk).keep, .bool ({ kind := 3, qos := qa % 2 + 1, id := ib + 1, topic := ⟨#[97]⟩, pay := [120] } : Pk).hasWill, .string ({ kind := 3, qos := qa % 2 + 1, id := ib + 1, topic := ⟨#[97]⟩, pay := [120] } : Pk).wt, .slice ({ s0 with pa := some ⟨g2, 0, none⟩, pc := 1 } : Ad).wa ({ kind := 3, qos := qa % 2 + 1, id := ib + 1, topic := ⟨#[97]⟩, pay := [120] } : Pk).wp.length ({ s0 with pa := some ⟨g2, 0, none⟩, pc := 1 } : Ad).wc, .int .i64 ({ kind := 3, qos := qa % 2 + 1, id := ib + 1, topic := ⟨#[97]⟩, pay := [120] } : Pk).wq, .bool ({ kind := 3, qos := qa % 2 + 1, id := ib + 1, topic := ⟨#[97]⟩, pay := [120] } : Pk).wr, .bool ({ kind := 3, qos := qa % 2 + 1, id := ib + 1, topic := ⟨#[97]⟩, pay := [120] } : Pk).hasUser, .bool ({ kind := 3, qos := qa % 2 + 1, id := ib + 1, topic := ⟨#[97]⟩, pay := [120] } : Pk).hasPass, .string ({ kind := 3, qos := qa % 2 + 1, id := ib + 1, topic := ⟨#[97]⟩, pay := [120] } : Pk).user, .slice ({ s0 with pa := some ⟨g2, 0, none⟩, pc := 1 } : Ad).sa ({ kind := 3, qos := qa % 2 + 1, id := ib + 1, topic := ⟨#[97]⟩, pay := [120] } : Pk).pass.length ({ s0 with pa := some ⟨g2, 0, none⟩, pc := 1 } : Ad).sc, .bool ({ kind := 3, qos := qa % 2 + 1, id := ib + 1, topic := ⟨#[97]⟩, pay := [120] } : Pk).present, .int .i64 ({ kind := 3, qos := qa % 2 + 1, id := ib + 1, topic := ⟨#[97]⟩, pay := [120] } : Pk).code, .slice ({ s0 with pa := some ⟨g2, 0, none⟩, pc := 1 } : Ad).ua ({ kind := 3, qos := qa % 2 + 1, id := ib + 1, topic := ⟨#[97]⟩, pay := [120] } : Pk).subs.length ({ s0 with pa := some ⟨g2, 0, none⟩, pc := 1 } : Ad).uc, .slice ({ s0 with pa := some ⟨g2, 0, none⟩, pc := 1 } : Ad).ca ({ kind := 3, qos := qa % 2 + 1, id := ib + 1, topic := ⟨#[97]⟩, pay := [120] } : Pk).codes.length ({ s0 with pa := some ⟨g2, 0, none⟩, pc := 1 } : Ad).cc]) ∧ (PkO W ({ kind := 3, qos := qa % 2 + 1, id := ib + 1, topic := ⟨#[97]⟩, pay := [120] } : Pk) ({ s0 with pa := some ⟨g2, 0, none⟩, pc := 1 } : Ad)) ∧ (TrIn w.heap.size W g (((trG).outT ({ kind := 3, qos := qa % 2 + 1, id := ib + 1, topic := ⟨#[97]⟩, pay := [120] } : Pk)).2) m3) ∧ (mS.testBit 1 = true → PhiN 3 2 #[.int .i64 4, .int .i64 7] v51 W) ∧ (mS.testBit 4 = true → PhiP (qa % 2 + 1 - 1) v54 W) ∧ (mS.testBit 5 = true → PhiV (.int .i64 (if qa % 2 + 1 = 1 then 4 else 7 : Int)) v55 W) ∧ (mS.testBit 7 = true → PhiV (.int .i64 (ib + 1)) v57 W)) (by kernel_rfl) (by kernel_rfl) ?_ ?_ ?_
  ·obtain ⟨v51, f46⟩ := f45.any 51 (by decide)
   obtain ⟨v54, f47⟩ := f46.any 54 (by decide)
   obtain ⟨v55, f48⟩ := f47.any 55 (by decide)
   obtain ⟨v57, f49⟩ := f48.any 57 (by decide)
   exact ⟨v51, v54, v55, v57, f49.sub (sub_cons rfl (sub_cons rfl (sub_cons rfl (sub_cons rfl (sub_cons rfl (sub_cons rfl (sub_cons rfl (sub_cons rfl (sub_cons rfl (sub_cons rfl (sub_cons rfl (sub_cons rfl (sub_cons rfl (sub_cons rfl sn)))))))))))))), HK, Bg4, PO, T, fun q => absurd q (by simp), fun q => absurd q (by simp), fun q => absurd q (by simp), fun q => absurd q (by simp)⟩
  ·intro mS i_ a46 w9 hm hcl hi hG hI
   obtain ⟨v51, v54, v55, v57, f46, HK, Bg4, PO, T, P1, P4, P5, P7⟩ := hI
   simp only [List.mem_cons, List.not_mem_nil, or_false] at hG
   rcases hG with rfl | rfl | rfl | rfl
   ·skip
    refine O.buildSlice f46 rfl wantedN (by decide) (parts2 f46 rfl rfl) Try.underlying32 wzi3_tr1 rfl rfl (wbs32_2_tr1 _ _) (fun _ _ => trivial) fun a47 w10 g9 N9 hSn f47 => ?_
    clear hSn
    have Bg9 := N9.blk
    have kg9 := N9.kept
    have log9 := N9.lo
    have ltg9 := Bg9.lt
    have szw10 := kg9.size
    have frg9 : w.heap.size ≤ g9 := Nat.le_trans HK.size log9
    have neg4_g9 : g4 ≠ g9 := by have := Bg4.lt; omega
    replace HK := HK.trans kg9 (by simp)
    replace Bg4 := Bg4.kept kg9 (by simp)
    replace PO := PO.kept0 kg9
    replace T := T.kept0 kg9
    replace P1 := fun q => (P1 q).kept kg9
    replace P4 := fun q => (P4 q).kept kg9
    replace P5 := fun q => (P5 q).kept kg9
    replace P7 := fun q => (P7 q).kept kg9
    clear N9 kg9
    exact ⟨_, _, _, _, f47.sub (sub_cons rfl (sub_cons rfl (sub_cons rfl (sub_cons rfl (sub_cons rfl (sub_cons rfl (sub_cons rfl (sub_cons rfl (sub_cons rfl (sub_cons rfl (sub_cons rfl (sub_cons rfl (sub_cons rfl (sub_cons rfl sn)))))))))))))), HK, Bg4, PO, T, fun _ => ⟨g9, rfl, Bg9⟩, fun q => P4 (by rwa [Gp.other (by decide)] at q), fun q => P5 (by rwa [Gp.other (by decide)] at q), fun q => P7 (by rwa [Gp.other (by decide)] at q)⟩
   ·skip
    have D1 := P1 (Gp.need (j := 1) (by kernel_rfl) hm hcl hi)
    obtain ⟨gz, rfl, Bgz⟩ := D1
    refine O.val f46 rfl rfl (by decide) wantedN (E.indexA f46 (by rfl) Try.underlying32 wsz3_tr1 rfl rfl (by omega) (by omega)) trivial fun a47 f47 => ?_
    exact ⟨_, _, _, _, f47.sub (sub_cons rfl (sub_cons rfl (sub_cons rfl (sub_cons rfl (sub_cons rfl (sub_cons rfl (sub_cons rfl (sub_cons rfl (sub_cons rfl (sub_cons rfl (sub_cons rfl (sub_cons rfl (sub_cons rfl (sub_cons rfl sn)))))))))))))), HK, Bg4, PO, T, fun q => P1 (by rwa [Gp.other (by decide)] at q), fun _ => ⟨_, rfl, Bgz⟩, fun q => P5 (by rwa [Gp.other (by decide)] at q), fun q => P7 (by rwa [Gp.other (by decide)] at q)⟩
   ·skip
    have D4 := P4 (Gp.need (j := 4) (by kernel_rfl) hm hcl hi)
    obtain ⟨gy, rfl, Bgy⟩ := D4
    refine O.val f46 rfl rfl (by decide) wantedN (E.load f46 Try.underlying3 rfl rfl (kd_cell Bgy hq)) trivial fun a47 f47 => ?_
    exact ⟨_, _, _, _, f47.sub (sub_cons rfl (sub_cons rfl (sub_cons rfl (sub_cons rfl (sub_cons rfl (sub_cons rfl (sub_cons rfl (sub_cons rfl (sub_cons rfl (sub_cons rfl (sub_cons rfl (sub_cons rfl (sub_cons rfl (sub_cons rfl sn)))))))))))))), HK, Bg4, PO, T, fun q => P1 (by rwa [Gp.other (by decide)] at q), fun q => P4 (by rwa [Gp.other (by decide)] at q), fun _ => rfl, fun q => P7 (by rwa [Gp.other (by decide)] at q)⟩
   skip
   refine O.val f46 rfl rfl (by decide) wantedN (by exact E.ld f46 Try.underlying3 (Bg4)) trivial fun a47 f47 => ?_
   exact ⟨_, _, _, _, f47.sub (sub_cons rfl (sub_cons rfl (sub_cons rfl (sub_cons rfl (sub_cons rfl (sub_cons rfl (sub_cons rfl (sub_cons rfl (sub_cons rfl (sub_cons rfl (sub_cons rfl (sub_cons rfl (sub_cons rfl (sub_cons rfl sn)))))))))))))), HK, Bg4, PO, T, fun q => P1 (by rwa [Gp.other (by decide)] at q), fun q => P4 (by rwa [Gp.other (by decide)] at q), fun q => P5 (by rwa [Gp.other (by decide)] at q), fun _ => rfl⟩
  intro mS a46 w9 hm hI
  obtain ⟨v51, v54, v55, v57, f46, HK, Bg4, PO, T, P1, P4, P5, P7⟩ := hI
  have D5 := P5 (hm 5 (by decide))
  obtain rfl := D5
  have D7 := P7 (hm 7 (by decide))
  obtain rfl := D7
  clear P1 P4 P5 P7
  refine R.u 8 f46 rfl ht trivial (fun W hW => (E.build f46 (parts2 f46 rfl rfl) (wbl34_0_4_tr1 _ _))) fun a47 f47 => ?_
  refine R.one 9 (by kernel_rfl) ?_
  refine O.call f47 rfl rfl (by decide) wantedN (run_call Try.call12 (args2 f47 rfl rfl)) (in_any ({ kind := (if qa % 2 + 1 = 1 then 4 else 7), id := ib + 1 } : Pk) s0 (wf_small (by show (0 : Int) ≤ ib + 1; omega) (by show ib + 1 ≤ (1000000 : Int); omega)) w.heap.size g (((trG).outT ({ kind := 3, qos := qa % 2 + 1, id := ib + 1, topic := ⟨#[97]⟩, pay := [120] } : Pk)).2) m3 _ T (by omega) (flat_o _ _ ⟨rfl, rfl, rfl, rfl, rfl⟩) (len_id _ _)) ?_
  clear f46 a46
  rintro e w10 ⟨rfl, m4, T4, up4, kc10, nw4⟩
  have lo0 := T.lo
  have npk0 := T.noPk
  have ltp := Bg4.lt
  refine ⟨_, rfl, trivial, fun a48 f48 => ?_⟩
  have szw10 := kc10.size
  replace HK := HK.trans kc10 (fun x hx hlt => by have := lo0 x hx; omega)
  replace Bg4 := Bg4.kept kc10 NF
  replace PO := PO.keptT kc10 npk0
  clear f47 a47 kc10
  have T := T4
  clear T4
  replace NF : g4 ∉ m4.fp g := fun h => (nw4.1 _ h).elim NF (fun h => by omega)
  refine R.done (by kernel_rfl) (hK36 _ _ ?_)
  have f49 := f48.sub (sc 2 (sc 3 (sc 4 (sc 5 (sc 13 (sc 14 (sc 15 sn)))))))
  refine C.sk fun K38 hK38 => ?_
  refine L.mv f49 fun a50 f50 => ?_
  refine L.mv f50 fun a51 f51 => ?_
  clear f48 f49 a48 f50 a50
  refine f51.split 61 rfl (fun h57 f52 => ?_) (fun h57 f52 => ?_)
  ·have hs61 := h57
   refine L.mv f52 (hw := (f52.yes rfl rfl)) fun a53 f53 => ?_
   refine L.va f53 (E.eq f53) (hw := (f53.yes rfl rfl)) fun a54 f54 => ?_
   refine L.mv f54 (hw := (f54.yes rfl rfl)) fun a55 f55 => ?_
   clear f51 f52 a51 f53 a53 f54 a54
   refine f55.splitD 64 rfl (fun h58 f56 => ?_) (fun h58 f56 => ?_)
   ·have hs64 := h58
    refine L.sk f56 (f56.noF rfl rfl) fun a57 f57 => ?_
    refine L.va f57 (E.pickT f57 rfl rfl) (hw := (f57.yes rfl rfl)) fun a58 f58 => ?_
    refine L.va f58 (E.pickT f58 rfl rfl) fun a59 f59 => ?_
    refine L.ag f59 fun a60 f60 => ?_
    refine wpList_nil (hK38 _ _ ?_)
    have f61 := f60.sub (sc 2 (sc 3 (sc 4 (sc 13 (sc 14 (sc 15 (sc 16 sn)))))))
    refine C.sk fun K39 hK39 => ?_
    refine L.mv f61 fun a62 f62 => ?_
    refine L.va f62 (E.fa 1 f62 Try.underlying34 rfl wsz4_tr1) fun a63 f63 => ?_
    clear f55 f56 a55 f57 a57 f58 a58 f59 a59 f60 f61 a60 f62 a62
    refine L.store f63 wantedN wsz4_tr1 rfl rfl rfl Bg4 (by (simp [Value.cells]; done)) fun a64 w11 f64 NB11 ks11 => ?_
    have szw11 := ks11.size
    replace HK := HK.trans ks11 (fun x hx hlt => by obtain rfl := List.mem_singleton.1 hx; exfalso; omega)
    replace PO := PO.keptT ks11 (NoPk.blk Bg4 (by decide))
    replace T := T.keptX ks11 NF (NoPk.blk Bg4 (by decide))
    replace Bg4 := NB11
    simp only [Value.cells, z1, z2, z3, Nat.reduceAdd, Nat.zero_add] at Bg4
    clear ks11 f63 a63
    refine wpList_nil (hK39 _ _ ?_)
    have f65 := f64.sub (sc 2 (sc 3 (sc 4 (sc 13 (sc 14 (sc 15 (sc 16 sn)))))))
    refine wp_seq_k fun K40 hK40 => ?_
    refine C.sk fun K41 hK41 => ?_
    refine L.mv f65 fun a66 f66 => ?_
    refine L.va f66 (E.not f66 rfl) fun a67 f67 => ?_
    refine wpList_nil (hK41 _ _ ?_)
    have f68 := f67.sub (sc 2 (sc 3 (sc 4 (sc 13 (sc 14 (sc 15 (sc 16 (sc 71 sn))))))))
    clear f64 f65 a64 f66 a66 f67
    refine f68.splitNB 71 rfl (fun h59 f69 => ?_) (fun h59 f69 => ?_)
    ·have hs71 := h59
     refine C.condT f69 rfl ?_
     have HR : Kept [g4] w11 w11 := Kept.refl _ _
     have nop := NoPk.blk Bg4 (by decide : 34 ∉ [5, 46, 3])
     refine C.region ?_
     refine L.buildSlice f69 wantedN (by decide) (parts1 f69 rfl) Try.underlying28 wzi5_tr1 rfl rfl (wbs28_1_tr1 _) fun a70 w12 g11 N11 f70 => ?_
     have Bg11 := N11.blk
     have kg11 := N11.kept
     have log11 := N11.lo
     have ltg11 := Bg11.lt
     have szw12 := kg11.size
     have frg11 : w.heap.size ≤ g11 := Nat.le_trans HK.size log11
     have frg11_HR : w11.heap.size ≤ g11 := Nat.le_trans HR.size log11
     have neg4_g11 : g4 ≠ g11 := by have := Bg4.lt; omega
     replace HK := HK.trans kg11 (by simp)
     replace Bg4 := Bg4.kept kg11 (by simp)
     replace HR := HR.trans kg11 (by simp)
     clear f68 N11 kg11
     obtain ⟨w13, hcv, ks, HM⟩ := run_mark (n := 1) (c := 1) Bg11 Try.underlying28 Try.underlying5
     refine L.va f70 (E.convV f70 rfl hcv) fun a71 f71 => ?_
     have szw13 := ks.size
     replace HK := HK.trans ks (fun x hx hlt => by obtain rfl := List.mem_singleton.1 hx; exfalso; omega)
     replace Bg4 := Bg4.kept ks (by simp; omega)
     replace HR := HR.trans ks (fun x hx hlt => by obtain rfl := List.mem_singleton.1 hx; exfalso; omega)
     clear f69 a67 hcv ks f70 a70
     refine L.va f71 (E.fa 6 f71 Try.underlying34 rfl wsz28_tr1) fun a72 f72 => ?_
     refine L.store f72 wantedN wsz28_tr1 rfl rfl rfl Bg4 (by (simp [Value.cells]; done)) fun a73 w14 f73 NB14 ks14 => ?_
     have szw14 := ks14.size
     replace HK := HK.trans ks14 (fun x hx hlt => by obtain rfl := List.mem_singleton.1 hx; exfalso; omega)
     replace HR := HR.trans ks14 (fun x hx hlt => hx)
     replace HM := heap_kept HM ks14 (by simp; omega)
     replace Bg4 := NB14
     simp only [Value.cells, z1, z2, z3, Nat.reduceAdd, Nat.zero_add] at Bg4
     clear f71 a71 ks14 f72 a72
     refine wpList_nil (hK40 _ _ ?_)
     have f74 := f73.sub (sc 2 (sc 3 (sc 4 (sc 13 (sc 14 (sc 15 (sc 16 sn)))))))
     refine wp_seq_k fun K42 hK42 => ?_
     have hI := ids_true hq' hi' dup same false true
     clear f73
     unfold idsB at hI
     simp only [Bool.and_eq_true, beq_iff_eq, if_true, Bool.false_eq_true, if_false, Bool.not_eq_true'] at hI
     obtain ⟨⟨⟨i1, i2⟩, i3⟩, i4⟩ := hI
     simp only [hs71, if_true, if_false, Bool.false_eq_true, reduceIte, ite_true, ite_false] at i3 i4
     clear i1 i2
     have PO : PkO w14 ({ kind := 3, qos := qa % 2 + 1, id := ib + 1, topic := ⟨#[97]⟩, pay := [121], dup := dup } : Pk) ({ s0 with pa := some ⟨g11, 0, none⟩, pc := 1 } : Ad) := pay_o HM _ rfl rfl rfl rfl rfl
     replace T := T.keptX HR NF nop
     clear HR
     refine C.region ?_
     refine L.mv f74 fun a75 f75 => ?_
     refine L.va f75 (by exact E.loadB f75 Try.underlying34 rfl wsz34_tr1 rfl (Bg4) rfl) fun a76 f76 => ?_
     refine L.cl f76 (run_call Try.call14 (args2 f76 rfl rfl)) (out_any ({ kind := 3, qos := qa % 2 + 1, id := ib + 1, topic := ⟨#[97]⟩, pay := [121], dup := dup } : Pk) ({ s0 with pa := some ⟨g11, 0, none⟩, pc := 1 } : Ad) (wf_small (by show (0 : Int) ≤ ib + 1; omega) (by show ib + 1 ≤ (1000000 : Int); omega)) w.heap.size g ((((trG).outT ({ kind := 3, qos := qa % 2 + 1, id := ib + 1, topic := ⟨#[97]⟩, pay := [120] } : Pk)).2).inT ({ kind := (if qa % 2 + 1 = 1 then 4 else 7), id := ib + 1 } : Pk)) m4 _ T (by omega) PO (len_pub _ _ _ _ _ (by decide))) ?_
     clear f74 a73 f75 a75
     rintro e w15 ⟨rfl, m5, T5, up5, kc15, nw5⟩
     have lo0 := T.lo
     have npk0 := T.noPk
     have ltp := Bg4.lt
     refine ⟨_, rfl, fun a77 f77 => ?_⟩
     have szw15 := kc15.size
     replace HK := HK.trans kc15 (fun x hx hlt => by have := lo0 x hx; omega)
     replace Bg4 := Bg4.kept kc15 NF
     replace PO := PO.keptT kc15 npk0
     clear f76 a76 kc15
     have T := T5
     clear T5
     replace NF : g4 ∉ m5.fp g := fun h => (nw5.1 _ h).elim NF (fun h => by omega)
     refine L.mv f77 fun a78 f78 => ?_
     refine L.mv f78 fun a79 f79 => ?_
     refine L.sk f79 (f79.noF rfl rfl) fun a80 f80 => ?_
     refine L.sk f80 (f80.noF rfl rfl) fun a81 f81 => ?_
     refine L.sk f81 (f81.noU rfl rfl) fun a82 f82 => ?_
     refine L.sk f82 (f82.noF rfl rfl) fun a83 f83 => ?_
     refine L.sk f83 (f83.noF rfl rfl) fun a84 f84 => ?_
     clear f77 a77 f78 a78 f79 a79 f80 a80 f81 a81 f82 a82 f83 a83
     refine L.sk f84 (f84.noU rfl rfl) fun a85 f85 => ?_
     refine L.sk f85 (f85.noU rfl rfl) fun a86 f86 => ?_
     refine L.sk f86 (f86.noU rfl rfl) fun a87 f87 => ?_
     refine L.sk f87 (f87.noU rfl rfl) fun a88 f88 => ?_
     refine L.sk f88 (f88.noU rfl rfl) fun a89 f89 => ?_
     refine L.sk f89 (f89.noU rfl rfl) fun a90 f90 => ?_
     refine L.sk f90 (f90.noF rfl rfl) fun a91 f91 => ?_
     clear f84 a84 f85 a85 f86 a86 f87 a87 f88 a88 f89 a89 f90 a90
     refine L.va f91 (E.pickT f91 rfl rfl) fun a92 f92 => ?_
     refine L.va f92 (E.eqlB f92 Try.underlying4 rfl rfl) fun a93 f93 => ?_
     refine L.mv f93 fun a94 f94 => ?_
     clear f91 a91 f92 a92 f93 a93
     refine f94.splitD 94 rfl (fun h60 f95 => ?_) (fun h60 f95 => ?_)
     ·have hs94 := h60
      refine L.mv f95 (hw := (f95.yes rfl rfl)) fun a96 f96 => ?_
      refine L.va f96 (E.build f96 (parts1 f96 rfl) (wbl34_0_tr1 _)) (hw := (f96.yes rfl rfl)) fun a97 f97 => ?_
      refine L.cl f97 (run_call Try.call14 (args2 f97 rfl rfl)) (out_any ({ kind := 2 } : Pk) s0 (by decide) w.heap.size g ((((((trG).outT ({ kind := 3, qos := qa % 2 + 1, id := ib + 1, topic := ⟨#[97]⟩, pay := [120] } : Pk)).2).inT ({ kind := (if qa % 2 + 1 = 1 then 4 else 7), id := ib + 1 } : Pk)).outT ({ kind := 3, qos := qa % 2 + 1, id := ib + 1, topic := ⟨#[97]⟩, pay := [121], dup := dup } : Pk)).2) m5 _ T (by omega) (flat_o _ _ (by decide)) (by constructor <;> decide)) ?_ (hw := (f97.yes rfl rfl))
      clear f94 f95 a94 f96 a96
      rintro e w16 ⟨rfl, m6, T6, up6, kc16, nw6⟩
      have lo0 := T.lo
      have npk0 := T.noPk
      have ltp := Bg4.lt
      refine ⟨_, rfl, fun a98 f98 => ?_⟩
      have szw16 := kc16.size
      replace HK := HK.trans kc16 (fun x hx hlt => by have := lo0 x hx; omega)
      replace Bg4 := Bg4.kept kc16 NF
      replace PO := PO.keptT kc16 npk0
      clear f97 a97 kc16
      have T := T6
      clear T6
      replace NF : g4 ∉ m6.fp g := fun h => (nw6.1 _ h).elim NF (fun h => by omega)
      refine L.va f98 (E.not f98 rfl) (hw := (f98.yes rfl rfl)) fun a99 f99 => ?_
      refine L.va f99 (E.pickT f99 rfl rfl) fun a100 f100 => ?_
      refine L.ag f100 fun a101 f101 => ?_
      refine wpList_nil (hK42 _ _ ?_)
      have f102 := f101.sub (sc 12 sn)
      refine wp_ret ?_
      try simp only [Exit.inBlock, Exit.then]
      refine C.ret (P := Try.prog) (fn := Try.f5) f102 rfl rfl ?_
      refine ⟨HK, ?_⟩
      clear f98 a98 f99 a99 f100 a100 f101
      (simp only [i4, Bool.not_false]; done)
     have hs94 := h60
     refine L.run f95 (rest' := []) (by kernel_rfl) fun a96 f96 => ?_
     clear f94
     skip
     refine wpList_nil (hK42 _ _ ?_)
     have f97 := f96.sub (sub_cons (i := 12) (v := .bool false) (by kernel_rfl) sn)
     refine wp_ret ?_
     try simp only [Exit.inBlock, Exit.then]
     refine C.ret (P := Try.prog) (fn := Try.f5) f97 rfl rfl ?_
     refine ⟨HK, ?_⟩
     clear f96 f95
     (exfalso; simp_all; done)
    have hs71 := h59
    refine C.condF f69 rfl ?_
    refine wp_skip (hK40 _ _ ?_)
    have f70 := f69.sub (sc 2 (sc 3 (sc 4 (sc 13 (sc 14 (sc 15 (sc 16 sn)))))))
    refine wp_seq_k fun K43 hK43 => ?_
    have hI := ids_true hq' hi' dup same false true
    clear f68 f69
    unfold idsB at hI
    simp only [Bool.and_eq_true, beq_iff_eq, if_true, Bool.false_eq_true, if_false, Bool.not_eq_true'] at hI
    obtain ⟨⟨⟨i1, i2⟩, i3⟩, i4⟩ := hI
    simp only [hs71, if_true, if_false, Bool.false_eq_true, reduceIte, ite_true, ite_false] at i3 i4
    clear i1 i2
    replace PO : PkO w11 ({ kind := 3, qos := qa % 2 + 1, id := ib + 1, topic := ⟨#[97]⟩, pay := [120], dup := dup } : Pk) ({ s0 with pa := some ⟨g2, 0, none⟩, pc := 1 } : Ad) := ⟨PO.pay, PO.wp, PO.pass, PO.subs, PO.codes⟩
    refine C.region ?_
    refine L.mv f70 fun a71 f71 => ?_
    refine L.va f71 (by exact E.loadB f71 Try.underlying34 rfl wsz34_tr1 rfl (Bg4) rfl) fun a72 f72 => ?_
    refine L.cl f72 (run_call Try.call14 (args2 f72 rfl rfl)) (out_any ({ kind := 3, qos := qa % 2 + 1, id := ib + 1, topic := ⟨#[97]⟩, pay := [120], dup := dup } : Pk) ({ s0 with pa := some ⟨g2, 0, none⟩, pc := 1 } : Ad) (wf_small (by show (0 : Int) ≤ ib + 1; omega) (by show ib + 1 ≤ (1000000 : Int); omega)) w.heap.size g ((((trG).outT ({ kind := 3, qos := qa % 2 + 1, id := ib + 1, topic := ⟨#[97]⟩, pay := [120] } : Pk)).2).inT ({ kind := (if qa % 2 + 1 = 1 then 4 else 7), id := ib + 1 } : Pk)) m4 _ T (by omega) PO (len_pub _ _ _ _ _ (by decide))) ?_
    clear f70 a67 f71 a71
    rintro e w12 ⟨rfl, m5, T5, up5, kc12, nw5⟩
    have lo0 := T.lo
    have npk0 := T.noPk
    have ltp := Bg4.lt
    refine ⟨_, rfl, fun a73 f73 => ?_⟩
    have szw12 := kc12.size
    replace HK := HK.trans kc12 (fun x hx hlt => by have := lo0 x hx; omega)
    replace Bg4 := Bg4.kept kc12 NF
    replace PO := PO.keptT kc12 npk0
    clear f72 a72 kc12
    have T := T5
    clear T5
    replace NF : g4 ∉ m5.fp g := fun h => (nw5.1 _ h).elim NF (fun h => by omega)
    refine L.mv f73 fun a74 f74 => ?_
    refine L.mv f74 fun a75 f75 => ?_
    refine L.sk f75 (f75.noF rfl rfl) fun a76 f76 => ?_
    refine L.sk f76 (f76.noF rfl rfl) fun a77 f77 => ?_
    refine L.sk f77 (f77.noU rfl rfl) fun a78 f78 => ?_
    refine L.sk f78 (f78.noF rfl rfl) fun a79 f79 => ?_
    refine L.sk f79 (f79.noF rfl rfl) fun a80 f80 => ?_
    clear f73 a73 f74 a74 f75 a75 f76 a76 f77 a77 f78 a78 f79 a79
    refine L.sk f80 (f80.noU rfl rfl) fun a81 f81 => ?_
    refine L.sk f81 (f81.noU rfl rfl) fun a82 f82 => ?_
    refine L.sk f82 (f82.noU rfl rfl) fun a83 f83 => ?_
    refine L.sk f83 (f83.noU rfl rfl) fun a84 f84 => ?_
    refine L.sk f84 (f84.noU rfl rfl) fun a85 f85 => ?_
    refine L.sk f85 (f85.noU rfl rfl) fun a86 f86 => ?_
    refine L.sk f86 (f86.noF rfl rfl) fun a87 f87 => ?_
    clear f80 a80 f81 a81 f82 a82 f83 a83 f84 a84 f85 a85 f86 a86
    refine L.va f87 (E.pickT f87 rfl rfl) fun a88 f88 => ?_
    refine L.va f88 (E.eqlB f88 Try.underlying4 rfl rfl) fun a89 f89 => ?_
    refine L.mv f89 fun a90 f90 => ?_
    clear f87 a87 f88 a88 f89 a89
    refine f90.splitD 94 rfl (fun h61 f91 => ?_) (fun h61 f91 => ?_)
    ·have hs94 := h61
     refine L.mv f91 (hw := (f91.yes rfl rfl)) fun a92 f92 => ?_
     refine L.va f92 (E.build f92 (parts1 f92 rfl) (wbl34_0_tr1 _)) (hw := (f92.yes rfl rfl)) fun a93 f93 => ?_
     refine L.cl f93 (run_call Try.call14 (args2 f93 rfl rfl)) (out_any ({ kind := 2 } : Pk) s0 (by decide) w.heap.size g ((((((trG).outT ({ kind := 3, qos := qa % 2 + 1, id := ib + 1, topic := ⟨#[97]⟩, pay := [120] } : Pk)).2).inT ({ kind := (if qa % 2 + 1 = 1 then 4 else 7), id := ib + 1 } : Pk)).outT ({ kind := 3, qos := qa % 2 + 1, id := ib + 1, topic := ⟨#[97]⟩, pay := [120], dup := dup } : Pk)).2) m5 _ T (by omega) (flat_o _ _ (by decide)) (by constructor <;> decide)) ?_ (hw := (f93.yes rfl rfl))
     clear f90 f91 a90 f92 a92
     rintro e w13 ⟨rfl, m6, T6, up6, kc13, nw6⟩
     have lo0 := T.lo
     have npk0 := T.noPk
     have ltp := Bg4.lt
     refine ⟨_, rfl, fun a94 f94 => ?_⟩
     have szw13 := kc13.size
     replace HK := HK.trans kc13 (fun x hx hlt => by have := lo0 x hx; omega)
     replace Bg4 := Bg4.kept kc13 NF
     replace PO := PO.keptT kc13 npk0
     clear f93 a93 kc13
     have T := T6
     clear T6
     replace NF : g4 ∉ m6.fp g := fun h => (nw6.1 _ h).elim NF (fun h => by omega)
     refine L.va f94 (E.not f94 rfl) (hw := (f94.yes rfl rfl)) fun a95 f95 => ?_
     refine L.va f95 (E.pickT f95 rfl rfl) fun a96 f96 => ?_
     refine L.ag f96 fun a97 f97 => ?_
     refine wpList_nil (hK43 _ _ ?_)
     have f98 := f97.sub (sc 12 sn)
     refine wp_ret ?_
     try simp only [Exit.inBlock, Exit.then]
     refine C.ret (P := Try.prog) (fn := Try.f5) f98 rfl rfl ?_
     refine ⟨HK, ?_⟩
     clear f94 a94 f95 a95 f96 a96 f97
     (simp only [i4, Bool.not_false]; done)
    have hs94 := h61
    refine L.run f91 (rest' := []) (by kernel_rfl) fun a92 f92 => ?_
    clear f90
    skip
    refine wpList_nil (hK43 _ _ ?_)
    have f93 := f92.sub (sub_cons (i := 12) (v := .bool false) (by kernel_rfl) sn)
    refine wp_ret ?_
    try simp only [Exit.inBlock, Exit.then]
    refine C.ret (P := Try.prog) (fn := Try.f5) f93 rfl rfl ?_
    refine ⟨HK, ?_⟩
    clear f92 f91
    (exfalso; simp_all; done)
   have hs64 := h58
   refine L.mv f56 (hw := (f56.yes rfl rfl)) fun a57 f57 => ?_
   refine L.va f57 (E.pickF f57 rfl rfl) (hw := (f57.yes rfl rfl)) fun a58 f58 => ?_
   refine L.va f58 (E.pickT f58 rfl rfl) fun a59 f59 => ?_
   refine L.ag f59 fun a60 f60 => ?_
   refine wpList_nil (hK38 _ _ ?_)
   have f61 := f60.sub (sc 2 (sc 3 (sc 4 (sc 13 (sc 14 (sc 15 (sc 16 sn)))))))
   refine C.sk fun K44 hK44 => ?_
   refine L.mv f61 fun a62 f62 => ?_
   refine L.va f62 (E.fa 1 f62 Try.underlying34 rfl wsz4_tr1) fun a63 f63 => ?_
   clear f55 f56 a55 f57 a57 f58 a58 f59 a59 f60 f61 a60 f62 a62
   refine L.store f63 wantedN wsz4_tr1 rfl rfl rfl Bg4 (by (simp [Value.cells]; done)) fun a64 w11 f64 NB11 ks11 => ?_
   have szw11 := ks11.size
   replace HK := HK.trans ks11 (fun x hx hlt => by obtain rfl := List.mem_singleton.1 hx; exfalso; omega)
   replace PO := PO.keptT ks11 (NoPk.blk Bg4 (by decide))
   replace T := T.keptX ks11 NF (NoPk.blk Bg4 (by decide))
   replace Bg4 := NB11
   simp only [Value.cells, z1, z2, z3, Nat.reduceAdd, Nat.zero_add] at Bg4
   clear ks11 f63 a63
   refine wpList_nil (hK44 _ _ ?_)
   have f65 := f64.sub (sc 2 (sc 3 (sc 4 (sc 13 (sc 14 (sc 15 (sc 16 sn)))))))
   refine wp_seq_k fun K45 hK45 => ?_
   refine C.sk fun K46 hK46 => ?_
   refine L.mv f65 fun a66 f66 => ?_
   refine L.va f66 (E.not f66 rfl) fun a67 f67 => ?_
   refine wpList_nil (hK46 _ _ ?_)
   have f68 := f67.sub (sc 2 (sc 3 (sc 4 (sc 13 (sc 14 (sc 15 (sc 16 (sc 71 sn))))))))
   clear f64 f65 a64 f66 a66 f67
   refine f68.splitNB 71 rfl (fun h62 f69 => ?_) (fun h62 f69 => ?_)
   ·have hs71 := h62
    refine C.condT f69 rfl ?_
    have HR : Kept [g4] w11 w11 := Kept.refl _ _
    have nop := NoPk.blk Bg4 (by decide : 34 ∉ [5, 46, 3])
    refine C.region ?_
    refine L.buildSlice f69 wantedN (by decide) (parts1 f69 rfl) Try.underlying28 wzi5_tr1 rfl rfl (wbs28_1_tr1 _) fun a70 w12 g11 N11 f70 => ?_
    have Bg11 := N11.blk
    have kg11 := N11.kept
    have log11 := N11.lo
    have ltg11 := Bg11.lt
    have szw12 := kg11.size
    have frg11 : w.heap.size ≤ g11 := Nat.le_trans HK.size log11
    have frg11_HR : w11.heap.size ≤ g11 := Nat.le_trans HR.size log11
    have neg4_g11 : g4 ≠ g11 := by have := Bg4.lt; omega
    replace HK := HK.trans kg11 (by simp)
    replace Bg4 := Bg4.kept kg11 (by simp)
    replace HR := HR.trans kg11 (by simp)
    clear f68 N11 kg11
    obtain ⟨w13, hcv, ks, HM⟩ := run_mark (n := 1) (c := 1) Bg11 Try.underlying28 Try.underlying5
    refine L.va f70 (E.convV f70 rfl hcv) fun a71 f71 => ?_
    have szw13 := ks.size
    replace HK := HK.trans ks (fun x hx hlt => by obtain rfl := List.mem_singleton.1 hx; exfalso; omega)
    replace Bg4 := Bg4.kept ks (by simp; omega)
    replace HR := HR.trans ks (fun x hx hlt => by obtain rfl := List.mem_singleton.1 hx; exfalso; omega)
    clear f69 a67 hcv ks f70 a70
    refine L.va f71 (E.fa 6 f71 Try.underlying34 rfl wsz28_tr1) fun a72 f72 => ?_
    refine L.store f72 wantedN wsz28_tr1 rfl rfl rfl Bg4 (by (simp [Value.cells]; done)) fun a73 w14 f73 NB14 ks14 => ?_
    have szw14 := ks14.size
    replace HK := HK.trans ks14 (fun x hx hlt => by obtain rfl := List.mem_singleton.1 hx; exfalso; omega)
    replace HR := HR.trans ks14 (fun x hx hlt => hx)
    replace HM := heap_kept HM ks14 (by simp; omega)
    replace Bg4 := NB14
    simp only [Value.cells, z1, z2, z3, Nat.reduceAdd, Nat.zero_add] at Bg4
    clear f71 a71 ks14 f72 a72
    refine wpList_nil (hK45 _ _ ?_)
    have f74 := f73.sub (sc 2 (sc 3 (sc 4 (sc 13 (sc 14 (sc 15 (sc 16 sn)))))))
    refine wp_seq_k fun K47 hK47 => ?_
    have hI := ids_true hq' hi' dup same false true
    clear f73
    unfold idsB at hI
    simp only [Bool.and_eq_true, beq_iff_eq, if_true, Bool.false_eq_true, if_false, Bool.not_eq_true'] at hI
    obtain ⟨⟨⟨i1, i2⟩, i3⟩, i4⟩ := hI
    simp only [hs71, if_true, if_false, Bool.false_eq_true, reduceIte, ite_true, ite_false] at i3 i4
    clear i1 i2
    have PO : PkO w14 ({ kind := 3, qos := qa % 2 + 1, id := ib + 1, topic := ⟨#[97]⟩, pay := [121], dup := dup } : Pk) ({ s0 with pa := some ⟨g11, 0, none⟩, pc := 1 } : Ad) := pay_o HM _ rfl rfl rfl rfl rfl
    replace T := T.keptX HR NF nop
    clear HR
    refine C.region ?_
    refine L.mv f74 fun a75 f75 => ?_
    refine L.va f75 (by exact E.loadB f75 Try.underlying34 rfl wsz34_tr1 rfl (Bg4) rfl) fun a76 f76 => ?_
    refine L.cl f76 (run_call Try.call14 (args2 f76 rfl rfl)) (out_any ({ kind := 3, qos := qa % 2 + 1, id := ib + 1, topic := ⟨#[97]⟩, pay := [121], dup := dup } : Pk) ({ s0 with pa := some ⟨g11, 0, none⟩, pc := 1 } : Ad) (wf_small (by show (0 : Int) ≤ ib + 1; omega) (by show ib + 1 ≤ (1000000 : Int); omega)) w.heap.size g ((((trG).outT ({ kind := 3, qos := qa % 2 + 1, id := ib + 1, topic := ⟨#[97]⟩, pay := [120] } : Pk)).2).inT ({ kind := (if qa % 2 + 1 = 1 then 4 else 7), id := ib + 1 } : Pk)) m4 _ T (by omega) PO (len_pub _ _ _ _ _ (by decide))) ?_
    clear f74 a73 f75 a75
    rintro e w15 ⟨rfl, m5, T5, up5, kc15, nw5⟩
    have lo0 := T.lo
    have npk0 := T.noPk
    have ltp := Bg4.lt
    refine ⟨_, rfl, fun a77 f77 => ?_⟩
    have szw15 := kc15.size
    replace HK := HK.trans kc15 (fun x hx hlt => by have := lo0 x hx; omega)
    replace Bg4 := Bg4.kept kc15 NF
    replace PO := PO.keptT kc15 npk0
    clear f76 a76 kc15
    have T := T5
    clear T5
    replace NF : g4 ∉ m5.fp g := fun h => (nw5.1 _ h).elim NF (fun h => by omega)
    refine L.mv f77 fun a78 f78 => ?_
    refine L.mv f78 fun a79 f79 => ?_
    clear f77 a77 f78 a78
    refine f79.split 79 rfl (fun h63 f80 => ?_) (fun h63 f80 => ?_)
    ·have hs79 := h63
     refine L.sk f80 (f80.noF rfl rfl) fun a81 f81 => ?_
     refine L.sk f81 (f81.noF rfl rfl) fun a82 f82 => ?_
     refine L.sk f82 (f82.noU rfl rfl) fun a83 f83 => ?_
     refine L.sk f83 (f83.noF rfl rfl) fun a84 f84 => ?_
     refine L.sk f84 (f84.noF rfl rfl) fun a85 f85 => ?_
     refine L.sk f85 (f85.noU rfl rfl) fun a86 f86 => ?_
     refine L.sk f86 (f86.noU rfl rfl) fun a87 f87 => ?_
     clear f79 f80 a79 f81 a81 f82 a82 f83 a83 f84 a84 f85 a85 f86 a86
     refine L.sk f87 (f87.noU rfl rfl) fun a88 f88 => ?_
     refine L.sk f88 (f88.noU rfl rfl) fun a89 f89 => ?_
     refine L.sk f89 (f89.noU rfl rfl) fun a90 f90 => ?_
     refine L.sk f90 (f90.noU rfl rfl) fun a91 f91 => ?_
     refine L.sk f91 (f91.noF rfl rfl) fun a92 f92 => ?_
     refine L.va f92 (E.pickT f92 rfl rfl) fun a93 f93 => ?_
     refine L.va f93 (E.eqlB f93 Try.underlying4 rfl rfl) fun a94 f94 => ?_
     clear f87 a87 f88 a88 f89 a89 f90 a90 f91 a91 f92 a92 f93 a93
     refine L.mv f94 fun a95 f95 => ?_
     clear f94 a94
     refine f95.splitD 94 rfl (fun h64 f96 => ?_) (fun h64 f96 => ?_)
     ·have hs94 := h64
      refine L.mv f96 (hw := (f96.yes rfl rfl)) fun a97 f97 => ?_
      refine L.va f97 (E.build f97 (parts1 f97 rfl) (wbl34_0_tr1 _)) (hw := (f97.yes rfl rfl)) fun a98 f98 => ?_
      refine L.cl f98 (run_call Try.call14 (args2 f98 rfl rfl)) (out_any ({ kind := 2 } : Pk) s0 (by decide) w.heap.size g ((((((trG).outT ({ kind := 3, qos := qa % 2 + 1, id := ib + 1, topic := ⟨#[97]⟩, pay := [120] } : Pk)).2).inT ({ kind := (if qa % 2 + 1 = 1 then 4 else 7), id := ib + 1 } : Pk)).outT ({ kind := 3, qos := qa % 2 + 1, id := ib + 1, topic := ⟨#[97]⟩, pay := [121], dup := dup } : Pk)).2) m5 _ T (by omega) (flat_o _ _ (by decide)) (by constructor <;> decide)) ?_ (hw := (f98.yes rfl rfl))
      clear f95 f96 a95 f97 a97
      rintro e w16 ⟨rfl, m6, T6, up6, kc16, nw6⟩
      have lo0 := T.lo
      have npk0 := T.noPk
      have ltp := Bg4.lt
      refine ⟨_, rfl, fun a99 f99 => ?_⟩
      have szw16 := kc16.size
      replace HK := HK.trans kc16 (fun x hx hlt => by have := lo0 x hx; omega)
      replace Bg4 := Bg4.kept kc16 NF
      replace PO := PO.keptT kc16 npk0
      clear f98 a98 kc16
      have T := T6
      clear T6
      replace NF : g4 ∉ m6.fp g := fun h => (nw6.1 _ h).elim NF (fun h => by omega)
      refine L.va f99 (E.not f99 rfl) (hw := (f99.yes rfl rfl)) fun a100 f100 => ?_
      refine L.va f100 (E.pickT f100 rfl rfl) fun a101 f101 => ?_
      refine L.ag f101 fun a102 f102 => ?_
      refine wpList_nil (hK47 _ _ ?_)
      have f103 := f102.sub (sc 12 sn)
      refine wp_ret ?_
      try simp only [Exit.inBlock, Exit.then]
      refine C.ret (P := Try.prog) (fn := Try.f5) f103 rfl rfl ?_
      refine ⟨HK, ?_⟩
      clear f99 a99 f100 a100 f101 a101 f102
      (simp only [i4, Bool.not_false]; done)
     have hs94 := h64
     refine L.run f96 (rest' := []) (by kernel_rfl) fun a97 f97 => ?_
     clear f95
     skip
     refine wpList_nil (hK47 _ _ ?_)
     have f98 := f97.sub (sub_cons (i := 12) (v := .bool false) (by kernel_rfl) sn)
     refine wp_ret ?_
     try simp only [Exit.inBlock, Exit.then]
     refine C.ret (P := Try.prog) (fn := Try.f5) f98 rfl rfl ?_
     refine ⟨HK, ?_⟩
     clear f97 f96
     (exfalso; simp_all; done)
    have hs79 := h63
    refine L.mv f80 (hw := (f80.yes rfl rfl)) fun a81 f81 => ?_
    refine L.mv f81 (hw := (f81.yes rfl rfl)) fun a82 f82 => ?_
    clear f79 f80 a79 f81 a81
    refine f82.split 81 rfl (fun h65 f83 => ?_) (fun h65 f83 => ?_)
    ·have hs81 := h65
     refine L.mv f83 (hw := (f83.yes rfl rfl)) fun a84 f84 => ?_
     refine L.va f84 (E.pickT f84 rfl rfl) (hw := (f84.yes rfl rfl)) fun a85 f85 => ?_
     refine L.mv f85 (hw := (f85.yes rfl rfl)) fun a86 f86 => ?_
     clear f82 f83 a82 f84 a84 f85 a85
     refine f86.split 84 rfl (fun h66 f87 => ?_) (fun h66 f87 => ?_)
     ·have hs84 := h66
      refine L.mv f87 (hw := (f87.yes rfl rfl)) fun a88 f88 => ?_
      refine L.va f88 (E.eq f88) (hw := (f88.yes rfl rfl)) fun a89 f89 => ?_
      refine L.mv f89 (hw := (f89.yes rfl rfl)) fun a90 f90 => ?_
      clear f86 f87 a86 f88 a88 f89 a89
      refine f90.splitD 87 rfl (fun h67 f91 => ?_) (fun h67 f91 => ?_)
      ·have hs87 := h67
       refine L.mv f91 (hw := (f91.yes rfl rfl)) fun a92 f92 => ?_
       refine L.va f92 (E.pickT f92 rfl rfl) (hw := (f92.yes rfl rfl)) fun a93 f93 => ?_
       refine L.va f93 (E.not f93 rfl) (hw := (f93.yes rfl rfl)) fun a94 f94 => ?_
       refine L.va f94 (E.pickT f94 rfl rfl) (hw := (f94.yes rfl rfl)) fun a95 f95 => ?_
       refine L.va f95 (E.pickF f95 rfl rfl) fun a96 f96 => ?_
       refine L.va f96 (E.eqlB f96 Try.underlying4 rfl rfl) fun a97 f97 => ?_
       refine L.mv f97 fun a98 f98 => ?_
       clear f90 f91 a90 f92 a92 f93 a93 f94 a94 f95 a95 f96 a96 f97 a97
       refine f98.splitD 94 rfl (fun h68 f99 => ?_) (fun h68 f99 => ?_)
       ·have hs94 := h68
        refine L.mv f99 (hw := (f99.yes rfl rfl)) fun a100 f100 => ?_
        refine L.va f100 (E.build f100 (parts1 f100 rfl) (wbl34_0_tr1 _)) (hw := (f100.yes rfl rfl)) fun a101 f101 => ?_
        refine L.cl f101 (run_call Try.call14 (args2 f101 rfl rfl)) (out_any ({ kind := 2 } : Pk) s0 (by decide) w.heap.size g ((((((trG).outT ({ kind := 3, qos := qa % 2 + 1, id := ib + 1, topic := ⟨#[97]⟩, pay := [120] } : Pk)).2).inT ({ kind := (if qa % 2 + 1 = 1 then 4 else 7), id := ib + 1 } : Pk)).outT ({ kind := 3, qos := qa % 2 + 1, id := ib + 1, topic := ⟨#[97]⟩, pay := [121], dup := dup } : Pk)).2) m5 _ T (by omega) (flat_o _ _ (by decide)) (by constructor <;> decide)) ?_ (hw := (f101.yes rfl rfl))
        clear f98 f99 a98 f100 a100
        rintro e w16 ⟨rfl, m6, T6, up6, kc16, nw6⟩
        have lo0 := T.lo
        have npk0 := T.noPk
        have ltp := Bg4.lt
        refine ⟨_, rfl, fun a102 f102 => ?_⟩
        have szw16 := kc16.size
        replace HK := HK.trans kc16 (fun x hx hlt => by have := lo0 x hx; omega)
        replace Bg4 := Bg4.kept kc16 NF
        replace PO := PO.keptT kc16 npk0
        clear f101 a101 kc16
        have T := T6
        clear T6
        replace NF : g4 ∉ m6.fp g := fun h => (nw6.1 _ h).elim NF (fun h => by omega)
        refine L.va f102 (E.not f102 rfl) (hw := (f102.yes rfl rfl)) fun a103 f103 => ?_
        refine L.va f103 (E.pickT f103 rfl rfl) fun a104 f104 => ?_
        refine L.ag f104 fun a105 f105 => ?_
        refine wpList_nil (hK47 _ _ ?_)
        have f106 := f105.sub (sc 12 sn)
        refine wp_ret ?_
        try simp only [Exit.inBlock, Exit.then]
        refine C.ret (P := Try.prog) (fn := Try.f5) f106 rfl rfl ?_
        refine ⟨HK, ?_⟩
        clear f102 a102 f103 a103 f104 a104 f105
        (simp only [i4, Bool.not_false]; done)
       have hs94 := h68
       refine L.run f99 (rest' := []) (by kernel_rfl) fun a100 f100 => ?_
       clear f98
       skip
       refine wpList_nil (hK47 _ _ ?_)
       have f101 := f100.sub (sub_cons (i := 12) (v := .bool false) (by kernel_rfl) sn)
       refine wp_ret ?_
       try simp only [Exit.inBlock, Exit.then]
       refine C.ret (P := Try.prog) (fn := Try.f5) f101 rfl rfl ?_
       refine ⟨HK, ?_⟩
       clear f100 f99
       (exfalso; simp_all; done)
      have hs87 := h67
      refine L.sk f91 (f91.noT rfl rfl) fun a92 f92 => ?_
      refine L.va f92 (E.pickF f92 rfl rfl) (hw := (f92.yes rfl rfl)) fun a93 f93 => ?_
      refine L.va f93 (E.not f93 rfl) (hw := (f93.yes rfl rfl)) fun a94 f94 => ?_
      refine L.va f94 (E.pickT f94 rfl rfl) (hw := (f94.yes rfl rfl)) fun a95 f95 => ?_
      refine L.va f95 (E.pickF f95 rfl rfl) fun a96 f96 => ?_
      refine L.va f96 (E.eqlB f96 Try.underlying4 rfl rfl) fun a97 f97 => ?_
      refine L.mv f97 fun a98 f98 => ?_
      clear f90 f91 a90 f92 a92 f93 a93 f94 a94 f95 a95 f96 a96 f97 a97
      refine f98.splitD 94 rfl (fun h69 f99 => ?_) (fun h69 f99 => ?_)
      ·have hs94 := h69
       refine L.mv f99 (hw := (f99.yes rfl rfl)) fun a100 f100 => ?_
       refine L.va f100 (E.build f100 (parts1 f100 rfl) (wbl34_0_tr1 _)) (hw := (f100.yes rfl rfl)) fun a101 f101 => ?_
       refine L.cl f101 (run_call Try.call14 (args2 f101 rfl rfl)) (out_any ({ kind := 2 } : Pk) s0 (by decide) w.heap.size g ((((((trG).outT ({ kind := 3, qos := qa % 2 + 1, id := ib + 1, topic := ⟨#[97]⟩, pay := [120] } : Pk)).2).inT ({ kind := (if qa % 2 + 1 = 1 then 4 else 7), id := ib + 1 } : Pk)).outT ({ kind := 3, qos := qa % 2 + 1, id := ib + 1, topic := ⟨#[97]⟩, pay := [121], dup := dup } : Pk)).2) m5 _ T (by omega) (flat_o _ _ (by decide)) (by constructor <;> decide)) ?_ (hw := (f101.yes rfl rfl))
       clear f98 f99 a98 f100 a100
       rintro e w16 ⟨rfl, m6, T6, up6, kc16, nw6⟩
       have lo0 := T.lo
       have npk0 := T.noPk
       have ltp := Bg4.lt
       refine ⟨_, rfl, fun a102 f102 => ?_⟩
       have szw16 := kc16.size
       replace HK := HK.trans kc16 (fun x hx hlt => by have := lo0 x hx; omega)
       replace Bg4 := Bg4.kept kc16 NF
       replace PO := PO.keptT kc16 npk0
       clear f101 a101 kc16
       have T := T6
       clear T6
       replace NF : g4 ∉ m6.fp g := fun h => (nw6.1 _ h).elim NF (fun h => by omega)
       refine L.va f102 (E.not f102 rfl) (hw := (f102.yes rfl rfl)) fun a103 f103 => ?_
       refine L.va f103 (E.pickT f103 rfl rfl) fun a104 f104 => ?_
       refine L.ag f104 fun a105 f105 => ?_
       refine wpList_nil (hK47 _ _ ?_)
       have f106 := f105.sub (sc 12 sn)
       refine wp_ret ?_
       try simp only [Exit.inBlock, Exit.then]
       refine C.ret (P := Try.prog) (fn := Try.f5) f106 rfl rfl ?_
       refine ⟨HK, ?_⟩
       clear f102 a102 f103 a103 f104 a104 f105
       (simp only [i4, Bool.not_false]; done)
      have hs94 := h69
      refine L.run f99 (rest' := []) (by kernel_rfl) fun a100 f100 => ?_
      clear f98
      skip
      refine wpList_nil (hK47 _ _ ?_)
      have f101 := f100.sub (sub_cons (i := 12) (v := .bool false) (by kernel_rfl) sn)
      refine wp_ret ?_
      try simp only [Exit.inBlock, Exit.then]
      refine C.ret (P := Try.prog) (fn := Try.f5) f101 rfl rfl ?_
      refine ⟨HK, ?_⟩
      clear f100 f99
      (exfalso; simp_all; done)
     have hs84 := h66
     refine L.sk f87 (f87.noT rfl rfl) fun a88 f88 => ?_
     refine L.sk f88 (f88.noT rfl rfl) fun a89 f89 => ?_
     refine L.sk f89 (f89.noT rfl rfl) fun a90 f90 => ?_
     refine L.sk f90 (f90.noU rfl rfl) fun a91 f91 => ?_
     refine L.sk f91 (f91.noT rfl rfl) fun a92 f92 => ?_
     refine L.sk f92 (f92.noT rfl rfl) fun a93 f93 => ?_
     refine L.va f93 (E.pickF f93 rfl rfl) (hw := (f93.yes rfl rfl)) fun a94 f94 => ?_
     clear f86 f87 a86 f88 a88 f89 a89 f90 a90 f91 a91 f92 a92 f93 a93
     refine L.va f94 (E.pickF f94 rfl rfl) fun a95 f95 => ?_
     refine L.va f95 (E.eqlB f95 Try.underlying4 rfl rfl) fun a96 f96 => ?_
     refine L.mv f96 fun a97 f97 => ?_
     clear f94 a94 f95 a95 f96 a96
     refine f97.splitD 94 rfl (fun h70 f98 => ?_) (fun h70 f98 => ?_)
     ·have hs94 := h70
      refine L.mv f98 (hw := (f98.yes rfl rfl)) fun a99 f99 => ?_
      refine L.va f99 (E.build f99 (parts1 f99 rfl) (wbl34_0_tr1 _)) (hw := (f99.yes rfl rfl)) fun a100 f100 => ?_
      refine L.cl f100 (run_call Try.call14 (args2 f100 rfl rfl)) (out_any ({ kind := 2 } : Pk) s0 (by decide) w.heap.size g ((((((trG).outT ({ kind := 3, qos := qa % 2 + 1, id := ib + 1, topic := ⟨#[97]⟩, pay := [120] } : Pk)).2).inT ({ kind := (if qa % 2 + 1 = 1 then 4 else 7), id := ib + 1 } : Pk)).outT ({ kind := 3, qos := qa % 2 + 1, id := ib + 1, topic := ⟨#[97]⟩, pay := [121], dup := dup } : Pk)).2) m5 _ T (by omega) (flat_o _ _ (by decide)) (by constructor <;> decide)) ?_ (hw := (f100.yes rfl rfl))
      clear f97 f98 a97 f99 a99
      rintro e w16 ⟨rfl, m6, T6, up6, kc16, nw6⟩
      have lo0 := T.lo
      have npk0 := T.noPk
      have ltp := Bg4.lt
      refine ⟨_, rfl, fun a101 f101 => ?_⟩
      have szw16 := kc16.size
      replace HK := HK.trans kc16 (fun x hx hlt => by have := lo0 x hx; omega)
      replace Bg4 := Bg4.kept kc16 NF
      replace PO := PO.keptT kc16 npk0
      clear f100 a100 kc16
      have T := T6
      clear T6
      replace NF : g4 ∉ m6.fp g := fun h => (nw6.1 _ h).elim NF (fun h => by omega)
      refine L.va f101 (E.not f101 rfl) (hw := (f101.yes rfl rfl)) fun a102 f102 => ?_
      refine L.va f102 (E.pickT f102 rfl rfl) fun a103 f103 => ?_
      refine L.ag f103 fun a104 f104 => ?_
      refine wpList_nil (hK47 _ _ ?_)
      have f105 := f104.sub (sc 12 sn)
      refine wp_ret ?_
      try simp only [Exit.inBlock, Exit.then]
      refine C.ret (P := Try.prog) (fn := Try.f5) f105 rfl rfl ?_
      refine ⟨HK, ?_⟩
      clear f101 a101 f102 a102 f103 a103 f104
      (simp only [i4, Bool.not_false]; done)
     have hs94 := h70
     refine L.run f98 (rest' := []) (by kernel_rfl) fun a99 f99 => ?_
     clear f97
     skip
     refine wpList_nil (hK47 _ _ ?_)
     have f100 := f99.sub (sub_cons (i := 12) (v := .bool false) (by kernel_rfl) sn)
     refine wp_ret ?_
     try simp only [Exit.inBlock, Exit.then]
     refine C.ret (P := Try.prog) (fn := Try.f5) f100 rfl rfl ?_
     refine ⟨HK, ?_⟩
     clear f99 f98
     (exfalso; simp_all; done)
    have hs81 := h65
    refine L.sk f83 (f83.noT rfl rfl) fun a84 f84 => ?_
    refine L.va f84 (E.pickF f84 rfl rfl) (hw := (f84.yes rfl rfl)) fun a85 f85 => ?_
    refine L.mv f85 (hw := (f85.yes rfl rfl)) fun a86 f86 => ?_
    refine L.sk f86 (f86.noT rfl rfl) fun a87 f87 => ?_
    refine L.sk f87 (f87.noT rfl rfl) fun a88 f88 => ?_
    refine L.sk f88 (f88.noT rfl rfl) fun a89 f89 => ?_
    refine L.sk f89 (f89.noU rfl rfl) fun a90 f90 => ?_
    clear f82 f83 a82 f84 a84 f85 a85 f86 a86 f87 a87 f88 a88 f89 a89
    refine L.sk f90 (f90.noT rfl rfl) fun a91 f91 => ?_
    refine L.sk f91 (f91.noT rfl rfl) fun a92 f92 => ?_
    refine L.va f92 (E.pickF f92 rfl rfl) (hw := (f92.yes rfl rfl)) fun a93 f93 => ?_
    refine L.va f93 (E.pickF f93 rfl rfl) fun a94 f94 => ?_
    refine L.va f94 (E.eqlB f94 Try.underlying4 rfl rfl) fun a95 f95 => ?_
    refine L.mv f95 fun a96 f96 => ?_
    clear f90 a90 f91 a91 f92 a92 f93 a93 f94 a94 f95 a95
    refine f96.splitD 94 rfl (fun h71 f97 => ?_) (fun h71 f97 => ?_)
    ·have hs94 := h71
     refine L.mv f97 (hw := (f97.yes rfl rfl)) fun a98 f98 => ?_
     refine L.va f98 (E.build f98 (parts1 f98 rfl) (wbl34_0_tr1 _)) (hw := (f98.yes rfl rfl)) fun a99 f99 => ?_
     refine L.cl f99 (run_call Try.call14 (args2 f99 rfl rfl)) (out_any ({ kind := 2 } : Pk) s0 (by decide) w.heap.size g ((((((trG).outT ({ kind := 3, qos := qa % 2 + 1, id := ib + 1, topic := ⟨#[97]⟩, pay := [120] } : Pk)).2).inT ({ kind := (if qa % 2 + 1 = 1 then 4 else 7), id := ib + 1 } : Pk)).outT ({ kind := 3, qos := qa % 2 + 1, id := ib + 1, topic := ⟨#[97]⟩, pay := [121], dup := dup } : Pk)).2) m5 _ T (by omega) (flat_o _ _ (by decide)) (by constructor <;> decide)) ?_ (hw := (f99.yes rfl rfl))
     clear f96 f97 a96 f98 a98
     rintro e w16 ⟨rfl, m6, T6, up6, kc16, nw6⟩
     have lo0 := T.lo
     have npk0 := T.noPk
     have ltp := Bg4.lt
     refine ⟨_, rfl, fun a100 f100 => ?_⟩
     have szw16 := kc16.size
     replace HK := HK.trans kc16 (fun x hx hlt => by have := lo0 x hx; omega)
     replace Bg4 := Bg4.kept kc16 NF
     replace PO := PO.keptT kc16 npk0
     clear f99 a99 kc16
     have T := T6
     clear T6
     replace NF : g4 ∉ m6.fp g := fun h => (nw6.1 _ h).elim NF (fun h => by omega)
     refine L.va f100 (E.not f100 rfl) (hw := (f100.yes rfl rfl)) fun a101 f101 => ?_
     refine L.va f101 (E.pickT f101 rfl rfl) fun a102 f102 => ?_
     refine L.ag f102 fun a103 f103 => ?_
     refine wpList_nil (hK47 _ _ ?_)
     have f104 := f103.sub (sc 12 sn)
     refine wp_ret ?_
     try simp only [Exit.inBlock, Exit.then]
     refine C.ret (P := Try.prog) (fn := Try.f5) f104 rfl rfl ?_
     refine ⟨HK, ?_⟩
     clear f100 a100 f101 a101 f102 a102 f103
     (simp only [i4, Bool.not_false]; done)
    have hs94 := h71
    refine L.run f97 (rest' := []) (by kernel_rfl) fun a98 f98 => ?_
    clear f96
    skip
    refine wpList_nil (hK47 _ _ ?_)
    have f99 := f98.sub (sub_cons (i := 12) (v := .bool false) (by kernel_rfl) sn)
    refine wp_ret ?_
    try simp only [Exit.inBlock, Exit.then]
    refine C.ret (P := Try.prog) (fn := Try.f5) f99 rfl rfl ?_
    refine ⟨HK, ?_⟩
    clear f98 f97
    (exfalso; simp_all; done)
   have hs71 := h62
   refine C.condF f69 rfl ?_
   refine wp_skip (hK45 _ _ ?_)
   have f70 := f69.sub (sc 2 (sc 3 (sc 4 (sc 13 (sc 14 (sc 15 (sc 16 sn)))))))
   refine wp_seq_k fun K48 hK48 => ?_
   have hI := ids_true hq' hi' dup same false true
   clear f68 f69
   unfold idsB at hI
   simp only [Bool.and_eq_true, beq_iff_eq, if_true, Bool.false_eq_true, if_false, Bool.not_eq_true'] at hI
   obtain ⟨⟨⟨i1, i2⟩, i3⟩, i4⟩ := hI
   simp only [hs71, if_true, if_false, Bool.false_eq_true, reduceIte, ite_true, ite_false] at i3 i4
   clear i1 i2
   replace PO : PkO w11 ({ kind := 3, qos := qa % 2 + 1, id := ib + 1, topic := ⟨#[97]⟩, pay := [120], dup := dup } : Pk) ({ s0 with pa := some ⟨g2, 0, none⟩, pc := 1 } : Ad) := ⟨PO.pay, PO.wp, PO.pass, PO.subs, PO.codes⟩
   refine C.region ?_
   refine L.mv f70 fun a71 f71 => ?_
   refine L.va f71 (by exact E.loadB f71 Try.underlying34 rfl wsz34_tr1 rfl (Bg4) rfl) fun a72 f72 => ?_
   refine L.cl f72 (run_call Try.call14 (args2 f72 rfl rfl)) (out_any ({ kind := 3, qos := qa % 2 + 1, id := ib + 1, topic := ⟨#[97]⟩, pay := [120], dup := dup } : Pk) ({ s0 with pa := some ⟨g2, 0, none⟩, pc := 1 } : Ad) (wf_small (by show (0 : Int) ≤ ib + 1; omega) (by show ib + 1 ≤ (1000000 : Int); omega)) w.heap.size g ((((trG).outT ({ kind := 3, qos := qa % 2 + 1, id := ib + 1, topic := ⟨#[97]⟩, pay := [120] } : Pk)).2).inT ({ kind := (if qa % 2 + 1 = 1 then 4 else 7), id := ib + 1 } : Pk)) m4 _ T (by omega) PO (len_pub _ _ _ _ _ (by decide))) ?_
   clear f70 a67 f71 a71
   rintro e w12 ⟨rfl, m5, T5, up5, kc12, nw5⟩
   have lo0 := T.lo
   have npk0 := T.noPk
   have ltp := Bg4.lt
   refine ⟨_, rfl, fun a73 f73 => ?_⟩
   have szw12 := kc12.size
   replace HK := HK.trans kc12 (fun x hx hlt => by have := lo0 x hx; omega)
   replace Bg4 := Bg4.kept kc12 NF
   replace PO := PO.keptT kc12 npk0
   clear f72 a72 kc12
   have T := T5
   clear T5
   replace NF : g4 ∉ m5.fp g := fun h => (nw5.1 _ h).elim NF (fun h => by omega)
   refine L.mv f73 fun a74 f74 => ?_
   refine L.mv f74 fun a75 f75 => ?_
   clear f73 a73 f74 a74
   refine f75.split 79 rfl (fun h72 f76 => ?_) (fun h72 f76 => ?_)
   ·have hs79 := h72
    refine L.sk f76 (f76.noF rfl rfl) fun a77 f77 => ?_
    refine L.sk f77 (f77.noF rfl rfl) fun a78 f78 => ?_
    refine L.sk f78 (f78.noU rfl rfl) fun a79 f79 => ?_
    refine L.sk f79 (f79.noF rfl rfl) fun a80 f80 => ?_
    refine L.sk f80 (f80.noF rfl rfl) fun a81 f81 => ?_
    refine L.sk f81 (f81.noU rfl rfl) fun a82 f82 => ?_
    refine L.sk f82 (f82.noU rfl rfl) fun a83 f83 => ?_
    clear f75 f76 a75 f77 a77 f78 a78 f79 a79 f80 a80 f81 a81 f82 a82
    refine L.sk f83 (f83.noU rfl rfl) fun a84 f84 => ?_
    refine L.sk f84 (f84.noU rfl rfl) fun a85 f85 => ?_
    refine L.sk f85 (f85.noU rfl rfl) fun a86 f86 => ?_
    refine L.sk f86 (f86.noU rfl rfl) fun a87 f87 => ?_
    refine L.sk f87 (f87.noF rfl rfl) fun a88 f88 => ?_
    refine L.va f88 (E.pickT f88 rfl rfl) fun a89 f89 => ?_
    refine L.va f89 (E.eqlB f89 Try.underlying4 rfl rfl) fun a90 f90 => ?_
    clear f83 a83 f84 a84 f85 a85 f86 a86 f87 a87 f88 a88 f89 a89
    refine L.mv f90 fun a91 f91 => ?_
    clear f90 a90
    refine f91.splitD 94 rfl (fun h73 f92 => ?_) (fun h73 f92 => ?_)
    ·have hs94 := h73
     refine L.mv f92 (hw := (f92.yes rfl rfl)) fun a93 f93 => ?_
     refine L.va f93 (E.build f93 (parts1 f93 rfl) (wbl34_0_tr1 _)) (hw := (f93.yes rfl rfl)) fun a94 f94 => ?_
     refine L.cl f94 (run_call Try.call14 (args2 f94 rfl rfl)) (out_any ({ kind := 2 } : Pk) s0 (by decide) w.heap.size g ((((((trG).outT ({ kind := 3, qos := qa % 2 + 1, id := ib + 1, topic := ⟨#[97]⟩, pay := [120] } : Pk)).2).inT ({ kind := (if qa % 2 + 1 = 1 then 4 else 7), id := ib + 1 } : Pk)).outT ({ kind := 3, qos := qa % 2 + 1, id := ib + 1, topic := ⟨#[97]⟩, pay := [120], dup := dup } : Pk)).2) m5 _ T (by omega) (flat_o _ _ (by decide)) (by constructor <;> decide)) ?_ (hw := (f94.yes rfl rfl))
     clear f91 f92 a91 f93 a93
     rintro e w13 ⟨rfl, m6, T6, up6, kc13, nw6⟩
     have lo0 := T.lo
     have npk0 := T.noPk
     have ltp := Bg4.lt
     refine ⟨_, rfl, fun a95 f95 => ?_⟩
     have szw13 := kc13.size
     replace HK := HK.trans kc13 (fun x hx hlt => by have := lo0 x hx; omega)
     replace Bg4 := Bg4.kept kc13 NF
     replace PO := PO.keptT kc13 npk0
     clear f94 a94 kc13
     have T := T6
     clear T6
     replace NF : g4 ∉ m6.fp g := fun h => (nw6.1 _ h).elim NF (fun h => by omega)
     refine L.va f95 (E.not f95 rfl) (hw := (f95.yes rfl rfl)) fun a96 f96 => ?_
     refine L.va f96 (E.pickT f96 rfl rfl) fun a97 f97 => ?_
     refine L.ag f97 fun a98 f98 => ?_
     refine wpList_nil (hK48 _ _ ?_)
     have f99 := f98.sub (sc 12 sn)
     refine wp_ret ?_
     try simp only [Exit.inBlock, Exit.then]
     refine C.ret (P := Try.prog) (fn := Try.f5) f99 rfl rfl ?_
     refine ⟨HK, ?_⟩
     clear f95 a95 f96 a96 f97 a97 f98
     (simp only [i4, Bool.not_false]; done)
    have hs94 := h73
    refine L.run f92 (rest' := []) (by kernel_rfl) fun a93 f93 => ?_
    clear f91
    skip
    refine wpList_nil (hK48 _ _ ?_)
    have f94 := f93.sub (sub_cons (i := 12) (v := .bool false) (by kernel_rfl) sn)
    refine wp_ret ?_
    try simp only [Exit.inBlock, Exit.then]
    refine C.ret (P := Try.prog) (fn := Try.f5) f94 rfl rfl ?_
    refine ⟨HK, ?_⟩
    clear f93 f92
    (exfalso; simp_all; done)
   have hs79 := h72
   refine L.mv f76 (hw := (f76.yes rfl rfl)) fun a77 f77 => ?_
   refine L.mv f77 (hw := (f77.yes rfl rfl)) fun a78 f78 => ?_
   clear f75 f76 a75 f77 a77
   refine f78.split 81 rfl (fun h74 f79 => ?_) (fun h74 f79 => ?_)
   ·have hs81 := h74
    refine L.mv f79 (hw := (f79.yes rfl rfl)) fun a80 f80 => ?_
    refine L.va f80 (E.pickT f80 rfl rfl) (hw := (f80.yes rfl rfl)) fun a81 f81 => ?_
    refine L.mv f81 (hw := (f81.yes rfl rfl)) fun a82 f82 => ?_
    clear f78 f79 a78 f80 a80 f81 a81
    refine f82.split 84 rfl (fun h75 f83 => ?_) (fun h75 f83 => ?_)
    ·have hs84 := h75
     refine L.mv f83 (hw := (f83.yes rfl rfl)) fun a84 f84 => ?_
     refine L.va f84 (E.eq f84) (hw := (f84.yes rfl rfl)) fun a85 f85 => ?_
     refine L.mv f85 (hw := (f85.yes rfl rfl)) fun a86 f86 => ?_
     clear f82 f83 a82 f84 a84 f85 a85
     refine f86.splitD 87 rfl (fun h76 f87 => ?_) (fun h76 f87 => ?_)
     ·have hs87 := h76
      refine L.mv f87 (hw := (f87.yes rfl rfl)) fun a88 f88 => ?_
      refine L.va f88 (E.pickT f88 rfl rfl) (hw := (f88.yes rfl rfl)) fun a89 f89 => ?_
      refine L.va f89 (E.not f89 rfl) (hw := (f89.yes rfl rfl)) fun a90 f90 => ?_
      refine L.va f90 (E.pickT f90 rfl rfl) (hw := (f90.yes rfl rfl)) fun a91 f91 => ?_
      refine L.va f91 (E.pickF f91 rfl rfl) fun a92 f92 => ?_
      refine L.va f92 (E.eqlB f92 Try.underlying4 rfl rfl) fun a93 f93 => ?_
      refine L.mv f93 fun a94 f94 => ?_
      clear f86 f87 a86 f88 a88 f89 a89 f90 a90 f91 a91 f92 a92 f93 a93
      refine f94.splitD 94 rfl (fun h77 f95 => ?_) (fun h77 f95 => ?_)
      ·have hs94 := h77
       refine L.mv f95 (hw := (f95.yes rfl rfl)) fun a96 f96 => ?_
       refine L.va f96 (E.build f96 (parts1 f96 rfl) (wbl34_0_tr1 _)) (hw := (f96.yes rfl rfl)) fun a97 f97 => ?_
       refine L.cl f97 (run_call Try.call14 (args2 f97 rfl rfl)) (out_any ({ kind := 2 } : Pk) s0 (by decide) w.heap.size g ((((((trG).outT ({ kind := 3, qos := qa % 2 + 1, id := ib + 1, topic := ⟨#[97]⟩, pay := [120] } : Pk)).2).inT ({ kind := (if qa % 2 + 1 = 1 then 4 else 7), id := ib + 1 } : Pk)).outT ({ kind := 3, qos := qa % 2 + 1, id := ib + 1, topic := ⟨#[97]⟩, pay := [120], dup := dup } : Pk)).2) m5 _ T (by omega) (flat_o _ _ (by decide)) (by constructor <;> decide)) ?_ (hw := (f97.yes rfl rfl))
       clear f94 f95 a94 f96 a96
       rintro e w13 ⟨rfl, m6, T6, up6, kc13, nw6⟩
       have lo0 := T.lo
       have npk0 := T.noPk
       have ltp := Bg4.lt
       refine ⟨_, rfl, fun a98 f98 => ?_⟩
       have szw13 := kc13.size
       replace HK := HK.trans kc13 (fun x hx hlt => by have := lo0 x hx; omega)
       replace Bg4 := Bg4.kept kc13 NF
       replace PO := PO.keptT kc13 npk0
       clear f97 a97 kc13
       have T := T6
       clear T6
       replace NF : g4 ∉ m6.fp g := fun h => (nw6.1 _ h).elim NF (fun h => by omega)
       refine L.va f98 (E.not f98 rfl) (hw := (f98.yes rfl rfl)) fun a99 f99 => ?_
       refine L.va f99 (E.pickT f99 rfl rfl) fun a100 f100 => ?_
       refine L.ag f100 fun a101 f101 => ?_
       refine wpList_nil (hK48 _ _ ?_)
       have f102 := f101.sub (sc 12 sn)
       refine wp_ret ?_
       try simp only [Exit.inBlock, Exit.then]
       refine C.ret (P := Try.prog) (fn := Try.f5) f102 rfl rfl ?_
       refine ⟨HK, ?_⟩
       clear f98 a98 f99 a99 f100 a100 f101
       (simp only [i4, Bool.not_false]; done)
      have hs94 := h77
      refine L.run f95 (rest' := []) (by kernel_rfl) fun a96 f96 => ?_
      clear f94
      skip
      refine wpList_nil (hK48 _ _ ?_)
      have f97 := f96.sub (sub_cons (i := 12) (v := .bool false) (by kernel_rfl) sn)
      refine wp_ret ?_
      try simp only [Exit.inBlock, Exit.then]
      refine C.ret (P := Try.prog) (fn := Try.f5) f97 rfl rfl ?_
      refine ⟨HK, ?_⟩
      clear f96 f95
      (exfalso; simp_all; done)
     have hs87 := h76
     refine L.sk f87 (f87.noT rfl rfl) fun a88 f88 => ?_
     refine L.va f88 (E.pickF f88 rfl rfl) (hw := (f88.yes rfl rfl)) fun a89 f89 => ?_
     refine L.va f89 (E.not f89 rfl) (hw := (f89.yes rfl rfl)) fun a90 f90 => ?_
     refine L.va f90 (E.pickT f90 rfl rfl) (hw := (f90.yes rfl rfl)) fun a91 f91 => ?_
     refine L.va f91 (E.pickF f91 rfl rfl) fun a92 f92 => ?_
     refine L.va f92 (E.eqlB f92 Try.underlying4 rfl rfl) fun a93 f93 => ?_
     refine L.mv f93 fun a94 f94 => ?_
     clear f86 f87 a86 f88 a88 f89 a89 f90 a90 f91 a91 f92 a92 f93 a93
     refine f94.splitD 94 rfl (fun h78 f95 => ?_) (fun h78 f95 => ?_)
     ·have hs94 := h78
      refine L.mv f95 (hw := (f95.yes rfl rfl)) fun a96 f96 => ?_
      refine L.va f96 (E.build f96 (parts1 f96 rfl) (wbl34_0_tr1 _)) (hw := (f96.yes rfl rfl)) fun a97 f97 => ?_
      refine L.cl f97 (run_call Try.call14 (args2 f97 rfl rfl)) (out_any ({ kind := 2 } : Pk) s0 (by decide) w.heap.size g ((((((trG).outT ({ kind := 3, qos := qa % 2 + 1, id := ib + 1, topic := ⟨#[97]⟩, pay := [120] } : Pk)).2).inT ({ kind := (if qa % 2 + 1 = 1 then 4 else 7), id := ib + 1 } : Pk)).outT ({ kind := 3, qos := qa % 2 + 1, id := ib + 1, topic := ⟨#[97]⟩, pay := [120], dup := dup } : Pk)).2) m5 _ T (by omega) (flat_o _ _ (by decide)) (by constructor <;> decide)) ?_ (hw := (f97.yes rfl rfl))
      clear f94 f95 a94 f96 a96
      rintro e w13 ⟨rfl, m6, T6, up6, kc13, nw6⟩
      have lo0 := T.lo
      have npk0 := T.noPk
      have ltp := Bg4.lt
      refine ⟨_, rfl, fun a98 f98 => ?_⟩
      have szw13 := kc13.size
      replace HK := HK.trans kc13 (fun x hx hlt => by have := lo0 x hx; omega)
      replace Bg4 := Bg4.kept kc13 NF
      replace PO := PO.keptT kc13 npk0
      clear f97 a97 kc13
      have T := T6
      clear T6
      replace NF : g4 ∉ m6.fp g := fun h => (nw6.1 _ h).elim NF (fun h => by omega)
      refine L.va f98 (E.not f98 rfl) (hw := (f98.yes rfl rfl)) fun a99 f99 => ?_
      refine L.va f99 (E.pickT f99 rfl rfl) fun a100 f100 => ?_
      refine L.ag f100 fun a101 f101 => ?_
      refine wpList_nil (hK48 _ _ ?_)
      have f102 := f101.sub (sc 12 sn)
      refine wp_ret ?_
      try simp only [Exit.inBlock, Exit.then]
      refine C.ret (P := Try.prog) (fn := Try.f5) f102 rfl rfl ?_
      refine ⟨HK, ?_⟩
      clear f98 a98 f99 a99 f100 a100 f101
      (simp only [i4, Bool.not_false]; done)
     have hs94 := h78
     refine L.run f95 (rest' := []) (by kernel_rfl) fun a96 f96 => ?_
     clear f94
     skip
     refine wpList_nil (hK48 _ _ ?_)
     have f97 := f96.sub (sub_cons (i := 12) (v := .bool false) (by kernel_rfl) sn)
     refine wp_ret ?_
     try simp only [Exit.inBlock, Exit.then]
     refine C.ret (P := Try.prog) (fn := Try.f5) f97 rfl rfl ?_
     refine ⟨HK, ?_⟩
     clear f96 f95
     (exfalso; simp_all; done)
    have hs84 := h75
    refine L.sk f83 (f83.noT rfl rfl) fun a84 f84 => ?_
    refine L.sk f84 (f84.noT rfl rfl) fun a85 f85 => ?_
    refine L.sk f85 (f85.noT rfl rfl) fun a86 f86 => ?_
    refine L.sk f86 (f86.noU rfl rfl) fun a87 f87 => ?_
    refine L.sk f87 (f87.noT rfl rfl) fun a88 f88 => ?_
    refine L.sk f88 (f88.noT rfl rfl) fun a89 f89 => ?_
    refine L.va f89 (E.pickF f89 rfl rfl) (hw := (f89.yes rfl rfl)) fun a90 f90 => ?_
    clear f82 f83 a82 f84 a84 f85 a85 f86 a86 f87 a87 f88 a88 f89 a89
    refine L.va f90 (E.pickF f90 rfl rfl) fun a91 f91 => ?_
    refine L.va f91 (E.eqlB f91 Try.underlying4 rfl rfl) fun a92 f92 => ?_
    refine L.mv f92 fun a93 f93 => ?_
    clear f90 a90 f91 a91 f92 a92
    refine f93.splitD 94 rfl (fun h79 f94 => ?_) (fun h79 f94 => ?_)
    ·have hs94 := h79
     refine L.mv f94 (hw := (f94.yes rfl rfl)) fun a95 f95 => ?_
     refine L.va f95 (E.build f95 (parts1 f95 rfl) (wbl34_0_tr1 _)) (hw := (f95.yes rfl rfl)) fun a96 f96 => ?_
     refine L.cl f96 (run_call Try.call14 (args2 f96 rfl rfl)) (out_any ({ kind := 2 } : Pk) s0 (by decide) w.heap.size g ((((((trG).outT ({ kind := 3, qos := qa % 2 + 1, id := ib + 1, topic := ⟨#[97]⟩, pay := [120] } : Pk)).2).inT ({ kind := (if qa % 2 + 1 = 1 then 4 else 7), id := ib + 1 } : Pk)).outT ({ kind := 3, qos := qa % 2 + 1, id := ib + 1, topic := ⟨#[97]⟩, pay := [120], dup := dup } : Pk)).2) m5 _ T (by omega) (flat_o _ _ (by decide)) (by constructor <;> decide)) ?_ (hw := (f96.yes rfl rfl))
     clear f93 f94 a93 f95 a95
     rintro e w13 ⟨rfl, m6, T6, up6, kc13, nw6⟩
     have lo0 := T.lo
     have npk0 := T.noPk
     have ltp := Bg4.lt
     refine ⟨_, rfl, fun a97 f97 => ?_⟩
     have szw13 := kc13.size
     replace HK := HK.trans kc13 (fun x hx hlt => by have := lo0 x hx; omega)
     replace Bg4 := Bg4.kept kc13 NF
     replace PO := PO.keptT kc13 npk0
     clear f96 a96 kc13
     have T := T6
     clear T6
     replace NF : g4 ∉ m6.fp g := fun h => (nw6.1 _ h).elim NF (fun h => by omega)
     refine L.va f97 (E.not f97 rfl) (hw := (f97.yes rfl rfl)) fun a98 f98 => ?_
     refine L.va f98 (E.pickT f98 rfl rfl) fun a99 f99 => ?_
     refine L.ag f99 fun a100 f100 => ?_
     refine wpList_nil (hK48 _ _ ?_)
     have f101 := f100.sub (sc 12 sn)
     refine wp_ret ?_
     try simp only [Exit.inBlock, Exit.then]
     refine C.ret (P := Try.prog) (fn := Try.f5) f101 rfl rfl ?_
     refine ⟨HK, ?_⟩
     clear f97 a97 f98 a98 f99 a99 f100
     (simp only [i4, Bool.not_false]; done)
    have hs94 := h79
    refine L.run f94 (rest' := []) (by kernel_rfl) fun a95 f95 => ?_
    clear f93
    skip
    refine wpList_nil (hK48 _ _ ?_)
    have f96 := f95.sub (sub_cons (i := 12) (v := .bool false) (by kernel_rfl) sn)
    refine wp_ret ?_
    try simp only [Exit.inBlock, Exit.then]
    refine C.ret (P := Try.prog) (fn := Try.f5) f96 rfl rfl ?_
    refine ⟨HK, ?_⟩
    clear f95 f94
    (exfalso; simp_all; done)
   have hs81 := h74
   refine L.sk f79 (f79.noT rfl rfl) fun a80 f80 => ?_
   refine L.va f80 (E.pickF f80 rfl rfl) (hw := (f80.yes rfl rfl)) fun a81 f81 => ?_
   refine L.mv f81 (hw := (f81.yes rfl rfl)) fun a82 f82 => ?_
   refine L.sk f82 (f82.noT rfl rfl) fun a83 f83 => ?_
   refine L.sk f83 (f83.noT rfl rfl) fun a84 f84 => ?_
   refine L.sk f84 (f84.noT rfl rfl) fun a85 f85 => ?_
   refine L.sk f85 (f85.noU rfl rfl) fun a86 f86 => ?_
   clear f78 f79 a78 f80 a80 f81 a81 f82 a82 f83 a83 f84 a84 f85 a85
   refine L.sk f86 (f86.noT rfl rfl) fun a87 f87 => ?_
   refine L.sk f87 (f87.noT rfl rfl) fun a88 f88 => ?_
   refine L.va f88 (E.pickF f88 rfl rfl) (hw := (f88.yes rfl rfl)) fun a89 f89 => ?_
   refine L.va f89 (E.pickF f89 rfl rfl) fun a90 f90 => ?_
   refine L.va f90 (E.eqlB f90 Try.underlying4 rfl rfl) fun a91 f91 => ?_
   refine L.mv f91 fun a92 f92 => ?_
   clear f86 a86 f87 a87 f88 a88 f89 a89 f90 a90 f91 a91
   refine f92.splitD 94 rfl (fun h80 f93 => ?_) (fun h80 f93 => ?_)
   ·have hs94 := h80
    refine L.mv f93 (hw := (f93.yes rfl rfl)) fun a94 f94 => ?_
    refine L.va f94 (E.build f94 (parts1 f94 rfl) (wbl34_0_tr1 _)) (hw := (f94.yes rfl rfl)) fun a95 f95 => ?_
    refine L.cl f95 (run_call Try.call14 (args2 f95 rfl rfl)) (out_any ({ kind := 2 } : Pk) s0 (by decide) w.heap.size g ((((((trG).outT ({ kind := 3, qos := qa % 2 + 1, id := ib + 1, topic := ⟨#[97]⟩, pay := [120] } : Pk)).2).inT ({ kind := (if qa % 2 + 1 = 1 then 4 else 7), id := ib + 1 } : Pk)).outT ({ kind := 3, qos := qa % 2 + 1, id := ib + 1, topic := ⟨#[97]⟩, pay := [120], dup := dup } : Pk)).2) m5 _ T (by omega) (flat_o _ _ (by decide)) (by constructor <;> decide)) ?_ (hw := (f95.yes rfl rfl))
    clear f92 f93 a92 f94 a94
    rintro e w13 ⟨rfl, m6, T6, up6, kc13, nw6⟩
    have lo0 := T.lo
    have npk0 := T.noPk
    have ltp := Bg4.lt
    refine ⟨_, rfl, fun a96 f96 => ?_⟩
    have szw13 := kc13.size
    replace HK := HK.trans kc13 (fun x hx hlt => by have := lo0 x hx; omega)
    replace Bg4 := Bg4.kept kc13 NF
    replace PO := PO.keptT kc13 npk0
    clear f95 a95 kc13
    have T := T6
    clear T6
    replace NF : g4 ∉ m6.fp g := fun h => (nw6.1 _ h).elim NF (fun h => by omega)
    refine L.va f96 (E.not f96 rfl) (hw := (f96.yes rfl rfl)) fun a97 f97 => ?_
    refine L.va f97 (E.pickT f97 rfl rfl) fun a98 f98 => ?_
    refine L.ag f98 fun a99 f99 => ?_
    refine wpList_nil (hK48 _ _ ?_)
    have f100 := f99.sub (sc 12 sn)
    refine wp_ret ?_
    try simp only [Exit.inBlock, Exit.then]
    refine C.ret (P := Try.prog) (fn := Try.f5) f100 rfl rfl ?_
    refine ⟨HK, ?_⟩
    clear f96 a96 f97 a97 f98 a98 f99
    (simp only [i4, Bool.not_false]; done)
   have hs94 := h80
   refine L.run f93 (rest' := []) (by kernel_rfl) fun a94 f94 => ?_
   clear f92
   skip
   refine wpList_nil (hK48 _ _ ?_)
   have f95 := f94.sub (sub_cons (i := 12) (v := .bool false) (by kernel_rfl) sn)
   refine wp_ret ?_
   try simp only [Exit.inBlock, Exit.then]
   refine C.ret (P := Try.prog) (fn := Try.f5) f95 rfl rfl ?_
   refine ⟨HK, ?_⟩
   clear f94 f93
   (exfalso; simp_all; done)
  have hs61 := h57
  refine L.run f52 (rest' := []) (by kernel_rfl) fun a53 f53 => ?_
  clear f51
  skip
  refine wpList_nil (hK38 _ _ ?_)
  have f54 := f53.sub (sub_cons (i := 2) (Fr.kept f53 (by kernel_rfl) rfl) (sub_cons (i := 3) (Fr.kept f53 (by kernel_rfl) rfl) (sub_cons (i := 4) (Fr.kept f53 (by kernel_rfl) rfl) (sub_cons (i := 13) (Fr.kept f53 (by kernel_rfl) rfl) (sub_cons (i := 14) (Fr.kept f53 (by kernel_rfl) rfl) (sub_cons (i := 15) (Fr.kept f53 (by kernel_rfl) rfl) (sub_cons (i := 16) (v := .bool false) (by kernel_rfl) sn)))))))
  refine C.sk fun K49 hK49 => ?_
  refine L.mv f54 fun a55 f55 => ?_
  refine L.va f55 (E.fa 1 f55 Try.underlying34 rfl wsz4_tr1) fun a56 f56 => ?_
  refine L.store f56 wantedN wsz4_tr1 rfl rfl rfl Bg4 (by (simp [Value.cells]; done)) fun a57 w11 f57 NB11 ks11 => ?_
  have szw11 := ks11.size
  replace HK := HK.trans ks11 (fun x hx hlt => by obtain rfl := List.mem_singleton.1 hx; exfalso; omega)
  replace PO := PO.keptT ks11 (NoPk.blk Bg4 (by decide))
  replace T := T.keptX ks11 NF (NoPk.blk Bg4 (by decide))
  replace Bg4 := NB11
  simp only [Value.cells, z1, z2, z3, Nat.reduceAdd, Nat.zero_add] at Bg4
  clear f53 f52 f54 a53 f55 a55 ks11 f56 a56
  refine wpList_nil (hK49 _ _ ?_)
  have f58 := f57.sub (sc 2 (sc 3 (sc 4 (sc 13 (sc 14 (sc 15 (sc 16 sn)))))))
  refine wp_seq_k fun K50 hK50 => ?_
  refine C.sk fun K51 hK51 => ?_
  refine L.mv f58 fun a59 f59 => ?_
  refine L.va f59 (E.not f59 rfl) fun a60 f60 => ?_
  refine wpList_nil (hK51 _ _ ?_)
  have f61 := f60.sub (sc 2 (sc 3 (sc 4 (sc 13 (sc 14 (sc 15 (sc 16 (sc 71 sn))))))))
  clear f57 f58 a57 f59 a59 f60
  refine f61.splitNB 71 rfl (fun h81 f62 => ?_) (fun h81 f62 => ?_)
  ·have hs71 := h81
   refine C.condT f62 rfl ?_
   have HR : Kept [g4] w11 w11 := Kept.refl _ _
   have nop := NoPk.blk Bg4 (by decide : 34 ∉ [5, 46, 3])
   refine C.region ?_
   refine L.buildSlice f62 wantedN (by decide) (parts1 f62 rfl) Try.underlying28 wzi5_tr1 rfl rfl (wbs28_1_tr1 _) fun a63 w12 g11 N11 f63 => ?_
   have Bg11 := N11.blk
   have kg11 := N11.kept
   have log11 := N11.lo
   have ltg11 := Bg11.lt
   have szw12 := kg11.size
   have frg11 : w.heap.size ≤ g11 := Nat.le_trans HK.size log11
   have frg11_HR : w11.heap.size ≤ g11 := Nat.le_trans HR.size log11
   have neg4_g11 : g4 ≠ g11 := by have := Bg4.lt; omega
   replace HK := HK.trans kg11 (by simp)
   replace Bg4 := Bg4.kept kg11 (by simp)
   replace HR := HR.trans kg11 (by simp)
   clear f61 N11 kg11
   obtain ⟨w13, hcv, ks, HM⟩ := run_mark (n := 1) (c := 1) Bg11 Try.underlying28 Try.underlying5
   refine L.va f63 (E.convV f63 rfl hcv) fun a64 f64 => ?_
   have szw13 := ks.size
   replace HK := HK.trans ks (fun x hx hlt => by obtain rfl := List.mem_singleton.1 hx; exfalso; omega)
   replace Bg4 := Bg4.kept ks (by simp; omega)
   replace HR := HR.trans ks (fun x hx hlt => by obtain rfl := List.mem_singleton.1 hx; exfalso; omega)
   clear f62 a60 hcv ks f63 a63
   refine L.va f64 (E.fa 6 f64 Try.underlying34 rfl wsz28_tr1) fun a65 f65 => ?_
   refine L.store f65 wantedN wsz28_tr1 rfl rfl rfl Bg4 (by (simp [Value.cells]; done)) fun a66 w14 f66 NB14 ks14 => ?_
   have szw14 := ks14.size
   replace HK := HK.trans ks14 (fun x hx hlt => by obtain rfl := List.mem_singleton.1 hx; exfalso; omega)
   replace HR := HR.trans ks14 (fun x hx hlt => hx)
   replace HM := heap_kept HM ks14 (by simp; omega)
   replace Bg4 := NB14
   simp only [Value.cells, z1, z2, z3, Nat.reduceAdd, Nat.zero_add] at Bg4
   clear f64 a64 ks14 f65 a65
   refine wpList_nil (hK50 _ _ ?_)
   have f67 := f66.sub (sc 2 (sc 3 (sc 4 (sc 13 (sc 14 (sc 15 (sc 16 sn)))))))
   refine wp_seq_k fun K52 hK52 => ?_
   have hI := ids_true hq' hi' dup same false true
   clear f66
   unfold idsB at hI
   simp only [Bool.and_eq_true, beq_iff_eq, if_true, Bool.false_eq_true, if_false, Bool.not_eq_true'] at hI
   obtain ⟨⟨⟨i1, i2⟩, i3⟩, i4⟩ := hI
   simp only [hs71, if_true, if_false, Bool.false_eq_true, reduceIte, ite_true, ite_false] at i3 i4
   clear i1 i2
   have PO : PkO w14 ({ kind := 3, qos := qa % 2 + 1, id := ib + 1, topic := ⟨#[97]⟩, pay := [121], dup := dup } : Pk) ({ s0 with pa := some ⟨g11, 0, none⟩, pc := 1 } : Ad) := pay_o HM _ rfl rfl rfl rfl rfl
   replace T := T.keptX HR NF nop
   clear HR
   refine C.region ?_
   refine L.mv f67 fun a68 f68 => ?_
   refine L.va f68 (by exact E.loadB f68 Try.underlying34 rfl wsz34_tr1 rfl (Bg4) rfl) fun a69 f69 => ?_
   refine L.cl f69 (run_call Try.call14 (args2 f69 rfl rfl)) (out_any ({ kind := 3, qos := qa % 2 + 1, id := ib + 1, topic := ⟨#[97]⟩, pay := [121], dup := dup } : Pk) ({ s0 with pa := some ⟨g11, 0, none⟩, pc := 1 } : Ad) (wf_small (by show (0 : Int) ≤ ib + 1; omega) (by show ib + 1 ≤ (1000000 : Int); omega)) w.heap.size g ((((trG).outT ({ kind := 3, qos := qa % 2 + 1, id := ib + 1, topic := ⟨#[97]⟩, pay := [120] } : Pk)).2).inT ({ kind := (if qa % 2 + 1 = 1 then 4 else 7), id := ib + 1 } : Pk)) m4 _ T (by omega) PO (len_pub _ _ _ _ _ (by decide))) ?_
   clear f67 a66 f68 a68
   rintro e w15 ⟨rfl, m5, T5, up5, kc15, nw5⟩
   have lo0 := T.lo
   have npk0 := T.noPk
   have ltp := Bg4.lt
   refine ⟨_, rfl, fun a70 f70 => ?_⟩
   have szw15 := kc15.size
   replace HK := HK.trans kc15 (fun x hx hlt => by have := lo0 x hx; omega)
   replace Bg4 := Bg4.kept kc15 NF
   replace PO := PO.keptT kc15 npk0
   clear f69 a69 kc15
   have T := T5
   clear T5
   replace NF : g4 ∉ m5.fp g := fun h => (nw5.1 _ h).elim NF (fun h => by omega)
   refine L.mv f70 fun a71 f71 => ?_
   refine L.mv f71 fun a72 f72 => ?_
   refine L.mv f72 (hw := (f72.yes rfl rfl)) fun a73 f73 => ?_
   refine L.mv f73 (hw := (f73.yes rfl rfl)) fun a74 f74 => ?_
   clear f70 a70 f71 a71 f72 a72 f73 a73
   refine f74.split 81 rfl (fun h82 f75 => ?_) (fun h82 f75 => ?_)
   ·have hs81 := h82
    refine L.mv f75 (hw := (f75.yes rfl rfl)) fun a76 f76 => ?_
    refine L.va f76 (E.pickT f76 rfl rfl) (hw := (f76.yes rfl rfl)) fun a77 f77 => ?_
    refine L.mv f77 (hw := (f77.yes rfl rfl)) fun a78 f78 => ?_
    clear f74 f75 a74 f76 a76 f77 a77
    refine f78.split 84 rfl (fun h83 f79 => ?_) (fun h83 f79 => ?_)
    ·have hs84 := h83
     refine L.mv f79 (hw := (f79.yes rfl rfl)) fun a80 f80 => ?_
     refine L.va f80 (E.eq f80) (hw := (f80.yes rfl rfl)) fun a81 f81 => ?_
     refine L.mv f81 (hw := (f81.yes rfl rfl)) fun a82 f82 => ?_
     clear f78 f79 a78 f80 a80 f81 a81
     refine f82.splitD 87 rfl (fun h84 f83 => ?_) (fun h84 f83 => ?_)
     ·have hs87 := h84
      refine L.mv f83 (hw := (f83.yes rfl rfl)) fun a84 f84 => ?_
      refine L.va f84 (E.pickT f84 rfl rfl) (hw := (f84.yes rfl rfl)) fun a85 f85 => ?_
      refine L.va f85 (E.not f85 rfl) (hw := (f85.yes rfl rfl)) fun a86 f86 => ?_
      refine L.va f86 (E.pickT f86 rfl rfl) (hw := (f86.yes rfl rfl)) fun a87 f87 => ?_
      refine L.va f87 (E.pickF f87 rfl rfl) fun a88 f88 => ?_
      refine L.va f88 (E.eqlB f88 Try.underlying4 rfl rfl) fun a89 f89 => ?_
      refine L.mv f89 fun a90 f90 => ?_
      clear f82 f83 a82 f84 a84 f85 a85 f86 a86 f87 a87 f88 a88 f89 a89
      refine f90.splitD 94 rfl (fun h85 f91 => ?_) (fun h85 f91 => ?_)
      ·have hs94 := h85
       refine L.mv f91 (hw := (f91.yes rfl rfl)) fun a92 f92 => ?_
       refine L.va f92 (E.build f92 (parts1 f92 rfl) (wbl34_0_tr1 _)) (hw := (f92.yes rfl rfl)) fun a93 f93 => ?_
       refine L.cl f93 (run_call Try.call14 (args2 f93 rfl rfl)) (out_any ({ kind := 2 } : Pk) s0 (by decide) w.heap.size g ((((((trG).outT ({ kind := 3, qos := qa % 2 + 1, id := ib + 1, topic := ⟨#[97]⟩, pay := [120] } : Pk)).2).inT ({ kind := (if qa % 2 + 1 = 1 then 4 else 7), id := ib + 1 } : Pk)).outT ({ kind := 3, qos := qa % 2 + 1, id := ib + 1, topic := ⟨#[97]⟩, pay := [121], dup := dup } : Pk)).2) m5 _ T (by omega) (flat_o _ _ (by decide)) (by constructor <;> decide)) ?_ (hw := (f93.yes rfl rfl))
       clear f90 f91 a90 f92 a92
       rintro e w16 ⟨rfl, m6, T6, up6, kc16, nw6⟩
       have lo0 := T.lo
       have npk0 := T.noPk
       have ltp := Bg4.lt
       refine ⟨_, rfl, fun a94 f94 => ?_⟩
       have szw16 := kc16.size
       replace HK := HK.trans kc16 (fun x hx hlt => by have := lo0 x hx; omega)
       replace Bg4 := Bg4.kept kc16 NF
       replace PO := PO.keptT kc16 npk0
       clear f93 a93 kc16
       have T := T6
       clear T6
       replace NF : g4 ∉ m6.fp g := fun h => (nw6.1 _ h).elim NF (fun h => by omega)
       refine L.va f94 (E.not f94 rfl) (hw := (f94.yes rfl rfl)) fun a95 f95 => ?_
       refine L.va f95 (E.pickT f95 rfl rfl) fun a96 f96 => ?_
       refine L.ag f96 fun a97 f97 => ?_
       refine wpList_nil (hK52 _ _ ?_)
       have f98 := f97.sub (sc 12 sn)
       refine wp_ret ?_
       try simp only [Exit.inBlock, Exit.then]
       refine C.ret (P := Try.prog) (fn := Try.f5) f98 rfl rfl ?_
       refine ⟨HK, ?_⟩
       clear f94 a94 f95 a95 f96 a96 f97
       (simp only [i4, Bool.not_false]; done)
      have hs94 := h85
      refine L.run f91 (rest' := []) (by kernel_rfl) fun a92 f92 => ?_
      clear f90
      skip
      refine wpList_nil (hK52 _ _ ?_)
      have f93 := f92.sub (sub_cons (i := 12) (v := .bool false) (by kernel_rfl) sn)
      refine wp_ret ?_
      try simp only [Exit.inBlock, Exit.then]
      refine C.ret (P := Try.prog) (fn := Try.f5) f93 rfl rfl ?_
      refine ⟨HK, ?_⟩
      clear f92 f91
      (exfalso; simp_all; done)
     have hs87 := h84
     refine L.sk f83 (f83.noT rfl rfl) fun a84 f84 => ?_
     refine L.va f84 (E.pickF f84 rfl rfl) (hw := (f84.yes rfl rfl)) fun a85 f85 => ?_
     refine L.va f85 (E.not f85 rfl) (hw := (f85.yes rfl rfl)) fun a86 f86 => ?_
     refine L.va f86 (E.pickT f86 rfl rfl) (hw := (f86.yes rfl rfl)) fun a87 f87 => ?_
     refine L.va f87 (E.pickF f87 rfl rfl) fun a88 f88 => ?_
     refine L.va f88 (E.eqlB f88 Try.underlying4 rfl rfl) fun a89 f89 => ?_
     refine L.mv f89 fun a90 f90 => ?_
     clear f82 f83 a82 f84 a84 f85 a85 f86 a86 f87 a87 f88 a88 f89 a89
     refine f90.splitD 94 rfl (fun h86 f91 => ?_) (fun h86 f91 => ?_)
     ·have hs94 := h86
      refine L.mv f91 (hw := (f91.yes rfl rfl)) fun a92 f92 => ?_
      refine L.va f92 (E.build f92 (parts1 f92 rfl) (wbl34_0_tr1 _)) (hw := (f92.yes rfl rfl)) fun a93 f93 => ?_
      refine L.cl f93 (run_call Try.call14 (args2 f93 rfl rfl)) (out_any ({ kind := 2 } : Pk) s0 (by decide) w.heap.size g ((((((trG).outT ({ kind := 3, qos := qa % 2 + 1, id := ib + 1, topic := ⟨#[97]⟩, pay := [120] } : Pk)).2).inT ({ kind := (if qa % 2 + 1 = 1 then 4 else 7), id := ib + 1 } : Pk)).outT ({ kind := 3, qos := qa % 2 + 1, id := ib + 1, topic := ⟨#[97]⟩, pay := [121], dup := dup } : Pk)).2) m5 _ T (by omega) (flat_o _ _ (by decide)) (by constructor <;> decide)) ?_ (hw := (f93.yes rfl rfl))
      clear f90 f91 a90 f92 a92
      rintro e w16 ⟨rfl, m6, T6, up6, kc16, nw6⟩
      have lo0 := T.lo
      have npk0 := T.noPk
      have ltp := Bg4.lt
      refine ⟨_, rfl, fun a94 f94 => ?_⟩
      have szw16 := kc16.size
      replace HK := HK.trans kc16 (fun x hx hlt => by have := lo0 x hx; omega)
      replace Bg4 := Bg4.kept kc16 NF
      replace PO := PO.keptT kc16 npk0
      clear f93 a93 kc16
      have T := T6
      clear T6
      replace NF : g4 ∉ m6.fp g := fun h => (nw6.1 _ h).elim NF (fun h => by omega)
      refine L.va f94 (E.not f94 rfl) (hw := (f94.yes rfl rfl)) fun a95 f95 => ?_
      refine L.va f95 (E.pickT f95 rfl rfl) fun a96 f96 => ?_
      refine L.ag f96 fun a97 f97 => ?_
      refine wpList_nil (hK52 _ _ ?_)
      have f98 := f97.sub (sc 12 sn)
      refine wp_ret ?_
      try simp only [Exit.inBlock, Exit.then]
      refine C.ret (P := Try.prog) (fn := Try.f5) f98 rfl rfl ?_
      refine ⟨HK, ?_⟩
      clear f94 a94 f95 a95 f96 a96 f97
      (simp only [i4, Bool.not_false]; done)
     have hs94 := h86
     refine L.run f91 (rest' := []) (by kernel_rfl) fun a92 f92 => ?_
     clear f90
     skip
     refine wpList_nil (hK52 _ _ ?_)
     have f93 := f92.sub (sub_cons (i := 12) (v := .bool false) (by kernel_rfl) sn)
     refine wp_ret ?_
     try simp only [Exit.inBlock, Exit.then]
     refine C.ret (P := Try.prog) (fn := Try.f5) f93 rfl rfl ?_
     refine ⟨HK, ?_⟩
     clear f92 f91
     (exfalso; simp_all; done)
    have hs84 := h83
    refine L.sk f79 (f79.noT rfl rfl) fun a80 f80 => ?_
    refine L.sk f80 (f80.noT rfl rfl) fun a81 f81 => ?_
    refine L.sk f81 (f81.noT rfl rfl) fun a82 f82 => ?_
    refine L.sk f82 (f82.noU rfl rfl) fun a83 f83 => ?_
    refine L.sk f83 (f83.noT rfl rfl) fun a84 f84 => ?_
    refine L.sk f84 (f84.noT rfl rfl) fun a85 f85 => ?_
    refine L.va f85 (E.pickF f85 rfl rfl) (hw := (f85.yes rfl rfl)) fun a86 f86 => ?_
    clear f78 f79 a78 f80 a80 f81 a81 f82 a82 f83 a83 f84 a84 f85 a85
    refine L.va f86 (E.pickF f86 rfl rfl) fun a87 f87 => ?_
    refine L.va f87 (E.eqlB f87 Try.underlying4 rfl rfl) fun a88 f88 => ?_
    refine L.mv f88 fun a89 f89 => ?_
    clear f86 a86 f87 a87 f88 a88
    refine f89.splitD 94 rfl (fun h87 f90 => ?_) (fun h87 f90 => ?_)
    ·have hs94 := h87
     refine L.mv f90 (hw := (f90.yes rfl rfl)) fun a91 f91 => ?_
     refine L.va f91 (E.build f91 (parts1 f91 rfl) (wbl34_0_tr1 _)) (hw := (f91.yes rfl rfl)) fun a92 f92 => ?_
     refine L.cl f92 (run_call Try.call14 (args2 f92 rfl rfl)) (out_any ({ kind := 2 } : Pk) s0 (by decide) w.heap.size g ((((((trG).outT ({ kind := 3, qos := qa % 2 + 1, id := ib + 1, topic := ⟨#[97]⟩, pay := [120] } : Pk)).2).inT ({ kind := (if qa % 2 + 1 = 1 then 4 else 7), id := ib + 1 } : Pk)).outT ({ kind := 3, qos := qa % 2 + 1, id := ib + 1, topic := ⟨#[97]⟩, pay := [121], dup := dup } : Pk)).2) m5 _ T (by omega) (flat_o _ _ (by decide)) (by constructor <;> decide)) ?_ (hw := (f92.yes rfl rfl))
     clear f89 f90 a89 f91 a91
     rintro e w16 ⟨rfl, m6, T6, up6, kc16, nw6⟩
     have lo0 := T.lo
     have npk0 := T.noPk
     have ltp := Bg4.lt
     refine ⟨_, rfl, fun a93 f93 => ?_⟩
     have szw16 := kc16.size
     replace HK := HK.trans kc16 (fun x hx hlt => by have := lo0 x hx; omega)
     replace Bg4 := Bg4.kept kc16 NF
     replace PO := PO.keptT kc16 npk0
     clear f92 a92 kc16
     have T := T6
     clear T6
     replace NF : g4 ∉ m6.fp g := fun h => (nw6.1 _ h).elim NF (fun h => by omega)
     refine L.va f93 (E.not f93 rfl) (hw := (f93.yes rfl rfl)) fun a94 f94 => ?_
     refine L.va f94 (E.pickT f94 rfl rfl) fun a95 f95 => ?_
     refine L.ag f95 fun a96 f96 => ?_
     refine wpList_nil (hK52 _ _ ?_)
     have f97 := f96.sub (sc 12 sn)
     refine wp_ret ?_
     try simp only [Exit.inBlock, Exit.then]
     refine C.ret (P := Try.prog) (fn := Try.f5) f97 rfl rfl ?_
     refine ⟨HK, ?_⟩
     clear f93 a93 f94 a94 f95 a95 f96
     (simp only [i4, Bool.not_false]; done)
    have hs94 := h87
    refine L.run f90 (rest' := []) (by kernel_rfl) fun a91 f91 => ?_
    clear f89
    skip
    refine wpList_nil (hK52 _ _ ?_)
    have f92 := f91.sub (sub_cons (i := 12) (v := .bool false) (by kernel_rfl) sn)
    refine wp_ret ?_
    try simp only [Exit.inBlock, Exit.then]
    refine C.ret (P := Try.prog) (fn := Try.f5) f92 rfl rfl ?_
    refine ⟨HK, ?_⟩
    clear f91 f90
    (exfalso; simp_all; done)
   have hs81 := h82
   refine L.sk f75 (f75.noT rfl rfl) fun a76 f76 => ?_
   refine L.va f76 (E.pickF f76 rfl rfl) (hw := (f76.yes rfl rfl)) fun a77 f77 => ?_
   refine L.mv f77 (hw := (f77.yes rfl rfl)) fun a78 f78 => ?_
   refine L.sk f78 (f78.noT rfl rfl) fun a79 f79 => ?_
   refine L.sk f79 (f79.noT rfl rfl) fun a80 f80 => ?_
   refine L.sk f80 (f80.noT rfl rfl) fun a81 f81 => ?_
   refine L.sk f81 (f81.noU rfl rfl) fun a82 f82 => ?_
   clear f74 f75 a74 f76 a76 f77 a77 f78 a78 f79 a79 f80 a80 f81 a81
   refine L.sk f82 (f82.noT rfl rfl) fun a83 f83 => ?_
   refine L.sk f83 (f83.noT rfl rfl) fun a84 f84 => ?_
   refine L.va f84 (E.pickF f84 rfl rfl) (hw := (f84.yes rfl rfl)) fun a85 f85 => ?_
   refine L.va f85 (E.pickF f85 rfl rfl) fun a86 f86 => ?_
   refine L.va f86 (E.eqlB f86 Try.underlying4 rfl rfl) fun a87 f87 => ?_
   refine L.mv f87 fun a88 f88 => ?_
   clear f82 a82 f83 a83 f84 a84 f85 a85 f86 a86 f87 a87
   refine f88.splitD 94 rfl (fun h88 f89 => ?_) (fun h88 f89 => ?_)
   ·have hs94 := h88
    refine L.mv f89 (hw := (f89.yes rfl rfl)) fun a90 f90 => ?_
    refine L.va f90 (E.build f90 (parts1 f90 rfl) (wbl34_0_tr1 _)) (hw := (f90.yes rfl rfl)) fun a91 f91 => ?_
    refine L.cl f91 (run_call Try.call14 (args2 f91 rfl rfl)) (out_any ({ kind := 2 } : Pk) s0 (by decide) w.heap.size g ((((((trG).outT ({ kind := 3, qos := qa % 2 + 1, id := ib + 1, topic := ⟨#[97]⟩, pay := [120] } : Pk)).2).inT ({ kind := (if qa % 2 + 1 = 1 then 4 else 7), id := ib + 1 } : Pk)).outT ({ kind := 3, qos := qa % 2 + 1, id := ib + 1, topic := ⟨#[97]⟩, pay := [121], dup := dup } : Pk)).2) m5 _ T (by omega) (flat_o _ _ (by decide)) (by constructor <;> decide)) ?_ (hw := (f91.yes rfl rfl))
    clear f88 f89 a88 f90 a90
    rintro e w16 ⟨rfl, m6, T6, up6, kc16, nw6⟩
    have lo0 := T.lo
    have npk0 := T.noPk
    have ltp := Bg4.lt
    refine ⟨_, rfl, fun a92 f92 => ?_⟩
    have szw16 := kc16.size
    replace HK := HK.trans kc16 (fun x hx hlt => by have := lo0 x hx; omega)
    replace Bg4 := Bg4.kept kc16 NF
    replace PO := PO.keptT kc16 npk0
    clear f91 a91 kc16
    have T := T6
    clear T6
    replace NF : g4 ∉ m6.fp g := fun h => (nw6.1 _ h).elim NF (fun h => by omega)
    refine L.va f92 (E.not f92 rfl) (hw := (f92.yes rfl rfl)) fun a93 f93 => ?_
    refine L.va f93 (E.pickT f93 rfl rfl) fun a94 f94 => ?_
    refine L.ag f94 fun a95 f95 => ?_
    refine wpList_nil (hK52 _ _ ?_)
    have f96 := f95.sub (sc 12 sn)
    refine wp_ret ?_
    try simp only [Exit.inBlock, Exit.then]
    refine C.ret (P := Try.prog) (fn := Try.f5) f96 rfl rfl ?_
    refine ⟨HK, ?_⟩
    clear f92 a92 f93 a93 f94 a94 f95
    (simp only [i4, Bool.not_false]; done)
   have hs94 := h88
   refine L.run f89 (rest' := []) (by kernel_rfl) fun a90 f90 => ?_
   clear f88
   skip
   refine wpList_nil (hK52 _ _ ?_)
   have f91 := f90.sub (sub_cons (i := 12) (v := .bool false) (by kernel_rfl) sn)
   refine wp_ret ?_
   try simp only [Exit.inBlock, Exit.then]
   refine C.ret (P := Try.prog) (fn := Try.f5) f91 rfl rfl ?_
   refine ⟨HK, ?_⟩
   clear f90 f89
   (exfalso; simp_all; done)
  have hs71 := h81
  refine C.condF f62 rfl ?_
  refine wp_skip (hK50 _ _ ?_)
  have f63 := f62.sub (sc 2 (sc 3 (sc 4 (sc 13 (sc 14 (sc 15 (sc 16 sn)))))))
  refine wp_seq_k fun K53 hK53 => ?_
  have hI := ids_true hq' hi' dup same false true
  clear f61 f62
  unfold idsB at hI
  simp only [Bool.and_eq_true, beq_iff_eq, if_true, Bool.false_eq_true, if_false, Bool.not_eq_true'] at hI
  obtain ⟨⟨⟨i1, i2⟩, i3⟩, i4⟩ := hI
  simp only [hs71, if_true, if_false, Bool.false_eq_true, reduceIte, ite_true, ite_false] at i3 i4
  clear i1 i2
  replace PO : PkO w11 ({ kind := 3, qos := qa % 2 + 1, id := ib + 1, topic := ⟨#[97]⟩, pay := [120], dup := dup } : Pk) ({ s0 with pa := some ⟨g2, 0, none⟩, pc := 1 } : Ad) := ⟨PO.pay, PO.wp, PO.pass, PO.subs, PO.codes⟩
  refine C.region ?_
  refine L.mv f63 fun a64 f64 => ?_
  refine L.va f64 (by exact E.loadB f64 Try.underlying34 rfl wsz34_tr1 rfl (Bg4) rfl) fun a65 f65 => ?_
  refine L.cl f65 (run_call Try.call14 (args2 f65 rfl rfl)) (out_any ({ kind := 3, qos := qa % 2 + 1, id := ib + 1, topic := ⟨#[97]⟩, pay := [120], dup := dup } : Pk) ({ s0 with pa := some ⟨g2, 0, none⟩, pc := 1 } : Ad) (wf_small (by show (0 : Int) ≤ ib + 1; omega) (by show ib + 1 ≤ (1000000 : Int); omega)) w.heap.size g ((((trG).outT ({ kind := 3, qos := qa % 2 + 1, id := ib + 1, topic := ⟨#[97]⟩, pay := [120] } : Pk)).2).inT ({ kind := (if qa % 2 + 1 = 1 then 4 else 7), id := ib + 1 } : Pk)) m4 _ T (by omega) PO (len_pub _ _ _ _ _ (by decide))) ?_
  clear f63 a60 f64 a64
  rintro e w12 ⟨rfl, m5, T5, up5, kc12, nw5⟩
  have lo0 := T.lo
  have npk0 := T.noPk
  have ltp := Bg4.lt
  refine ⟨_, rfl, fun a66 f66 => ?_⟩
  have szw12 := kc12.size
  replace HK := HK.trans kc12 (fun x hx hlt => by have := lo0 x hx; omega)
  replace Bg4 := Bg4.kept kc12 NF
  replace PO := PO.keptT kc12 npk0
  clear f65 a65 kc12
  have T := T5
  clear T5
  replace NF : g4 ∉ m5.fp g := fun h => (nw5.1 _ h).elim NF (fun h => by omega)
  refine L.mv f66 fun a67 f67 => ?_
  refine L.mv f67 fun a68 f68 => ?_
  refine L.mv f68 (hw := (f68.yes rfl rfl)) fun a69 f69 => ?_
  refine L.mv f69 (hw := (f69.yes rfl rfl)) fun a70 f70 => ?_
  clear f66 a66 f67 a67 f68 a68 f69 a69
  refine f70.split 81 rfl (fun h89 f71 => ?_) (fun h89 f71 => ?_)
  ·have hs81 := h89
   refine L.mv f71 (hw := (f71.yes rfl rfl)) fun a72 f72 => ?_
   refine L.va f72 (E.pickT f72 rfl rfl) (hw := (f72.yes rfl rfl)) fun a73 f73 => ?_
   refine L.mv f73 (hw := (f73.yes rfl rfl)) fun a74 f74 => ?_
   clear f70 f71 a70 f72 a72 f73 a73
   refine f74.split 84 rfl (fun h90 f75 => ?_) (fun h90 f75 => ?_)
   ·have hs84 := h90
    refine L.mv f75 (hw := (f75.yes rfl rfl)) fun a76 f76 => ?_
    refine L.va f76 (E.eq f76) (hw := (f76.yes rfl rfl)) fun a77 f77 => ?_
    refine L.mv f77 (hw := (f77.yes rfl rfl)) fun a78 f78 => ?_
    clear f74 f75 a74 f76 a76 f77 a77
    refine f78.splitD 87 rfl (fun h91 f79 => ?_) (fun h91 f79 => ?_)
    ·have hs87 := h91
     refine L.mv f79 (hw := (f79.yes rfl rfl)) fun a80 f80 => ?_
     refine L.va f80 (E.pickT f80 rfl rfl) (hw := (f80.yes rfl rfl)) fun a81 f81 => ?_
     refine L.va f81 (E.not f81 rfl) (hw := (f81.yes rfl rfl)) fun a82 f82 => ?_
     refine L.va f82 (E.pickT f82 rfl rfl) (hw := (f82.yes rfl rfl)) fun a83 f83 => ?_
     refine L.va f83 (E.pickF f83 rfl rfl) fun a84 f84 => ?_
     refine L.va f84 (E.eqlB f84 Try.underlying4 rfl rfl) fun a85 f85 => ?_
     refine L.mv f85 fun a86 f86 => ?_
     clear f78 f79 a78 f80 a80 f81 a81 f82 a82 f83 a83 f84 a84 f85 a85
     refine f86.splitD 94 rfl (fun h92 f87 => ?_) (fun h92 f87 => ?_)
     ·have hs94 := h92
      refine L.mv f87 (hw := (f87.yes rfl rfl)) fun a88 f88 => ?_
      refine L.va f88 (E.build f88 (parts1 f88 rfl) (wbl34_0_tr1 _)) (hw := (f88.yes rfl rfl)) fun a89 f89 => ?_
      refine L.cl f89 (run_call Try.call14 (args2 f89 rfl rfl)) (out_any ({ kind := 2 } : Pk) s0 (by decide) w.heap.size g ((((((trG).outT ({ kind := 3, qos := qa % 2 + 1, id := ib + 1, topic := ⟨#[97]⟩, pay := [120] } : Pk)).2).inT ({ kind := (if qa % 2 + 1 = 1 then 4 else 7), id := ib + 1 } : Pk)).outT ({ kind := 3, qos := qa % 2 + 1, id := ib + 1, topic := ⟨#[97]⟩, pay := [120], dup := dup } : Pk)).2) m5 _ T (by omega) (flat_o _ _ (by decide)) (by constructor <;> decide)) ?_ (hw := (f89.yes rfl rfl))
      clear f86 f87 a86 f88 a88
      rintro e w13 ⟨rfl, m6, T6, up6, kc13, nw6⟩
      have lo0 := T.lo
      have npk0 := T.noPk
      have ltp := Bg4.lt
      refine ⟨_, rfl, fun a90 f90 => ?_⟩
      have szw13 := kc13.size
      replace HK := HK.trans kc13 (fun x hx hlt => by have := lo0 x hx; omega)
      replace Bg4 := Bg4.kept kc13 NF
      replace PO := PO.keptT kc13 npk0
      clear f89 a89 kc13
      have T := T6
      clear T6
      replace NF : g4 ∉ m6.fp g := fun h => (nw6.1 _ h).elim NF (fun h => by omega)
      refine L.va f90 (E.not f90 rfl) (hw := (f90.yes rfl rfl)) fun a91 f91 => ?_
      refine L.va f91 (E.pickT f91 rfl rfl) fun a92 f92 => ?_
      refine L.ag f92 fun a93 f93 => ?_
      refine wpList_nil (hK53 _ _ ?_)
      have f94 := f93.sub (sc 12 sn)
      refine wp_ret ?_
      try simp only [Exit.inBlock, Exit.then]
      refine C.ret (P := Try.prog) (fn := Try.f5) f94 rfl rfl ?_
      refine ⟨HK, ?_⟩
      clear f90 a90 f91 a91 f92 a92 f93
      (simp only [i4, Bool.not_false]; done)
     have hs94 := h92
     refine L.run f87 (rest' := []) (by kernel_rfl) fun a88 f88 => ?_
     clear f86
     skip
     refine wpList_nil (hK53 _ _ ?_)
     have f89 := f88.sub (sub_cons (i := 12) (v := .bool false) (by kernel_rfl) sn)
     refine wp_ret ?_
     try simp only [Exit.inBlock, Exit.then]
     refine C.ret (P := Try.prog) (fn := Try.f5) f89 rfl rfl ?_
     refine ⟨HK, ?_⟩
     clear f88 f87
     (exfalso; simp_all; done)
    have hs87 := h91
    refine L.sk f79 (f79.noT rfl rfl) fun a80 f80 => ?_
    refine L.va f80 (E.pickF f80 rfl rfl) (hw := (f80.yes rfl rfl)) fun a81 f81 => ?_
    refine L.va f81 (E.not f81 rfl) (hw := (f81.yes rfl rfl)) fun a82 f82 => ?_
    refine L.va f82 (E.pickT f82 rfl rfl) (hw := (f82.yes rfl rfl)) fun a83 f83 => ?_
    refine L.va f83 (E.pickF f83 rfl rfl) fun a84 f84 => ?_
    refine L.va f84 (E.eqlB f84 Try.underlying4 rfl rfl) fun a85 f85 => ?_
    refine L.mv f85 fun a86 f86 => ?_
    clear f78 f79 a78 f80 a80 f81 a81 f82 a82 f83 a83 f84 a84 f85 a85
    refine f86.splitD 94 rfl (fun h93 f87 => ?_) (fun h93 f87 => ?_)
    ·have hs94 := h93
     refine L.mv f87 (hw := (f87.yes rfl rfl)) fun a88 f88 => ?_
     refine L.va f88 (E.build f88 (parts1 f88 rfl) (wbl34_0_tr1 _)) (hw := (f88.yes rfl rfl)) fun a89 f89 => ?_
     refine L.cl f89 (run_call Try.call14 (args2 f89 rfl rfl)) (out_any ({ kind := 2 } : Pk) s0 (by decide) w.heap.size g ((((((trG).outT ({ kind := 3, qos := qa % 2 + 1, id := ib + 1, topic := ⟨#[97]⟩, pay := [120] } : Pk)).2).inT ({ kind := (if qa % 2 + 1 = 1 then 4 else 7), id := ib + 1 } : Pk)).outT ({ kind := 3, qos := qa % 2 + 1, id := ib + 1, topic := ⟨#[97]⟩, pay := [120], dup := dup } : Pk)).2) m5 _ T (by omega) (flat_o _ _ (by decide)) (by constructor <;> decide)) ?_ (hw := (f89.yes rfl rfl))
     clear f86 f87 a86 f88 a88
     rintro e w13 ⟨rfl, m6, T6, up6, kc13, nw6⟩
     have lo0 := T.lo
     have npk0 := T.noPk
     have ltp := Bg4.lt
     refine ⟨_, rfl, fun a90 f90 => ?_⟩
     have szw13 := kc13.size
     replace HK := HK.trans kc13 (fun x hx hlt => by have := lo0 x hx; omega)
     replace Bg4 := Bg4.kept kc13 NF
     replace PO := PO.keptT kc13 npk0
     clear f89 a89 kc13
     have T := T6
     clear T6
     replace NF : g4 ∉ m6.fp g := fun h => (nw6.1 _ h).elim NF (fun h => by omega)
     refine L.va f90 (E.not f90 rfl) (hw := (f90.yes rfl rfl)) fun a91 f91 => ?_
     refine L.va f91 (E.pickT f91 rfl rfl) fun a92 f92 => ?_
     refine L.ag f92 fun a93 f93 => ?_
     refine wpList_nil (hK53 _ _ ?_)
     have f94 := f93.sub (sc 12 sn)
     refine wp_ret ?_
     try simp only [Exit.inBlock, Exit.then]
     refine C.ret (P := Try.prog) (fn := Try.f5) f94 rfl rfl ?_
     refine ⟨HK, ?_⟩
     clear f90 a90 f91 a91 f92 a92 f93
     (simp only [i4, Bool.not_false]; done)
    have hs94 := h93
    refine L.run f87 (rest' := []) (by kernel_rfl) fun a88 f88 => ?_
    clear f86
    skip
    refine wpList_nil (hK53 _ _ ?_)
    have f89 := f88.sub (sub_cons (i := 12) (v := .bool false) (by kernel_rfl) sn)
    refine wp_ret ?_
    try simp only [Exit.inBlock, Exit.then]
    refine C.ret (P := Try.prog) (fn := Try.f5) f89 rfl rfl ?_
    refine ⟨HK, ?_⟩
    clear f88 f87
    (exfalso; simp_all; done)
   have hs84 := h90
   refine L.sk f75 (f75.noT rfl rfl) fun a76 f76 => ?_
   refine L.sk f76 (f76.noT rfl rfl) fun a77 f77 => ?_
   refine L.sk f77 (f77.noT rfl rfl) fun a78 f78 => ?_
   refine L.sk f78 (f78.noU rfl rfl) fun a79 f79 => ?_
   refine L.sk f79 (f79.noT rfl rfl) fun a80 f80 => ?_
   refine L.sk f80 (f80.noT rfl rfl) fun a81 f81 => ?_
   refine L.va f81 (E.pickF f81 rfl rfl) (hw := (f81.yes rfl rfl)) fun a82 f82 => ?_
   clear f74 f75 a74 f76 a76 f77 a77 f78 a78 f79 a79 f80 a80 f81 a81
   refine L.va f82 (E.pickF f82 rfl rfl) fun a83 f83 => ?_
   refine L.va f83 (E.eqlB f83 Try.underlying4 rfl rfl) fun a84 f84 => ?_
   refine L.mv f84 fun a85 f85 => ?_
   clear f82 a82 f83 a83 f84 a84
   refine f85.splitD 94 rfl (fun h94 f86 => ?_) (fun h94 f86 => ?_)
   ·have hs94 := h94
    refine L.mv f86 (hw := (f86.yes rfl rfl)) fun a87 f87 => ?_
    refine L.va f87 (E.build f87 (parts1 f87 rfl) (wbl34_0_tr1 _)) (hw := (f87.yes rfl rfl)) fun a88 f88 => ?_
    refine L.cl f88 (run_call Try.call14 (args2 f88 rfl rfl)) (out_any ({ kind := 2 } : Pk) s0 (by decide) w.heap.size g ((((((trG).outT ({ kind := 3, qos := qa % 2 + 1, id := ib + 1, topic := ⟨#[97]⟩, pay := [120] } : Pk)).2).inT ({ kind := (if qa % 2 + 1 = 1 then 4 else 7), id := ib + 1 } : Pk)).outT ({ kind := 3, qos := qa % 2 + 1, id := ib + 1, topic := ⟨#[97]⟩, pay := [120], dup := dup } : Pk)).2) m5 _ T (by omega) (flat_o _ _ (by decide)) (by constructor <;> decide)) ?_ (hw := (f88.yes rfl rfl))
    clear f85 f86 a85 f87 a87
    rintro e w13 ⟨rfl, m6, T6, up6, kc13, nw6⟩
    have lo0 := T.lo
    have npk0 := T.noPk
    have ltp := Bg4.lt
    refine ⟨_, rfl, fun a89 f89 => ?_⟩
    have szw13 := kc13.size
    replace HK := HK.trans kc13 (fun x hx hlt => by have := lo0 x hx; omega)
    replace Bg4 := Bg4.kept kc13 NF
    replace PO := PO.keptT kc13 npk0
    clear f88 a88 kc13
    have T := T6
    clear T6
    replace NF : g4 ∉ m6.fp g := fun h => (nw6.1 _ h).elim NF (fun h => by omega)
    refine L.va f89 (E.not f89 rfl) (hw := (f89.yes rfl rfl)) fun a90 f90 => ?_
    refine L.va f90 (E.pickT f90 rfl rfl) fun a91 f91 => ?_
    refine L.ag f91 fun a92 f92 => ?_
    refine wpList_nil (hK53 _ _ ?_)
    have f93 := f92.sub (sc 12 sn)
    refine wp_ret ?_
    try simp only [Exit.inBlock, Exit.then]
    refine C.ret (P := Try.prog) (fn := Try.f5) f93 rfl rfl ?_
    refine ⟨HK, ?_⟩
    clear f89 a89 f90 a90 f91 a91 f92
    (simp only [i4, Bool.not_false]; done)
   have hs94 := h94
   refine L.run f86 (rest' := []) (by kernel_rfl) fun a87 f87 => ?_
   clear f85
   skip
   refine wpList_nil (hK53 _ _ ?_)
   have f88 := f87.sub (sub_cons (i := 12) (v := .bool false) (by kernel_rfl) sn)
   refine wp_ret ?_
   try simp only [Exit.inBlock, Exit.then]
   refine C.ret (P := Try.prog) (fn := Try.f5) f88 rfl rfl ?_
   refine ⟨HK, ?_⟩
   clear f87 f86
   (exfalso; simp_all; done)
  have hs81 := h89
  refine L.sk f71 (f71.noT rfl rfl) fun a72 f72 => ?_
  refine L.va f72 (E.pickF f72 rfl rfl) (hw := (f72.yes rfl rfl)) fun a73 f73 => ?_
  refine L.mv f73 (hw := (f73.yes rfl rfl)) fun a74 f74 => ?_
  refine L.sk f74 (f74.noT rfl rfl) fun a75 f75 => ?_
  refine L.sk f75 (f75.noT rfl rfl) fun a76 f76 => ?_
  refine L.sk f76 (f76.noT rfl rfl) fun a77 f77 => ?_
  refine L.sk f77 (f77.noU rfl rfl) fun a78 f78 => ?_
  clear f70 f71 a70 f72 a72 f73 a73 f74 a74 f75 a75 f76 a76 f77 a77
  refine L.sk f78 (f78.noT rfl rfl) fun a79 f79 => ?_
  refine L.sk f79 (f79.noT rfl rfl) fun a80 f80 => ?_
  refine L.va f80 (E.pickF f80 rfl rfl) (hw := (f80.yes rfl rfl)) fun a81 f81 => ?_
  refine L.va f81 (E.pickF f81 rfl rfl) fun a82 f82 => ?_
  refine L.va f82 (E.eqlB f82 Try.underlying4 rfl rfl) fun a83 f83 => ?_
  refine L.mv f83 fun a84 f84 => ?_
  clear f78 a78 f79 a79 f80 a80 f81 a81 f82 a82 f83 a83
  refine f84.splitD 94 rfl (fun h95 f85 => ?_) (fun h95 f85 => ?_)
  ·have hs94 := h95
   refine L.mv f85 (hw := (f85.yes rfl rfl)) fun a86 f86 => ?_
   refine L.va f86 (E.build f86 (parts1 f86 rfl) (wbl34_0_tr1 _)) (hw := (f86.yes rfl rfl)) fun a87 f87 => ?_
   refine L.cl f87 (run_call Try.call14 (args2 f87 rfl rfl)) (out_any ({ kind := 2 } : Pk) s0 (by decide) w.heap.size g ((((((trG).outT ({ kind := 3, qos := qa % 2 + 1, id := ib + 1, topic := ⟨#[97]⟩, pay := [120] } : Pk)).2).inT ({ kind := (if qa % 2 + 1 = 1 then 4 else 7), id := ib + 1 } : Pk)).outT ({ kind := 3, qos := qa % 2 + 1, id := ib + 1, topic := ⟨#[97]⟩, pay := [120], dup := dup } : Pk)).2) m5 _ T (by omega) (flat_o _ _ (by decide)) (by constructor <;> decide)) ?_ (hw := (f87.yes rfl rfl))
   clear f84 f85 a84 f86 a86
   rintro e w13 ⟨rfl, m6, T6, up6, kc13, nw6⟩
   have lo0 := T.lo
   have npk0 := T.noPk
   have ltp := Bg4.lt
   refine ⟨_, rfl, fun a88 f88 => ?_⟩
   have szw13 := kc13.size
   replace HK := HK.trans kc13 (fun x hx hlt => by have := lo0 x hx; omega)
   replace Bg4 := Bg4.kept kc13 NF
   replace PO := PO.keptT kc13 npk0
   clear f87 a87 kc13
   have T := T6
   clear T6
   replace NF : g4 ∉ m6.fp g := fun h => (nw6.1 _ h).elim NF (fun h => by omega)
   refine L.va f88 (E.not f88 rfl) (hw := (f88.yes rfl rfl)) fun a89 f89 => ?_
   refine L.va f89 (E.pickT f89 rfl rfl) fun a90 f90 => ?_
   refine L.ag f90 fun a91 f91 => ?_
   refine wpList_nil (hK53 _ _ ?_)
   have f92 := f91.sub (sc 12 sn)
   refine wp_ret ?_
   try simp only [Exit.inBlock, Exit.then]
   refine C.ret (P := Try.prog) (fn := Try.f5) f92 rfl rfl ?_
   refine ⟨HK, ?_⟩
   clear f88 a88 f89 a89 f90 a90 f91
   (simp only [i4, Bool.not_false]; done)
  have hs94 := h95
  refine L.run f85 (rest' := []) (by kernel_rfl) fun a86 f86 => ?_
  clear f84
  skip
  refine wpList_nil (hK53 _ _ ?_)
  have f87 := f86.sub (sub_cons (i := 12) (v := .bool false) (by kernel_rfl) sn)
  refine wp_ret ?_
  try simp only [Exit.inBlock, Exit.then]
  refine C.ret (P := Try.prog) (fn := Try.f5) f87 rfl rfl ?_
  refine ⟨HK, ?_⟩
  clear f86 f85
  (exfalso; simp_all; done)
 clear f40
 subst h56
 refine C.condF f41 rfl ?_
 refine wp_skip (hK36 _ _ ?_)
 have f42 := f41.sub (sc 2 (sc 3 (sc 4 (sc 5 (sc 13 (sc 14 (sc 15 sn)))))))
 refine C.sk fun K54 hK54 => ?_
 refine L.run f42 (rest' := []) (by kernel_rfl) fun a43 f43 => ?_
 clear f41
 skip
 refine wpList_nil (hK54 _ _ ?_)
 have f44 := f43.sub (sub_cons (i := 2) (Fr.kept f43 (by kernel_rfl) rfl) (sub_cons (i := 3) (Fr.kept f43 (by kernel_rfl) rfl) (sub_cons (i := 4) (Fr.kept f43 (by kernel_rfl) rfl) (sub_cons (i := 13) (Fr.kept f43 (by kernel_rfl) rfl) (sub_cons (i := 14) (Fr.kept f43 (by kernel_rfl) rfl) (sub_cons (i := 15) (Fr.kept f43 (by kernel_rfl) rfl) (sub_cons (i := 16) (v := .bool false) (by kernel_rfl) sn)))))))
 refine C.sk fun K55 hK55 => ?_
 refine L.mv f44 fun a45 f45 => ?_
 refine L.va f45 (E.fa 1 f45 Try.underlying34 rfl wsz4_tr1) fun a46 f46 => ?_
 refine L.store f46 wantedN wsz4_tr1 rfl rfl rfl Bg4 (by (simp [Value.cells]; done)) fun a47 w8 f47 NB8 ks8 => ?_
 have szw8 := ks8.size
 replace HK := HK.trans ks8 (fun x hx hlt => by obtain rfl := List.mem_singleton.1 hx; exfalso; omega)
 replace PO := PO.keptT ks8 (NoPk.blk Bg4 (by decide))
 replace T := T.keptX ks8 NF (NoPk.blk Bg4 (by decide))
 replace Bg4 := NB8
 simp only [Value.cells, z1, z2, z3, Nat.reduceAdd, Nat.zero_add] at Bg4
 clear f43 f42 f44 a43 f45 a45 ks8 f46 a46
 refine wpList_nil (hK55 _ _ ?_)
 have f48 := f47.sub (sc 2 (sc 3 (sc 4 (sc 13 (sc 14 (sc 15 (sc 16 sn)))))))
 refine wp_seq_k fun K56 hK56 => ?_
 refine C.sk fun K57 hK57 => ?_
 refine L.mv f48 fun a49 f49 => ?_
 refine L.va f49 (E.not f49 rfl) fun a50 f50 => ?_
 refine wpList_nil (hK57 _ _ ?_)
 have f51 := f50.sub (sc 2 (sc 3 (sc 4 (sc 13 (sc 14 (sc 15 (sc 16 (sc 71 sn))))))))
 clear f47 f48 a47 f49 a49 f50
 refine f51.splitNB 71 rfl (fun h96 f52 => ?_) (fun h96 f52 => ?_)
 ·have hs71 := h96
  refine C.condT f52 rfl ?_
  have HR : Kept [g4] w8 w8 := Kept.refl _ _
  have nop := NoPk.blk Bg4 (by decide : 34 ∉ [5, 46, 3])
  refine C.region ?_
  refine L.buildSlice f52 wantedN (by decide) (parts1 f52 rfl) Try.underlying28 wzi5_tr1 rfl rfl (wbs28_1_tr1 _) fun a53 w9 g8 N8 f53 => ?_
  have Bg8 := N8.blk
  have kg8 := N8.kept
  have log8 := N8.lo
  have ltg8 := Bg8.lt
  have szw9 := kg8.size
  have frg8 : w.heap.size ≤ g8 := Nat.le_trans HK.size log8
  have frg8_HR : w8.heap.size ≤ g8 := Nat.le_trans HR.size log8
  have neg4_g8 : g4 ≠ g8 := by have := Bg4.lt; omega
  replace HK := HK.trans kg8 (by simp)
  replace Bg4 := Bg4.kept kg8 (by simp)
  replace HR := HR.trans kg8 (by simp)
  clear f51 N8 kg8
  obtain ⟨w10, hcv, ks, HM⟩ := run_mark (n := 1) (c := 1) Bg8 Try.underlying28 Try.underlying5
  refine L.va f53 (E.convV f53 rfl hcv) fun a54 f54 => ?_
  have szw10 := ks.size
  replace HK := HK.trans ks (fun x hx hlt => by obtain rfl := List.mem_singleton.1 hx; exfalso; omega)
  replace Bg4 := Bg4.kept ks (by simp; omega)
  replace HR := HR.trans ks (fun x hx hlt => by obtain rfl := List.mem_singleton.1 hx; exfalso; omega)
  clear f52 a50 hcv ks f53 a53
  refine L.va f54 (E.fa 6 f54 Try.underlying34 rfl wsz28_tr1) fun a55 f55 => ?_
  refine L.store f55 wantedN wsz28_tr1 rfl rfl rfl Bg4 (by (simp [Value.cells]; done)) fun a56 w11 f56 NB11 ks11 => ?_
  have szw11 := ks11.size
  replace HK := HK.trans ks11 (fun x hx hlt => by obtain rfl := List.mem_singleton.1 hx; exfalso; omega)
  replace HR := HR.trans ks11 (fun x hx hlt => hx)
  replace HM := heap_kept HM ks11 (by simp; omega)
  replace Bg4 := NB11
  simp only [Value.cells, z1, z2, z3, Nat.reduceAdd, Nat.zero_add] at Bg4
  clear f54 a54 ks11 f55 a55
  refine wpList_nil (hK56 _ _ ?_)
  have f57 := f56.sub (sc 2 (sc 3 (sc 4 (sc 13 (sc 14 (sc 15 (sc 16 sn)))))))
  refine wp_seq_k fun K58 hK58 => ?_
  have hI := ids_true hq' hi' dup same false false
  clear f56
  unfold idsB at hI
  simp only [Bool.and_eq_true, beq_iff_eq, if_true, Bool.false_eq_true, if_false, Bool.not_eq_true'] at hI
  obtain ⟨⟨⟨i1, i2⟩, i3⟩, i4⟩ := hI
  simp only [hs71, if_true, if_false, Bool.false_eq_true, reduceIte, ite_true, ite_false] at i3 i4
  clear i1 i2
  have PO : PkO w11 ({ kind := 3, qos := qa % 2 + 1, id := ib + 1, topic := ⟨#[97]⟩, pay := [121], dup := dup } : Pk) ({ s0 with pa := some ⟨g8, 0, none⟩, pc := 1 } : Ad) := pay_o HM _ rfl rfl rfl rfl rfl
  replace T := T.keptX HR NF nop
  clear HR
  refine C.region ?_
  refine L.mv f57 fun a58 f58 => ?_
  refine L.va f58 (by exact E.loadB f58 Try.underlying34 rfl wsz34_tr1 rfl (Bg4) rfl) fun a59 f59 => ?_
  refine L.cl f59 (run_call Try.call14 (args2 f59 rfl rfl)) (out_any ({ kind := 3, qos := qa % 2 + 1, id := ib + 1, topic := ⟨#[97]⟩, pay := [121], dup := dup } : Pk) ({ s0 with pa := some ⟨g8, 0, none⟩, pc := 1 } : Ad) (wf_small (by show (0 : Int) ≤ ib + 1; omega) (by show ib + 1 ≤ (1000000 : Int); omega)) w.heap.size g (((trG).outT ({ kind := 3, qos := qa % 2 + 1, id := ib + 1, topic := ⟨#[97]⟩, pay := [120] } : Pk)).2) m3 _ T (by omega) PO (len_pub _ _ _ _ _ (by decide))) ?_
  clear f57 a56 f58 a58
  rintro e w12 ⟨rfl, m4, T4, up4, kc12, nw4⟩
  have lo0 := T.lo
  have npk0 := T.noPk
  have ltp := Bg4.lt
  refine ⟨_, rfl, fun a60 f60 => ?_⟩
  have szw12 := kc12.size
  replace HK := HK.trans kc12 (fun x hx hlt => by have := lo0 x hx; omega)
  replace Bg4 := Bg4.kept kc12 NF
  replace PO := PO.keptT kc12 npk0
  clear f59 a59 kc12
  have T := T4
  clear T4
  replace NF : g4 ∉ m4.fp g := fun h => (nw4.1 _ h).elim NF (fun h => by omega)
  refine L.mv f60 fun a61 f61 => ?_
  refine L.mv f61 fun a62 f62 => ?_
  refine L.mv f62 (hw := (f62.yes rfl rfl)) fun a63 f63 => ?_
  refine L.mv f63 (hw := (f63.yes rfl rfl)) fun a64 f64 => ?_
  clear f60 a60 f61 a61 f62 a62 f63 a63
  refine f64.split 81 rfl (fun h97 f65 => ?_) (fun h97 f65 => ?_)
  ·have hs81 := h97
   refine L.mv f65 (hw := (f65.yes rfl rfl)) fun a66 f66 => ?_
   refine L.va f66 (E.pickT f66 rfl rfl) (hw := (f66.yes rfl rfl)) fun a67 f67 => ?_
   refine L.mv f67 (hw := (f67.yes rfl rfl)) fun a68 f68 => ?_
   clear f64 f65 a64 f66 a66 f67 a67
   refine f68.split 84 rfl (fun h98 f69 => ?_) (fun h98 f69 => ?_)
   ·have hs84 := h98
    refine L.mv f69 (hw := (f69.yes rfl rfl)) fun a70 f70 => ?_
    refine L.va f70 (E.eq f70) (hw := (f70.yes rfl rfl)) fun a71 f71 => ?_
    refine L.mv f71 (hw := (f71.yes rfl rfl)) fun a72 f72 => ?_
    clear f68 f69 a68 f70 a70 f71 a71
    refine f72.splitD 87 rfl (fun h99 f73 => ?_) (fun h99 f73 => ?_)
    ·have hs87 := h99
     refine L.mv f73 (hw := (f73.yes rfl rfl)) fun a74 f74 => ?_
     refine L.va f74 (E.pickT f74 rfl rfl) (hw := (f74.yes rfl rfl)) fun a75 f75 => ?_
     refine L.va f75 (E.not f75 rfl) (hw := (f75.yes rfl rfl)) fun a76 f76 => ?_
     refine L.va f76 (E.pickT f76 rfl rfl) (hw := (f76.yes rfl rfl)) fun a77 f77 => ?_
     refine L.va f77 (E.pickF f77 rfl rfl) fun a78 f78 => ?_
     refine L.va f78 (E.eqlB f78 Try.underlying4 rfl rfl) fun a79 f79 => ?_
     refine L.mv f79 fun a80 f80 => ?_
     clear f72 f73 a72 f74 a74 f75 a75 f76 a76 f77 a77 f78 a78 f79 a79
     refine f80.splitD 94 rfl (fun h100 f81 => ?_) (fun h100 f81 => ?_)
     ·have hs94 := h100
      refine L.mv f81 (hw := (f81.yes rfl rfl)) fun a82 f82 => ?_
      refine L.va f82 (E.build f82 (parts1 f82 rfl) (wbl34_0_tr1 _)) (hw := (f82.yes rfl rfl)) fun a83 f83 => ?_
      refine L.cl f83 (run_call Try.call14 (args2 f83 rfl rfl)) (out_any ({ kind := 2 } : Pk) s0 (by decide) w.heap.size g (((((trG).outT ({ kind := 3, qos := qa % 2 + 1, id := ib + 1, topic := ⟨#[97]⟩, pay := [120] } : Pk)).2).outT ({ kind := 3, qos := qa % 2 + 1, id := ib + 1, topic := ⟨#[97]⟩, pay := [121], dup := dup } : Pk)).2) m4 _ T (by omega) (flat_o _ _ (by decide)) (by constructor <;> decide)) ?_ (hw := (f83.yes rfl rfl))
      clear f80 f81 a80 f82 a82
      rintro e w13 ⟨rfl, m5, T5, up5, kc13, nw5⟩
      have lo0 := T.lo
      have npk0 := T.noPk
      have ltp := Bg4.lt
      refine ⟨_, rfl, fun a84 f84 => ?_⟩
      have szw13 := kc13.size
      replace HK := HK.trans kc13 (fun x hx hlt => by have := lo0 x hx; omega)
      replace Bg4 := Bg4.kept kc13 NF
      replace PO := PO.keptT kc13 npk0
      clear f83 a83 kc13
      have T := T5
      clear T5
      replace NF : g4 ∉ m5.fp g := fun h => (nw5.1 _ h).elim NF (fun h => by omega)
      refine L.va f84 (E.not f84 rfl) (hw := (f84.yes rfl rfl)) fun a85 f85 => ?_
      refine L.va f85 (E.pickT f85 rfl rfl) fun a86 f86 => ?_
      refine L.ag f86 fun a87 f87 => ?_
      refine wpList_nil (hK58 _ _ ?_)
      have f88 := f87.sub (sc 12 sn)
      refine wp_ret ?_
      try simp only [Exit.inBlock, Exit.then]
      refine C.ret (P := Try.prog) (fn := Try.f5) f88 rfl rfl ?_
      refine ⟨HK, ?_⟩
      clear f84 a84 f85 a85 f86 a86 f87
      (simp only [i4, Bool.not_false]; done)
     have hs94 := h100
     refine L.run f81 (rest' := []) (by kernel_rfl) fun a82 f82 => ?_
     clear f80
     skip
     refine wpList_nil (hK58 _ _ ?_)
     have f83 := f82.sub (sub_cons (i := 12) (v := .bool false) (by kernel_rfl) sn)
     refine wp_ret ?_
     try simp only [Exit.inBlock, Exit.then]
     refine C.ret (P := Try.prog) (fn := Try.f5) f83 rfl rfl ?_
     refine ⟨HK, ?_⟩
     clear f82 f81
     (exfalso; simp_all; done)
    have hs87 := h99
    refine L.sk f73 (f73.noT rfl rfl) fun a74 f74 => ?_
    refine L.va f74 (E.pickF f74 rfl rfl) (hw := (f74.yes rfl rfl)) fun a75 f75 => ?_
    refine L.va f75 (E.not f75 rfl) (hw := (f75.yes rfl rfl)) fun a76 f76 => ?_
    refine L.va f76 (E.pickT f76 rfl rfl) (hw := (f76.yes rfl rfl)) fun a77 f77 => ?_
    refine L.va f77 (E.pickF f77 rfl rfl) fun a78 f78 => ?_
    refine L.va f78 (E.eqlB f78 Try.underlying4 rfl rfl) fun a79 f79 => ?_
    refine L.mv f79 fun a80 f80 => ?_
    clear f72 f73 a72 f74 a74 f75 a75 f76 a76 f77 a77 f78 a78 f79 a79
    refine f80.splitD 94 rfl (fun h101 f81 => ?_) (fun h101 f81 => ?_)
    ·have hs94 := h101
     refine L.mv f81 (hw := (f81.yes rfl rfl)) fun a82 f82 => ?_
     refine L.va f82 (E.build f82 (parts1 f82 rfl) (wbl34_0_tr1 _)) (hw := (f82.yes rfl rfl)) fun a83 f83 => ?_
     refine L.cl f83 (run_call Try.call14 (args2 f83 rfl rfl)) (out_any ({ kind := 2 } : Pk) s0 (by decide) w.heap.size g (((((trG).outT ({ kind := 3, qos := qa % 2 + 1, id := ib + 1, topic := ⟨#[97]⟩, pay := [120] } : Pk)).2).outT ({ kind := 3, qos := qa % 2 + 1, id := ib + 1, topic := ⟨#[97]⟩, pay := [121], dup := dup } : Pk)).2) m4 _ T (by omega) (flat_o _ _ (by decide)) (by constructor <;> decide)) ?_ (hw := (f83.yes rfl rfl))
     clear f80 f81 a80 f82 a82
     rintro e w13 ⟨rfl, m5, T5, up5, kc13, nw5⟩
     have lo0 := T.lo
     have npk0 := T.noPk
     have ltp := Bg4.lt
     refine ⟨_, rfl, fun a84 f84 => ?_⟩
     have szw13 := kc13.size
     replace HK := HK.trans kc13 (fun x hx hlt => by have := lo0 x hx; omega)
     replace Bg4 := Bg4.kept kc13 NF
     replace PO := PO.keptT kc13 npk0
     clear f83 a83 kc13
     have T := T5
     clear T5
     replace NF : g4 ∉ m5.fp g := fun h => (nw5.1 _ h).elim NF (fun h => by omega)
     refine L.va f84 (E.not f84 rfl) (hw := (f84.yes rfl rfl)) fun a85 f85 => ?_
     refine L.va f85 (E.pickT f85 rfl rfl) fun a86 f86 => ?_
     refine L.ag f86 fun a87 f87 => ?_
     refine wpList_nil (hK58 _ _ ?_)
     have f88 := f87.sub (sc 12 sn)
     refine wp_ret ?_
     try simp only [Exit.inBlock, Exit.then]
     refine C.ret (P := Try.prog) (fn := Try.f5) f88 rfl rfl ?_
     refine ⟨HK, ?_⟩
     clear f84 a84 f85 a85 f86 a86 f87
     (simp only [i4, Bool.not_false]; done)
    have hs94 := h101
    refine L.run f81 (rest' := []) (by kernel_rfl) fun a82 f82 => ?_
    clear f80
    skip
    refine wpList_nil (hK58 _ _ ?_)
    have f83 := f82.sub (sub_cons (i := 12) (v := .bool false) (by kernel_rfl) sn)
    refine wp_ret ?_
    try simp only [Exit.inBlock, Exit.then]
    refine C.ret (P := Try.prog) (fn := Try.f5) f83 rfl rfl ?_
    refine ⟨HK, ?_⟩
    clear f82 f81
    (exfalso; simp_all; done)
   have hs84 := h98
   refine L.sk f69 (f69.noT rfl rfl) fun a70 f70 => ?_
   refine L.sk f70 (f70.noT rfl rfl) fun a71 f71 => ?_
   refine L.sk f71 (f71.noT rfl rfl) fun a72 f72 => ?_
   refine L.sk f72 (f72.noU rfl rfl) fun a73 f73 => ?_
   refine L.sk f73 (f73.noT rfl rfl) fun a74 f74 => ?_
   refine L.sk f74 (f74.noT rfl rfl) fun a75 f75 => ?_
   refine L.va f75 (E.pickF f75 rfl rfl) (hw := (f75.yes rfl rfl)) fun a76 f76 => ?_
   clear f68 f69 a68 f70 a70 f71 a71 f72 a72 f73 a73 f74 a74 f75 a75
   refine L.va f76 (E.pickF f76 rfl rfl) fun a77 f77 => ?_
   refine L.va f77 (E.eqlB f77 Try.underlying4 rfl rfl) fun a78 f78 => ?_
   refine L.mv f78 fun a79 f79 => ?_
   clear f76 a76 f77 a77 f78 a78
   refine f79.splitD 94 rfl (fun h102 f80 => ?_) (fun h102 f80 => ?_)
   ·have hs94 := h102
    refine L.mv f80 (hw := (f80.yes rfl rfl)) fun a81 f81 => ?_
    refine L.va f81 (E.build f81 (parts1 f81 rfl) (wbl34_0_tr1 _)) (hw := (f81.yes rfl rfl)) fun a82 f82 => ?_
    refine L.cl f82 (run_call Try.call14 (args2 f82 rfl rfl)) (out_any ({ kind := 2 } : Pk) s0 (by decide) w.heap.size g (((((trG).outT ({ kind := 3, qos := qa % 2 + 1, id := ib + 1, topic := ⟨#[97]⟩, pay := [120] } : Pk)).2).outT ({ kind := 3, qos := qa % 2 + 1, id := ib + 1, topic := ⟨#[97]⟩, pay := [121], dup := dup } : Pk)).2) m4 _ T (by omega) (flat_o _ _ (by decide)) (by constructor <;> decide)) ?_ (hw := (f82.yes rfl rfl))
    clear f79 f80 a79 f81 a81
    rintro e w13 ⟨rfl, m5, T5, up5, kc13, nw5⟩
    have lo0 := T.lo
    have npk0 := T.noPk
    have ltp := Bg4.lt
    refine ⟨_, rfl, fun a83 f83 => ?_⟩
    have szw13 := kc13.size
    replace HK := HK.trans kc13 (fun x hx hlt => by have := lo0 x hx; omega)
    replace Bg4 := Bg4.kept kc13 NF
    replace PO := PO.keptT kc13 npk0
    clear f82 a82 kc13
    have T := T5
    clear T5
    replace NF : g4 ∉ m5.fp g := fun h => (nw5.1 _ h).elim NF (fun h => by omega)
    refine L.va f83 (E.not f83 rfl) (hw := (f83.yes rfl rfl)) fun a84 f84 => ?_
    refine L.va f84 (E.pickT f84 rfl rfl) fun a85 f85 => ?_
    refine L.ag f85 fun a86 f86 => ?_
    refine wpList_nil (hK58 _ _ ?_)
    have f87 := f86.sub (sc 12 sn)
    refine wp_ret ?_
    try simp only [Exit.inBlock, Exit.then]
    refine C.ret (P := Try.prog) (fn := Try.f5) f87 rfl rfl ?_
    refine ⟨HK, ?_⟩
    clear f83 a83 f84 a84 f85 a85 f86
    (simp only [i4, Bool.not_false]; done)
   have hs94 := h102
   refine L.run f80 (rest' := []) (by kernel_rfl) fun a81 f81 => ?_
   clear f79
   skip
   refine wpList_nil (hK58 _ _ ?_)
   have f82 := f81.sub (sub_cons (i := 12) (v := .bool false) (by kernel_rfl) sn)
   refine wp_ret ?_
   try simp only [Exit.inBlock, Exit.then]
   refine C.ret (P := Try.prog) (fn := Try.f5) f82 rfl rfl ?_
   refine ⟨HK, ?_⟩
   clear f81 f80
   (exfalso; simp_all; done)
  have hs81 := h97
  refine L.sk f65 (f65.noT rfl rfl) fun a66 f66 => ?_
  refine L.va f66 (E.pickF f66 rfl rfl) (hw := (f66.yes rfl rfl)) fun a67 f67 => ?_
  refine L.mv f67 (hw := (f67.yes rfl rfl)) fun a68 f68 => ?_
  refine L.sk f68 (f68.noT rfl rfl) fun a69 f69 => ?_
  refine L.sk f69 (f69.noT rfl rfl) fun a70 f70 => ?_
  refine L.sk f70 (f70.noT rfl rfl) fun a71 f71 => ?_
  refine L.sk f71 (f71.noU rfl rfl) fun a72 f72 => ?_
  clear f64 f65 a64 f66 a66 f67 a67 f68 a68 f69 a69 f70 a70 f71 a71
  refine L.sk f72 (f72.noT rfl rfl) fun a73 f73 => ?_
  refine L.sk f73 (f73.noT rfl rfl) fun a74 f74 => ?_
  refine L.va f74 (E.pickF f74 rfl rfl) (hw := (f74.yes rfl rfl)) fun a75 f75 => ?_
  refine L.va f75 (E.pickF f75 rfl rfl) fun a76 f76 => ?_
  refine L.va f76 (E.eqlB f76 Try.underlying4 rfl rfl) fun a77 f77 => ?_
  refine L.mv f77 fun a78 f78 => ?_
  clear f72 a72 f73 a73 f74 a74 f75 a75 f76 a76 f77 a77
  refine f78.splitD 94 rfl (fun h103 f79 => ?_) (fun h103 f79 => ?_)
  ·have hs94 := h103
   refine L.mv f79 (hw := (f79.yes rfl rfl)) fun a80 f80 => ?_
   refine L.va f80 (E.build f80 (parts1 f80 rfl) (wbl34_0_tr1 _)) (hw := (f80.yes rfl rfl)) fun a81 f81 => ?_
   refine L.cl f81 (run_call Try.call14 (args2 f81 rfl rfl)) (out_any ({ kind := 2 } : Pk) s0 (by decide) w.heap.size g (((((trG).outT ({ kind := 3, qos := qa % 2 + 1, id := ib + 1, topic := ⟨#[97]⟩, pay := [120] } : Pk)).2).outT ({ kind := 3, qos := qa % 2 + 1, id := ib + 1, topic := ⟨#[97]⟩, pay := [121], dup := dup } : Pk)).2) m4 _ T (by omega) (flat_o _ _ (by decide)) (by constructor <;> decide)) ?_ (hw := (f81.yes rfl rfl))
   clear f78 f79 a78 f80 a80
   rintro e w13 ⟨rfl, m5, T5, up5, kc13, nw5⟩
   have lo0 := T.lo
   have npk0 := T.noPk
   have ltp := Bg4.lt
   refine ⟨_, rfl, fun a82 f82 => ?_⟩
   have szw13 := kc13.size
   replace HK := HK.trans kc13 (fun x hx hlt => by have := lo0 x hx; omega)
   replace Bg4 := Bg4.kept kc13 NF
   replace PO := PO.keptT kc13 npk0
   clear f81 a81 kc13
   have T := T5
   clear T5
   replace NF : g4 ∉ m5.fp g := fun h => (nw5.1 _ h).elim NF (fun h => by omega)
   refine L.va f82 (E.not f82 rfl) (hw := (f82.yes rfl rfl)) fun a83 f83 => ?_
   refine L.va f83 (E.pickT f83 rfl rfl) fun a84 f84 => ?_
   refine L.ag f84 fun a85 f85 => ?_
   refine wpList_nil (hK58 _ _ ?_)
   have f86 := f85.sub (sc 12 sn)
   refine wp_ret ?_
   try simp only [Exit.inBlock, Exit.then]
   refine C.ret (P := Try.prog) (fn := Try.f5) f86 rfl rfl ?_
   refine ⟨HK, ?_⟩
   clear f82 a82 f83 a83 f84 a84 f85
   (simp only [i4, Bool.not_false]; done)
  have hs94 := h103
  refine L.run f79 (rest' := []) (by kernel_rfl) fun a80 f80 => ?_
  clear f78
  skip
  refine wpList_nil (hK58 _ _ ?_)
  have f81 := f80.sub (sub_cons (i := 12) (v := .bool false) (by kernel_rfl) sn)
  refine wp_ret ?_
  try simp only [Exit.inBlock, Exit.then]
  refine C.ret (P := Try.prog) (fn := Try.f5) f81 rfl rfl ?_
  refine ⟨HK, ?_⟩
  clear f80 f79
  (exfalso; simp_all; done)
 have hs71 := h96
 refine C.condF f52 rfl ?_
 refine wp_skip (hK56 _ _ ?_)
 have f53 := f52.sub (sc 2 (sc 3 (sc 4 (sc 13 (sc 14 (sc 15 (sc 16 sn)))))))
 refine wp_seq_k fun K59 hK59 => ?_
 have hI := ids_true hq' hi' dup same false false
 clear f51 f52
 unfold idsB at hI
 simp only [Bool.and_eq_true, beq_iff_eq, if_true, Bool.false_eq_true, if_false, Bool.not_eq_true'] at hI
 obtain ⟨⟨⟨i1, i2⟩, i3⟩, i4⟩ := hI
 simp only [hs71, if_true, if_false, Bool.false_eq_true, reduceIte, ite_true, ite_false] at i3 i4
 clear i1 i2
 replace PO : PkO w8 ({ kind := 3, qos := qa % 2 + 1, id := ib + 1, topic := ⟨#[97]⟩, pay := [120], dup := dup } : Pk) ({ s0 with pa := some ⟨g2, 0, none⟩, pc := 1 } : Ad) := ⟨PO.pay, PO.wp, PO.pass, PO.subs, PO.codes⟩
 refine C.region ?_
 refine L.mv f53 fun a54 f54 => ?_
 refine L.va f54 (by exact E.loadB f54 Try.underlying34 rfl wsz34_tr1 rfl (Bg4) rfl) fun a55 f55 => ?_
 refine L.cl f55 (run_call Try.call14 (args2 f55 rfl rfl)) (out_any ({ kind := 3, qos := qa % 2 + 1, id := ib + 1, topic := ⟨#[97]⟩, pay := [120], dup := dup } : Pk) ({ s0 with pa := some ⟨g2, 0, none⟩, pc := 1 } : Ad) (wf_small (by show (0 : Int) ≤ ib + 1; omega) (by show ib + 1 ≤ (1000000 : Int); omega)) w.heap.size g (((trG).outT ({ kind := 3, qos := qa % 2 + 1, id := ib + 1, topic := ⟨#[97]⟩, pay := [120] } : Pk)).2) m3 _ T (by omega) PO (len_pub _ _ _ _ _ (by decide))) ?_
 clear f53 a50 f54 a54
 rintro e w9 ⟨rfl, m4, T4, up4, kc9, nw4⟩
 have lo0 := T.lo
 have npk0 := T.noPk
 have ltp := Bg4.lt
 refine ⟨_, rfl, fun a56 f56 => ?_⟩
 have szw9 := kc9.size
 replace HK := HK.trans kc9 (fun x hx hlt => by have := lo0 x hx; omega)
 replace Bg4 := Bg4.kept kc9 NF
 replace PO := PO.keptT kc9 npk0
 clear f55 a55 kc9
 have T := T4
 clear T4
 replace NF : g4 ∉ m4.fp g := fun h => (nw4.1 _ h).elim NF (fun h => by omega)
 refine L.mv f56 fun a57 f57 => ?_
 refine L.mv f57 fun a58 f58 => ?_
 refine L.mv f58 (hw := (f58.yes rfl rfl)) fun a59 f59 => ?_
 refine L.mv f59 (hw := (f59.yes rfl rfl)) fun a60 f60 => ?_
 clear f56 a56 f57 a57 f58 a58 f59 a59
 refine f60.split 81 rfl (fun h104 f61 => ?_) (fun h104 f61 => ?_)
 ·have hs81 := h104
  refine L.mv f61 (hw := (f61.yes rfl rfl)) fun a62 f62 => ?_
  refine L.va f62 (E.pickT f62 rfl rfl) (hw := (f62.yes rfl rfl)) fun a63 f63 => ?_
  refine L.mv f63 (hw := (f63.yes rfl rfl)) fun a64 f64 => ?_
  clear f60 f61 a60 f62 a62 f63 a63
  refine f64.split 84 rfl (fun h105 f65 => ?_) (fun h105 f65 => ?_)
  ·have hs84 := h105
   refine L.mv f65 (hw := (f65.yes rfl rfl)) fun a66 f66 => ?_
   refine L.va f66 (E.eq f66) (hw := (f66.yes rfl rfl)) fun a67 f67 => ?_
   refine L.mv f67 (hw := (f67.yes rfl rfl)) fun a68 f68 => ?_
   clear f64 f65 a64 f66 a66 f67 a67
   refine f68.splitD 87 rfl (fun h106 f69 => ?_) (fun h106 f69 => ?_)
   ·have hs87 := h106
    refine L.mv f69 (hw := (f69.yes rfl rfl)) fun a70 f70 => ?_
    refine L.va f70 (E.pickT f70 rfl rfl) (hw := (f70.yes rfl rfl)) fun a71 f71 => ?_
    refine L.va f71 (E.not f71 rfl) (hw := (f71.yes rfl rfl)) fun a72 f72 => ?_
    refine L.va f72 (E.pickT f72 rfl rfl) (hw := (f72.yes rfl rfl)) fun a73 f73 => ?_
    refine L.va f73 (E.pickF f73 rfl rfl) fun a74 f74 => ?_
    refine L.va f74 (E.eqlB f74 Try.underlying4 rfl rfl) fun a75 f75 => ?_
    refine L.mv f75 fun a76 f76 => ?_
    clear f68 f69 a68 f70 a70 f71 a71 f72 a72 f73 a73 f74 a74 f75 a75
    refine f76.splitD 94 rfl (fun h107 f77 => ?_) (fun h107 f77 => ?_)
    ·have hs94 := h107
     refine L.mv f77 (hw := (f77.yes rfl rfl)) fun a78 f78 => ?_
     refine L.va f78 (E.build f78 (parts1 f78 rfl) (wbl34_0_tr1 _)) (hw := (f78.yes rfl rfl)) fun a79 f79 => ?_
     refine L.cl f79 (run_call Try.call14 (args2 f79 rfl rfl)) (out_any ({ kind := 2 } : Pk) s0 (by decide) w.heap.size g (((((trG).outT ({ kind := 3, qos := qa % 2 + 1, id := ib + 1, topic := ⟨#[97]⟩, pay := [120] } : Pk)).2).outT ({ kind := 3, qos := qa % 2 + 1, id := ib + 1, topic := ⟨#[97]⟩, pay := [120], dup := dup } : Pk)).2) m4 _ T (by omega) (flat_o _ _ (by decide)) (by constructor <;> decide)) ?_ (hw := (f79.yes rfl rfl))
     clear f76 f77 a76 f78 a78
     rintro e w10 ⟨rfl, m5, T5, up5, kc10, nw5⟩
     have lo0 := T.lo
     have npk0 := T.noPk
     have ltp := Bg4.lt
     refine ⟨_, rfl, fun a80 f80 => ?_⟩
     have szw10 := kc10.size
     replace HK := HK.trans kc10 (fun x hx hlt => by have := lo0 x hx; omega)
     replace Bg4 := Bg4.kept kc10 NF
     replace PO := PO.keptT kc10 npk0
     clear f79 a79 kc10
     have T := T5
     clear T5
     replace NF : g4 ∉ m5.fp g := fun h => (nw5.1 _ h).elim NF (fun h => by omega)
     refine L.va f80 (E.not f80 rfl) (hw := (f80.yes rfl rfl)) fun a81 f81 => ?_
     refine L.va f81 (E.pickT f81 rfl rfl) fun a82 f82 => ?_
     refine L.ag f82 fun a83 f83 => ?_
     refine wpList_nil (hK59 _ _ ?_)
     have f84 := f83.sub (sc 12 sn)
     refine wp_ret ?_
     try simp only [Exit.inBlock, Exit.then]
     refine C.ret (P := Try.prog) (fn := Try.f5) f84 rfl rfl ?_
     refine ⟨HK, ?_⟩
     clear f80 a80 f81 a81 f82 a82 f83
     (simp only [i4, Bool.not_false]; done)
    have hs94 := h107
    refine L.run f77 (rest' := []) (by kernel_rfl) fun a78 f78 => ?_
    clear f76
    skip
    refine wpList_nil (hK59 _ _ ?_)
    have f79 := f78.sub (sub_cons (i := 12) (v := .bool false) (by kernel_rfl) sn)
    refine wp_ret ?_
    try simp only [Exit.inBlock, Exit.then]
    refine C.ret (P := Try.prog) (fn := Try.f5) f79 rfl rfl ?_
    refine ⟨HK, ?_⟩
    clear f78 f77
    (exfalso; simp_all; done)
   have hs87 := h106
   refine L.sk f69 (f69.noT rfl rfl) fun a70 f70 => ?_
   refine L.va f70 (E.pickF f70 rfl rfl) (hw := (f70.yes rfl rfl)) fun a71 f71 => ?_
   refine L.va f71 (E.not f71 rfl) (hw := (f71.yes rfl rfl)) fun a72 f72 => ?_
   refine L.va f72 (E.pickT f72 rfl rfl) (hw := (f72.yes rfl rfl)) fun a73 f73 => ?_
   refine L.va f73 (E.pickF f73 rfl rfl) fun a74 f74 => ?_
   refine L.va f74 (E.eqlB f74 Try.underlying4 rfl rfl) fun a75 f75 => ?_
   refine L.mv f75 fun a76 f76 => ?_
   clear f68 f69 a68 f70 a70 f71 a71 f72 a72 f73 a73 f74 a74 f75 a75
   refine f76.splitD 94 rfl (fun h108 f77 => ?_) (fun h108 f77 => ?_)
   ·have hs94 := h108
    refine L.mv f77 (hw := (f77.yes rfl rfl)) fun a78 f78 => ?_
    refine L.va f78 (E.build f78 (parts1 f78 rfl) (wbl34_0_tr1 _)) (hw := (f78.yes rfl rfl)) fun a79 f79 => ?_
    refine L.cl f79 (run_call Try.call14 (args2 f79 rfl rfl)) (out_any ({ kind := 2 } : Pk) s0 (by decide) w.heap.size g (((((trG).outT ({ kind := 3, qos := qa % 2 + 1, id := ib + 1, topic := ⟨#[97]⟩, pay := [120] } : Pk)).2).outT ({ kind := 3, qos := qa % 2 + 1, id := ib + 1, topic := ⟨#[97]⟩, pay := [120], dup := dup } : Pk)).2) m4 _ T (by omega) (flat_o _ _ (by decide)) (by constructor <;> decide)) ?_ (hw := (f79.yes rfl rfl))
    clear f76 f77 a76 f78 a78
    rintro e w10 ⟨rfl, m5, T5, up5, kc10, nw5⟩
    have lo0 := T.lo
    have npk0 := T.noPk
    have ltp := Bg4.lt
    refine ⟨_, rfl, fun a80 f80 => ?_⟩
    have szw10 := kc10.size
    replace HK := HK.trans kc10 (fun x hx hlt => by have := lo0 x hx; omega)
    replace Bg4 := Bg4.kept kc10 NF
    replace PO := PO.keptT kc10 npk0
    clear f79 a79 kc10
    have T := T5
    clear T5
    replace NF : g4 ∉ m5.fp g := fun h => (nw5.1 _ h).elim NF (fun h => by omega)
    refine L.va f80 (E.not f80 rfl) (hw := (f80.yes rfl rfl)) fun a81 f81 => ?_
    refine L.va f81 (E.pickT f81 rfl rfl) fun a82 f82 => ?_
    refine L.ag f82 fun a83 f83 => ?_
    refine wpList_nil (hK59 _ _ ?_)
    have f84 := f83.sub (sc 12 sn)
    refine wp_ret ?_
    try simp only [Exit.inBlock, Exit.then]
    refine C.ret (P := Try.prog) (fn := Try.f5) f84 rfl rfl ?_
    refine ⟨HK, ?_⟩
    clear f80 a80 f81 a81 f82 a82 f83
    (simp only [i4, Bool.not_false]; done)
   have hs94 := h108
   refine L.run f77 (rest' := []) (by kernel_rfl) fun a78 f78 => ?_
   clear f76
   skip
   refine wpList_nil (hK59 _ _ ?_)
   have f79 := f78.sub (sub_cons (i := 12) (v := .bool false) (by kernel_rfl) sn)
   refine wp_ret ?_
   try simp only [Exit.inBlock, Exit.then]
   refine C.ret (P := Try.prog) (fn := Try.f5) f79 rfl rfl ?_
   refine ⟨HK, ?_⟩
   clear f78 f77
   (exfalso; simp_all; done)
  have hs84 := h105
  refine L.sk f65 (f65.noT rfl rfl) fun a66 f66 => ?_
  refine L.sk f66 (f66.noT rfl rfl) fun a67 f67 => ?_
  refine L.sk f67 (f67.noT rfl rfl) fun a68 f68 => ?_
  refine L.sk f68 (f68.noU rfl rfl) fun a69 f69 => ?_
  refine L.sk f69 (f69.noT rfl rfl) fun a70 f70 => ?_
  refine L.sk f70 (f70.noT rfl rfl) fun a71 f71 => ?_
  refine L.va f71 (E.pickF f71 rfl rfl) (hw := (f71.yes rfl rfl)) fun a72 f72 => ?_
  clear f64 f65 a64 f66 a66 f67 a67 f68 a68 f69 a69 f70 a70 f71 a71
  refine L.va f72 (E.pickF f72 rfl rfl) fun a73 f73 => ?_
  refine L.va f73 (E.eqlB f73 Try.underlying4 rfl rfl) fun a74 f74 => ?_
  refine L.mv f74 fun a75 f75 => ?_
  clear f72 a72 f73 a73 f74 a74
  refine f75.splitD 94 rfl (fun h109 f76 => ?_) (fun h109 f76 => ?_)
  ·have hs94 := h109
   refine L.mv f76 (hw := (f76.yes rfl rfl)) fun a77 f77 => ?_
   refine L.va f77 (E.build f77 (parts1 f77 rfl) (wbl34_0_tr1 _)) (hw := (f77.yes rfl rfl)) fun a78 f78 => ?_
   refine L.cl f78 (run_call Try.call14 (args2 f78 rfl rfl)) (out_any ({ kind := 2 } : Pk) s0 (by decide) w.heap.size g (((((trG).outT ({ kind := 3, qos := qa % 2 + 1, id := ib + 1, topic := ⟨#[97]⟩, pay := [120] } : Pk)).2).outT ({ kind := 3, qos := qa % 2 + 1, id := ib + 1, topic := ⟨#[97]⟩, pay := [120], dup := dup } : Pk)).2) m4 _ T (by omega) (flat_o _ _ (by decide)) (by constructor <;> decide)) ?_ (hw := (f78.yes rfl rfl))
   clear f75 f76 a75 f77 a77
   rintro e w10 ⟨rfl, m5, T5, up5, kc10, nw5⟩
   have lo0 := T.lo
   have npk0 := T.noPk
   have ltp := Bg4.lt
   refine ⟨_, rfl, fun a79 f79 => ?_⟩
   have szw10 := kc10.size
   replace HK := HK.trans kc10 (fun x hx hlt => by have := lo0 x hx; omega)
   replace Bg4 := Bg4.kept kc10 NF
   replace PO := PO.keptT kc10 npk0
   clear f78 a78 kc10
   have T := T5
   clear T5
   replace NF : g4 ∉ m5.fp g := fun h => (nw5.1 _ h).elim NF (fun h => by omega)
   refine L.va f79 (E.not f79 rfl) (hw := (f79.yes rfl rfl)) fun a80 f80 => ?_
   refine L.va f80 (E.pickT f80 rfl rfl) fun a81 f81 => ?_
   refine L.ag f81 fun a82 f82 => ?_
   refine wpList_nil (hK59 _ _ ?_)
   have f83 := f82.sub (sc 12 sn)
   refine wp_ret ?_
   try simp only [Exit.inBlock, Exit.then]
   refine C.ret (P := Try.prog) (fn := Try.f5) f83 rfl rfl ?_
   refine ⟨HK, ?_⟩
   clear f79 a79 f80 a80 f81 a81 f82
   (simp only [i4, Bool.not_false]; done)
  have hs94 := h109
  refine L.run f76 (rest' := []) (by kernel_rfl) fun a77 f77 => ?_
  clear f75
  skip
  refine wpList_nil (hK59 _ _ ?_)
  have f78 := f77.sub (sub_cons (i := 12) (v := .bool false) (by kernel_rfl) sn)
  refine wp_ret ?_
  try simp only [Exit.inBlock, Exit.then]
  refine C.ret (P := Try.prog) (fn := Try.f5) f78 rfl rfl ?_
  refine ⟨HK, ?_⟩
  clear f77 f76
  (exfalso; simp_all; done)
 have hs81 := h104
 refine L.sk f61 (f61.noT rfl rfl) fun a62 f62 => ?_
 refine L.va f62 (E.pickF f62 rfl rfl) (hw := (f62.yes rfl rfl)) fun a63 f63 => ?_
 refine L.mv f63 (hw := (f63.yes rfl rfl)) fun a64 f64 => ?_
 refine L.sk f64 (f64.noT rfl rfl) fun a65 f65 => ?_
 refine L.sk f65 (f65.noT rfl rfl) fun a66 f66 => ?_
 refine L.sk f66 (f66.noT rfl rfl) fun a67 f67 => ?_
 refine L.sk f67 (f67.noU rfl rfl) fun a68 f68 => ?_
 clear f60 f61 a60 f62 a62 f63 a63 f64 a64 f65 a65 f66 a66 f67 a67
 refine L.sk f68 (f68.noT rfl rfl) fun a69 f69 => ?_
 refine L.sk f69 (f69.noT rfl rfl) fun a70 f70 => ?_
 refine L.va f70 (E.pickF f70 rfl rfl) (hw := (f70.yes rfl rfl)) fun a71 f71 => ?_
 refine L.va f71 (E.pickF f71 rfl rfl) fun a72 f72 => ?_
 refine L.va f72 (E.eqlB f72 Try.underlying4 rfl rfl) fun a73 f73 => ?_
 refine L.mv f73 fun a74 f74 => ?_
 clear f68 a68 f69 a69 f70 a70 f71 a71 f72 a72 f73 a73
 refine f74.splitD 94 rfl (fun h110 f75 => ?_) (fun h110 f75 => ?_)
 ·have hs94 := h110
  refine L.mv f75 (hw := (f75.yes rfl rfl)) fun a76 f76 => ?_
  refine L.va f76 (E.build f76 (parts1 f76 rfl) (wbl34_0_tr1 _)) (hw := (f76.yes rfl rfl)) fun a77 f77 => ?_
  refine L.cl f77 (run_call Try.call14 (args2 f77 rfl rfl)) (out_any ({ kind := 2 } : Pk) s0 (by decide) w.heap.size g (((((trG).outT ({ kind := 3, qos := qa % 2 + 1, id := ib + 1, topic := ⟨#[97]⟩, pay := [120] } : Pk)).2).outT ({ kind := 3, qos := qa % 2 + 1, id := ib + 1, topic := ⟨#[97]⟩, pay := [120], dup := dup } : Pk)).2) m4 _ T (by omega) (flat_o _ _ (by decide)) (by constructor <;> decide)) ?_ (hw := (f77.yes rfl rfl))
  clear f74 f75 a74 f76 a76
  rintro e w10 ⟨rfl, m5, T5, up5, kc10, nw5⟩
  have lo0 := T.lo
  have npk0 := T.noPk
  have ltp := Bg4.lt
  refine ⟨_, rfl, fun a78 f78 => ?_⟩
  have szw10 := kc10.size
  replace HK := HK.trans kc10 (fun x hx hlt => by have := lo0 x hx; omega)
  replace Bg4 := Bg4.kept kc10 NF
  replace PO := PO.keptT kc10 npk0
  clear f77 a77 kc10
  have T := T5
  clear T5
  replace NF : g4 ∉ m5.fp g := fun h => (nw5.1 _ h).elim NF (fun h => by omega)
  refine L.va f78 (E.not f78 rfl) (hw := (f78.yes rfl rfl)) fun a79 f79 => ?_
  refine L.va f79 (E.pickT f79 rfl rfl) fun a80 f80 => ?_
  refine L.ag f80 fun a81 f81 => ?_
  refine wpList_nil (hK59 _ _ ?_)
  have f82 := f81.sub (sc 12 sn)
  refine wp_ret ?_
  try simp only [Exit.inBlock, Exit.then]
  refine C.ret (P := Try.prog) (fn := Try.f5) f82 rfl rfl ?_
  refine ⟨HK, ?_⟩
  clear f78 a78 f79 a79 f80 a80 f81
  (simp only [i4, Bool.not_false]; done)
 have hs94 := h110
 refine L.run f75 (rest' := []) (by kernel_rfl) fun a76 f76 => ?_
 clear f74
 skip
 refine wpList_nil (hK59 _ _ ?_)
 have f77 := f76.sub (sub_cons (i := 12) (v := .bool false) (by kernel_rfl) sn)
 refine wp_ret ?_
 try simp only [Exit.inBlock, Exit.then]
 refine C.ret (P := Try.prog) (fn := Try.f5) f77 rfl rfl ?_
 refine ⟨HK, ?_⟩
 clear f76 f75
 (exfalso; simp_all; done)
end Go.Proofs.Ytkdeedhjkjffpaa
