/- Merged by program (shrink.py): contracts and plain laws that the claim's statement uses, part 3. -/
import Derived.Test.YtkdeedhjkjffpaaMc2
set_option linter.all false

namespace Go.Proofs.Ytkdeedhjkjffpaa
open Go.RowKit Go.Hub Go.Lib Go.WideShapes Go.ChangeMaps
theorem wsz3_tj : (Try.prog.info? 3).map (·.size) = some 1 := by kernel_rfl
theorem wsz4_tj : (Try.prog.info? 4).map (·.size) = some 1 := by kernel_rfl
theorem wsz34_tj : (Try.prog.info? 34).map (·.size) = some 24 := by kernel_rfl
theorem wsz50_tj : (Try.prog.info? 50).map (·.size) = some 1 := by kernel_rfl
theorem wsz51_tj : (Try.prog.info? 51).map (·.size) = some 1 := by kernel_rfl
theorem wsz89_tj : (Try.prog.info? 89).map (·.size) = some 27 := by kernel_rfl
theorem wbl34_0_3_4_tj (x0 : Int) (x1 : Int) (x2 : Int) : Try.prog.built 34 [(0, .int .i64 x0), (3, .int .i64 x1), (4, .int .i64 x2)] = some #[.int .i64 x0, (.bool false), (.bool false), .int .i64 x1, .int .i64 x2, (.string ⟨#[]⟩), (.slice none 0 0), (.int .i64 0), (.string ⟨#[]⟩), (.bool false), (.int .i64 0), (.bool false), (.string ⟨#[]⟩), (.slice none 0 0), (.int .i64 0), (.bool false), (.bool false), (.bool false), (.string ⟨#[]⟩), (.slice none 0 0), (.bool false), (.int .i64 0), (.slice none 0 0), (.slice none 0 0)] := by kernel_rfl
theorem wbl89_0_1_2_tj (x0_0 x0_1 x0_2 x0_3 x0_4 x0_5 x0_6 x0_7 x0_8 x0_9 x0_10 x0_11 x0_12 x0_13 x0_14 x0_15 x0_16 x0_17 x0_18 x0_19 x0_20 x0_21 x0_22 x0_23 : Value) (x1 : Bool) (x2 : Bool) : Try.prog.built 89 [(0, .agg #[x0_0, x0_1, x0_2, x0_3, x0_4, x0_5, x0_6, x0_7, x0_8, x0_9, x0_10, x0_11, x0_12, x0_13, x0_14, x0_15, x0_16, x0_17, x0_18, x0_19, x0_20, x0_21, x0_22, x0_23]), (1, .bool x1), (2, .bool x2)] = some #[x0_0, x0_1, x0_2, x0_3, x0_4, x0_5, x0_6, x0_7, x0_8, x0_9, x0_10, x0_11, x0_12, x0_13, x0_14, x0_15, x0_16, x0_17, x0_18, x0_19, x0_20, x0_21, x0_22, x0_23, .bool x1, .bool x2, (.bool false)] := by kernel_rfl
section
variable {t : Tr} {p : Pk} {o : List (Int × Fl)} {fo : Fl} {l r : List (Pk × Ad)} {x : Pk × Ad}
theorem PkO.zeroR (w : World) (k : Int) : PkO w { kind := 3, qos := 2, id := k } s0 := ⟨Bs.nil _ _ _ _, Bs.nil _ _ _ _, Bs.nil _ _ _ _, Own.nil _ _ _, Own.nil _ _ _⟩
theorem len_zeroR (k : Int) : Pk.Len { kind := 3, qos := 2, id := k } := by constructor <;> first | exact Nat.zero_le _ | exact fun x hx => absurd hx (by simp) | decide
theorem lk_no {k : Int} (h : (lk o k).isSome = false) : lk o k = none := by
  cases hq : lk o k with
  | none => rfl
  | some v => rw [hq] at h; cases h
theorem rel_new (e1 : t.told = l.map (·.1)) (e : t.out = o.map fun p => (p.1, p.2.pure)) (hx : l = x :: r) (h : (lk o p.id).isSome = false) (hp : x.1.present = true) : t.relT p = (true, { t with out := (p.id, ({ kind := 3, qos := 2, id := p.id }, true, true, true)) :: strike t.out p.id }) := by
  unfold Tr.relT
  rw [show lk t.out p.id = none by rw [e, lk_map, lk_no h]; rfl]
  show (if _ then _ else _) = _
  rw [if_pos (by rw [e1, hx]; simp [hp])]
theorem rel_no (e1 : t.told = l.map (·.1)) (e : t.out = o.map fun p => (p.1, p.2.pure)) (hx : l = x :: r) (h : (lk o p.id).isSome = false) (hp : x.1.present = false) : t.relT p = (false, t) := by
  unfold Tr.relT
  rw [show lk t.out p.id = none by rw [e, lk_map, lk_no h]; rfl]
  show (if _ then _ else _) = _
  rw [if_neg (by rw [e1, hx]; simp [hp])]
theorem rel_bad (e : t.out = o.map fun p => (p.1, p.2.pure)) (hl : lk o p.id = some fo) (h : ¬ fo.p.qos = 2 ∨ fo.recd = false) : t.relT p = (false, t) := by
  unfold Tr.relT
  rw [show lk t.out p.id = some fo.pure by rw [e, lk_map, hl]; rfl]
  show (if fo.p.qos ≠ 2 ∨ fo.recd = false then _ else _) = _
  exact if_pos h
theorem rel_ok (e : t.out = o.map fun p => (p.1, p.2.pure)) (hl : lk o p.id = some fo) (h : fo.p.qos = 2) (h2 : fo.recd = true) : t.relT p = (true, { t with out := (p.id, ({ fo with gone := true } : Fl).pure) :: strike t.out p.id }) := by
  unfold Tr.relT
  rw [show lk t.out p.id = some fo.pure by rw [e, lk_map, hl]; rfl]
  show (if _ then _ else _) = _
  rw [if_neg]
  · rfl
  rintro (c | c)
  · exact c h
  exact Bool.noConfusion (c.symm.trans h2)
end
set_option maxHeartbeats 4000000 in
theorem rel_any (p : Pk) (s : Ad) (hid : (Lit.int .i64 p.id).wf = true) (B g : Nat) (t : Tr) (m : TrM) (w : World) (T : TrIn B w g t m) (hn : m.n ≤ 1000000) (hne : m.told ≠ []) : Calls Try.prog 35 #[.pointer (some ⟨g, 0, none⟩), .agg (p.cells s)] w (TrPost B g m w (t.relT p).2 (.bool (t.relT p).1)) := by
 have HK : Kept (m.fp g) w w := Kept.refl _ _
 obtain ⟨e1, e2, e3, e4, BT, RT, RS, RU, MO, MF, nof, tu, tn, un, hlo, PS, PF, hl1, hl2, hl3, hl4, hl5, hcn⟩ := T
 replace BT : Blk w g 53 #[.bool t.clean, .int .i64 t.gr.kind, .bool t.gr.dup, .bool t.gr.retain, .int .i64 t.gr.qos, .int .i64 t.gr.id, .string t.gr.topic, .slice m.gs.pa t.gr.pay.length m.gs.pc, .int .i64 t.gr.level, .string t.gr.client, .bool t.gr.clean, .int .i64 t.gr.keep, .bool t.gr.hasWill, .string t.gr.wt, .slice m.gs.wa t.gr.wp.length m.gs.wc, .int .i64 t.gr.wq, .bool t.gr.wr, .bool t.gr.hasUser, .bool t.gr.hasPass, .string t.gr.user, .slice m.gs.sa t.gr.pass.length m.gs.sc, .bool t.gr.present, .int .i64 t.gr.code, .slice m.gs.ua t.gr.subs.length m.gs.uc, .slice m.gs.ca t.gr.codes.length m.gs.cc, .bool t.greeted, .slice m.At m.told.length m.ct, .bool t.left, .slice m.Au m.subs.length m.cu, .slice m.An m.uns.length m.cn, .map (some m.mo), .map (some m.mf)] := BT
 have hgl := BT.lt
 have hgo := IsAss.ne_blk MO BT
 have hgf := IsAss.ne_blk MF BT
 have hmo := IsAss.lt MO
 have hmf := IsAss.lt MF
 have hT0 := own_lt RT
 have hS0 := own_lt RS
 have hU0 := own_lt RU
 obtain ⟨fo, hfo⟩ : ∃ fo, fo = (lk m.out p.id).getD Fl.zero := ⟨_, rfl⟩
 obtain ⟨x, r, hx⟩ := List.exists_cons_of_ne_nil hne
 have hxl : 0 < m.told.length := by rw [hx]; simp
 refine C.enter Try.func35 rfl Try.ntmps35 rfl ?_
 intro a0 f0
 have f1 : Fr 55 a0 [(0, .pointer (some ⟨g, 0, none⟩)), (1, .agg (p.cells s))] := f0
 refine C.sk fun K0 hK0 => ?_
 refine L.box f1 wantedN (by decide) rfl rfl fun a2 w1 g0 N0 f2 => ?_
 have Bg0 := N0.blk
 have kg0 := N0.kept
 have log0 := N0.lo
 have ltg0 := Bg0.lt
 have szw1 := kg0.size
 have frg0 : w.heap.size ≤ g0 := Nat.le_trans HK.size log0
 have neg_g0 : g ≠ g0 := by have := BT.lt; omega
 replace HK := HK.z kg0
 replace BT := BT.z kg0
 replace RT := Own.z RT kg0
 replace RS := Own.z RS kg0
 replace RU := Own.z RU kg0
 replace MO := IsAss.z MO kg0
 replace MF := IsAss.z MF kg0
 replace PS := PS.keptT kg0 (NoPk.nil _)
 replace PF := PF.keptT kg0 (NoPk.nil _)
 clear f0 N0 kg0
 refine L.ag f2 fun a3 f3 => ?_
 refine wpList_nil (hK0 _ _ ?_)
 have f4 := f3.sub (sc 0 (sc 3 sn))
 refine wp_seq_k fun K1 hK1 => ?_
 have hd1 : Kept [] w1 (w1.drewN 1) := (Kept.refl _ _).drewN 1
 refine R.beginT (S := fun W => (Kept (m.fp g) w W) ∧ (Blk W g 53 (trL t m)) ∧ (Row W m.At m.ct m.told) ∧ (Row W m.Au m.cu m.subs) ∧ (Row W m.An m.cn m.uns) ∧ (IsAss ansM Try.prog W m.mo t.owed) ∧ (IsAss outM Try.prog W m.mf m.out) ∧ (PksO W m.subs) ∧ (FlsO W m.out) ∧ (Blk W g0 34 (p.cells s))) (by kernel_rfl) (by kernel_rfl) ⟨HK.z hd1, BT.z hd1, Own.z RT hd1, Own.z RS hd1, Own.z RU hd1, IsAss.z MO hd1, IsAss.z MF hd1, PS.keptT hd1 (NoPk.nil _), PF.keptT hd1 (NoPk.nil _), Bg0.z hd1⟩ fun ht => ?_
 obtain ⟨w2, hww2⟩ : ∃ W, W = w1.drewN 1 := ⟨_, rfl⟩
 rw [← hww2] at hd1 ⊢
 clear f1 a0 f2 a2 f3 hww2
 have szw2 := hd1.size
 replace HK := HK.z hd1
 replace BT := BT.z hd1
 replace RT := Own.z RT hd1
 replace RS := Own.z RS hd1
 replace RU := Own.z RU hd1
 replace MO := IsAss.z MO hd1
 replace MF := IsAss.z MF hd1
 replace PS := PS.keptT hd1 (NoPk.nil _)
 replace PF := PF.keptT hd1 (NoPk.nil _)
 replace Bg0 := Bg0.z hd1
 clear hd1
 refine R.u 0 f4 rfl ht ⟨HK, BT, RT, RS, RU, MO, MF, PS, PF, Bg0⟩ (fun W hW => (E.move f4 rfl)) fun a5 f5 => ?_
 refine R.u 1 f5 rfl ht ⟨HK, BT, RT, RS, RU, MO, MF, PS, PF, Bg0⟩ (fun W hW => (E.nilCheck f5 rfl)) fun a6 f6 => ?_
 refine R.u 2 f6 rfl ht ⟨HK, BT, RT, RS, RU, MO, MF, PS, PF, Bg0⟩ (fun W hW => (E.fa 31 f6 U53 rfl wsz50_tj)) fun a7 f7 => ?_
 refine R.u 3 f7 rfl ht ⟨HK, BT, RT, RS, RU, MO, MF, PS, PF, Bg0⟩ (fun W hW => (E.ld f7 U50 (hW.2.1))) fun a8 f8 => ?_
 refine R.u 4 f8 rfl ht ⟨HK, BT, RT, RS, RU, MO, MF, PS, PF, Bg0⟩ (fun W hW => (E.fa 4 f8 U34 rfl wsz3_tj)) fun a9 f9 => ?_
 refine R.u 5 f9 rfl ht ⟨HK, BT, RT, RS, RU, MO, MF, PS, PF, Bg0⟩ (fun W hW => (E.ld f9 U3 (hW.2.2.2.2.2.2.2.2.2))) fun a10 f10 => ?_
 refine R.u 6 f10 rfl ht ⟨HK, BT, RT, RS, RU, MO, MF, PS, PF, Bg0⟩ (fun W hW => (E.lookF f10 hW.2.2.2.2.2.2.1 hid hfo rfl rfl)) fun a11 f11 => ?_
 clear f4 a3 f5 a5 f6 a6 f7 a7 f8 a8 f9 a9 f10 a10
 refine R.u 7 f11 rfl ht ⟨HK, BT, RT, RS, RU, MO, MF, PS, PF, Bg0⟩ (fun W hW => (E.move f11 rfl)) fun a12 f12 => ?_
 refine R.u 8 f12 rfl ht ⟨HK, BT, RT, RS, RU, MO, MF, PS, PF, Bg0⟩ (fun W hW => (E.extract f12 rfl rfl)) fun a13 f13 => ?_
 refine R.u 9 f13 rfl ht ⟨HK, BT, RT, RS, RU, MO, MF, PS, PF, Bg0⟩ (fun W hW => (E.extract f13 rfl rfl)) fun a14 f14 => ?_
 refine R.one 10 (by kernel_rfl) ?_
 refine O.alloc f14 rfl wantedN (by decide) (z := z89) (fun _ => by kernel_rfl) rfl (fun _ hk => ⟨HK.z hk, BT.z hk, Own.z RT hk, Own.z RS hk, Own.z RU hk, IsAss.z MO hk, IsAss.z MF hk, PS.keptT hk (NoPk.nil _), PF.keptT hk (NoPk.nil _), Bg0.z hk⟩) fun a15 w3 g2 N2 hSn f15 => ?_
 clear f11 a11 f12 a12 f13 a13 hSn
 have Bg2 := N2.blk
 have kg2 := N2.kept
 have log2 := N2.lo
 have ltg2 := Bg2.lt
 have szw3 := kg2.size
 have frg2 : w.heap.size ≤ g2 := Nat.le_trans HK.size log2
 have neg_g2 : g ≠ g2 := by have := BT.lt; omega
 have neg0_g2 : g0 ≠ g2 := by have := Bg0.lt; omega
 replace HK := HK.z kg2
 replace BT := BT.z kg2
 replace RT := Own.z RT kg2
 replace RS := Own.z RS kg2
 replace RU := Own.z RU kg2
 replace MO := IsAss.z MO kg2
 replace MF := IsAss.z MF kg2
 replace PS := PS.keptT kg2 (NoPk.nil _)
 replace PF := PF.keptT kg2 (NoPk.nil _)
 replace Bg0 := Bg0.z kg2
 clear N2 kg2
 refine R.one 11 (by kernel_rfl) ?_
 refine O.storeRS f15 rfl wantedN wsz89_tj rfl rfl rfl Bg2 rfl rfl (fun w' ks => ⟨HK.trans ks (fun x hx hlt => by obtain rfl := List.mem_singleton.1 hx; (exfalso; omega)), BT.kept ks (by simp; omega), own_keptF RT ks hT0 frg2, own_keptF RS ks hS0 frg2, own_keptF RU ks hU0 frg2, IsAss.kept MO ks (by simpa using IsAss.ne_blk MO Bg2), IsAss.kept MF ks (by simpa using IsAss.ne_blk MF Bg2), PS.keptT ks (NoPk.blk Bg2 (by decide)), PF.keptT ks (NoPk.blk Bg2 (by decide)), Bg0.kept ks (by simp; omega)⟩) fun a16 w4 f16 NB ks => ?_
 have szw4 := ks.size
 have HKn := HK.trans ks (fun x hx hlt => by obtain rfl := List.mem_singleton.1 hx; (exfalso; omega))
 have BTn := BT.kept ks (by simp; omega)
 have RTn := own_keptF RT ks hT0 frg2
 have RSn := own_keptF RS ks hS0 frg2
 have RUn := own_keptF RU ks hU0 frg2
 have MOn := IsAss.kept MO ks (by simpa using IsAss.ne_blk MO Bg2)
 have MFn := IsAss.kept MF ks (by simpa using IsAss.ne_blk MF Bg2)
 have PSn := PS.keptT ks (NoPk.blk Bg2 (by decide))
 have PFn := PF.keptT ks (NoPk.blk Bg2 (by decide))
 have Bg0n := Bg0.kept ks (by simp; omega)
 replace Bg2 := NB
 clear f14 a14 f15 a15 NB ks HK BT RT RS RU MO MF PS PF Bg0
 have HK := HKn
 have BT := BTn
 have RT := RTn
 have RS := RSn
 have RU := RUn
 have MO := MOn
 have MF := MFn
 have PS := PSn
 have PF := PFn
 have Bg0 := Bg0n
 clear HKn BTn RTn RSn RUn MOn MFn PSn PFn Bg0n
 refine R.u 12 f16 rfl ht ⟨HK, BT, RT, RS, RU, MO, MF, PS, PF, Bg0⟩ (fun W hW => (E.assign f16 rfl)) fun a17 f17 => ?_
 refine R.done (by kernel_rfl) (hK1 _ _ ?_)
 have f18 := f17.sub (sc 0 (sc 3 (sc 5 (sc 6 sn))))
 refine wp_seq_k fun K2 hK2 => ?_
 refine wp_block ?_
 refine wp_seq_k fun K3 hK3 => ?_
 replace Bg2 : Blk w4 g2 89 fo.cells := Bg2
 obtain ⟨b0, off0, hA, hc⟩ := Row.cell0 (hx ▸ RT) 20 rfl
 refine C.region ?_
 refine L.mv f18 fun a19 f19 => ?_
 refine L.va f19 (E.not f19 rfl) fun a20 f20 => ?_
 refine L.mv f20 fun a21 f21 => ?_
 clear f16 a16 f17 f18 a17 f19 a19 f20 a20
 refine f21.splitNB 20 rfl (fun h0 f22 => ?_) (fun h0 f22 => ?_)
 ·have hs20 := h0
  refine L.mv f22 (hw := (f22.yes rfl rfl)) fun a23 f23 => ?_
  refine L.va f23 (E.nilCheck f23 rfl) (hw := (f23.yes rfl rfl)) fun a24 f24 => ?_
  refine L.fa 26 f24 U53 rfl wsz51_tj (hw := (f24.yes rfl rfl)) fun a25 f25 => ?_
  refine L.ld f25 U51 BT (hw := (f25.yes rfl rfl)) fun a26 f26 => ?_
  refine L.va f26 (E.indexA f26 (by assumption) U51 wsz34_tj rfl rfl (by omega) (by omega)) (hw := (f26.yes rfl rfl)) fun a27 f27 => ?_
  refine L.fa 20 f27 U34 rfl wsz4_tj (hw := (f27.yes rfl rfl)) fun a28 f28 => ?_
  refine L.va f28 (E.load f28 U4 rfl rfl (hc)) (hw := (f28.yes rfl rfl)) fun a29 f29 => ?_
  clear f21 f22 a21 f23 a23 f24 a24 f25 a25 f26 a26 f27 a27 f28 a28
  refine L.va f29 (E.pickT f29 rfl rfl) fun a30 f30 => ?_
  refine L.ag f30 fun a31 f31 => ?_
  refine wpList_nil (hK3 _ _ ?_)
  have f32 := f31.sub (sc 0 (sc 3 (sc 5 (sc 6 (sc 17 sn)))))
  clear f29 a29 f30 a30 f31
  refine f32.split 17 rfl (fun h1 f33 => ?_) (fun h1 f33 => ?_)
  ·refine C.condT f33 rfl ?_
   refine C.region ?_
   refine L.fa 4 f33 U34 rfl wsz3_tj fun a34 f34 => ?_
   refine L.ld f34 U3 Bg0 fun a35 f35 => ?_
   refine L.va f35 (E.build f35 (parts3 f35 rfl rfl rfl) (wbl34_0_3_4_tj _ _ _)) fun a36 f36 => ?_
   refine L.va f36 (E.build f36 (parts3 f36 rfl rfl rfl) (wbl89_0_1_2_tj _ _ _ _ _ _ _ _ _ _ _ _ _ _ _ _ _ _ _ _ _ _ _ _ _ _)) fun a37 f37 => ?_
   refine L.storeR f37 wantedN wsz89_tj rfl rfl rfl Bg2 rfl rfl fun a38 w5 f38 NB5 ks5 => ?_
   have szw5 := ks5.size
   replace HK := HK.trans ks5 (fun x hx hlt => by obtain rfl := List.mem_singleton.1 hx; (exfalso; omega))
   replace BT := BT.kept ks5 (by simp; omega)
   replace RT := own_keptF RT ks5 hT0 frg2
   replace RS := own_keptF RS ks5 hS0 frg2
   replace RU := own_keptF RU ks5 hU0 frg2
   replace MO := IsAss.kept MO ks5 (by simpa using IsAss.ne_blk MO Bg2)
   replace MF := IsAss.kept MF ks5 (by simpa using IsAss.ne_blk MF Bg2)
   replace PS := PS.keptT ks5 (NoPk.blk Bg2 (by decide))
   replace PF := PF.keptT ks5 (NoPk.blk Bg2 (by decide))
   replace Bg0 := Bg0.kept ks5 (by simp; omega)
   replace Bg2 := NB5
   clear f32 f33 a31 f34 a34 f35 a35 f36 a36 ks5 f37 a37
   refine wpList_nil (hK2 _ _ ?_)
   have f39 := f38.sub (sc 0 (sc 3 (sc 5 sn)))
   refine wp_seq_k fun K4 hK4 => ?_
   obtain ⟨fn, hfn⟩ : ∃ fn : Fl, fn = ⟨{ kind := 3, qos := 2, id := p.id }, s0, true, true, false⟩ := ⟨_, rfl⟩
   replace Bg2 : Blk w5 g2 89 fn.cells := by rw [hfn]; exact Bg2
   replace Bg2 : Blk w5 g2 89 #[.int .i64 fn.p.kind, .bool fn.p.dup, .bool fn.p.retain, .int .i64 fn.p.qos, .int .i64 fn.p.id, .string fn.p.topic, .slice fn.s.pa fn.p.pay.length fn.s.pc, .int .i64 fn.p.level, .string fn.p.client, .bool fn.p.clean, .int .i64 fn.p.keep, .bool fn.p.hasWill, .string fn.p.wt, .slice fn.s.wa fn.p.wp.length fn.s.wc, .int .i64 fn.p.wq, .bool fn.p.wr, .bool fn.p.hasUser, .bool fn.p.hasPass, .string fn.p.user, .slice fn.s.sa fn.p.pass.length fn.s.sc, .bool fn.p.present, .int .i64 fn.p.code, .slice fn.s.ua fn.p.subs.length fn.s.uc, .slice fn.s.ca fn.p.codes.length fn.s.cc, .bool fn.alone, .bool fn.recd, .bool fn.gone] := Bg2
   refine C.region ?_
   refine L.fa 26 f39 U89 rfl wsz4_tj fun a40 f40 => ?_
   refine L.store f40 wantedN wsz4_tj rfl rfl rfl Bg2 (by (simp [Value.cells]; done)) fun a41 w6 f41 NB6 ks6 => ?_
   have szw6 := ks6.size
   replace HK := HK.trans ks6 (fun x hx hlt => by obtain rfl := List.mem_singleton.1 hx; (exfalso; omega))
   replace BT := BT.kept ks6 (by simp; omega)
   replace RT := own_keptF RT ks6 hT0 frg2
   replace RS := own_keptF RS ks6 hS0 frg2
   replace RU := own_keptF RU ks6 hU0 frg2
   replace MO := IsAss.kept MO ks6 (by simpa using IsAss.ne_blk MO Bg2)
   replace MF := IsAss.kept MF ks6 (by simpa using IsAss.ne_blk MF Bg2)
   replace PS := PS.keptT ks6 (NoPk.blk Bg2 (by decide))
   replace PF := PF.keptT ks6 (NoPk.blk Bg2 (by decide))
   replace Bg0 := Bg0.kept ks6 (by simp; omega)
   replace Bg2 := NB6
   simp only [Value.cells, z1, z2, z3, Nat.reduceAdd, Nat.zero_add] at Bg2
   clear f38 f39 a38 ks6 f40 a40
   refine wpList_nil (hK4 _ _ ?_)
   have f42 := f41.sub (sc 0 (sc 3 (sc 5 sn)))
   refine wp_seq_k fun K5 hK5 => ?_
   have hd7 : Kept [] w6 (w6.drewN 1) := (Kept.refl _ _).drewN 1
   refine RB.begin (S := fun W => (Kept (m.fp g) w W) ∧ (Blk W g 53 (trL t m)) ∧ (Row W m.At m.ct m.told) ∧ (Row W m.Au m.cu m.subs) ∧ (Row W m.An m.cn m.uns) ∧ (IsAss ansM Try.prog W m.mo t.owed) ∧ (IsAss outM Try.prog W m.mf m.out) ∧ (PksO W m.subs) ∧ (FlsO W m.out) ∧ (Blk W g0 34 (p.cells s)) ∧ (Blk W g2 89 #[.int .i64 fn.p.kind, .bool fn.p.dup, .bool fn.p.retain, .int .i64 fn.p.qos, .int .i64 fn.p.id, .string fn.p.topic, .slice fn.s.pa fn.p.pay.length fn.s.pc, .int .i64 fn.p.level, .string fn.p.client, .bool fn.p.clean, .int .i64 fn.p.keep, .bool fn.p.hasWill, .string fn.p.wt, .slice fn.s.wa fn.p.wp.length fn.s.wc, .int .i64 fn.p.wq, .bool fn.p.wr, .bool fn.p.hasUser, .bool fn.p.hasPass, .string fn.p.user, .slice fn.s.sa fn.p.pass.length fn.s.sc, .bool fn.p.present, .int .i64 fn.p.code, .slice fn.s.ua fn.p.subs.length fn.s.uc, .slice fn.s.ca fn.p.codes.length fn.s.cc, .bool fn.alone, .bool fn.recd, .bool true])) 7 (by kernel_rfl) ⟨HK.z hd7, BT.z hd7, Own.z RT hd7, Own.z RS hd7, Own.z RU hd7, IsAss.z MO hd7, IsAss.z MF hd7, PS.keptT hd7 (NoPk.nil _), PF.keptT hd7 (NoPk.nil _), Bg0.z hd7, Bg2.z hd7⟩ ?_
   obtain ⟨w7, hww7⟩ : ∃ W, W = w6.drewN 1 := ⟨_, rfl⟩
   rw [← hww7] at hd7 ⊢
   clear f41 hww7
   have szw7 := hd7.size
   replace HK := HK.z hd7
   replace BT := BT.z hd7
   replace RT := Own.z RT hd7
   replace RS := Own.z RS hd7
   replace RU := Own.z RU hd7
   replace MO := IsAss.z MO hd7
   replace MF := IsAss.z MF hd7
   replace PS := PS.keptT hd7 (NoPk.nil _)
   replace PF := PF.keptT hd7 (NoPk.nil _)
   replace Bg0 := Bg0.z hd7
   replace Bg2 := Bg2.z hd7
   clear hd7
   refine RB.tk 0 f42 rfl ⟨HK, BT, RT, RS, RU, MO, MF, PS, PF, Bg0, Bg2⟩ (fun W hW => (E.move f42 rfl)) fun a43 f43 => ?_
   refine RB.tk 1 f43 rfl ⟨HK, BT, RT, RS, RU, MO, MF, PS, PF, Bg0, Bg2⟩ (fun W hW => (E.nilCheck f43 rfl)) fun a44 f44 => ?_
   refine RB.tk 2 f44 rfl ⟨HK, BT, RT, RS, RU, MO, MF, PS, PF, Bg0, Bg2⟩ (fun W hW => (E.fa 31 f44 U53 rfl wsz50_tj)) fun a45 f45 => ?_
   refine RB.tk 3 f45 rfl ⟨HK, BT, RT, RS, RU, MO, MF, PS, PF, Bg0, Bg2⟩ (fun W hW => (E.ld f45 U50 (hW.2.1))) fun a46 f46 => ?_
   refine RB.tk 4 f46 rfl ⟨HK, BT, RT, RS, RU, MO, MF, PS, PF, Bg0, Bg2⟩ (fun W hW => (E.fa 4 f46 U34 rfl wsz3_tj)) fun a47 f47 => ?_
   refine RB.tk 5 f47 rfl ⟨HK, BT, RT, RS, RU, MO, MF, PS, PF, Bg0, Bg2⟩ (fun W hW => (E.ld f47 U3 (hW.2.2.2.2.2.2.2.2.2.1))) fun a48 f48 => ?_
   refine RB.tk 6 f48 rfl ⟨HK, BT, RT, RS, RU, MO, MF, PS, PF, Bg0, Bg2⟩ (fun W hW => (E.loadB f48 U89 rfl wsz89_tj rfl (hW.2.2.2.2.2.2.2.2.2.2) rfl)) fun a49 f49 => ?_
   clear f42 a41 f43 a43 f44 a44 f45 a45 f46 a46 f47 a47 f48 a48
   refine RB.stop (by kernel_rfl) ?_
   refine R.one 7 (by kernel_rfl) ?_
   refine O.mapPutA f49 rfl wantedN MF outOk U50 (p.id) hid ({ fn with gone := true }) rfl rfl rfl (Nat.lt_of_le_of_lt hl5 (by unfold maxLen; omega)) (fun _ _ _ => trivial) fun a50 w8 MN ks f50 => ?_
   have szw8 := ks.size
   have HKn := HK.trans ks (fun x hx hlt => by obtain rfl := List.mem_singleton.1 hx; exact fp_f)
   have BTn := BT.kept ks (by simpa using Ne.symm (IsAss.ne_blk MF BT))
   have RTn := own_keptM RT ks MF
   have RSn := own_keptM RS ks MF
   have RUn := own_keptM RU ks MF
   have MOn := IsAss.kept MO ks (by simpa using nof)
   have PSn := PS.keptT ks (NoPk.map MF)
   have PFn := PF.keptT ks (NoPk.map MF)
   have Bg0n := Bg0.kept ks (by simpa using Ne.symm (IsAss.ne_blk MF Bg0))
   have Bg2n := Bg2.kept ks (by simpa using Ne.symm (IsAss.ne_blk MF Bg2))
   clear f49 a49 ks MF HK BT RT RS RU MO PS PF Bg0 Bg2
   have HK := HKn
   have BT := BTn
   have RT := RTn
   have RS := RSn
   have RU := RUn
   have MO := MOn
   have PS := PSn
   have PF := PFn
   have Bg0 := Bg0n
   have Bg2 := Bg2n
   clear HKn BTn RTn RSn RUn MOn PSn PFn Bg0n Bg2n
   have MF := MN
   clear MN
   refine R.done (by kernel_rfl) (hK5 _ _ ?_)
   have f51 := f50.sub sn
   refine C.sk fun K6 hK6 => ?_
   refine L.ag f51 fun a52 f52 => ?_
   have f53 := f52.sub (sc 4 sn)
   refine wpList_nil (hK6 _ _ (wp_ret ?_)); (try simp only [xt, xb]); refine C.ret f53 rfl rfl ?_
   rw [rel_new e1 e4 hx (by assumption) (by assumption)]
   have pk : PkO w8 fn.p fn.s := by rw [hfn]; exact PkO.zeroR _ _
   have pl : fn.p.Len := by rw [hfn]; exact len_zeroR _
   have hp : (({ fn with gone := true } : Fl).pure) = (({ kind := 3, qos := 2, id := p.id }, true, true, true) : FlP) := by rw [hfn]; rfl
   rw [← hp]
   exact ⟨rfl, { m with out := (p.id, { fn with gone := true }) :: strike m.out p.id, n := m.n + 1 }, ⟨e1, e2, e3, out_put e4 p.id { fn with gone := true }, BT, RT, RS, RU, MO, MF, nof, tu, tn, un, hlo, PS, PF.put _ pk pl, Nat.le_succ_of_le hl1, Nat.le_succ_of_le hl2, Nat.le_succ_of_le hl3, Nat.le_succ_of_le hl4, strike_le hl5 _ _, cnt_up hcn⟩, Nat.le_refl _, HK, fun x hx => .inl hx, fun x hx => .inl hx⟩
  refine C.condF f33 rfl ?_
  refine C.sk fun K7 hK7 => ?_
  refine L.mv f33 fun a34 f34 => ?_
  refine L.va f34 (E.not f34 rfl) fun a35 f35 => ?_
  refine L.mv f35 fun a36 f36 => ?_
  clear f32 f33 a31 f34 a34 f35 a35
  refine f36.splitNB 36 rfl (fun h2 f37 => ?_) (fun h2 f37 => ?_)
  ·have hs36 := h2
   refine L.run f37 (rest' := []) (by kernel_rfl) fun a38 f38 => ?_
   clear f36
   refine wpList_nil (hK7 _ _ ?_)
   have f39 := f38.sub (scR f38 0 (scR f38 3 (scR f38 5 (sv 33 (.bool true) sn))))
   refine C.condT f39 rfl ?_
   refine C.sk fun K8 hK8 => ?_
   refine L.ag f39 fun a40 f40 => ?_
   have f41 := f40.sub (sc 4 sn)
   refine wpList_nil (hK8 _ _ (wp_ret ?_)); (try simp only [xt, xb]); refine C.ret f41 rfl rfl ?_
   rw [rel_no e1 e4 hx (by assumption) (by assumption)]
   exact ⟨rfl, m, ⟨e1, e2, e3, e4, BT, RT, RS, RU, MO, MF, nof, tu, tn, un, hlo, PS, PF, hl1, hl2, hl3, hl4, hl5, hcn⟩, by omega, HK, fun x hx => .inl hx, fun x hx => .inl hx⟩
  have hs36 := h2
  refine L.fa 0 f37 U89 rfl wsz34_tj (hw := (f37.yes rfl rfl)) fun a38 f38 => ?_
  refine L.fa 3 f38 U34 rfl wsz3_tj (hw := (f38.yes rfl rfl)) fun a39 f39 => ?_
  refine L.ld f39 U3 Bg2 (hw := (f39.yes rfl rfl)) fun a40 f40 => ?_
  refine L.va f40 (E.neq f40 rfl rfl) (hw := (f40.yes rfl rfl)) fun a41 f41 => ?_
  refine L.va f41 (E.pickF f41 rfl rfl) fun a42 f42 => ?_
  refine L.mv f42 fun a43 f43 => ?_
  clear f36 f37 a36 f38 a38 f39 a39 f40 a40 f41 a41 f42 a42
  refine f43.splitN 42 rfl (fun h3 f44 => ?_) (fun h3 f44 => ?_)
  ·refine L.run f44 (rest' := []) (by kernel_rfl) fun a45 f45 => ?_
   clear f43
   refine wpList_nil (hK7 _ _ ?_)
   have f46 := f45.sub (scR f45 0 (scR f45 3 (scR f45 5 (sv 33 (.bool true) sn))))
   refine C.condT f46 rfl ?_
   refine C.sk fun K9 hK9 => ?_
   refine L.ag f46 fun a47 f47 => ?_
   have f48 := f47.sub (sc 4 sn)
   refine wpList_nil (hK9 _ _ (wp_ret ?_)); (try simp only [xt, xb]); refine C.ret f48 rfl rfl ?_
   exact absurd (hs20.symm.trans hs36) (by decide)
  refine L.fa 25 f44 U89 rfl wsz4_tj (hw := (f44.yes rfl rfl)) fun a45 f45 => ?_
  refine L.ld f45 U4 Bg2 (hw := (f45.yes rfl rfl)) fun a46 f46 => ?_
  refine L.va f46 (E.not f46 rfl) (hw := (f46.yes rfl rfl)) fun a47 f47 => ?_
  refine L.va f47 (E.pickF f47 rfl rfl) fun a48 f48 => ?_
  refine L.ag f48 fun a49 f49 => ?_
  refine wpList_nil (hK7 _ _ ?_)
  have f50 := f49.sub (sc 0 (sc 3 (sc 5 (sc 33 sn))))
  clear f43 f44 a43 f45 a45 f46 a46 f47 a47 f48 a48 f49
  refine f50.splitNB 33 rfl (fun h4 f51 => ?_) (fun h4 f51 => ?_)
  ·refine C.condT f51 rfl ?_
   refine C.sk fun K10 hK10 => ?_
   refine L.ag f51 fun a52 f52 => ?_
   have f53 := f52.sub (sc 4 sn)
   refine wpList_nil (hK10 _ _ (wp_ret ?_)); (try simp only [xt, xb]); refine C.ret f53 rfl rfl ?_
   exact absurd (hs20.symm.trans hs36) (by decide)
  refine C.condF f51 rfl ?_
  refine wp_skip (hK2 _ _ ?_)
  have f52 := f51.sub (sc 0 (sc 3 (sc 5 sn)))
  refine wp_seq_k fun K11 hK11 => ?_
  obtain ⟨fn, hfn⟩ : ∃ fn : Fl, fn = fo := ⟨_, rfl⟩
  replace Bg2 : Blk w4 g2 89 fn.cells := by rw [hfn]; exact Bg2
  replace Bg2 : Blk w4 g2 89 #[.int .i64 fn.p.kind, .bool fn.p.dup, .bool fn.p.retain, .int .i64 fn.p.qos, .int .i64 fn.p.id, .string fn.p.topic, .slice fn.s.pa fn.p.pay.length fn.s.pc, .int .i64 fn.p.level, .string fn.p.client, .bool fn.p.clean, .int .i64 fn.p.keep, .bool fn.p.hasWill, .string fn.p.wt, .slice fn.s.wa fn.p.wp.length fn.s.wc, .int .i64 fn.p.wq, .bool fn.p.wr, .bool fn.p.hasUser, .bool fn.p.hasPass, .string fn.p.user, .slice fn.s.sa fn.p.pass.length fn.s.sc, .bool fn.p.present, .int .i64 fn.p.code, .slice fn.s.ua fn.p.subs.length fn.s.uc, .slice fn.s.ca fn.p.codes.length fn.s.cc, .bool fn.alone, .bool fn.recd, .bool fn.gone] := Bg2
  refine C.region ?_
  refine L.fa 26 f52 U89 rfl wsz4_tj fun a53 f53 => ?_
  refine L.store f53 wantedN wsz4_tj rfl rfl rfl Bg2 (by (simp [Value.cells]; done)) fun a54 w5 f54 NB5 ks5 => ?_
  have szw5 := ks5.size
  replace HK := HK.trans ks5 (fun x hx hlt => by obtain rfl := List.mem_singleton.1 hx; (exfalso; omega))
  replace BT := BT.kept ks5 (by simp; omega)
  replace RT := own_keptF RT ks5 hT0 frg2
  replace RS := own_keptF RS ks5 hS0 frg2
  replace RU := own_keptF RU ks5 hU0 frg2
  replace MO := IsAss.kept MO ks5 (by simpa using IsAss.ne_blk MO Bg2)
  replace MF := IsAss.kept MF ks5 (by simpa using IsAss.ne_blk MF Bg2)
  replace PS := PS.keptT ks5 (NoPk.blk Bg2 (by decide))
  replace PF := PF.keptT ks5 (NoPk.blk Bg2 (by decide))
  replace Bg0 := Bg0.kept ks5 (by simp; omega)
  replace Bg2 := NB5
  simp only [Value.cells, z1, z2, z3, Nat.reduceAdd, Nat.zero_add] at Bg2
  clear f50 f51 f52 a49 ks5 f53 a53
  refine wpList_nil (hK11 _ _ ?_)
  have f55 := f54.sub (sc 0 (sc 3 (sc 5 sn)))
  refine wp_seq_k fun K12 hK12 => ?_
  have hd7 : Kept [] w5 (w5.drewN 1) := (Kept.refl _ _).drewN 1
  refine RB.begin (S := fun W => (Kept (m.fp g) w W) ∧ (Blk W g 53 (trL t m)) ∧ (Row W m.At m.ct m.told) ∧ (Row W m.Au m.cu m.subs) ∧ (Row W m.An m.cn m.uns) ∧ (IsAss ansM Try.prog W m.mo t.owed) ∧ (IsAss outM Try.prog W m.mf m.out) ∧ (PksO W m.subs) ∧ (FlsO W m.out) ∧ (Blk W g0 34 (p.cells s)) ∧ (Blk W g2 89 #[.int .i64 fn.p.kind, .bool fn.p.dup, .bool fn.p.retain, .int .i64 fn.p.qos, .int .i64 fn.p.id, .string fn.p.topic, .slice fn.s.pa fn.p.pay.length fn.s.pc, .int .i64 fn.p.level, .string fn.p.client, .bool fn.p.clean, .int .i64 fn.p.keep, .bool fn.p.hasWill, .string fn.p.wt, .slice fn.s.wa fn.p.wp.length fn.s.wc, .int .i64 fn.p.wq, .bool fn.p.wr, .bool fn.p.hasUser, .bool fn.p.hasPass, .string fn.p.user, .slice fn.s.sa fn.p.pass.length fn.s.sc, .bool fn.p.present, .int .i64 fn.p.code, .slice fn.s.ua fn.p.subs.length fn.s.uc, .slice fn.s.ca fn.p.codes.length fn.s.cc, .bool fn.alone, .bool fn.recd, .bool true])) 7 (by kernel_rfl) ⟨HK.z hd7, BT.z hd7, Own.z RT hd7, Own.z RS hd7, Own.z RU hd7, IsAss.z MO hd7, IsAss.z MF hd7, PS.keptT hd7 (NoPk.nil _), PF.keptT hd7 (NoPk.nil _), Bg0.z hd7, Bg2.z hd7⟩ ?_
  obtain ⟨w6, hww6⟩ : ∃ W, W = w5.drewN 1 := ⟨_, rfl⟩
  rw [← hww6] at hd7 ⊢
  clear f54 hww6
  have szw6 := hd7.size
  replace HK := HK.z hd7
  replace BT := BT.z hd7
  replace RT := Own.z RT hd7
  replace RS := Own.z RS hd7
  replace RU := Own.z RU hd7
  replace MO := IsAss.z MO hd7
  replace MF := IsAss.z MF hd7
  replace PS := PS.keptT hd7 (NoPk.nil _)
  replace PF := PF.keptT hd7 (NoPk.nil _)
  replace Bg0 := Bg0.z hd7
  replace Bg2 := Bg2.z hd7
  clear hd7
  refine RB.tk 0 f55 rfl ⟨HK, BT, RT, RS, RU, MO, MF, PS, PF, Bg0, Bg2⟩ (fun W hW => (E.move f55 rfl)) fun a56 f56 => ?_
  refine RB.tk 1 f56 rfl ⟨HK, BT, RT, RS, RU, MO, MF, PS, PF, Bg0, Bg2⟩ (fun W hW => (E.nilCheck f56 rfl)) fun a57 f57 => ?_
  refine RB.tk 2 f57 rfl ⟨HK, BT, RT, RS, RU, MO, MF, PS, PF, Bg0, Bg2⟩ (fun W hW => (E.fa 31 f57 U53 rfl wsz50_tj)) fun a58 f58 => ?_
  refine RB.tk 3 f58 rfl ⟨HK, BT, RT, RS, RU, MO, MF, PS, PF, Bg0, Bg2⟩ (fun W hW => (E.ld f58 U50 (hW.2.1))) fun a59 f59 => ?_
  refine RB.tk 4 f59 rfl ⟨HK, BT, RT, RS, RU, MO, MF, PS, PF, Bg0, Bg2⟩ (fun W hW => (E.fa 4 f59 U34 rfl wsz3_tj)) fun a60 f60 => ?_
  refine RB.tk 5 f60 rfl ⟨HK, BT, RT, RS, RU, MO, MF, PS, PF, Bg0, Bg2⟩ (fun W hW => (E.ld f60 U3 (hW.2.2.2.2.2.2.2.2.2.1))) fun a61 f61 => ?_
  refine RB.tk 6 f61 rfl ⟨HK, BT, RT, RS, RU, MO, MF, PS, PF, Bg0, Bg2⟩ (fun W hW => (E.loadB f61 U89 rfl wsz89_tj rfl (hW.2.2.2.2.2.2.2.2.2.2) rfl)) fun a62 f62 => ?_
  clear f55 a54 f56 a56 f57 a57 f58 a58 f59 a59 f60 a60 f61 a61
  refine RB.stop (by kernel_rfl) ?_
  refine R.one 7 (by kernel_rfl) ?_
  refine O.mapPutA f62 rfl wantedN MF outOk U50 (p.id) hid ({ fn with gone := true }) rfl rfl rfl (Nat.lt_of_le_of_lt hl5 (by unfold maxLen; omega)) (fun _ _ _ => trivial) fun a63 w7 MN ks f63 => ?_
  have szw7 := ks.size
  have HKn := HK.trans ks (fun x hx hlt => by obtain rfl := List.mem_singleton.1 hx; exact fp_f)
  have BTn := BT.kept ks (by simpa using Ne.symm (IsAss.ne_blk MF BT))
  have RTn := own_keptM RT ks MF
  have RSn := own_keptM RS ks MF
  have RUn := own_keptM RU ks MF
  have MOn := IsAss.kept MO ks (by simpa using nof)
  have PSn := PS.keptT ks (NoPk.map MF)
  have PFn := PF.keptT ks (NoPk.map MF)
  have Bg0n := Bg0.kept ks (by simpa using Ne.symm (IsAss.ne_blk MF Bg0))
  have Bg2n := Bg2.kept ks (by simpa using Ne.symm (IsAss.ne_blk MF Bg2))
  clear f62 a62 ks MF HK BT RT RS RU MO PS PF Bg0 Bg2
  have HK := HKn
  have BT := BTn
  have RT := RTn
  have RS := RSn
  have RU := RUn
  have MO := MOn
  have PS := PSn
  have PF := PFn
  have Bg0 := Bg0n
  have Bg2 := Bg2n
  clear HKn BTn RTn RSn RUn MOn PSn PFn Bg0n Bg2n
  have MF := MN
  clear MN
  refine R.done (by kernel_rfl) (hK12 _ _ ?_)
  have f64 := f63.sub sn
  refine C.sk fun K13 hK13 => ?_
  refine L.ag f64 fun a65 f65 => ?_
  have f66 := f65.sub (sc 4 sn)
  refine wpList_nil (hK13 _ _ (wp_ret ?_)); (try simp only [xt, xb]); refine C.ret f66 rfl rfl ?_
  exact absurd (hs20.symm.trans hs36) (by decide)
 have hs20 := h0
 refine L.run f22 (rest' := []) (by kernel_rfl) fun a23 f23 => ?_
 clear f21
 refine wpList_nil (hK3 _ _ ?_)
 have f24 := f23.sub (scR f23 0 (scR f23 3 (scR f23 5 (scR f23 6 (sv 17 (.bool false) sn)))))
 refine C.condF f24 rfl ?_
 refine C.sk fun K14 hK14 => ?_
 refine L.mv f24 fun a25 f25 => ?_
 refine L.va f25 (E.not f25 rfl) fun a26 f26 => ?_
 refine L.mv f26 fun a27 f27 => ?_
 clear f23 f22 f24 a23 f25 a25 f26 a26
 refine f27.splitNB 36 rfl (fun h5 f28 => ?_) (fun h5 f28 => ?_)
 ·have hs36 := h5
  refine L.run f28 (rest' := []) (by kernel_rfl) fun a29 f29 => ?_
  clear f27
  refine wpList_nil (hK14 _ _ ?_)
  have f30 := f29.sub (scR f29 0 (scR f29 3 (scR f29 5 (sv 33 (.bool true) sn))))
  refine C.condT f30 rfl ?_
  refine C.sk fun K15 hK15 => ?_
  refine L.ag f30 fun a31 f31 => ?_
  have f32 := f31.sub (sc 4 sn)
  refine wpList_nil (hK15 _ _ (wp_ret ?_)); (try simp only [xt, xb]); refine C.ret f32 rfl rfl ?_
  exact absurd (hs20.symm.trans hs36) (by decide)
 have hs36 := h5
 refine L.fa 0 f28 U89 rfl wsz34_tj (hw := (f28.yes rfl rfl)) fun a29 f29 => ?_
 refine L.fa 3 f29 U34 rfl wsz3_tj (hw := (f29.yes rfl rfl)) fun a30 f30 => ?_
 refine L.ld f30 U3 Bg2 (hw := (f30.yes rfl rfl)) fun a31 f31 => ?_
 refine L.va f31 (E.neq f31 rfl rfl) (hw := (f31.yes rfl rfl)) fun a32 f32 => ?_
 refine L.va f32 (E.pickF f32 rfl rfl) fun a33 f33 => ?_
 refine L.mv f33 fun a34 f34 => ?_
 clear f27 f28 a27 f29 a29 f30 a30 f31 a31 f32 a32 f33 a33
 refine f34.splitN 42 rfl (fun h6 f35 => ?_) (fun h6 f35 => ?_)
 ·refine L.run f35 (rest' := []) (by kernel_rfl) fun a36 f36 => ?_
  clear f34
  refine wpList_nil (hK14 _ _ ?_)
  have f37 := f36.sub (scR f36 0 (scR f36 3 (scR f36 5 (sv 33 (.bool true) sn))))
  refine C.condT f37 rfl ?_
  refine C.sk fun K16 hK16 => ?_
  refine L.ag f37 fun a38 f38 => ?_
  have f39 := f38.sub (sc 4 sn)
  refine wpList_nil (hK16 _ _ (wp_ret ?_)); (try simp only [xt, xb]); refine C.ret f39 rfl rfl ?_
  have hsome := lk_get (show (lk m.out p.id).isSome = true by assumption) hfo
  rw [rel_bad e4 hsome (by exact .inl (by assumption))]
  exact ⟨rfl, m, ⟨e1, e2, e3, e4, BT, RT, RS, RU, MO, MF, nof, tu, tn, un, hlo, PS, PF, hl1, hl2, hl3, hl4, hl5, hcn⟩, by omega, HK, fun x hx => .inl hx, fun x hx => .inl hx⟩
 refine L.fa 25 f35 U89 rfl wsz4_tj (hw := (f35.yes rfl rfl)) fun a36 f36 => ?_
 refine L.ld f36 U4 Bg2 (hw := (f36.yes rfl rfl)) fun a37 f37 => ?_
 refine L.va f37 (E.not f37 rfl) (hw := (f37.yes rfl rfl)) fun a38 f38 => ?_
 refine L.va f38 (E.pickF f38 rfl rfl) fun a39 f39 => ?_
 refine L.ag f39 fun a40 f40 => ?_
 refine wpList_nil (hK14 _ _ ?_)
 have f41 := f40.sub (sc 0 (sc 3 (sc 5 (sc 33 sn))))
 clear f34 f35 a34 f36 a36 f37 a37 f38 a38 f39 a39 f40
 refine f41.splitNB 33 rfl (fun h7 f42 => ?_) (fun h7 f42 => ?_)
 ·refine C.condT f42 rfl ?_
  refine C.sk fun K17 hK17 => ?_
  refine L.ag f42 fun a43 f43 => ?_
  have f44 := f43.sub (sc 4 sn)
  refine wpList_nil (hK17 _ _ (wp_ret ?_)); (try simp only [xt, xb]); refine C.ret f44 rfl rfl ?_
  have hsome := lk_get (show (lk m.out p.id).isSome = true by assumption) hfo
  rw [rel_bad e4 hsome (by exact .inr (by assumption))]
  exact ⟨rfl, m, ⟨e1, e2, e3, e4, BT, RT, RS, RU, MO, MF, nof, tu, tn, un, hlo, PS, PF, hl1, hl2, hl3, hl4, hl5, hcn⟩, by omega, HK, fun x hx => .inl hx, fun x hx => .inl hx⟩
 refine C.condF f42 rfl ?_
 refine wp_skip (hK2 _ _ ?_)
 have f43 := f42.sub (sc 0 (sc 3 (sc 5 sn)))
 refine wp_seq_k fun K18 hK18 => ?_
 obtain ⟨fn, hfn⟩ : ∃ fn : Fl, fn = fo := ⟨_, rfl⟩
 replace Bg2 : Blk w4 g2 89 fn.cells := by rw [hfn]; exact Bg2
 replace Bg2 : Blk w4 g2 89 #[.int .i64 fn.p.kind, .bool fn.p.dup, .bool fn.p.retain, .int .i64 fn.p.qos, .int .i64 fn.p.id, .string fn.p.topic, .slice fn.s.pa fn.p.pay.length fn.s.pc, .int .i64 fn.p.level, .string fn.p.client, .bool fn.p.clean, .int .i64 fn.p.keep, .bool fn.p.hasWill, .string fn.p.wt, .slice fn.s.wa fn.p.wp.length fn.s.wc, .int .i64 fn.p.wq, .bool fn.p.wr, .bool fn.p.hasUser, .bool fn.p.hasPass, .string fn.p.user, .slice fn.s.sa fn.p.pass.length fn.s.sc, .bool fn.p.present, .int .i64 fn.p.code, .slice fn.s.ua fn.p.subs.length fn.s.uc, .slice fn.s.ca fn.p.codes.length fn.s.cc, .bool fn.alone, .bool fn.recd, .bool fn.gone] := Bg2
 refine C.region ?_
 refine L.fa 26 f43 U89 rfl wsz4_tj fun a44 f44 => ?_
 refine L.store f44 wantedN wsz4_tj rfl rfl rfl Bg2 (by (simp [Value.cells]; done)) fun a45 w5 f45 NB5 ks5 => ?_
 have szw5 := ks5.size
 replace HK := HK.trans ks5 (fun x hx hlt => by obtain rfl := List.mem_singleton.1 hx; (exfalso; omega))
 replace BT := BT.kept ks5 (by simp; omega)
 replace RT := own_keptF RT ks5 hT0 frg2
 replace RS := own_keptF RS ks5 hS0 frg2
 replace RU := own_keptF RU ks5 hU0 frg2
 replace MO := IsAss.kept MO ks5 (by simpa using IsAss.ne_blk MO Bg2)
 replace MF := IsAss.kept MF ks5 (by simpa using IsAss.ne_blk MF Bg2)
 replace PS := PS.keptT ks5 (NoPk.blk Bg2 (by decide))
 replace PF := PF.keptT ks5 (NoPk.blk Bg2 (by decide))
 replace Bg0 := Bg0.kept ks5 (by simp; omega)
 replace Bg2 := NB5
 simp only [Value.cells, z1, z2, z3, Nat.reduceAdd, Nat.zero_add] at Bg2
 clear f41 f42 f43 a40 ks5 f44 a44
 refine wpList_nil (hK18 _ _ ?_)
 have f46 := f45.sub (sc 0 (sc 3 (sc 5 sn)))
 refine wp_seq_k fun K19 hK19 => ?_
 have hd7 : Kept [] w5 (w5.drewN 1) := (Kept.refl _ _).drewN 1
 refine RB.begin (S := fun W => (Kept (m.fp g) w W) ∧ (Blk W g 53 (trL t m)) ∧ (Row W m.At m.ct m.told) ∧ (Row W m.Au m.cu m.subs) ∧ (Row W m.An m.cn m.uns) ∧ (IsAss ansM Try.prog W m.mo t.owed) ∧ (IsAss outM Try.prog W m.mf m.out) ∧ (PksO W m.subs) ∧ (FlsO W m.out) ∧ (Blk W g0 34 (p.cells s)) ∧ (Blk W g2 89 #[.int .i64 fn.p.kind, .bool fn.p.dup, .bool fn.p.retain, .int .i64 fn.p.qos, .int .i64 fn.p.id, .string fn.p.topic, .slice fn.s.pa fn.p.pay.length fn.s.pc, .int .i64 fn.p.level, .string fn.p.client, .bool fn.p.clean, .int .i64 fn.p.keep, .bool fn.p.hasWill, .string fn.p.wt, .slice fn.s.wa fn.p.wp.length fn.s.wc, .int .i64 fn.p.wq, .bool fn.p.wr, .bool fn.p.hasUser, .bool fn.p.hasPass, .string fn.p.user, .slice fn.s.sa fn.p.pass.length fn.s.sc, .bool fn.p.present, .int .i64 fn.p.code, .slice fn.s.ua fn.p.subs.length fn.s.uc, .slice fn.s.ca fn.p.codes.length fn.s.cc, .bool fn.alone, .bool fn.recd, .bool true])) 7 (by kernel_rfl) ⟨HK.z hd7, BT.z hd7, Own.z RT hd7, Own.z RS hd7, Own.z RU hd7, IsAss.z MO hd7, IsAss.z MF hd7, PS.keptT hd7 (NoPk.nil _), PF.keptT hd7 (NoPk.nil _), Bg0.z hd7, Bg2.z hd7⟩ ?_
 obtain ⟨w6, hww6⟩ : ∃ W, W = w5.drewN 1 := ⟨_, rfl⟩
 rw [← hww6] at hd7 ⊢
 clear f45 hww6
 have szw6 := hd7.size
 replace HK := HK.z hd7
 replace BT := BT.z hd7
 replace RT := Own.z RT hd7
 replace RS := Own.z RS hd7
 replace RU := Own.z RU hd7
 replace MO := IsAss.z MO hd7
 replace MF := IsAss.z MF hd7
 replace PS := PS.keptT hd7 (NoPk.nil _)
 replace PF := PF.keptT hd7 (NoPk.nil _)
 replace Bg0 := Bg0.z hd7
 replace Bg2 := Bg2.z hd7
 clear hd7
 refine RB.tk 0 f46 rfl ⟨HK, BT, RT, RS, RU, MO, MF, PS, PF, Bg0, Bg2⟩ (fun W hW => (E.move f46 rfl)) fun a47 f47 => ?_
 refine RB.tk 1 f47 rfl ⟨HK, BT, RT, RS, RU, MO, MF, PS, PF, Bg0, Bg2⟩ (fun W hW => (E.nilCheck f47 rfl)) fun a48 f48 => ?_
 refine RB.tk 2 f48 rfl ⟨HK, BT, RT, RS, RU, MO, MF, PS, PF, Bg0, Bg2⟩ (fun W hW => (E.fa 31 f48 U53 rfl wsz50_tj)) fun a49 f49 => ?_
 refine RB.tk 3 f49 rfl ⟨HK, BT, RT, RS, RU, MO, MF, PS, PF, Bg0, Bg2⟩ (fun W hW => (E.ld f49 U50 (hW.2.1))) fun a50 f50 => ?_
 refine RB.tk 4 f50 rfl ⟨HK, BT, RT, RS, RU, MO, MF, PS, PF, Bg0, Bg2⟩ (fun W hW => (E.fa 4 f50 U34 rfl wsz3_tj)) fun a51 f51 => ?_
 refine RB.tk 5 f51 rfl ⟨HK, BT, RT, RS, RU, MO, MF, PS, PF, Bg0, Bg2⟩ (fun W hW => (E.ld f51 U3 (hW.2.2.2.2.2.2.2.2.2.1))) fun a52 f52 => ?_
 refine RB.tk 6 f52 rfl ⟨HK, BT, RT, RS, RU, MO, MF, PS, PF, Bg0, Bg2⟩ (fun W hW => (E.loadB f52 U89 rfl wsz89_tj rfl (hW.2.2.2.2.2.2.2.2.2.2) rfl)) fun a53 f53 => ?_
 clear f46 a45 f47 a47 f48 a48 f49 a49 f50 a50 f51 a51 f52 a52
 refine RB.stop (by kernel_rfl) ?_
 refine R.one 7 (by kernel_rfl) ?_
 refine O.mapPutA f53 rfl wantedN MF outOk U50 (p.id) hid ({ fn with gone := true }) rfl rfl rfl (Nat.lt_of_le_of_lt hl5 (by unfold maxLen; omega)) (fun _ _ _ => trivial) fun a54 w7 MN ks f54 => ?_
 have szw7 := ks.size
 have HKn := HK.trans ks (fun x hx hlt => by obtain rfl := List.mem_singleton.1 hx; exact fp_f)
 have BTn := BT.kept ks (by simpa using Ne.symm (IsAss.ne_blk MF BT))
 have RTn := own_keptM RT ks MF
 have RSn := own_keptM RS ks MF
 have RUn := own_keptM RU ks MF
 have MOn := IsAss.kept MO ks (by simpa using nof)
 have PSn := PS.keptT ks (NoPk.map MF)
 have PFn := PF.keptT ks (NoPk.map MF)
 have Bg0n := Bg0.kept ks (by simpa using Ne.symm (IsAss.ne_blk MF Bg0))
 have Bg2n := Bg2.kept ks (by simpa using Ne.symm (IsAss.ne_blk MF Bg2))
 clear f53 a53 ks MF HK BT RT RS RU MO PS PF Bg0 Bg2
 have HK := HKn
 have BT := BTn
 have RT := RTn
 have RS := RSn
 have RU := RUn
 have MO := MOn
 have PS := PSn
 have PF := PFn
 have Bg0 := Bg0n
 have Bg2 := Bg2n
 clear HKn BTn RTn RSn RUn MOn PSn PFn Bg0n Bg2n
 have MF := MN
 clear MN
 refine R.done (by kernel_rfl) (hK19 _ _ ?_)
 have f55 := f54.sub sn
 refine C.sk fun K20 hK20 => ?_
 refine L.ag f55 fun a56 f56 => ?_
 have f57 := f56.sub (sc 4 sn)
 refine wpList_nil (hK20 _ _ (wp_ret ?_)); (try simp only [xt, xb]); refine C.ret f57 rfl rfl ?_
 have hsome := lk_get (show (lk m.out p.id).isSome = true by assumption) hfo
 obtain ⟨pk, pl⟩ := PF.at_ hsome
 clear f54 f55 a54 f56
 subst hfn
 rw [rel_ok e4 hsome (by omega) (by assumption)]
 exact ⟨rfl, { m with out := (p.id, { fn with gone := true }) :: strike m.out p.id, n := m.n + 1 }, ⟨e1, e2, e3, out_put e4 p.id { fn with gone := true }, BT, RT, RS, RU, MO, MF, nof, tu, tn, un, hlo, PS, PF.put _ pk pl, Nat.le_succ_of_le hl1, Nat.le_succ_of_le hl2, Nat.le_succ_of_le hl3, Nat.le_succ_of_le hl4, strike_le hl5 _ _, cnt_up hcn⟩, Nat.le_refl _, HK, fun x hx => .inl hx, fun x hx => .inl hx⟩
end Go.Proofs.Ytkdeedhjkjffpaa
namespace Go.Proofs.Ytkdeedhjkjffpaa
open Go.RowKit Go.Hub
theorem infoR34 : (Try.prog.info? 34).map (fun i => (i.zero, i.size, i.bytes)) = some (some (.agg #[(.int .i64 0), (.bool false), (.bool false), (.int .i64 0), (.int .i64 0), (.string ⟨#[]⟩), (.slice none 0 0), (.int .i64 0), (.string ⟨#[]⟩), (.bool false), (.int .i64 0), (.bool false), (.string ⟨#[]⟩), (.slice none 0 0), (.int .i64 0), (.bool false), (.bool false), (.bool false), (.string ⟨#[]⟩), (.slice none 0 0), (.bool false), (.int .i64 0), (.slice none 0 0), (.slice none 0 0)]), 24, 288) := by kernel_rfl
theorem zeroR34 (w : World) : (zeroValue 34).run Try.prog w = .ok (.agg #[(.int .i64 0), (.bool false), (.bool false), (.int .i64 0), (.int .i64 0), (.string ⟨#[]⟩), (.slice none 0 0), (.int .i64 0), (.string ⟨#[]⟩), (.bool false), (.int .i64 0), (.bool false), (.string ⟨#[]⟩), (.slice none 0 0), (.int .i64 0), (.bool false), (.bool false), (.bool false), (.string ⟨#[]⟩), (.slice none 0 0), (.bool false), (.int .i64 0), (.slice none 0 0), (.slice none 0 0)]) w := by kernel_rfl
set_option maxHeartbeats 1000000 in
theorem del_any (g off n c i : Nat) (xs : List Value) (w : World) (ho : Own w 34 24 (.slice (some ⟨g, off, none⟩) n c) n xs) (h1 : ∀ u ∈ xs, u.oneCell' = true) (hi : i < n) :
    Calls Try.prog 54 #[.slice (some ⟨g, off, none⟩) n c, .int .i64 i, .int .i64 (i + 1)] w fun e w' => e = .returned (.slice (some ⟨g, off, none⟩) (n - 1) c) ∧ Own w' 34 24 (.slice (some ⟨g, off, none⟩) (n - 1) c) (n - 1) (xs.take (i * 24) ++ xs.drop ((i + 1) * 24)) ∧ Kept [g] w w' := by
  obtain ⟨A, c', e, hc1, hc2⟩ := ho.form
  injection e with e1 e2 e3
  subst e1 e3
  obtain ⟨m, rfl⟩ : ∃ m, n = i + 1 + m := ⟨n - (i + 1), by omega⟩
  obtain ⟨i0, hi0, hz0, hz1, hz2⟩ := info_parts infoR34
  unfold maxLen at hc2
  have hne : ((i : Int) == (i : Int) + 1) = false := by simp; omega
  rw [show i + 1 + m - 1 = i + m from by omega]
  go_enter Try.func54, Try.ntmps54
  by_cases hc : c = i + 1
  · obtain rfl : m = 0 := by omega
    subst hc
    have hhead := ho.head (k := i) (by omega)
    have htail : Rds w w.heap.size 24 (some ⟨g, off, none⟩) 0 (xs.drop ((i + 1) * 24)) := by
      have := ho.1
      rw [List.drop_eq_nil_of_le (by omega)]
      exact Rds.nil _ _ _ _
    have hu : ∀ u ∈ xs.drop ((i + 1) * 24), u.oneCell' = true := fun u hu => h1 u (List.mem_of_mem_drop hu)
    have q1 : ((i : Int) + 1).toNat = i + 1 := by omega
    have q2 : IntKind.i64.wrap ((i : Int) + 1) = (i : Int) + 1 := by rw [IntKind.wrap_i64]; omega
    have q5 : (0 : Int) ≤ (i : Int) := by omega
    have q6 : (i : Int) ≤ (i : Int) + 1 := by omega
    have q8 : (0 : Int) ≤ (i : Int) + 1 := by omega
    have HO := hid (And.intro ho h1)
    clear ho h1
    go_wp2_with fail
    go_region_held3 (fun w' => True) (trivial)
      (first | (refine step_append_fit _ rfl (.tmp 22) (.tmp 25) _ rfl 34 i0 24 U51 hi0 hz1 g off i (i + 1) i _ rfl hhead.drew _ _ _ _ _ rfl htail.drew hu (by omega) (by omega) ?_; intro w1 ho1 hk1))
    have hcl : ∀ ty cc, (Builtin.clear_ #[51] ty #[.slice (some ⟨g, off + i * 24, none⟩) 1 cc]).run Try.prog w1 = .ok (.tuple #[]) (w1.setCells g (off + i * 24) [(.int .i64 0), (.bool false), (.bool false), (.int .i64 0), (.int .i64 0), (.string ⟨#[]⟩), (.slice none 0 0), (.int .i64 0), (.string ⟨#[]⟩), (.bool false), (.int .i64 0), (.bool false), (.string ⟨#[]⟩), (.slice none 0 0), (.int .i64 0), (.bool false), (.bool false), (.bool false), (.string ⟨#[]⟩), (.slice none 0 0), (.bool false), (.int .i64 0), (.slice none 0 0), (.slice none 0 0)]) := fun ty cc =>
      run_clear_one w1 51 34 ty (.agg #[(.int .i64 0), (.bool false), (.bool false), (.int .i64 0), (.int .i64 0), (.string ⟨#[]⟩), (.slice none 0 0), (.int .i64 0), (.string ⟨#[]⟩), (.bool false), (.int .i64 0), (.bool false), (.string ⟨#[]⟩), (.slice none 0 0), (.int .i64 0), (.bool false), (.bool false), (.bool false), (.string ⟨#[]⟩), (.slice none 0 0), (.bool false), (.int .i64 0), (.slice none 0 0), (.slice none 0 0)]) U51 zeroR34 (by simp [Value.cells, Value.oneCell']) g (off + i * 24) cc
        (fun j hj => by simp [Value.cells] at hj; rw [Nat.add_assoc]; exact (ho1.room (by omega)).1) (fun j hj => by simp [Value.cells] at hj; rw [Nat.add_assoc]; exact (ho1.room (by omega)).2)
    have hp := ho1.past (o := off + i * 24) (by omega) [(.int .i64 0), (.bool false), (.bool false), (.int .i64 0), (.int .i64 0), (.string ⟨#[]⟩), (.slice none 0 0), (.int .i64 0), (.string ⟨#[]⟩), (.bool false), (.int .i64 0), (.bool false), (.string ⟨#[]⟩), (.slice none 0 0), (.int .i64 0), (.bool false), (.bool false), (.bool false), (.string ⟨#[]⟩), (.slice none 0 0), (.bool false), (.int .i64 0), (.slice none 0 0), (.slice none 0 0)]
    have HP := hid (And.intro hp hk1)
    clear hp hk1 ho1 hhead htail hu
    go_wp2_with (simp only [hcl])
    go_ret
    exact ⟨rfl, HP.out.1.1, HP.out.2.of_drew.trans HP.out.1.2 (by simp)⟩
  have hhead := ho.head (k := i) (by omega)
  have htail := ho.rds.cut (k := i + 1) (cap := c) (by omega) (by omega)
  rw [if_neg hc] at htail
  simp only [Option.map_some, add_none, Nat.add_sub_cancel_left] at htail
  have hu : ∀ u ∈ xs.drop ((i + 1) * 24), u.oneCell' = true := fun u hu => h1 u (List.mem_of_mem_drop hu)
  have q1 : ((i : Int) + 1).toNat = i + 1 := by omega
  have q2 : IntKind.i64.wrap ((i : Int) + 1) = (i : Int) + 1 := by rw [IntKind.wrap_i64]; omega
  have q3 : (i : Int) ≤ (i : Int) + 1 + (m : Int) := by omega
  have q5 : (0 : Int) ≤ (i : Int) := by omega
  have q6 : (i : Int) ≤ (c : Int) := by omega
  have q7 : (i : Int) + 1 + (m : Int) ≤ (c : Int) := by omega
  have q8 : (0 : Int) ≤ (i : Int) + 1 := by omega
  have q4 : (i : Int) + 1 ≤ (i : Int) + 1 + (m : Int) := by omega
  have HO := hid (And.intro ho h1)
  clear ho h1
  go_wp2_with fail
  go_region_held3 (fun w' => True) (trivial)
    (first | (refine step_append_fit _ rfl (.tmp 22) (.tmp 25) _ rfl 34 i0 24 U51 hi0 hz1 g off i c (i + m) _ rfl hhead.drew _ _ _ _ _ rfl htail.drew hu (by omega) (by omega) ?_; intro w1 ho1 hk1))
  have hcl : ∀ ty cc, (Builtin.clear_ #[51] ty #[.slice (some ⟨g, off + (i + m) * 24, none⟩) 1 cc]).run Try.prog w1 = .ok (.tuple #[]) (w1.setCells g (off + (i + m) * 24) [(.int .i64 0), (.bool false), (.bool false), (.int .i64 0), (.int .i64 0), (.string ⟨#[]⟩), (.slice none 0 0), (.int .i64 0), (.string ⟨#[]⟩), (.bool false), (.int .i64 0), (.bool false), (.string ⟨#[]⟩), (.slice none 0 0), (.int .i64 0), (.bool false), (.bool false), (.bool false), (.string ⟨#[]⟩), (.slice none 0 0), (.bool false), (.int .i64 0), (.slice none 0 0), (.slice none 0 0)]) := fun ty cc =>
    run_clear_one w1 51 34 ty (.agg #[(.int .i64 0), (.bool false), (.bool false), (.int .i64 0), (.int .i64 0), (.string ⟨#[]⟩), (.slice none 0 0), (.int .i64 0), (.string ⟨#[]⟩), (.bool false), (.int .i64 0), (.bool false), (.string ⟨#[]⟩), (.slice none 0 0), (.int .i64 0), (.bool false), (.bool false), (.bool false), (.string ⟨#[]⟩), (.slice none 0 0), (.bool false), (.int .i64 0), (.slice none 0 0), (.slice none 0 0)]) U51 zeroR34 (by simp [Value.cells, Value.oneCell']) g (off + (i + m) * 24) cc
      (fun j hj => by simp [Value.cells] at hj; rw [Nat.add_assoc]; exact (ho1.room (by omega)).1) (fun j hj => by simp [Value.cells] at hj; rw [Nat.add_assoc]; exact (ho1.room (by omega)).2)
  have hp := ho1.past (o := off + (i + m) * 24) (by omega) [(.int .i64 0), (.bool false), (.bool false), (.int .i64 0), (.int .i64 0), (.string ⟨#[]⟩), (.slice none 0 0), (.int .i64 0), (.string ⟨#[]⟩), (.bool false), (.int .i64 0), (.bool false), (.string ⟨#[]⟩), (.slice none 0 0), (.int .i64 0), (.bool false), (.bool false), (.bool false), (.string ⟨#[]⟩), (.slice none 0 0), (.bool false), (.int .i64 0), (.slice none 0 0), (.slice none 0 0)]
  have r0 : i + 1 + m - (i + m) = 1 := by omega
  have r1 : (0 : Int) ≤ (i : Int) + (m : Int) := by omega
  have r2 : (i : Int) + (m : Int) ≤ (i : Int) + 1 + (m : Int) := by omega
  have r3 : ((i : Int) + (m : Int)).toNat = i + m := by omega
  have r4 : ((i : Int) + 1 + (m : Int)).toNat = i + 1 + m := by omega
  have HP := hid (And.intro hp hk1)
  clear hp hk1 ho1 hhead htail hu
  go_wp2_with (simp only [hcl])
  go_ret
  exact ⟨rfl, HP.out.1.1, HP.out.2.of_drew.trans HP.out.1.2 (by simp)⟩
end Go.Proofs.Ytkdeedhjkjffpaa
namespace Go.Proofs.Ytkdeedhjkjffpaa
open Go.RowKit Go.Hub Go.Lib Go.WideShapes Go.ChangeMaps
theorem wsz3_tl : (Try.prog.info? 3).map (·.size) = some 1 := by kernel_rfl
theorem wsz34_tl : (Try.prog.info? 34).map (·.size) = some 24 := by kernel_rfl
theorem wsz51_tl : (Try.prog.info? 51).map (·.size) = some 1 := by kernel_rfl
theorem Row.cellAt {w : World} {A : Option Addr} {c : Nat} {x : Pk × Ad} {l r : List (Pk × Ad)} (hx : l = x :: r) (h : Row w A c l) {b off j : Nat} (hA : A = some ⟨b, off, none⟩) {u : Value} (hu : (x.1.cells x.2).toList[j]? = some u) : w.cell? ⟨b, off + j, none⟩ = some u := by
  subst hx
  obtain ⟨b', off', e, hc⟩ := h.cell0 j hu
  rw [hA] at e
  injection e with e
  injection e with e1 e2
  rw [e1, e2]
  exact hc
theorem del_row {w : World} {A : Option Addr} {c : Nat} {x : Pk × Ad} {l r : List (Pk × Ad)} (h : Row w A c l) (hx : l = x :: r) : Calls Try.prog 54 #[.slice A l.length c, .int .i64 0, .int .i64 1] w fun e w' => e = .returned (.slice A r.length c) ∧ Row w' A c r ∧ Kept (Value.slice A l.length c).ownBlock.toList w w' := by
  subst hx
  obtain ⟨b, off, hA, _⟩ := h.cell0 0 rfl
  subst hA
  refine (del_any b off _ c 0 _ w h (pkRow_oneCell _) (by simp)).mono ?_
  rintro e w' ⟨rfl, h1, h2⟩
  refine ⟨rfl, ?_, ?_⟩
  · have e : (pkRow (x :: r)).take (0 * 24) ++ (pkRow (x :: r)).drop ((0 + 1) * 24) = pkRow r := by
      have : pkRow (x :: r) = (x.1.cells x.2).toList ++ pkRow r := by simp [pkRow]
      rw [this, Nat.zero_mul, List.take_zero, List.nil_append]
      exact List.drop_left' rfl
    rw [e] at h1
    exact h1
  have : (Value.slice (some ⟨b, off, none⟩) (x :: r).length c).ownBlock = some b := (own_block _ _ _ _).2 rfl
  rw [this]
  exact h2
section
variable {t : Tr} {p : Pk} {l r : List (Pk × Ad)} {x : Pk × Ad}
theorem uns_nil (e : t.unsubs = l.map (·.1)) (h : l = []) : t.unsT p = (false, t) := by
  unfold Tr.unsT
  rw [e, h]
  rfl
theorem uns_ne (e : t.unsubs = l.map (·.1)) (hx : l = x :: r) (h : ¬ x.1.id = p.id) : t.unsT p = (false, t) := by
  unfold Tr.unsT
  rw [e, hx]
  exact if_pos h
theorem uns_ok (e : t.unsubs = l.map (·.1)) (hx : l = x :: r) (h : x.1.id = p.id) : t.unsT p = (true, { t with unsubs := r.map (·.1) }) := by
  unfold Tr.unsT
  rw [e, hx]
  exact if_neg (fun c => c h)
end
set_option maxHeartbeats 4000000 in
theorem uns_any (p : Pk) (s : Ad) (B g : Nat) (t : Tr) (m : TrM) (w : World) (T : TrIn B w g t m) (hn : m.n ≤ 1000000) : Calls Try.prog 37 #[.pointer (some ⟨g, 0, none⟩), .agg (p.cells s)] w (TrPost B g m w (t.unsT p).2 (.bool (t.unsT p).1)) := by
 have HK : Kept (m.fp g) w w := Kept.refl _ _
 obtain ⟨e1, e2, e3, e4, BT, RT, RS, RU, MO, MF, nof, tu, tn, un, hlo, PS, PF, hl1, hl2, hl3, hl4, hl5, hcn⟩ := T
 replace BT : Blk w g 53 #[.bool t.clean, .int .i64 t.gr.kind, .bool t.gr.dup, .bool t.gr.retain, .int .i64 t.gr.qos, .int .i64 t.gr.id, .string t.gr.topic, .slice m.gs.pa t.gr.pay.length m.gs.pc, .int .i64 t.gr.level, .string t.gr.client, .bool t.gr.clean, .int .i64 t.gr.keep, .bool t.gr.hasWill, .string t.gr.wt, .slice m.gs.wa t.gr.wp.length m.gs.wc, .int .i64 t.gr.wq, .bool t.gr.wr, .bool t.gr.hasUser, .bool t.gr.hasPass, .string t.gr.user, .slice m.gs.sa t.gr.pass.length m.gs.sc, .bool t.gr.present, .int .i64 t.gr.code, .slice m.gs.ua t.gr.subs.length m.gs.uc, .slice m.gs.ca t.gr.codes.length m.gs.cc, .bool t.greeted, .slice m.At m.told.length m.ct, .bool t.left, .slice m.Au m.subs.length m.cu, .slice m.An m.uns.length m.cn, .map (some m.mo), .map (some m.mf)] := BT
 have hgl := BT.lt
 have hgo := IsAss.ne_blk MO BT
 have hgf := IsAss.ne_blk MF BT
 have hmo := IsAss.lt MO
 have hmf := IsAss.lt MF
 have hT0 := own_lt RT
 have hS0 := own_lt RS
 have hU0 := own_lt RU
 refine C.enter Try.func37 rfl Try.ntmps37 rfl ?_
 intro a0 f0
 have f1 : Fr 31 a0 [(0, .pointer (some ⟨g, 0, none⟩)), (1, .agg (p.cells s))] := f0
 refine C.sk fun K0 hK0 => ?_
 refine L.box f1 wantedN (by decide) rfl rfl fun a2 w1 g0 N0 f2 => ?_
 have Bg0 := N0.blk
 have kg0 := N0.kept
 have log0 := N0.lo
 have ltg0 := Bg0.lt
 have szw1 := kg0.size
 have frg0 : w.heap.size ≤ g0 := Nat.le_trans HK.size log0
 have neg_g0 : g ≠ g0 := by have := BT.lt; omega
 replace HK := HK.z kg0
 replace BT := BT.z kg0
 replace RT := Own.z RT kg0
 replace RS := Own.z RS kg0
 replace RU := Own.z RU kg0
 replace MO := IsAss.z MO kg0
 replace MF := IsAss.z MF kg0
 replace PS := PS.keptT kg0 (NoPk.nil _)
 replace PF := PF.keptT kg0 (NoPk.nil _)
 clear f0 N0 kg0
 refine L.ag f2 fun a3 f3 => ?_
 refine wpList_nil (hK0 _ _ ?_)
 have f4 := f3.sub (sc 0 (sc 3 sn))
 refine wp_seq_k fun K1 hK1 => ?_
 refine wp_seq_k fun K2 hK2 => ?_
 have hd1 : Kept [] w1 (w1.drewN 1) := (Kept.refl _ _).drewN 1
 refine R.beginT (S := fun W => (Kept (m.fp g) w W) ∧ (Blk W g 53 (trL t m)) ∧ (Row W m.At m.ct m.told) ∧ (Row W m.Au m.cu m.subs) ∧ (Row W m.An m.cn m.uns) ∧ (IsAss ansM Try.prog W m.mo t.owed) ∧ (IsAss outM Try.prog W m.mf m.out) ∧ (PksO W m.subs) ∧ (FlsO W m.out) ∧ (Blk W g0 34 (p.cells s))) (by kernel_rfl) (by kernel_rfl) ⟨HK.z hd1, BT.z hd1, Own.z RT hd1, Own.z RS hd1, Own.z RU hd1, IsAss.z MO hd1, IsAss.z MF hd1, PS.keptT hd1 (NoPk.nil _), PF.keptT hd1 (NoPk.nil _), Bg0.z hd1⟩ fun ht => ?_
 obtain ⟨w2, hww2⟩ : ∃ W, W = w1.drewN 1 := ⟨_, rfl⟩
 rw [← hww2] at hd1 ⊢
 clear f1 a0 f2 a2 f3 hww2
 have szw2 := hd1.size
 replace HK := HK.z hd1
 replace BT := BT.z hd1
 replace RT := Own.z RT hd1
 replace RS := Own.z RS hd1
 replace RU := Own.z RU hd1
 replace MO := IsAss.z MO hd1
 replace MF := IsAss.z MF hd1
 replace PS := PS.keptT hd1 (NoPk.nil _)
 replace PF := PF.keptT hd1 (NoPk.nil _)
 replace Bg0 := Bg0.z hd1
 clear hd1
 refine R.u 0 f4 rfl ht ⟨HK, BT, RT, RS, RU, MO, MF, PS, PF, Bg0⟩ (fun W hW => (E.move f4 rfl)) fun a5 f5 => ?_
 refine R.u 1 f5 rfl ht ⟨HK, BT, RT, RS, RU, MO, MF, PS, PF, Bg0⟩ (fun W hW => (E.nilCheck f5 rfl)) fun a6 f6 => ?_
 refine R.u 2 f6 rfl ht ⟨HK, BT, RT, RS, RU, MO, MF, PS, PF, Bg0⟩ (fun W hW => (E.fa 29 f6 U53 rfl wsz51_tl)) fun a7 f7 => ?_
 refine R.u 3 f7 rfl ht ⟨HK, BT, RT, RS, RU, MO, MF, PS, PF, Bg0⟩ (fun W hW => (E.ld f7 U51 (hW.2.1))) fun a8 f8 => ?_
 refine R.u 4 f8 rfl ht ⟨HK, BT, RT, RS, RU, MO, MF, PS, PF, Bg0⟩ (fun W hW => (E.lenL f8 U51 rfl)) fun a9 f9 => ?_
 refine R.u 5 f9 rfl ht ⟨HK, BT, RT, RS, RU, MO, MF, PS, PF, Bg0⟩ (fun W hW => (E.eq f9)) fun a10 f10 => ?_
 refine R.u 6 f10 rfl ht ⟨HK, BT, RT, RS, RU, MO, MF, PS, PF, Bg0⟩ (fun W hW => (E.move f10 rfl)) fun a11 f11 => ?_
 clear f4 a3 f5 a5 f6 a6 f7 a7 f8 a8 f9 a9 f10 a10
 refine f11.splitD 11 rfl (fun h0 f12 => ?_) (fun h0 f12 => ?_)
 ·refine R.runT [7, 8, 9, 10, 11, 12, 13, 14, 15, 16, 17] (tf 18 []) f12 ht (fun _ _ _ _ h => h) ⟨HK, BT, RT, RS, RU, MO, MF, PS, PF, Bg0⟩ (by kernel_rfl) fun a13 f13 => ?_
  have f14 := f13.sub (scT f13 0 (sv 22 (.bool true) sn))
  refine R.done (by kernel_rfl) (hK2 _ _ ?_)
  have f15 := f14.sub (sc 0 (sc 22 sn))
  refine C.condT f15 rfl ?_
  refine C.sk fun K3 hK3 => ?_
  refine L.ag f15 fun a16 f16 => ?_
  have f17 := f16.sub (sc 4 sn)
  refine wpList_nil (hK3 _ _ (wp_ret ?_)); (try simp only [xt, xb]); refine C.ret f17 rfl rfl ?_
  rw [uns_nil e3 (List.eq_nil_of_length_eq_zero (by omega))]
  exact ⟨rfl, m, ⟨e1, e2, e3, e4, BT, RT, RS, RU, MO, MF, nof, tu, tn, un, hlo, PS, PF, hl1, hl2, hl3, hl4, hl5, hcn⟩, by omega, HK, fun x hx => .inl hx, fun x hx => .inl hx⟩
 have hne : m.uns ≠ [] := fun e => by rw [e] at h0; simp at h0
 obtain ⟨x, r, hx⟩ := List.exists_cons_of_ne_nil hne
 obtain ⟨b0, off0, hA, _⟩ := Row.cell0 (hx ▸ RU) 4 rfl
 have hlr : r.length ≤ m.n := by have := congrArg List.length hx; rw [List.length_cons] at this; omega
 have hxl : 0 < m.uns.length := by rw [hx]; simp
 refine R.u 7 f12 rfl ht ⟨HK, BT, RT, RS, RU, MO, MF, PS, PF, Bg0⟩ (fun W hW => (E.move f12 rfl)) (hw := (f12.yes rfl rfl)) fun a13 f13 => ?_
 refine R.u 8 f13 rfl ht ⟨HK, BT, RT, RS, RU, MO, MF, PS, PF, Bg0⟩ (fun W hW => (E.nilCheck f13 rfl)) (hw := (f13.yes rfl rfl)) fun a14 f14 => ?_
 refine R.u 9 f14 rfl ht ⟨HK, BT, RT, RS, RU, MO, MF, PS, PF, Bg0⟩ (fun W hW => (E.fa 29 f14 U53 rfl wsz51_tl)) (hw := (f14.yes rfl rfl)) fun a15 f15 => ?_
 refine R.u 10 f15 rfl ht ⟨HK, BT, RT, RS, RU, MO, MF, PS, PF, Bg0⟩ (fun W hW => (E.ld f15 U51 (hW.2.1))) (hw := (f15.yes rfl rfl)) fun a16 f16 => ?_
 refine R.u 11 f16 rfl ht ⟨HK, BT, RT, RS, RU, MO, MF, PS, PF, Bg0⟩ (fun W hW => (E.indexA f16 (by assumption) U51 wsz34_tl rfl rfl (by omega) (by omega))) (hw := (f16.yes rfl rfl)) fun a17 f17 => ?_
 refine R.u 12 f17 rfl ht ⟨HK, BT, RT, RS, RU, MO, MF, PS, PF, Bg0⟩ (fun W hW => (E.fa 4 f17 U34 rfl wsz3_tl)) (hw := (f17.yes rfl rfl)) fun a18 f18 => ?_
 refine R.u 13 f18 rfl ht ⟨HK, BT, RT, RS, RU, MO, MF, PS, PF, Bg0⟩ (fun W hW => (E.load f18 U3 rfl rfl (Row.cellAt hx hW.2.2.2.2.1 hA rfl))) (hw := (f18.yes rfl rfl)) fun a19 f19 => ?_
 clear f11 f12 a11 f13 a13 f14 a14 f15 a15 f16 a16 f17 a17 f18 a18
 refine R.u 14 f19 rfl ht ⟨HK, BT, RT, RS, RU, MO, MF, PS, PF, Bg0⟩ (fun W hW => (E.fa 4 f19 U34 rfl wsz3_tl)) (hw := (f19.yes rfl rfl)) fun a20 f20 => ?_
 refine R.u 15 f20 rfl ht ⟨HK, BT, RT, RS, RU, MO, MF, PS, PF, Bg0⟩ (fun W hW => (E.ld f20 U3 (hW.2.2.2.2.2.2.2.2.2))) (hw := (f20.yes rfl rfl)) fun a21 f21 => ?_
 refine R.u 16 f21 rfl ht ⟨HK, BT, RT, RS, RU, MO, MF, PS, PF, Bg0⟩ (fun W hW => (E.neq f21 rfl rfl)) (hw := (f21.yes rfl rfl)) fun a22 f22 => ?_
 refine R.u 17 f22 rfl ht ⟨HK, BT, RT, RS, RU, MO, MF, PS, PF, Bg0⟩ (fun W hW => (E.pickF f22 rfl rfl)) fun a23 f23 => ?_
 refine R.done (by kernel_rfl) (hK2 _ _ ?_)
 have f24 := f23.sub (sc 0 (sc 22 sn))
 clear f19 a19 f20 a20 f21 a21 f22 a22 f23
 refine f24.splitN 22 rfl (fun h1 f25 => ?_) (fun h1 f25 => ?_)
 ·refine C.condT f25 rfl ?_
  refine C.sk fun K4 hK4 => ?_
  refine L.ag f25 fun a26 f26 => ?_
  have f27 := f26.sub (sc 4 sn)
  refine wpList_nil (hK4 _ _ (wp_ret ?_)); (try simp only [xt, xb]); refine C.ret f27 rfl rfl ?_
  rw [uns_ne e3 hx (by assumption)]
  exact ⟨rfl, m, ⟨e1, e2, e3, e4, BT, RT, RS, RU, MO, MF, nof, tu, tn, un, hlo, PS, PF, hl1, hl2, hl3, hl4, hl5, hcn⟩, by omega, HK, fun x hx => .inl hx, fun x hx => .inl hx⟩
 refine C.condF f25 rfl ?_
 refine wp_skip (hK1 _ _ ?_)
 have f26 := f25.sub (sc 0 sn)
 refine C.sk fun K5 hK5 => ?_
 refine L.mv f26 fun a27 f27 => ?_
 refine L.mv f27 fun a28 f28 => ?_
 refine L.va f28 (E.nilCheck f28 rfl) fun a29 f29 => ?_
 refine L.fa 29 f29 U53 rfl wsz51_tl fun a30 f30 => ?_
 refine L.ld f30 U51 BT fun a31 f31 => ?_
 refine L.cl f31 (run_call Try.call54 (args3 f31 rfl rfl rfl)) (del_row RU hx) ?_
 clear f24 f25 f26 a23 f27 a27 f28 a28 f29 a29 f30 a30
 rintro e w3 ⟨rfl, RN, kc⟩
 refine ⟨_, rfl, fun a32 f32 => ?_⟩
 have szw3 := kc.size
 have HKn := HK.trans kc (fun x hx _ => fp_ownRU (by simpa using hx))
 have BTn := BT.kept kc (own_ne RU BT (by decide))
 have RTn := Own.kept RT kc (own_apart (Apart.symm tn))
 have RSn := Own.kept RS kc (own_apart (Apart.symm un))
 have MOn := IsAss.kept MO kc (own_ne_map MO RU)
 have MFn := IsAss.kept MF kc (own_ne_map MF RU)
 have PSn := PS.keptT kc (NoPk.own RU)
 have PFn := PF.keptT kc (NoPk.own RU)
 clear f31 a31 kc HK BT RT RS MO MF PS PF RU
 have HK := HKn
 have BT := BTn
 have RT := RTn
 have RS := RSn
 have MO := MOn
 have MF := MFn
 have PS := PSn
 have PF := PFn
 have RU := RN
 clear RN HKn BTn RTn RSn MOn MFn PSn PFn
 refine L.va f32 (E.nilCheck f32 rfl) fun a33 f33 => ?_
 refine L.fa 29 f33 U53 rfl wsz51_tl fun a34 f34 => ?_
 refine L.store f34 wantedN wsz51_tl rfl rfl rfl BT (by (simp [Value.cells]; done)) fun a35 w4 f35 NB4 ks4 => ?_
 have szw4 := ks4.size
 replace HK := HK.trans ks4 (fun x hx hlt => by obtain rfl := List.mem_singleton.1 hx; exact fp_g)
 replace RT := own_kept1 RT ks4 BT (by decide)
 replace RS := own_kept1 RS ks4 BT (by decide)
 replace MO := IsAss.kept MO ks4 (by simpa using IsAss.ne_blk MO BT)
 replace MF := IsAss.kept MF ks4 (by simpa using IsAss.ne_blk MF BT)
 replace PS := PS.keptT ks4 (NoPk.blk BT (by decide))
 replace PF := PF.keptT ks4 (NoPk.blk BT (by decide))
 replace RU := own_kept1 RU ks4 BT (by decide)
 replace BT := NB4
 simp only [Value.cells, z1, z2, z3, Nat.reduceAdd, Nat.zero_add] at BT
 clear f32 a32 f33 a33 ks4 f34 a34
 have f36 := f35.sub sn
 refine wpList_nil (hK5 _ _ (C.sk fun K6 hK6 => ?_))
 refine L.ag f36 fun a37 f37 => ?_
 have f38 := f37.sub (sc 4 sn)
 refine wpList_nil (hK6 _ _ (wp_ret ?_)); (try simp only [xt, xb]); refine C.ret f38 rfl rfl ?_
 rw [uns_ok e3 hx (by assumption)]
 exact ⟨rfl, { m with uns := r, n := m.n + 1 }, ⟨e1, e2, rfl, e4, BT, RT, RS, RU, MO, MF, nof, tu, tn, un, hlo, PS, PF, Nat.le_succ_of_le hl1, Nat.le_succ_of_le hl2, Nat.le_succ_of_le hlr, Nat.le_succ_of_le hl4, Nat.le_succ_of_le hl5, cnt_up hcn⟩, Nat.le_refl _, HK, fun x hx => .inl hx, fun x hx => .inl hx⟩
end Go.Proofs.Ytkdeedhjkjffpaa
namespace Go.Proofs.Ytkdeedhjkjffpaa
open Go.RowKit Go.Hub Go.Lib Go.WideShapes Go.ChangeMaps
theorem wsz3_tl2 : (Try.prog.info? 3).map (·.size) = some 1 := by kernel_rfl
theorem wsz31_tl2 : (Try.prog.info? 31).map (·.size) = some 1 := by kernel_rfl
theorem wsz32_tl2 : (Try.prog.info? 32).map (·.size) = some 1 := by kernel_rfl
theorem wsz34_tl2 : (Try.prog.info? 34).map (·.size) = some 24 := by kernel_rfl
theorem wsz46_tl2 : (Try.prog.info? 46).map (·.size) = some 2 := by kernel_rfl
theorem wsz51_tl2 : (Try.prog.info? 51).map (·.size) = some 1 := by kernel_rfl
theorem PksO.head {w : World} {l r : List (Pk × Ad)} {x : Pk × Ad} (h : PksO w l) (hx : l = x :: r) : PkO w x.1 x.2 ∧ x.1.Len := h x (hx ▸ List.mem_cons_self)
theorem codes_step {l : List (ByteArray × Int)} {q : List Int} {k : Nat} {d : ByteArray × Int} {d' : Int} (hd : l[k]? = some d) (hd' : q[k]? = some d') : codesB (l.drop k) (q.drop k) = ((decide (d' = 128) || decide (d' = d.2)) && codesB (l.drop (k + 1)) (q.drop (k + 1))) := by
  obtain ⟨h1, e1⟩ := List.getElem?_eq_some_iff.1 hd
  obtain ⟨h2, e2⟩ := List.getElem?_eq_some_iff.1 hd'
  rw [List.drop_eq_getElem_cons h1, List.drop_eq_getElem_cons h2, e1, e2]
  rfl
section
variable {t : Tr} {p : Pk} {l r : List (Pk × Ad)} {x : Pk × Ad}
theorem suba_nil (e : t.subs = l.map (·.1)) (h : l = []) : t.subT p = (false, t) := by
  unfold Tr.subT
  rw [e, h]
  rfl
theorem suba_ne (e : t.subs = l.map (·.1)) (hx : l = x :: r) (h : ¬ x.1.id = p.id ∨ ¬ x.1.subs.length = p.codes.length ∨ codesB x.1.subs p.codes = false) : t.subT p = (false, t) := by
  unfold Tr.subT
  rw [e, hx]
  exact if_pos h
theorem suba_ok (e : t.subs = l.map (·.1)) (hx : l = x :: r) (h : x.1.id = p.id) (h1 : x.1.subs.length = p.codes.length) (h2 : codesB x.1.subs p.codes = true) : t.subT p = (true, { t with subs := r.map (·.1) }) := by
  unfold Tr.subT
  rw [e, hx]
  refine if_neg ?_
  rintro (c | c | c)
  · exact c h
  · exact c h1
  exact Bool.noConfusion (c.symm.trans h2)
end
set_option maxHeartbeats 4000000 in
theorem sub_any (p : Pk) (s : Ad) (B g : Nat) (t : Tr) (m : TrM) (w : World) (T : TrIn B w g t m) (hn : m.n ≤ 1000000) (PP : PkS B w p s) : Calls Try.prog 36 #[.pointer (some ⟨g, 0, none⟩), .agg (p.cells s)] w (TrPost B g m w (t.subT p).2 (.bool (t.subT p).1)) := by
 have HK : Kept (m.fp g) w w := Kept.refl _ _
 obtain ⟨e1, e2, e3, e4, BT, RT, RS, RU, MO, MF, nof, tu, tn, un, hlo, PS, PF, hl1, hl2, hl3, hl4, hl5, hcn⟩ := T
 replace BT : Blk w g 53 #[.bool t.clean, .int .i64 t.gr.kind, .bool t.gr.dup, .bool t.gr.retain, .int .i64 t.gr.qos, .int .i64 t.gr.id, .string t.gr.topic, .slice m.gs.pa t.gr.pay.length m.gs.pc, .int .i64 t.gr.level, .string t.gr.client, .bool t.gr.clean, .int .i64 t.gr.keep, .bool t.gr.hasWill, .string t.gr.wt, .slice m.gs.wa t.gr.wp.length m.gs.wc, .int .i64 t.gr.wq, .bool t.gr.wr, .bool t.gr.hasUser, .bool t.gr.hasPass, .string t.gr.user, .slice m.gs.sa t.gr.pass.length m.gs.sc, .bool t.gr.present, .int .i64 t.gr.code, .slice m.gs.ua t.gr.subs.length m.gs.uc, .slice m.gs.ca t.gr.codes.length m.gs.cc, .bool t.greeted, .slice m.At m.told.length m.ct, .bool t.left, .slice m.Au m.subs.length m.cu, .slice m.An m.uns.length m.cn, .map (some m.mo), .map (some m.mf)] := BT
 have hgl := BT.lt
 have hgo := IsAss.ne_blk MO BT
 have hgf := IsAss.ne_blk MF BT
 have hmo := IsAss.lt MO
 have hmf := IsAss.lt MF
 have hT0 := own_lt RT
 have hS0 := own_lt RS
 have hU0 := own_lt RU
 refine C.enter Try.func36 rfl Try.ntmps36 rfl ?_
 intro a0 f0
 have f1 : Fr 75 a0 [(0, .pointer (some ⟨g, 0, none⟩)), (1, .agg (p.cells s))] := f0
 refine C.sk fun K0 hK0 => ?_
 refine L.box f1 wantedN (by decide) rfl rfl fun a2 w1 g0 N0 f2 => ?_
 have Bg0 := N0.blk
 have kg0 := N0.kept
 have log0 := N0.lo
 have ltg0 := Bg0.lt
 have szw1 := kg0.size
 have frg0 : w.heap.size ≤ g0 := Nat.le_trans HK.size log0
 have neg_g0 : g ≠ g0 := by have := BT.lt; omega
 replace HK := HK.z kg0
 replace BT := BT.z kg0
 replace RT := Own.z RT kg0
 replace RS := Own.z RS kg0
 replace RU := Own.z RU kg0
 replace MO := IsAss.z MO kg0
 replace MF := IsAss.z MF kg0
 replace PS := PS.keptT kg0 (NoPk.nil _)
 replace PF := PF.keptT kg0 (NoPk.nil _)
 replace PP := PP.kept0 kg0
 clear f0 N0 kg0
 refine L.ag f2 fun a3 f3 => ?_
 refine wpList_nil (hK0 _ _ ?_)
 have f4 := f3.sub (sc 0 (sc 3 sn))
 refine wp_seq_k fun K1 hK1 => ?_
 refine wp_seq_k fun K2 hK2 => ?_
 have hd1 : Kept [] w1 (w1.drewN 1) := (Kept.refl _ _).drewN 1
 refine R.beginT (S := fun W => (Kept (m.fp g) w W) ∧ (Blk W g 53 (trL t m)) ∧ (Row W m.At m.ct m.told) ∧ (Row W m.Au m.cu m.subs) ∧ (Row W m.An m.cn m.uns) ∧ (IsAss ansM Try.prog W m.mo t.owed) ∧ (IsAss outM Try.prog W m.mf m.out) ∧ (PksO W m.subs) ∧ (FlsO W m.out) ∧ (PkS B W p s) ∧ (Blk W g0 34 (p.cells s))) (by kernel_rfl) (by kernel_rfl) ⟨HK.z hd1, BT.z hd1, Own.z RT hd1, Own.z RS hd1, Own.z RU hd1, IsAss.z MO hd1, IsAss.z MF hd1, PS.keptT hd1 (NoPk.nil _), PF.keptT hd1 (NoPk.nil _), PP.kept0 hd1, Bg0.z hd1⟩ fun ht => ?_
 obtain ⟨w2, hww2⟩ : ∃ W, W = w1.drewN 1 := ⟨_, rfl⟩
 rw [← hww2] at hd1 ⊢
 clear f1 a0 f2 a2 f3 hww2
 have szw2 := hd1.size
 replace HK := HK.z hd1
 replace BT := BT.z hd1
 replace RT := Own.z RT hd1
 replace RS := Own.z RS hd1
 replace RU := Own.z RU hd1
 replace MO := IsAss.z MO hd1
 replace MF := IsAss.z MF hd1
 replace PS := PS.keptT hd1 (NoPk.nil _)
 replace PF := PF.keptT hd1 (NoPk.nil _)
 replace PP := PP.kept0 hd1
 replace Bg0 := Bg0.z hd1
 clear hd1
 refine R.u 0 f4 rfl ht ⟨HK, BT, RT, RS, RU, MO, MF, PS, PF, PP, Bg0⟩ (fun W hW => (E.move f4 rfl)) fun a5 f5 => ?_
 refine R.u 1 f5 rfl ht ⟨HK, BT, RT, RS, RU, MO, MF, PS, PF, PP, Bg0⟩ (fun W hW => (E.nilCheck f5 rfl)) fun a6 f6 => ?_
 refine R.u 2 f6 rfl ht ⟨HK, BT, RT, RS, RU, MO, MF, PS, PF, PP, Bg0⟩ (fun W hW => (E.fa 28 f6 U53 rfl wsz51_tl2)) fun a7 f7 => ?_
 refine R.u 3 f7 rfl ht ⟨HK, BT, RT, RS, RU, MO, MF, PS, PF, PP, Bg0⟩ (fun W hW => (E.ld f7 U51 (hW.2.1))) fun a8 f8 => ?_
 refine R.u 4 f8 rfl ht ⟨HK, BT, RT, RS, RU, MO, MF, PS, PF, PP, Bg0⟩ (fun W hW => (E.lenL f8 U51 rfl)) fun a9 f9 => ?_
 refine R.u 5 f9 rfl ht ⟨HK, BT, RT, RS, RU, MO, MF, PS, PF, PP, Bg0⟩ (fun W hW => (E.eq f9)) fun a10 f10 => ?_
 refine R.u 6 f10 rfl ht ⟨HK, BT, RT, RS, RU, MO, MF, PS, PF, PP, Bg0⟩ (fun W hW => (E.move f10 rfl)) fun a11 f11 => ?_
 clear f4 a3 f5 a5 f6 a6 f7 a7 f8 a8 f9 a9 f10 a10
 refine f11.splitD 14 rfl (fun h0 f12 => ?_) (fun h0 f12 => ?_)
 ·refine R.runT [7, 8, 9, 10, 11, 12, 13, 14, 15, 16, 17, 18, 19, 20, 21, 22, 23, 24, 25, 26, 27, 28, 29, 30, 31] (tf 32 []) f12 ht (fun _ _ _ _ h => h) ⟨HK, BT, RT, RS, RU, MO, MF, PS, PF, PP, Bg0⟩ (by kernel_rfl) fun a13 f13 => ?_
  have f14 := f13.sub (scT f13 0 (scT f13 3 (sv 39 (.bool true) sn)))
  refine R.done (by kernel_rfl) (hK2 _ _ ?_)
  have f15 := f14.sub (sc 0 (sc 3 (sc 39 sn)))
  refine C.condT f15 rfl ?_
  refine C.sk fun K3 hK3 => ?_
  refine L.ag f15 fun a16 f16 => ?_
  have f17 := f16.sub (sc 4 sn)
  refine wpList_nil (hK3 _ _ (wp_ret ?_)); (try simp only [xt, xb]); refine C.ret f17 rfl rfl ?_
  rw [suba_nil e2 (List.eq_nil_of_length_eq_zero (by omega))]
  exact ⟨rfl, m, ⟨e1, e2, e3, e4, BT, RT, RS, RU, MO, MF, nof, tu, tn, un, hlo, PS, PF, hl1, hl2, hl3, hl4, hl5, hcn⟩, by omega, HK, fun x hx => .inl hx, fun x hx => .inl hx⟩
 have hne : m.subs ≠ [] := fun e => by rw [e] at h0; simp at h0
 obtain ⟨x, r, hx⟩ := List.exists_cons_of_ne_nil hne
 obtain ⟨b0, off0, hA, _⟩ := Row.cell0 (hx ▸ RS) 4 rfl
 have hlr : r.length ≤ m.n := by have := congrArg List.length hx; rw [List.length_cons] at this; omega
 have hxl : 0 < m.subs.length := by rw [hx]; simp
 have hsl := (PksO.head PS hx).2.subs
 refine R.u 7 f12 rfl ht ⟨HK, BT, RT, RS, RU, MO, MF, PS, PF, PP, Bg0⟩ (fun W hW => (E.move f12 rfl)) (hw := (f12.yes rfl rfl)) fun a13 f13 => ?_
 refine R.u 8 f13 rfl ht ⟨HK, BT, RT, RS, RU, MO, MF, PS, PF, PP, Bg0⟩ (fun W hW => (E.nilCheck f13 rfl)) (hw := (f13.yes rfl rfl)) fun a14 f14 => ?_
 refine R.u 9 f14 rfl ht ⟨HK, BT, RT, RS, RU, MO, MF, PS, PF, PP, Bg0⟩ (fun W hW => (E.fa 28 f14 U53 rfl wsz51_tl2)) (hw := (f14.yes rfl rfl)) fun a15 f15 => ?_
 refine R.u 10 f15 rfl ht ⟨HK, BT, RT, RS, RU, MO, MF, PS, PF, PP, Bg0⟩ (fun W hW => (E.ld f15 U51 (hW.2.1))) (hw := (f15.yes rfl rfl)) fun a16 f16 => ?_
 refine R.u 11 f16 rfl ht ⟨HK, BT, RT, RS, RU, MO, MF, PS, PF, PP, Bg0⟩ (fun W hW => (E.indexA f16 (by assumption) U51 wsz34_tl2 rfl rfl (by omega) (by omega))) (hw := (f16.yes rfl rfl)) fun a17 f17 => ?_
 refine R.u 12 f17 rfl ht ⟨HK, BT, RT, RS, RU, MO, MF, PS, PF, PP, Bg0⟩ (fun W hW => (E.fa 4 f17 U34 rfl wsz3_tl2)) (hw := (f17.yes rfl rfl)) fun a18 f18 => ?_
 refine R.u 13 f18 rfl ht ⟨HK, BT, RT, RS, RU, MO, MF, PS, PF, PP, Bg0⟩ (fun W hW => (E.load f18 U3 rfl rfl (Row.cellAt hx hW.2.2.2.1 hA rfl))) (hw := (f18.yes rfl rfl)) fun a19 f19 => ?_
 clear f11 f12 a11 f13 a13 f14 a14 f15 a15 f16 a16 f17 a17 f18 a18
 refine R.u 14 f19 rfl ht ⟨HK, BT, RT, RS, RU, MO, MF, PS, PF, PP, Bg0⟩ (fun W hW => (E.fa 4 f19 U34 rfl wsz3_tl2)) (hw := (f19.yes rfl rfl)) fun a20 f20 => ?_
 refine R.u 15 f20 rfl ht ⟨HK, BT, RT, RS, RU, MO, MF, PS, PF, PP, Bg0⟩ (fun W hW => (E.ld f20 U3 (hW.2.2.2.2.2.2.2.2.2.2))) (hw := (f20.yes rfl rfl)) fun a21 f21 => ?_
 refine R.u 16 f21 rfl ht ⟨HK, BT, RT, RS, RU, MO, MF, PS, PF, PP, Bg0⟩ (fun W hW => (E.neq f21 rfl rfl)) (hw := (f21.yes rfl rfl)) fun a22 f22 => ?_
 refine R.u 17 f22 rfl ht ⟨HK, BT, RT, RS, RU, MO, MF, PS, PF, PP, Bg0⟩ (fun W hW => (E.pickF f22 rfl rfl)) fun a23 f23 => ?_
 refine R.u 18 f23 rfl ht ⟨HK, BT, RT, RS, RU, MO, MF, PS, PF, PP, Bg0⟩ (fun W hW => (E.move f23 rfl)) fun a24 f24 => ?_
 clear f19 a19 f20 a20 f21 a21 f22 a22 f23 a23
 refine f24.splitN 26 rfl (fun h1 f25 => ?_) (fun h1 f25 => ?_)
 ·refine R.runT [19, 20, 21, 22, 23, 24, 25, 26, 27, 28, 29, 30, 31] (tf 32 []) f25 ht (fun _ _ _ _ h => h) ⟨HK, BT, RT, RS, RU, MO, MF, PS, PF, PP, Bg0⟩ (by kernel_rfl) fun a26 f26 => ?_
  have f27 := f26.sub (scT f26 0 (scT f26 3 (sv 39 (.bool true) sn)))
  refine R.done (by kernel_rfl) (hK2 _ _ ?_)
  have f28 := f27.sub (sc 0 (sc 3 (sc 39 sn)))
  refine C.condT f28 rfl ?_
  refine C.sk fun K4 hK4 => ?_
  refine L.ag f28 fun a29 f29 => ?_
  have f30 := f29.sub (sc 4 sn)
  refine wpList_nil (hK4 _ _ (wp_ret ?_)); (try simp only [xt, xb]); refine C.ret f30 rfl rfl ?_
  rw [suba_ne e2 hx (.inl (by assumption))]
  exact ⟨rfl, m, ⟨e1, e2, e3, e4, BT, RT, RS, RU, MO, MF, nof, tu, tn, un, hlo, PS, PF, hl1, hl2, hl3, hl4, hl5, hcn⟩, by omega, HK, fun x hx => .inl hx, fun x hx => .inl hx⟩
 refine R.u 19 f25 rfl ht ⟨HK, BT, RT, RS, RU, MO, MF, PS, PF, PP, Bg0⟩ (fun W hW => (E.move f25 rfl)) (hw := (f25.yes rfl rfl)) fun a26 f26 => ?_
 refine R.u 20 f26 rfl ht ⟨HK, BT, RT, RS, RU, MO, MF, PS, PF, PP, Bg0⟩ (fun W hW => (E.nilCheck f26 rfl)) (hw := (f26.yes rfl rfl)) fun a27 f27 => ?_
 refine R.u 21 f27 rfl ht ⟨HK, BT, RT, RS, RU, MO, MF, PS, PF, PP, Bg0⟩ (fun W hW => (E.fa 28 f27 U53 rfl wsz51_tl2)) (hw := (f27.yes rfl rfl)) fun a28 f28 => ?_
 refine R.u 22 f28 rfl ht ⟨HK, BT, RT, RS, RU, MO, MF, PS, PF, PP, Bg0⟩ (fun W hW => (E.ld f28 U51 (hW.2.1))) (hw := (f28.yes rfl rfl)) fun a29 f29 => ?_
 refine R.u 23 f29 rfl ht ⟨HK, BT, RT, RS, RU, MO, MF, PS, PF, PP, Bg0⟩ (fun W hW => (E.indexA f29 (by assumption) U51 wsz34_tl2 rfl rfl (by omega) (by omega))) (hw := (f29.yes rfl rfl)) fun a30 f30 => ?_
 refine R.u 24 f30 rfl ht ⟨HK, BT, RT, RS, RU, MO, MF, PS, PF, PP, Bg0⟩ (fun W hW => (E.fa 22 f30 U34 rfl wsz31_tl2)) (hw := (f30.yes rfl rfl)) fun a31 f31 => ?_
 refine R.u 25 f31 rfl ht ⟨HK, BT, RT, RS, RU, MO, MF, PS, PF, PP, Bg0⟩ (fun W hW => (E.load f31 U31 rfl rfl (Row.cellAt hx hW.2.2.2.1 hA rfl))) (hw := (f31.yes rfl rfl)) fun a32 f32 => ?_
 clear f24 f25 a24 f26 a26 f27 a27 f28 a28 f29 a29 f30 a30 f31 a31
 refine R.u 26 f32 rfl ht ⟨HK, BT, RT, RS, RU, MO, MF, PS, PF, PP, Bg0⟩ (fun W hW => (E.lenL f32 U31 rfl)) (hw := (f32.yes rfl rfl)) fun a33 f33 => ?_
 refine R.u 27 f33 rfl ht ⟨HK, BT, RT, RS, RU, MO, MF, PS, PF, PP, Bg0⟩ (fun W hW => (E.fa 23 f33 U34 rfl wsz32_tl2)) (hw := (f33.yes rfl rfl)) fun a34 f34 => ?_
 refine R.u 28 f34 rfl ht ⟨HK, BT, RT, RS, RU, MO, MF, PS, PF, PP, Bg0⟩ (fun W hW => (E.ld f34 U32 (hW.2.2.2.2.2.2.2.2.2.2))) (hw := (f34.yes rfl rfl)) fun a35 f35 => ?_
 refine R.u 29 f35 rfl ht ⟨HK, BT, RT, RS, RU, MO, MF, PS, PF, PP, Bg0⟩ (fun W hW => (E.lenL f35 U32 rfl)) (hw := (f35.yes rfl rfl)) fun a36 f36 => ?_
 refine R.u 30 f36 rfl ht ⟨HK, BT, RT, RS, RU, MO, MF, PS, PF, PP, Bg0⟩ (fun W hW => (E.neq f36 rfl rfl)) (hw := (f36.yes rfl rfl)) fun a37 f37 => ?_
 refine R.u 31 f37 rfl ht ⟨HK, BT, RT, RS, RU, MO, MF, PS, PF, PP, Bg0⟩ (fun W hW => (E.pickF f37 rfl rfl)) fun a38 f38 => ?_
 refine R.done (by kernel_rfl) (hK2 _ _ ?_)
 have f39 := f38.sub (sc 0 (sc 3 (sc 39 sn)))
 clear f32 a32 f33 a33 f34 a34 f35 a35 f36 a36 f37 a37 f38
 refine f39.splitN 39 rfl (fun h2 f40 => ?_) (fun h2 f40 => ?_)
 ·refine C.condT f40 rfl ?_
  refine C.sk fun K5 hK5 => ?_
  refine L.ag f40 fun a41 f41 => ?_
  have f42 := f41.sub (sc 4 sn)
  refine wpList_nil (hK5 _ _ (wp_ret ?_)); (try simp only [xt, xb]); refine C.ret f42 rfl rfl ?_
  rw [suba_ne e2 hx (.inr (.inl (by omega)))]
  exact ⟨rfl, m, ⟨e1, e2, e3, e4, BT, RT, RS, RU, MO, MF, nof, tu, tn, un, hlo, PS, PF, hl1, hl2, hl3, hl4, hl5, hcn⟩, by omega, HK, fun x hx => .inl hx, fun x hx => .inl hx⟩
 refine C.condF f40 rfl ?_
 refine wp_skip (hK1 _ _ ?_)
 have f41 := f40.sub (sc 0 (sc 3 sn))
 refine wp_seq_k fun K6 hK6 => ?_
 refine C.sk fun K7 hK7 => ?_
 refine L.mv f41 fun a42 f42 => ?_
 refine L.va f42 (E.nilCheck f42 rfl) fun a43 f43 => ?_
 refine L.fa 28 f43 U53 rfl wsz51_tl2 fun a44 f44 => ?_
 refine L.ld f44 U51 BT fun a45 f45 => ?_
 refine L.va f45 (E.indexA f45 (by assumption) U51 wsz34_tl2 rfl rfl (by omega) (by omega)) fun a46 f46 => ?_
 refine L.fa 22 f46 U34 rfl wsz31_tl2 fun a47 f47 => ?_
 clear f39 f40 f41 a38 f42 a42 f43 a43 f44 a44 f45 a45 f46 a46
 refine L.va f47 (E.load f47 U31 rfl rfl (Row.cellAt hx RS hA rfl)) fun a48 f48 => ?_
 refine L.va f48 (E.lenL f48 U31 rfl) fun a49 f49 => ?_
 refine L.mv f49 fun a50 f50 => ?_
 refine wpList_nil (hK7 _ _ ?_)
 have f51 := f50.sub (sc 0 (sc 3 (sc 46 (sc 47 (sc 48 sn)))))
 refine wp_block ?_
 clear f47 a47 f48 a48 f49 a49 f50
 refine C.loop (fun gk a W => ∃ k : Nat, k + gk = x.1.subs.length ∧ (Kept (m.fp g) w W) ∧ (Blk W g 53 #[.bool t.clean, .int .i64 t.gr.kind, .bool t.gr.dup, .bool t.gr.retain, .int .i64 t.gr.qos, .int .i64 t.gr.id, .string t.gr.topic, .slice m.gs.pa t.gr.pay.length m.gs.pc, .int .i64 t.gr.level, .string t.gr.client, .bool t.gr.clean, .int .i64 t.gr.keep, .bool t.gr.hasWill, .string t.gr.wt, .slice m.gs.wa t.gr.wp.length m.gs.wc, .int .i64 t.gr.wq, .bool t.gr.wr, .bool t.gr.hasUser, .bool t.gr.hasPass, .string t.gr.user, .slice m.gs.sa t.gr.pass.length m.gs.sc, .bool t.gr.present, .int .i64 t.gr.code, .slice m.gs.ua t.gr.subs.length m.gs.uc, .slice m.gs.ca t.gr.codes.length m.gs.cc, .bool t.greeted, .slice m.At m.told.length m.ct, .bool t.left, .slice m.Au m.subs.length m.cu, .slice m.An m.uns.length m.cn, .map (some m.mo), .map (some m.mf)]) ∧ (Row W m.At m.ct m.told) ∧ (Row W m.Au m.cu m.subs) ∧ (Row W m.An m.cn m.uns) ∧ (IsAss ansM Try.prog W m.mo t.owed) ∧ (IsAss outM Try.prog W m.mf m.out) ∧ (PksO W m.subs) ∧ (FlsO W m.out) ∧ (Blk W g0 34 (p.cells s)) ∧ (PkS B W p s) ∧ codesB x.1.subs p.codes = codesB (x.1.subs.drop k) (p.codes.drop k) ∧ Fr 75 a [(0, .pointer (some ⟨g, 0, none⟩)), (3, .pointer (some ⟨g0, 0, none⟩)), (46, .slice x.2.ua x.1.subs.length x.2.uc), (47, .int .i64 x.1.subs.length), (48, .int .i64 k)]) (x.1.subs.length) ?_ ?_
 ·exact ⟨0, by omega, HK, BT, RT, RS, RU, MO, MF, PS, PF, Bg0, PP, rfl, f51.sub (sx (sx (sx (sx (sx sn)))))⟩
 intro gk9 a52 w3 hI KL8 hKL8
 obtain ⟨k, hk, HK, BT, RT, RS, RU, MO, MF, PS, PF, Bg0, PP, hq, f52⟩ := hI
 try clear f51
 refine C.sk fun K9 hK9 => ?_
 refine L.va f52 (E.lss f52 rfl rfl) fun a53 f53 => ?_
 refine wpList_nil (hK9 _ _ ?_)
 have f54 := f53.sub (sc 0 (sc 3 (sc 46 (sc 47 (sc 48 (sc 49 sn))))))
 refine wp_seq_k fun K10 hK10 => ?_
 clear f52 a52 f53
 refine f54.splitD 49 rfl (fun h3 f55 => ?_) (fun h3 f55 => ?_)
 ·obtain ⟨d, hd⟩ := some_at x.1.subs k (by omega)
  obtain ⟨d', hd'⟩ := some_at p.codes k (by omega)
  obtain ⟨bk, ofk, hAk⟩ := (Sl.of_own (PksO.head PS hx).1.subs).addr (by omega)
  obtain ⟨bc, ofc, hAc⟩ := PP.toIn.codes.addr (by omega)
  refine C.condT f55 rfl ?_
  refine wp_skip (hK10 _ _ ?_)
  have f56 := f55.sub (sc 0 (sc 3 (sc 46 (sc 47 (sc 48 sn)))))
  refine wp_seq_k fun K11 hK11 => ?_
  refine wp_block ?_
  refine wp_seq_k fun K12 hK12 => ?_
  have HR : Kept [] w3 w3 := Kept.refl _ _
  refine C.region ?_
  refine L.mv f56 fun a57 f57 => ?_
  refine L.va f57 (E.indexA f57 (by assumption) U31 wsz46_tl2 rfl rfl (by omega) (by omega)) fun a58 f58 => ?_
  refine L.va f58 (E.loadR f58 Try.underlying46 rfl wsz46_tl2 rfl (sub_row (Sl.of_own (PksO.head PS hx).1.subs) hAk hd) rfl) fun a59 f59 => ?_
  refine L.alloc f59 wantedN (by decide) (z := (.agg #[(.string ⟨#[]⟩), (.int .i64 0)])) (fun _ => by kernel_rfl) rfl fun a60 w4 g3 N3 f60 => ?_
  have Bg3 := N3.blk
  have kg3 := N3.kept
  have log3 := N3.lo
  have ltg3 := Bg3.lt
  have szw4 := kg3.size
  have frg3 : w.heap.size ≤ g3 := Nat.le_trans HK.size log3
  have frg3_HR : w3.heap.size ≤ g3 := Nat.le_trans HR.size log3
  have neg_g3 : g ≠ g3 := by have := BT.lt; omega
  have neg0_g3 : g0 ≠ g3 := by have := Bg0.lt; omega
  replace HK := HK.z kg3
  replace BT := BT.z kg3
  replace RT := Own.z RT kg3
  replace RS := Own.z RS kg3
  replace RU := Own.z RU kg3
  replace MO := IsAss.z MO kg3
  replace MF := IsAss.z MF kg3
  replace Bg0 := Bg0.z kg3
  replace HR := HR.trans kg3 (by simp)
  clear f54 f55 f56 a53 f57 a57 f58 a58 N3 kg3
  refine L.ag f60 fun a61 f61 => ?_
  refine L.storeR f61 wantedN wsz46_tl2 rfl rfl rfl Bg3 rfl rfl fun a62 w5 f62 NB5 ks5 => ?_
  have szw5 := ks5.size
  replace HK := HK.trans ks5 (fun x hx hlt => by obtain rfl := List.mem_singleton.1 hx; (exfalso; omega))
  replace BT := BT.kept ks5 (by simp; omega)
  replace RT := own_keptF RT ks5 hT0 frg3
  replace RS := own_keptF RS ks5 hS0 frg3
  replace RU := own_keptF RU ks5 hU0 frg3
  replace MO := IsAss.kept MO ks5 (by simpa using IsAss.ne_blk MO Bg3)
  replace MF := IsAss.kept MF ks5 (by simpa using IsAss.ne_blk MF Bg3)
  replace Bg0 := Bg0.kept ks5 (by simp; omega)
  replace HR := HR.trans ks5 (ktr (by omega))
  replace Bg3 := NB5
  clear f59 a59 f60 a60 ks5 f61 a61
  refine wpList_nil (hK12 _ _ ?_)
  have f63 := f62.sub (sc 0 (sc 3 (sc 5 (sc 6 (sc 46 (sc 47 (sc 48 sn)))))))
  refine wp_seq_k fun K13 hK13 => ?_
  replace PS := PS.keptT HR (NoPk.nil _)
  replace PF := PF.keptT HR (NoPk.nil _)
  replace PP := PP.kept0 HR
  clear f62 HR
  refine C.region ?_
  refine L.fa 23 f63 U34 rfl wsz32_tl2 fun a64 f64 => ?_
  refine L.ld f64 U32 Bg0 fun a65 f65 => ?_
  refine L.mv f65 fun a66 f66 => ?_
  refine L.va f66 (E.indexA f66 (by assumption) U32 wsz3_tl2 rfl rfl (by omega) (by omega)) fun a67 f67 => ?_
  refine L.va f67 (E.load f67 U3 rfl rfl (code_cell1 PP.toIn.codes hAc hd')) fun a68 f68 => ?_
  refine L.ag f68 fun a69 f69 => ?_
  have f70 := f69.sub (sc 0 (sc 3 (sc 6 (sc 7 (sc 46 (sc 47 (sc 48 sn)))))))
  refine wpList_nil (hK13 _ _ (C.sk fun K14 hK14 => ?_))
  refine L.mv f70 fun a71 f71 => ?_
  clear f63 a62 f64 a64 f65 a65 f66 a66 f67 a67 f68 a68 f69 f70 a69
  refine L.va f71 (E.neq f71 rfl rfl) fun a72 f72 => ?_
  refine L.mv f72 fun a73 f73 => ?_
  clear f71 a71 f72 a72
  refine f73.splitN 60 rfl (fun h4 f74 => ?_) (fun h4 f74 => ?_)
  ·refine L.mv f74 (hw := (f74.yes rfl rfl)) fun a75 f75 => ?_
   refine L.va f75 (E.fa 1 f75 Try.underlying46 rfl wsz3_tl2) (hw := (f75.yes rfl rfl)) fun a76 f76 => ?_
   refine L.ld f76 U3 Bg3 (hw := (f76.yes rfl rfl)) fun a77 f77 => ?_
   refine L.va f77 (E.neq f77 rfl rfl) (hw := (f77.yes rfl rfl)) fun a78 f78 => ?_
   refine L.va f78 (E.pickT f78 rfl rfl) fun a79 f79 => ?_
   refine wpList_nil (hK14 _ _ ?_)
   have f80 := f79.sub (sc 0 (sc 3 (sc 46 (sc 47 (sc 48 (sc 65 sn))))))
   clear f73 f74 a73 f75 a75 f76 a76 f77 a77 f78 a78 f79
   refine f80.splitN 65 rfl (fun h5 f81 => ?_) (fun h5 f81 => ?_)
   ·refine C.condT f81 rfl ?_
    refine C.sk fun K15 hK15 => ?_
    refine L.ag f81 fun a82 f82 => ?_
    have f83 := f82.sub (sc 4 sn)
    refine wpList_nil (hK15 _ _ (wp_ret ?_)); (try simp only [xt, xb]); refine C.ret f83 rfl rfl ?_
    rw [suba_ne e2 hx (.inr (.inr (by rw [hq, codes_step hd hd', decide_eq_false (by assumption), decide_eq_false (by assumption)]; rfl)))]
    exact ⟨rfl, m, ⟨e1, e2, e3, e4, BT, RT, RS, RU, MO, MF, nof, tu, tn, un, hlo, PS, PF, hl1, hl2, hl3, hl4, hl5, hcn⟩, by omega, HK, fun x hx => .inl hx, fun x hx => .inl hx⟩
   refine C.condF f81 rfl ?_
   refine wp_skip (hK11 _ _ ?_)
   have f82 := f81.sub (sc 0 (sc 3 (sc 46 (sc 47 (sc 48 sn)))))
   refine C.region ?_
   refine L.va f82 (E.add f82 rfl rfl (IntWalk.i64_in _ (by omega))) fun a83 f83 => ?_
   refine L.mv f83 fun a84 f84 => ?_
   clear f80 f81 f82 a79 f83 a83
   refine wpList_nil (hKL8 _ _ (gk9 - 1) ?_ ?_)
   ·omega
   exact ⟨k + 1, by omega, HK, BT, RT, RS, RU, MO, MF, PS, PF, Bg0, PP, by rw [hq, codes_step hd hd']; (rw [decide_eq_true (p := _ = d.2) (by first | assumption | omega), Bool.or_true]; rfl), f84.sub (sx (sx (sx (sx (sx sn)))))⟩
  refine L.run f74 (rest' := []) (by kernel_rfl) fun a75 f75 => ?_
  clear f73
  refine wpList_nil (hK14 _ _ ?_)
  have f76 := f75.sub (scR f75 0 (scR f75 3 (scR f75 46 (scR f75 47 (scR f75 48 (sv 65 (.bool false) sn))))))
  refine C.condF f76 rfl ?_
  refine wp_skip (hK11 _ _ ?_)
  have f77 := f76.sub (sc 0 (sc 3 (sc 46 (sc 47 (sc 48 sn)))))
  refine C.region ?_
  refine L.va f77 (E.add f77 rfl rfl (IntWalk.i64_in _ (by omega))) fun a78 f78 => ?_
  refine L.mv f78 fun a79 f79 => ?_
  clear f75 f74 f76 f77 a75 f78 a78
  refine wpList_nil (hKL8 _ _ (gk9 - 1) ?_ ?_)
  ·omega
  exact ⟨k + 1, by omega, HK, BT, RT, RS, RU, MO, MF, PS, PF, Bg0, PP, by rw [hq, codes_step hd hd']; (rw [decide_eq_true (p := _ = (128 : Int)) (by first | assumption | omega)]; rfl), f79.sub (sx (sx (sx (sx (sx sn)))))⟩
 refine C.condF f55 rfl ?_
 refine wp_exit (hK6 _ _ ?_)
 have f56 := f55.sub (sc 0 sn)
 refine C.sk fun K16 hK16 => ?_
 refine L.mv f56 fun a57 f57 => ?_
 refine L.mv f57 fun a58 f58 => ?_
 refine L.va f58 (E.nilCheck f58 rfl) fun a59 f59 => ?_
 refine L.fa 28 f59 U53 rfl wsz51_tl2 fun a60 f60 => ?_
 refine L.ld f60 U51 BT fun a61 f61 => ?_
 refine L.cl f61 (run_call Try.call54 (args3 f61 rfl rfl rfl)) (del_row RS hx) ?_
 clear f54 f55 f56 a53 f57 a57 f58 a58 f59 a59 f60 a60
 rintro e w4 ⟨rfl, RN, kc⟩
 refine ⟨_, rfl, fun a62 f62 => ?_⟩
 have szw4 := kc.size
 have HKn := HK.trans kc (fun x hx _ => fp_ownRS (by simpa using hx))
 have BTn := BT.kept kc (own_ne RS BT (by decide))
 have RTn := Own.kept RT kc (own_apart (Apart.symm tu))
 have RUn := Own.kept RU kc (own_apart un)
 have MOn := IsAss.kept MO kc (own_ne_map MO RS)
 have MFn := IsAss.kept MF kc (own_ne_map MF RS)
 have PSn := PS.keptT kc (NoPk.own RS)
 have PFn := PF.keptT kc (NoPk.own RS)
 clear f61 a61 kc HK BT RT RU MO MF PS PF RS
 have HK := HKn
 have BT := BTn
 have RT := RTn
 have RU := RUn
 have MO := MOn
 have MF := MFn
 have PS := PSn
 have PF := PFn
 have RS := RN
 clear RN HKn BTn RTn RUn MOn MFn PSn PFn
 refine L.va f62 (E.nilCheck f62 rfl) fun a63 f63 => ?_
 refine L.fa 28 f63 U53 rfl wsz51_tl2 fun a64 f64 => ?_
 refine L.store f64 wantedN wsz51_tl2 rfl rfl rfl BT (by (simp [Value.cells]; done)) fun a65 w5 f65 NB5 ks5 => ?_
 have szw5 := ks5.size
 replace HK := HK.trans ks5 (fun x hx hlt => by obtain rfl := List.mem_singleton.1 hx; exact fp_g)
 replace RT := own_kept1 RT ks5 BT (by decide)
 replace RU := own_kept1 RU ks5 BT (by decide)
 replace MO := IsAss.kept MO ks5 (by simpa using IsAss.ne_blk MO BT)
 replace MF := IsAss.kept MF ks5 (by simpa using IsAss.ne_blk MF BT)
 replace PS := PS.keptT ks5 (NoPk.blk BT (by decide))
 replace PF := PF.keptT ks5 (NoPk.blk BT (by decide))
 replace RS := own_kept1 RS ks5 BT (by decide)
 replace BT := NB5
 simp only [Value.cells, z1, z2, z3, Nat.reduceAdd, Nat.zero_add] at BT
 clear f62 a62 f63 a63 ks5 f64 a64
 have f66 := f65.sub sn
 refine wpList_nil (hK16 _ _ (C.sk fun K17 hK17 => ?_))
 refine L.ag f66 fun a67 f67 => ?_
 have f68 := f67.sub (sc 4 sn)
 refine wpList_nil (hK17 _ _ (wp_ret ?_)); (try simp only [xt, xb]); refine C.ret f68 rfl rfl ?_
 rw [suba_ok e2 hx (by omega) (by omega) (by rw [hq, List.drop_eq_nil_of_le (by omega)]; rfl)]
 exact ⟨rfl, { m with subs := r, n := m.n + 1 }, ⟨e1, rfl, e3, e4, BT, RT, RS, RU, MO, MF, nof, tu, tn, un, hlo, PksO.tail (hx ▸ PS), PF, Nat.le_succ_of_le hl1, Nat.le_succ_of_le hlr, Nat.le_succ_of_le hl3, Nat.le_succ_of_le hl4, Nat.le_succ_of_le hl5, cnt_up hcn⟩, Nat.le_refl _, HK, fun x hx => .inl hx, fun y hy => .inl (by rw [hx]; exact List.mem_cons_of_mem _ hy)⟩
end Go.Proofs.Ytkdeedhjkjffpaa
namespace Go.Proofs.Ytkdeedhjkjffpaa
open Go.RowKit Go.Hub Go.Lib Go.WideShapes Go.ChangeMaps
theorem wsz3_tn : (Try.prog.info? 3).map (·.size) = some 1 := by kernel_rfl
theorem wsz34_tn : (Try.prog.info? 34).map (·.size) = some 24 := by kernel_rfl
theorem wbl72_0_1_tn (x0 : Int) (x1 : Int) : Try.prog.built 72 [(0, .int .i64 x0), (1, .int .i64 x1)] = some #[.int .i64 x0, .int .i64 x1] := by kernel_rfl
section
variable {B g : Nat} {t : Tr} {m : TrM} {w w1 w2 : World} {p : Pk}
theorem TrIn.kept0 (h : TrIn B w g t m) (hk : Kept [] w w1) : TrIn B w1 g t m := ⟨h.e1, h.e2, h.e3, h.e4, h.bt.kept hk (by simp), Own.kept h.rt hk (by simp), Own.kept h.rs hk (by simp), Own.kept h.ru hk (by simp), IsAss.kept h.mo hk (by simp), IsAss.kept h.mf hk (by simp), h.nof, h.tu, h.tn, h.un, h.lo, h.ps.keptT hk (NoPk.nil _), h.pf.keptT hk (NoPk.nil _), h.len⟩
theorem _root_.Go.Hub.Kept.mono0 {L : List Nat} (h : Kept [] w w1) : Kept L w w1 := ⟨h.os, h.tape, h.output, h.size, fun i hi _ => h.block i hi (by simp)⟩
theorem TrPost.base {e : Ending} {q q' : Bool × Tr} (hk : Kept [] w w1) (eq : q = q') (h : TrPost B g m w1 q'.2 (.bool q'.1) e w2) : TrPost B g m w q.2 (.bool q.1) e w2 := by
  subst eq
  obtain ⟨h1, m', h2, h3, h4, h5, h6⟩ := h
  exact ⟨h1, m', h2, h3, (Kept.mono0 hk).trans h4 (fun x hx hlt => hx), fun x hx => (h5 x hx).imp id (fun h => Nat.le_trans hk.size h), fun x hx => (h6 x hx).imp id (fun h b hb => Nat.le_trans hk.size (h b hb))⟩
theorem TrPost.baseN {e : Ending} {t1 t2 : Tr} {v : Value} (hk : Kept [] w w1) (eq : t1 = t2) (h : TrPost B g m w1 t2 v e w2) : TrPost B g m w t1 v e w2 := by
  subst eq
  obtain ⟨h1, m', h2, h3, h4, h5, h6⟩ := h
  exact ⟨h1, m', h2, h3, (Kept.mono0 hk).trans h4 (fun x hx hlt => hx), fun x hx => (h5 x hx).imp id (fun h => Nat.le_trans hk.size h), fun x hx => (h6 x hx).imp id (fun h b hb => Nat.le_trans hk.size (h b hb))⟩
theorem ready_ne {l : List (Pk × Ad)} (e : t.told = l.map (·.1)) (h : t.readyB = true) : l ≠ [] := fun e2 => by
  unfold Tr.readyB at h
  rw [e, e2] at h
  cases h
theorem wf_small {x : Int} (h0 : 0 ≤ x) (h1 : x ≤ 1000000) : (Lit.int .i64 x).wf = true := by
  have a : IntKind.i64.min ≤ x := Int.le_trans (by decide) h0
  have b : x ≤ IntKind.i64.max := Int.le_trans h1 (by decide)
  show (decide (IntKind.i64.min ≤ x) && decide (x ≤ IntKind.i64.max)) = true
  rw [decide_eq_true a, decide_eq_true b]
  rfl
theorem out_2 (h : p.kind = 2) : t.outT p = t.connT p := by unfold Tr.outT; rw [if_pos h]
theorem out_no (h : ¬ p.kind = 2) (hr : t.readyB = false) : t.outT p = (false, t) := by unfold Tr.outT; rw [if_neg h, if_pos hr]
theorem out_go (hr : t.readyB = true) (h : ¬ p.kind = 2) : t.outT p = if p.kind = 3 then t.pubT p else if p.kind = 6 then t.relT p else if p.kind = 9 then t.subT p else if p.kind = 11 then t.unsT p
  else if p.kind = 4 ∨ p.kind = 5 ∨ p.kind = 7 then t.payT (p.kind, p.id) else if p.kind = 13 then t.payT (13, 0) else (false, t) := by unfold Tr.outT; rw [if_neg h, if_neg (by rw [hr]; simp)]
theorem out_3 (hr : t.readyB = true) (h : p.kind = 3) : t.outT p = t.pubT p := by rw [out_go hr (by omega), if_pos h]
theorem out_6 (hr : t.readyB = true) (h : p.kind = 6) : t.outT p = t.relT p := by rw [out_go hr (by omega), if_neg (by omega), if_pos h]
theorem out_9 (hr : t.readyB = true) (h : p.kind = 9) : t.outT p = t.subT p := by rw [out_go hr (by omega), if_neg (by omega), if_neg (by omega), if_pos h]
theorem out_11 (hr : t.readyB = true) (h : p.kind = 11) : t.outT p = t.unsT p := by rw [out_go hr (by omega), if_neg (by omega), if_neg (by omega), if_neg (by omega), if_pos h]
theorem out_pay (hr : t.readyB = true) (h : p.kind = 4 ∨ p.kind = 5 ∨ p.kind = 7) : t.outT p = t.payT (p.kind, p.id) := by rw [out_go hr (by omega), if_neg (by omega), if_neg (by omega), if_neg (by omega), if_neg (by omega), if_pos h]
theorem out_13 (hr : t.readyB = true) (h : p.kind = 13) : t.outT p = t.payT (p.kind, 0) := by rw [out_go hr (by omega), if_neg (by omega), if_neg (by omega), if_neg (by omega), if_neg (by omega), if_neg (by omega), if_pos h, h]
theorem out_n (h : ¬ p.kind = 2) (h3 : ¬ p.kind = 3) (h6 : ¬ p.kind = 6) (h9 : ¬ p.kind = 9) (h11 : ¬ p.kind = 11) (h4 : ¬ (p.kind = 4 ∨ p.kind = 5 ∨ p.kind = 7)) (h13 : ¬ p.kind = 13) : t.outT p = (false, t) := by
  by_cases hr : t.readyB = true
  · rw [out_go hr h, if_neg h3, if_neg h6, if_neg h9, if_neg h11, if_neg h4, if_neg h13]
  rw [out_no h (by simpa using hr)]
end
set_option maxHeartbeats 4000000 in
theorem out_any (p : Pk) (s : Ad) (hid : (Lit.int .i64 p.id).wf = true) (B g : Nat) (t : Tr) (m : TrM) (w : World) (T : TrIn B w g t m) (hn : m.n ≤ 1000000) (PP : PkS B w p s) (hL : p.Len) : Calls Try.prog 14 #[.pointer (some ⟨g, 0, none⟩), .agg (p.cells s)] w (TrPost B g m w (t.outT p).2 (.bool (t.outT p).1)) := by
 have HK : Kept [] w w := Kept.refl [] w
 refine C.enter Try.func14 rfl Try.ntmps14 rfl ?_
 intro a0 f0
 have f1 : Fr 54 a0 [(0, .pointer (some ⟨g, 0, none⟩)), (1, .agg (p.cells s))] := f0
 refine C.sk fun K0 hK0 => ?_
 refine L.box f1 wantedN (by decide) rfl rfl fun a2 w1 g0 N0 f2 => ?_
 have Bg0 := N0.blk
 have kg0 := N0.kept
 have log0 := N0.lo
 have ltg0 := Bg0.lt
 have szw1 := kg0.size
 have frg0 : w.heap.size ≤ g0 := Nat.le_trans HK.size log0
 replace HK := HK.z kg0
 replace T := T.kept0 kg0
 replace PP := PP.kept0 kg0
 clear f0 N0 kg0
 refine L.ag f2 fun a3 f3 => ?_
 refine wpList_nil (hK0 _ _ ?_)
 have f4 := f3.sub (sc 0 (sc 3 sn))
 refine wp_seq_k fun K1 hK1 => ?_
 refine C.sk fun K2 hK2 => ?_
 refine L.fa 0 f4 U34 rfl wsz3_tn fun a5 f5 => ?_
 refine L.ld f5 U3 Bg0 fun a6 f6 => ?_
 refine L.va f6 (E.eq f6) fun a7 f7 => ?_
 refine wpList_nil (hK2 _ _ ?_)
 have f8 := f7.sub (sc 0 (sc 3 (sc 7 sn)))
 clear f1 a0 f2 a2 f3 f4 a3 f5 a5 f6 a6 f7
 refine f8.splitD 7 rfl (fun h0 f9 => ?_) (fun h0 f9 => ?_)
 ·have hs7 := h0
  refine C.condT f9 rfl ?_
  refine C.sk fun K3 hK3 => ?_
  refine L.mv f9 fun a10 f10 => ?_
  refine L.va f10 (E.loadB f10 U34 rfl wsz34_tn rfl (Bg0) rfl) fun a11 f11 => ?_
  refine L.cl f11 (run_call Try.call32 (args2 f11 rfl rfl)) (conn_any p s B g t m _ T hn) ?_
  clear f8 f9 a7 f10 a10
  rintro e w2 ⟨rfl, m2, T2, up2, kc2, nw2⟩
  refine ⟨_, rfl, fun a12 f12 => ?_⟩
  have szw2 := kc2.size
  have KC := kc2
  refine L.ag f12 fun a13 f13 => ?_
  have f14 := f13.sub (sc 4 sn)
  refine wpList_nil (hK3 _ _ (wp_ret ?_)); (try simp only [xt, xb]); refine C.ret f14 rfl rfl ?_
  exact TrPost.base HK (out_2 hs7) ⟨rfl, m2, T2, up2, KC, nw2⟩
 have hs7 := h0
 refine C.condF f9 rfl ?_
 refine wp_skip (hK1 _ _ ?_)
 have f10 := f9.sub (sc 0 (sc 3 sn))
 refine wp_seq_k fun K4 hK4 => ?_
 refine C.sk fun K5 hK5 => ?_
 refine L.mv f10 fun a11 f11 => ?_
 refine L.cl f11 (run_call Try.call33 (args1 f11 rfl)) (ready_any B g t m _ T hn) ?_
 clear f8 f9 f10 a7
 rintro e w2 ⟨kc2, rfl⟩
 refine ⟨_, rfl, fun a12 f12 => ?_⟩
 have szw2 := kc2.size
 replace HK := HK.z kc2
 replace T := T.kept0 kc2
 replace PP := PP.kept0 kc2
 replace Bg0 := Bg0.z kc2
 clear f11 a11 kc2
 refine L.va f12 (E.not f12 rfl) fun a13 f13 => ?_
 refine wpList_nil (hK5 _ _ ?_)
 have f14 := f13.sub (sc 0 (sc 3 (sc 13 sn)))
 clear f12 a12 f13
 refine f14.splitNB 13 rfl (fun h1 f15 => ?_) (fun h1 f15 => ?_)
 ·refine C.condT f15 rfl ?_
  refine C.sk fun K6 hK6 => ?_
  refine L.ag f15 fun a16 f16 => ?_
  have f17 := f16.sub (sc 4 sn)
  refine wpList_nil (hK6 _ _ (wp_ret ?_)); (try simp only [xt, xb]); refine C.ret f17 rfl rfl ?_
  exact ⟨by rw [out_no hs7 (show t.readyB = false by assumption)], m, by rw [out_no hs7 (show t.readyB = false by assumption)]; exact T, by omega, HK.mono0, fun x hx => .inl hx, fun x hx => .inl hx⟩
 refine C.condF f15 rfl ?_
 refine wp_skip (hK4 _ _ ?_)
 have f16 := f15.sub (sc 0 (sc 3 sn))
 refine wp_seq_k fun K7 hK7 => ?_
 refine C.sk fun K8 hK8 => ?_
 refine L.fa 0 f16 U34 rfl wsz3_tn fun a17 f17 => ?_
 refine L.ld f17 U3 Bg0 fun a18 f18 => ?_
 refine wpList_nil (hK8 _ _ ?_)
 have f19 := f18.sub (sc 0 (sc 3 (sc 15 sn)))
 refine wp_block ?_
 refine C.sk fun K9 hK9 => ?_
 refine L.va f19 (E.eq f19) fun a20 f20 => ?_
 refine L.ag f20 fun a21 f21 => ?_
 refine wpList_nil (hK9 _ _ ?_)
 have f22 := f21.sub (sc 0 (sc 3 (sc 15 (sc 16 sn))))
 clear f14 f15 f16 a13 f17 a17 f18 f19 a18 f20 a20 f21
 refine f22.splitD 16 rfl (fun h2 f23 => ?_) (fun h2 f23 => ?_)
 ·have hs16 := h2
  refine C.condT f23 rfl ?_
  refine C.sk fun K10 hK10 => ?_
  refine L.mv f23 fun a24 f24 => ?_
  refine L.va f24 (E.loadB f24 U34 rfl wsz34_tn rfl (Bg0) rfl) fun a25 f25 => ?_
  refine L.cl f25 (run_call Try.call34 (args2 f25 rfl rfl)) (pub_any p s hid B g t m _ T hn PP hL) ?_
  clear f22 f23 a21 f24 a24
  rintro e w3 ⟨rfl, m2, T2, up2, kc3, nw2⟩
  refine ⟨_, rfl, fun a26 f26 => ?_⟩
  have szw3 := kc3.size
  have KC := kc3
  refine L.ag f26 fun a27 f27 => ?_
  have f28 := f27.sub (sc 4 sn)
  refine wpList_nil (hK10 _ _ (wp_ret ?_)); (try simp only [xt, xb]); refine C.ret f28 rfl rfl ?_
  exact TrPost.base HK (out_3 (show t.readyB = true by assumption) hs16) ⟨rfl, m2, T2, up2, KC, nw2⟩
 have hs16 := h2
 refine C.condF f23 rfl ?_
 refine C.sk fun K11 hK11 => ?_
 refine L.va f23 (E.eq f23) fun a24 f24 => ?_
 refine L.ag f24 fun a25 f25 => ?_
 refine wpList_nil (hK11 _ _ ?_)
 have f26 := f25.sub (sc 0 (sc 3 (sc 15 (sc 21 sn))))
 clear f22 f23 a21 f24 a24 f25
 refine f26.splitD 21 rfl (fun h3 f27 => ?_) (fun h3 f27 => ?_)
 ·have hs21 := h3
  refine C.condT f27 rfl ?_
  refine wp_seq_k fun K12 hK12 => ?_
  have hne := ready_ne T.e1 (show t.readyB = true by assumption)
  refine C.region ?_
  refine L.mv f27 fun a28 f28 => ?_
  refine L.va f28 (E.loadB f28 U34 rfl wsz34_tn rfl (Bg0) rfl) fun a29 f29 => ?_
  refine L.cl f29 (run_call Try.call35 (args2 f29 rfl rfl)) (rel_any p s hid B g t m _ T hn hne) ?_
  clear f26 f27 a25 f28 a28
  rintro e w3 ⟨rfl, m2, T2, up2, kc3, nw2⟩
  refine ⟨_, rfl, fun a30 f30 => ?_⟩
  have szw3 := kc3.size
  have KC := kc3
  refine L.ag f30 fun a31 f31 => ?_
  have f32 := f31.sub (sc 4 sn)
  refine wpList_nil (hK12 _ _ (wp_ret ?_)); (try simp only [xt, xb]); refine C.ret f32 rfl rfl ?_
  exact TrPost.base HK (out_6 (show t.readyB = true by assumption) hs21) ⟨rfl, m2, T2, up2, KC, nw2⟩
 have hs21 := h3
 refine C.condF f27 rfl ?_
 refine C.sk fun K13 hK13 => ?_
 refine L.va f27 (E.eq f27) fun a28 f28 => ?_
 refine L.ag f28 fun a29 f29 => ?_
 refine wpList_nil (hK13 _ _ ?_)
 have f30 := f29.sub (sc 0 (sc 3 (sc 15 (sc 26 sn))))
 clear f26 f27 a25 f28 a28 f29
 refine f30.splitD 26 rfl (fun h4 f31 => ?_) (fun h4 f31 => ?_)
 ·have hs26 := h4
  refine C.condT f31 rfl ?_
  refine C.sk fun K14 hK14 => ?_
  refine L.mv f31 fun a32 f32 => ?_
  refine L.va f32 (E.loadB f32 U34 rfl wsz34_tn rfl (Bg0) rfl) fun a33 f33 => ?_
  refine L.cl f33 (run_call Try.call36 (args2 f33 rfl rfl)) (sub_any p s B g t m _ T hn PP) ?_
  clear f30 f31 a29 f32 a32
  rintro e w3 ⟨rfl, m2, T2, up2, kc3, nw2⟩
  refine ⟨_, rfl, fun a34 f34 => ?_⟩
  have szw3 := kc3.size
  have KC := kc3
  refine L.ag f34 fun a35 f35 => ?_
  have f36 := f35.sub (sc 4 sn)
  refine wpList_nil (hK14 _ _ (wp_ret ?_)); (try simp only [xt, xb]); refine C.ret f36 rfl rfl ?_
  exact TrPost.base HK (out_9 (show t.readyB = true by assumption) hs26) ⟨rfl, m2, T2, up2, KC, nw2⟩
 have hs26 := h4
 refine C.condF f31 rfl ?_
 refine C.sk fun K15 hK15 => ?_
 refine L.va f31 (E.eq f31) fun a32 f32 => ?_
 refine L.ag f32 fun a33 f33 => ?_
 refine wpList_nil (hK15 _ _ ?_)
 have f34 := f33.sub (sc 0 (sc 3 (sc 15 (sc 31 sn))))
 clear f30 f31 a29 f32 a32 f33
 refine f34.splitD 31 rfl (fun h5 f35 => ?_) (fun h5 f35 => ?_)
 ·have hs31 := h5
  refine C.condT f35 rfl ?_
  refine C.sk fun K16 hK16 => ?_
  refine L.mv f35 fun a36 f36 => ?_
  refine L.va f36 (E.loadB f36 U34 rfl wsz34_tn rfl (Bg0) rfl) fun a37 f37 => ?_
  refine L.cl f37 (run_call Try.call37 (args2 f37 rfl rfl)) (uns_any p s B g t m _ T hn) ?_
  clear f34 f35 a33 f36 a36
  rintro e w3 ⟨rfl, m2, T2, up2, kc3, nw2⟩
  refine ⟨_, rfl, fun a38 f38 => ?_⟩
  have szw3 := kc3.size
  have KC := kc3
  refine L.ag f38 fun a39 f39 => ?_
  have f40 := f39.sub (sc 4 sn)
  refine wpList_nil (hK16 _ _ (wp_ret ?_)); (try simp only [xt, xb]); refine C.ret f40 rfl rfl ?_
  exact TrPost.base HK (out_11 (show t.readyB = true by assumption) hs31) ⟨rfl, m2, T2, up2, KC, nw2⟩
 have hs31 := h5
 refine C.condF f35 rfl ?_
 refine wp_seq_k fun K17 hK17 => ?_
 refine C.sk fun K18 hK18 => ?_
 refine L.va f35 (E.eq f35) fun a36 f36 => ?_
 refine L.ag f36 fun a37 f37 => ?_
 refine wpList_nil (hK18 _ _ ?_)
 have f38 := f37.sub (sc 0 (sc 3 (sc 15 (sc 36 sn))))
 clear f34 f35 a33 f36 a36 f37
 refine f38.splitD 36 rfl (fun h6 f39 => ?_) (fun h6 f39 => ?_)
 ·refine C.condT f39 rfl ?_
  refine wp_skip (hK17 _ _ ?_)
  have f40 := f39.sub (sc 0 (sc 3 (sc 15 (sc 36 sn))))
  refine C.condT f40 rfl ?_
  refine wp_seq_k fun K19 hK19 => ?_
  have hd : ansM.dom (p.kind, p.id) := ⟨wf_small (by omega) (by omega), hid⟩
  refine C.region ?_
  refine L.mv f40 fun a41 f41 => ?_
  refine L.fa 0 f41 U34 rfl wsz3_tn fun a42 f42 => ?_
  refine L.ld f42 U3 Bg0 fun a43 f43 => ?_
  refine L.fa 4 f43 U34 rfl wsz3_tn fun a44 f44 => ?_
  refine L.ld f44 U3 Bg0 fun a45 f45 => ?_
  refine L.va f45 (E.build f45 (parts2 f45 rfl rfl) (wbl72_0_1_tn _ _)) fun a46 f46 => ?_
  clear f38 f39 f40 a37 f41 a41 f42 a42 f43 a43 f44 a44 f45 a45
  refine L.cl f46 (run_call Try.call38 (args2 f46 rfl rfl)) (pay_any (p.kind, p.id) hd B g t m _ T hn) ?_
  rintro e w3 ⟨rfl, m2, T2, up2, kc3, nw2⟩
  refine ⟨_, rfl, fun a47 f47 => ?_⟩
  have szw3 := kc3.size
  have KC := kc3
  refine L.ag f47 fun a48 f48 => ?_
  have f49 := f48.sub (sc 4 sn)
  refine wpList_nil (hK19 _ _ (wp_ret ?_)); (try simp only [xt, xb]); refine C.ret f49 rfl rfl ?_
  exact TrPost.base HK (out_pay (show t.readyB = true by assumption) (by omega)) ⟨rfl, m2, T2, up2, KC, nw2⟩
 refine C.condF f39 rfl ?_
 refine C.sk fun K20 hK20 => ?_
 refine L.va f39 (E.eq f39) fun a40 f40 => ?_
 refine L.ag f40 fun a41 f41 => ?_
 refine wpList_nil (hK20 _ _ ?_)
 have f42 := f41.sub (sc 0 (sc 3 (sc 15 (sc 36 sn))))
 clear f38 f39 a37 f40 a40 f41
 refine f42.splitD 36 rfl (fun h7 f43 => ?_) (fun h7 f43 => ?_)
 ·refine C.condT f43 rfl ?_
  refine wp_skip (hK17 _ _ ?_)
  have f44 := f43.sub (sc 0 (sc 3 (sc 15 (sc 36 sn))))
  refine C.condT f44 rfl ?_
  refine wp_seq_k fun K21 hK21 => ?_
  have hd : ansM.dom (p.kind, p.id) := ⟨wf_small (by omega) (by omega), hid⟩
  refine C.region ?_
  refine L.mv f44 fun a45 f45 => ?_
  refine L.fa 0 f45 U34 rfl wsz3_tn fun a46 f46 => ?_
  refine L.ld f46 U3 Bg0 fun a47 f47 => ?_
  refine L.fa 4 f47 U34 rfl wsz3_tn fun a48 f48 => ?_
  refine L.ld f48 U3 Bg0 fun a49 f49 => ?_
  refine L.va f49 (E.build f49 (parts2 f49 rfl rfl) (wbl72_0_1_tn _ _)) fun a50 f50 => ?_
  clear f42 f43 f44 a41 f45 a45 f46 a46 f47 a47 f48 a48 f49 a49
  refine L.cl f50 (run_call Try.call38 (args2 f50 rfl rfl)) (pay_any (p.kind, p.id) hd B g t m _ T hn) ?_
  rintro e w3 ⟨rfl, m2, T2, up2, kc3, nw2⟩
  refine ⟨_, rfl, fun a51 f51 => ?_⟩
  have szw3 := kc3.size
  have KC := kc3
  refine L.ag f51 fun a52 f52 => ?_
  have f53 := f52.sub (sc 4 sn)
  refine wpList_nil (hK21 _ _ (wp_ret ?_)); (try simp only [xt, xb]); refine C.ret f53 rfl rfl ?_
  exact TrPost.base HK (out_pay (show t.readyB = true by assumption) (by omega)) ⟨rfl, m2, T2, up2, KC, nw2⟩
 refine C.condF f43 rfl ?_
 refine C.region ?_
 refine L.va f43 (E.eq f43) fun a44 f44 => ?_
 refine L.ag f44 fun a45 f45 => ?_
 refine wpList_nil (hK17 _ _ ?_)
 have f46 := f45.sub (sc 0 (sc 3 (sc 15 (sc 36 sn))))
 clear f42 f43 a41 f44 a44 f45
 refine f46.splitD 36 rfl (fun h8 f47 => ?_) (fun h8 f47 => ?_)
 ·refine C.condT f47 rfl ?_
  refine wp_seq_k fun K22 hK22 => ?_
  have hd : ansM.dom (p.kind, p.id) := ⟨wf_small (by omega) (by omega), hid⟩
  refine C.region ?_
  refine L.mv f47 fun a48 f48 => ?_
  refine L.fa 0 f48 U34 rfl wsz3_tn fun a49 f49 => ?_
  refine L.ld f49 U3 Bg0 fun a50 f50 => ?_
  refine L.fa 4 f50 U34 rfl wsz3_tn fun a51 f51 => ?_
  refine L.ld f51 U3 Bg0 fun a52 f52 => ?_
  refine L.va f52 (E.build f52 (parts2 f52 rfl rfl) (wbl72_0_1_tn _ _)) fun a53 f53 => ?_
  refine L.cl f53 (run_call Try.call38 (args2 f53 rfl rfl)) (pay_any (p.kind, p.id) hd B g t m _ T hn) ?_
  clear f46 f47 a45 f48 a48 f49 a49 f50 a50 f51 a51 f52 a52
  rintro e w3 ⟨rfl, m2, T2, up2, kc3, nw2⟩
  refine ⟨_, rfl, fun a54 f54 => ?_⟩
  have szw3 := kc3.size
  have KC := kc3
  refine L.ag f54 fun a55 f55 => ?_
  have f56 := f55.sub (sc 4 sn)
  refine wpList_nil (hK22 _ _ (wp_ret ?_)); (try simp only [xt, xb]); refine C.ret f56 rfl rfl ?_
  exact TrPost.base HK (out_pay (show t.readyB = true by assumption) (by omega)) ⟨rfl, m2, T2, up2, KC, nw2⟩
 refine C.condF f47 rfl ?_
 refine C.sk fun K23 hK23 => ?_
 refine L.va f47 (E.eq f47) fun a48 f48 => ?_
 refine L.ag f48 fun a49 f49 => ?_
 refine wpList_nil (hK23 _ _ ?_)
 have f50 := f49.sub (sc 0 (sc 3 (sc 47 sn)))
 clear f46 f47 a45 f48 a48 f49
 refine f50.splitD 47 rfl (fun h9 f51 => ?_) (fun h9 f51 => ?_)
 ·have hs47 := h9
  refine C.condT f51 rfl ?_
  refine wp_seq_k fun K24 hK24 => ?_
  have hd : ansM.dom (p.kind, (0 : Int)) := ⟨wf_small (by omega) (by omega), (by decide : (Lit.int .i64 0).wf = true)⟩
  refine C.region ?_
  refine L.mv f51 fun a52 f52 => ?_
  refine L.fa 0 f52 U34 rfl wsz3_tn fun a53 f53 => ?_
  refine L.ld f53 U3 Bg0 fun a54 f54 => ?_
  refine L.va f54 (E.build f54 (parts2 f54 rfl rfl) (wbl72_0_1_tn _ _)) fun a55 f55 => ?_
  refine L.cl f55 (run_call Try.call38 (args2 f55 rfl rfl)) (pay_any (p.kind, (0 : Int)) hd B g t m _ T hn) ?_
  clear f50 f51 a49 f52 a52 f53 a53 f54 a54
  rintro e w3 ⟨rfl, m2, T2, up2, kc3, nw2⟩
  refine ⟨_, rfl, fun a56 f56 => ?_⟩
  have szw3 := kc3.size
  have KC := kc3
  refine L.ag f56 fun a57 f57 => ?_
  have f58 := f57.sub (sc 4 sn)
  refine wpList_nil (hK24 _ _ (wp_ret ?_)); (try simp only [xt, xb]); refine C.ret f58 rfl rfl ?_
  exact TrPost.base HK (out_13 (show t.readyB = true by assumption) hs47) ⟨rfl, m2, T2, up2, KC, nw2⟩
 have hs47 := h9
 refine C.condF f51 rfl ?_
 refine wp_skip (hK7 _ _ ?_)
 have f52 := f51.sub sn
 refine C.sk fun K25 hK25 => ?_
 refine L.ag f52 fun a53 f53 => ?_
 have f54 := f53.sub (sc 4 sn)
 refine wpList_nil (hK25 _ _ (wp_ret ?_)); (try simp only [xt, xb]); refine C.ret f54 rfl rfl ?_
 exact ⟨by rw [out_n hs7 hs16 hs21 hs26 hs31 (by omega) hs47], m, by rw [out_n hs7 hs16 hs21 hs26 hs31 (by omega) hs47]; exact T, by omega, HK.mono0, fun x hx => .inl hx, fun x hx => .inl hx⟩
end Go.Proofs.Ytkdeedhjkjffpaa
namespace Go.Proofs.Ytkdeedhjkjffpaa
open Go.RowKit Go.Hub Go.Lib Go.WideShapes Go.ChangeMaps
theorem wzib34_to : (Try.prog.info? 34).map (fun i => (i.zero, i.size, i.bytes)) = some (some (.agg #[(.int .i64 0), (.bool false), (.bool false), (.int .i64 0), (.int .i64 0), (.string ⟨#[]⟩), (.slice none 0 0), (.int .i64 0), (.string ⟨#[]⟩), (.bool false), (.int .i64 0), (.bool false), (.string ⟨#[]⟩), (.slice none 0 0), (.int .i64 0), (.bool false), (.bool false), (.bool false), (.string ⟨#[]⟩), (.slice none 0 0), (.bool false), (.int .i64 0), (.slice none 0 0), (.slice none 0 0)]), 24, 288) := by kernel_rfl
theorem wzi34_to : (Try.prog.info? 34).map (fun i => (i.zero, i.size)) = some (some (.agg #[(.int .i64 0), (.bool false), (.bool false), (.int .i64 0), (.int .i64 0), (.string ⟨#[]⟩), (.slice none 0 0), (.int .i64 0), (.string ⟨#[]⟩), (.bool false), (.int .i64 0), (.bool false), (.string ⟨#[]⟩), (.slice none 0 0), (.int .i64 0), (.bool false), (.bool false), (.bool false), (.string ⟨#[]⟩), (.slice none 0 0), (.bool false), (.int .i64 0), (.slice none 0 0), (.slice none 0 0)]), 24) := by kernel_rfl
theorem wbs51_1_to (x0_0 x0_1 x0_2 x0_3 x0_4 x0_5 x0_6 x0_7 x0_8 x0_9 x0_10 x0_11 x0_12 x0_13 x0_14 x0_15 x0_16 x0_17 x0_18 x0_19 x0_20 x0_21 x0_22 x0_23 : Value) : Instr.fill (fun i => some (i * 24, 24)) ((Array.range (1 * 24)).map fun j => (Value.cells (.agg #[(.int .i64 0), (.bool false), (.bool false), (.int .i64 0), (.int .i64 0), (.string ⟨#[]⟩), (.slice none 0 0), (.int .i64 0), (.string ⟨#[]⟩), (.bool false), (.int .i64 0), (.bool false), (.string ⟨#[]⟩), (.slice none 0 0), (.int .i64 0), (.bool false), (.bool false), (.bool false), (.string ⟨#[]⟩), (.slice none 0 0), (.bool false), (.int .i64 0), (.slice none 0 0), (.slice none 0 0)]))[j % (Value.cells (.agg #[(.int .i64 0), (.bool false), (.bool false), (.int .i64 0), (.int .i64 0), (.string ⟨#[]⟩), (.slice none 0 0), (.int .i64 0), (.string ⟨#[]⟩), (.bool false), (.int .i64 0), (.bool false), (.string ⟨#[]⟩), (.slice none 0 0), (.int .i64 0), (.bool false), (.bool false), (.bool false), (.string ⟨#[]⟩), (.slice none 0 0), (.bool false), (.int .i64 0), (.slice none 0 0), (.slice none 0 0)])).size]!) [(0, .agg #[x0_0, x0_1, x0_2, x0_3, x0_4, x0_5, x0_6, x0_7, x0_8, x0_9, x0_10, x0_11, x0_12, x0_13, x0_14, x0_15, x0_16, x0_17, x0_18, x0_19, x0_20, x0_21, x0_22, x0_23])] = some #[x0_0, x0_1, x0_2, x0_3, x0_4, x0_5, x0_6, x0_7, x0_8, x0_9, x0_10, x0_11, x0_12, x0_13, x0_14, x0_15, x0_16, x0_17, x0_18, x0_19, x0_20, x0_21, x0_22, x0_23] := by kernel_rfl
theorem wsz3_to : (Try.prog.info? 3).map (·.size) = some 1 := by kernel_rfl
theorem wsz4_to : (Try.prog.info? 4).map (·.size) = some 1 := by kernel_rfl
theorem wsz34_to : (Try.prog.info? 34).map (·.size) = some 24 := by kernel_rfl
theorem wsz49_to : (Try.prog.info? 49).map (·.size) = some 1 := by kernel_rfl
theorem wsz51_to : (Try.prog.info? 51).map (·.size) = some 1 := by kernel_rfl
theorem wsz66_to : (Try.prog.info? 66).map (·.size) = some 24 := by kernel_rfl
theorem wsz67_to : (Try.prog.info? 67).map (·.size) = some 24 := by kernel_rfl
theorem wsz68_to : (Try.prog.info? 68).map (·.size) = some 24 := by kernel_rfl
theorem wsz69_to : (Try.prog.info? 69).map (·.size) = some 24 := by kernel_rfl
theorem wsz70_to : (Try.prog.info? 70).map (·.size) = some 24 := by kernel_rfl
theorem wbl72_0_1_to (x0 : Int) (x1 : Int) : Try.prog.built 72 [(0, .int .i64 x0), (1, .int .i64 x1)] = some #[.int .i64 x0, .int .i64 x1] := by kernel_rfl
theorem setSeg_mid (a b c d : List Value) (h : b.length = d.length) : setSeg (a ++ (b ++ c)) a.length d = a ++ (d ++ c) := by
  apply List.ext_getElem?
  intro i
  rw [setSeg_at _ _ _ _ (by rw [List.length_append, List.length_append]; omega)]
  by_cases h1 : i < a.length
  · rw [if_neg (by omega)]
    simp [List.getElem?_append, h1]
  by_cases h2 : i - a.length < d.length
  · rw [if_pos (by omega)]
    simp [List.getElem?_append, h1, h2]
  rw [if_neg (by omega)]
  simp [List.getElem?_append, h1, h2, h]
theorem set_gr {w : World} {g : Nat} {a : Value} {b c d : List Value} (hb : b.length = d.length) (h : Blk w g 53 (setSeg (a :: (b ++ c)) (0 + 1) d).toArray) : Blk w g 53 (a :: (d ++ c)).toArray := by
  have := setSeg_mid [a] b c d hb
  rw [show setSeg (a :: (b ++ c)) (0 + 1) d = a :: (d ++ c) from this] at h
  exact h
section
variable {k : Int}
theorem any66 (h : anyT k = some 66) : k = 1 ∨ k = 2 := by
  rcases anyT_is h with ⟨e, h⟩ | ⟨e, h⟩ | ⟨e, h⟩ | ⟨e, h⟩ | ⟨e, h⟩ <;> first | exact h | exact absurd e (by decide)
theorem any67 (h : anyT k = some 67) : k = 3 := by
  rcases anyT_is h with ⟨e, h⟩ | ⟨e, h⟩ | ⟨e, h⟩ | ⟨e, h⟩ | ⟨e, h⟩ <;> first | exact h | exact absurd e (by decide)
theorem any68 (h : anyT k = some 68) : (4 ≤ k ∧ k ≤ 7) ∨ k = 9 ∨ k = 11 := by
  rcases anyT_is h with ⟨e, h⟩ | ⟨e, h⟩ | ⟨e, h⟩ | ⟨e, h⟩ | ⟨e, h⟩ <;> first | exact h | exact absurd e (by decide)
theorem any69 (h : anyT k = some 69) : k = 8 ∨ k = 10 := by
  rcases anyT_is h with ⟨e, h⟩ | ⟨e, h⟩ | ⟨e, h⟩ | ⟨e, h⟩ | ⟨e, h⟩ <;> first | exact h | exact absurd e (by decide)
theorem any70 (h : anyT k = some 70) : 12 ≤ k ∧ k ≤ 14 := by
  rcases anyT_is h with ⟨e, h⟩ | ⟨e, h⟩ | ⟨e, h⟩ | ⟨e, h⟩ | ⟨e, h⟩ <;> first | exact h | exact absurd e (by decide)
theorem anyN (h0 : ¬ anyT k = some 66) (h1 : ¬ anyT k = some 67) (h2 : ¬ anyT k = some 68) (h3 : ¬ anyT k = some 69) (h4 : ¬ anyT k = some 70) : k < 1 ∨ 14 < k := by
  unfold anyT at h0 h1 h2 h3 h4
  by_cases c1 : k = 1 ∨ k = 2
  · rw [if_pos c1] at h0; exact absurd rfl h0
  by_cases c2 : k = 3
  · rw [if_neg c1, if_pos c2] at h1; exact absurd rfl h1
  by_cases c3 : (4 ≤ k ∧ k ≤ 7) ∨ k = 9 ∨ k = 11
  · rw [if_neg c1, if_neg c2, if_pos c3] at h2; exact absurd rfl h2
  by_cases c4 : k = 8 ∨ k = 10
  · rw [if_neg c1, if_neg c2, if_neg c3, if_pos c4] at h3; exact absurd rfl h3
  by_cases c5 : 12 ≤ k ∧ k ≤ 14
  · rw [if_neg c1, if_neg c2, if_neg c3, if_neg c4, if_pos c5] at h4; exact absurd rfl h4
  omega
theorem Pk.cells_oneL (p : Pk) (s : Ad) : (p.cells s).toList.all (·.oneCell') = true := rfl
variable {t : Tr} {p : Pk}
theorem in_hg (h : t.left = false) (h2 : ¬ t.greeted = decide (p.kind = 1)) : ¬ (t.left = true ∨ t.greeted = decide (p.kind = 1)) := by
  rintro (c | c)
  · exact Bool.noConfusion (c.symm.trans h)
  exact h2 c
theorem in_skip (h : t.left = true ∨ t.greeted = decide (p.kind = 1)) : t.inT p = t := by unfold Tr.inT; rw [if_pos h]
theorem in_go (h : ¬ (t.left = true ∨ t.greeted = decide (p.kind = 1))) : t.inT p = if p.kind = 1 then { t with gr := p, greeted := true }
  else if p.kind = 3 then t.msgT p
  else if (4 ≤ p.kind ∧ p.kind ≤ 7) ∨ p.kind = 9 ∨ p.kind = 11 then t.ackT p
  else if p.kind = 8 then { t with subs := t.subs ++ [p] }
  else if p.kind = 10 then { t with unsubs := t.unsubs ++ [p] }
  else if p.kind = 12 then { t with left := false }.owe (13, 0)
  else if p.kind = 13 ∨ p.kind = 14 then { t with left := decide (p.kind = 14) }
  else t := by unfold Tr.inT; rw [if_neg h]
variable (hg : ¬ (t.left = true ∨ t.greeted = decide (p.kind = 1)))
include hg
theorem in_1 (h : p.kind = 1) : t.inT p = { t with gr := p, greeted := true } := by rw [in_go hg, if_pos h]
theorem in_2 (h : p.kind = 1 ∨ p.kind = 2) (h1 : ¬ p.kind = 1) : t.inT p = t := by rw [in_go hg, if_neg h1, if_neg (by omega), if_neg (by omega), if_neg (by omega), if_neg (by omega), if_neg (by omega), if_neg (by omega)]
theorem in_3 (h : p.kind = 3) : t.inT p = t.msgT p := by rw [in_go hg, if_neg (by omega), if_pos h]
theorem in_ack (h : (4 ≤ p.kind ∧ p.kind ≤ 7) ∨ p.kind = 9 ∨ p.kind = 11) : t.inT p = t.ackT p := by rw [in_go hg, if_neg (by omega), if_neg (by omega), if_pos h]
theorem in_8 (h : p.kind = 8) : t.inT p = { t with subs := t.subs ++ [p] } := by rw [in_go hg, if_neg (by omega), if_neg (by omega), if_neg (by omega), if_pos h]
theorem in_10 (h : p.kind = 8 ∨ p.kind = 10) (h1 : ¬ p.kind = 8) : t.inT p = { t with unsubs := t.unsubs ++ [p] } := by rw [in_go hg, if_neg (by omega), if_neg (by omega), if_neg (by omega), if_neg h1, if_pos (by omega)]
theorem in_12 (h : p.kind = 12) : t.inT p = { t with left := false, owed := ((13, 0), (lk t.owed (13, 0)).getD 0 + 1) :: strike t.owed (13, 0) } := by
  rw [in_go hg, if_neg (by omega), if_neg (by omega), if_neg (by omega), if_neg (by omega), if_neg (by omega), if_pos h]
  rfl
theorem in_sig (h : 12 ≤ p.kind ∧ p.kind ≤ 14) (h1 : ¬ p.kind = 12) : t.inT p = { t with left := decide (p.kind = 14) } := by rw [in_go hg, if_neg (by omega), if_neg (by omega), if_neg (by omega), if_neg (by omega), if_neg (by omega), if_neg h1, if_pos (by omega)]
theorem in_n (h : p.kind < 1 ∨ 14 < p.kind) : t.inT p = t := by rw [in_go hg, if_neg (by omega), if_neg (by omega), if_neg (by omega), if_neg (by omega), if_neg (by omega), if_neg (by omega), if_neg (by omega)]
end
set_option maxRecDepth 100000 in
set_option maxHeartbeats 400000 in
theorem in_any (p : Pk) (s : Ad) (hid : (Lit.int .i64 p.id).wf = true) (B g : Nat) (t : Tr) (m : TrM) (w : World) (T : TrIn B w g t m) (hn : m.n ≤ 1000000) (PP : PkS B w p s) (hL : p.Len) : Calls Try.prog 12 #[.pointer (some ⟨g, 0, none⟩), .agg (p.cells s)] w (TrPost B g m w (t.inT p) (.tuple #[])) := by
 have HK : Kept [] w w := Kept.refl [] w
 have T0 := T
 obtain ⟨e1, e2, e3, e4, BT, RT, RS, RU, MO, MF, nof, tu, tn, un, hlo, PS, PF, hl1, hl2, hl3, hl4, hl5, hcn⟩ := T0
 have hgl := BT.lt
 have hgo := IsAss.ne_blk MO BT
 have hgf := IsAss.ne_blk MF BT
 have hmo := IsAss.lt MO
 have hmf := IsAss.lt MF
 have hT0 := own_lt RT
 have hS0 := own_lt RS
 have hU0 := own_lt RU
 clear BT RT RS RU MO MF PS PF
 refine C.enter Try.func12 rfl Try.ntmps12 rfl ?_
 intro a0 f0
 have f1 : Fr 104 a0 [(0, .pointer (some ⟨g, 0, none⟩)), (1, .agg (p.cells s))] := f0
 refine C.sk fun K0 hK0 => ?_
 refine L.box f1 wantedN (by decide) rfl rfl fun a2 w1 g0 N0 f2 => ?_
 have Bg0 := N0.blk
 have kg0 := N0.kept
 have log0 := N0.lo
 have ltg0 := Bg0.lt
 have szw1 := kg0.size
 have frg0 : w.heap.size ≤ g0 := Nat.le_trans HK.size log0
 replace HK := HK.z kg0
 replace PP := PP.kept0 kg0
 clear f0 N0 kg0
 refine wpList_nil (hK0 _ _ ?_)
 have f3 := f2.sub (sc 0 (sc 3 sn))
 refine wp_seq_k fun K1 hK1 => ?_
 refine wp_seq_k fun K2 hK2 => ?_
 have hd1 : Kept [] w1 (w1.drewN 1) := (Kept.refl _ _).drewN 1
 refine R.beginT (S := fun W => (Kept [] w W) ∧ (PkS B W p s) ∧ (Blk W g0 34 (p.cells s))) (by kernel_rfl) (by kernel_rfl) ⟨HK.z hd1, PP.kept0 hd1, Bg0.z hd1⟩ fun ht => ?_
 obtain ⟨w2, hww2⟩ : ∃ W, W = w1.drewN 1 := ⟨_, rfl⟩
 rw [← hww2] at hd1 ⊢
 clear f1 a0 f2 hww2
 have szw2 := hd1.size
 replace HK := HK.z hd1
 replace PP := PP.kept0 hd1
 replace Bg0 := Bg0.z hd1
 clear hd1
 refine R.u 0 f3 rfl ht ⟨HK, PP, Bg0⟩ (fun W hW => (E.move f3 rfl)) fun a4 f4 => ?_
 refine R.u 1 f4 rfl ht ⟨HK, PP, Bg0⟩ (fun W hW => (E.nilCheck f4 rfl)) fun a5 f5 => ?_
 refine R.u 2 f5 rfl ht ⟨HK, PP, Bg0⟩ (fun W hW => (E.fa 27 f5 U53 rfl wsz4_to)) fun a6 f6 => ?_
 refine R.u 3 f6 rfl ht ⟨HK, PP, Bg0⟩ (fun W hW => (E.load f6 U4 rfl rfl ((T.kept0 hW.1).bt.cl rfl))) fun a7 f7 => ?_
 refine R.u 4 f7 rfl ht ⟨HK, PP, Bg0⟩ (fun W hW => (E.move f7 rfl)) fun a8 f8 => ?_
 clear f3 a2 f4 a4 f5 a5 f6 a6 f7 a7
 refine f8.split 13 rfl (fun h0 f9 => ?_) (fun h0 f9 => ?_)
 ·have hs13 := h0
  refine R.runT [5, 6, 7, 8, 9, 10, 11, 12, 13] (tf 14 []) f9 ht (fun _ _ _ _ h => h) ⟨HK, PP, Bg0⟩ (by kernel_rfl) fun a10 f10 => ?_
  have f11 := f10.sub (scT f10 0 (scT f10 3 (sv 22 (.bool true) sn)))
  refine R.done (by kernel_rfl) (hK2 _ _ ?_)
  have f12 := f11.sub (sc 0 (sc 3 (sc 22 sn)))
  refine C.condT f12 rfl ?_
  refine wp_ret ?_; (try simp only [xt, xb]); refine C.ret0 f12 rfl ?_
  exact ⟨rfl, m, by rw [in_skip (.inl hs13)]; exact T.kept0 HK, by omega, HK.mono0, fun x hx => .inl hx, fun x hx => .inl hx⟩
 have hs13 := h0
 refine R.u 5 f9 rfl ht ⟨HK, PP, Bg0⟩ (fun W hW => (E.move f9 rfl)) (hw := (f9.yes rfl rfl)) fun a10 f10 => ?_
 refine R.u 6 f10 rfl ht ⟨HK, PP, Bg0⟩ (fun W hW => (E.nilCheck f10 rfl)) (hw := (f10.yes rfl rfl)) fun a11 f11 => ?_
 refine R.u 7 f11 rfl ht ⟨HK, PP, Bg0⟩ (fun W hW => (E.fa 25 f11 U53 rfl wsz4_to)) (hw := (f11.yes rfl rfl)) fun a12 f12 => ?_
 refine R.u 8 f12 rfl ht ⟨HK, PP, Bg0⟩ (fun W hW => (E.load f12 U4 rfl rfl ((T.kept0 hW.1).bt.cl rfl))) (hw := (f12.yes rfl rfl)) fun a13 f13 => ?_
 refine R.u 9 f13 rfl ht ⟨HK, PP, Bg0⟩ (fun W hW => (E.fa 0 f13 U34 rfl wsz3_to)) (hw := (f13.yes rfl rfl)) fun a14 f14 => ?_
 refine R.u 10 f14 rfl ht ⟨HK, PP, Bg0⟩ (fun W hW => (E.ld f14 U3 (hW.2.2))) (hw := (f14.yes rfl rfl)) fun a15 f15 => ?_
 refine R.u 11 f15 rfl ht ⟨HK, PP, Bg0⟩ (fun W hW => (E.eq f15)) (hw := (f15.yes rfl rfl)) fun a16 f16 => ?_
 clear f8 f9 a8 f10 a10 f11 a11 f12 a12 f13 a13 f14 a14 f15 a15
 refine R.u 12 f16 rfl ht ⟨HK, PP, Bg0⟩ (fun W hW => (E.eqlB f16 U4 rfl rfl)) (hw := (f16.yes rfl rfl)) fun a17 f17 => ?_
 refine R.u 13 f17 rfl ht ⟨HK, PP, Bg0⟩ (fun W hW => (E.pickF f17 rfl rfl)) fun a18 f18 => ?_
 refine R.done (by kernel_rfl) (hK2 _ _ ?_)
 have f19 := f18.sub (sc 0 (sc 3 (sc 22 sn)))
 clear f16 a16 f17 a17 f18
 refine f19.splitD 22 rfl (fun h1 f20 => ?_) (fun h1 f20 => ?_)
 ·have hs22 := h1
  refine C.condT f20 rfl ?_
  refine wp_ret ?_; (try simp only [xt, xb]); refine C.ret0 f20 rfl ?_
  exact ⟨rfl, m, by rw [in_skip (.inr hs22)]; exact T.kept0 HK, by omega, HK.mono0, fun x hx => .inl hx, fun x hx => .inl hx⟩
 have hs22 := h1
 refine C.condF f20 rfl ?_
 refine wp_skip (hK1 _ _ ?_)
 have f21 := f20.sub (sc 0 (sc 3 sn))
 refine C.sk fun K3 hK3 => ?_
 refine L.va f21 (E.loadB f21 U34 rfl wsz34_to rfl (Bg0) rfl) fun a22 f22 => ?_
 refine L.cl f22 (run_call Try.call27 (args1 f22 rfl)) (copy_any p s _ PP.toIn hL) ?_
 clear f19 f20 f21 a18
 rintro e w3 ⟨kc3, tt, rfl, PT⟩
 replace PT := PT.o
 refine ⟨_, rfl, fun a23 f23 => ?_⟩
 have szw3 := kc3.size
 replace HK := HK.z kc3
 replace Bg0 := Bg0.z kc3
 clear f22 a22 kc3
 refine L.storeR f23 wantedN wsz34_to rfl rfl rfl Bg0 rfl rfl fun a24 w4 f24 NB4 ks4 => ?_
 have szw4 := ks4.size
 replace HK := HK.trans ks4 (ktr (by omega))
 replace PT := PT.keptT ks4 (NoPk.blk Bg0 (by decide))
 replace Bg0 := NB4
 clear ks4 f23 a23
 refine wpList_nil (hK3 _ _ ?_)
 have f25 := f24.sub (sc 0 (sc 3 sn))
 refine wp_seq_k fun K4 hK4 => ?_
 replace Bg0 : Blk w4 g0 34 (p.cells tt) := Bg0
 refine C.region ?_
 refine L.va f25 (E.loadB f25 U34 rfl wsz34_to rfl (Bg0) rfl) fun a26 f26 => ?_
 refine L.cl f26 (run_call Try.call28 (args1 f26 rfl)) (any_any p tt _ PT.toIn hL) ?_
 clear f24 f25 a24
 rintro e w5 ⟨kc5, t2, rfl, P2⟩
 have hca : ∀ b, t2.ca.map (·.block) = some b → w.heap.size ≤ b := fun b hb => Nat.le_trans HK.size (P2.codes.lo b hb)
 replace P2 := P2.o
 refine ⟨_, rfl, fun a27 f27 => ?_⟩
 have szw5 := kc5.size
 replace HK := HK.z kc5
 replace Bg0 := Bg0.z kc5
 clear f26 a26 kc5
 refine wpList_nil (hK4 _ _ ?_)
 have f28 := f27.sub (sc 0 (sc 3 (sc 26 sn)))
 refine wp_block ?_
 refine C.sk fun K5 hK5 => ?_
 refine L.va f28 (E.taA f28 66 (by decide) rfl) fun a29 f29 => ?_
 refine L.va f29 (E.extract f29 rfl rfl) fun a30 f30 => ?_
 refine L.va f30 (E.extract f30 rfl rfl) fun a31 f31 => ?_
 refine wpList_nil (hK5 _ _ ?_)
 have f32 := f31.sub (sc 0 (sc 3 (sc 26 (sc 28 (sc 29 sn)))))
 clear f27 f28 a27 f29 a29 f30 a30 f31
 refine f32.splitD 28 rfl (fun h2 f33 => ?_) (fun h2 f33 => ?_)
 ·have hs28 := h2
  refine C.condT f33 rfl ?_
  refine wp_seq_k fun K6 hK6 => ?_
  rw [if_pos hs28] at f33
  refine C.region ?_
  refine L.alloc f33 wantedN (by decide) (z := z34) (fun _ => by kernel_rfl) rfl fun a34 w6 g5 N5 f34 => ?_
  have Bg5 := N5.blk
  have kg5 := N5.kept
  have log5 := N5.lo
  have ltg5 := Bg5.lt
  have szw6 := kg5.size
  have frg5 : w.heap.size ≤ g5 := Nat.le_trans HK.size log5
  have neg0_g5 : g0 ≠ g5 := by have := Bg0.lt; omega
  replace HK := HK.z kg5
  replace Bg0 := Bg0.z kg5
  replace P2 := P2.kept0 kg5
  clear f32 N5 kg5
  refine L.storeR f34 wantedN wsz66_to rfl rfl rfl Bg5 rfl rfl fun a35 w7 f35 NB7 ks7 => ?_
  have szw7 := ks7.size
  replace HK := HK.trans ks7 (ktr (by omega))
  replace Bg0 := Bg0.kept ks7 (by simp; omega)
  replace P2 := P2.keptT ks7 (NoPk.blk Bg5 (by decide))
  replace Bg5 := NB7
  clear f33 a31 ks7 f34 a34
  refine wpList_nil (hK6 _ _ ?_)
  have f36 := f35.sub (sc 0 (sc 3 (sc 4 sn)))
  refine wp_seq_k fun K7 hK7 => ?_
  replace Bg5 : Blk w7 g5 66 (p.cells t2) := Bg5
  refine C.region ?_
  refine L.fa 0 f36 U34 rfl wsz3_to fun a37 f37 => ?_
  refine L.ld f37 U3 Bg0 fun a38 f38 => ?_
  refine L.va f38 (E.eq f38) fun a39 f39 => ?_
  refine wpList_nil (hK7 _ _ ?_)
  have f40 := f39.sub (sc 0 (sc 4 (sc 32 sn)))
  clear f35 f36 a35 f37 a37 f38 a38 f39
  refine f40.splitD 32 rfl (fun h3 f41 => ?_) (fun h3 f41 => ?_)
  ·have hs32 := h3
   refine C.condT f41 rfl ?_
   obtain ⟨-, -, -, -, BT, RT, RS, RU, MO, MF, -, -, -, -, -, PS, PF, -⟩ := T.kept0 HK
   replace HK : Kept (m.fp g) w w7 := HK.mono0
   replace BT : Blk w7 g 53 #[.bool t.clean, .int .i64 t.gr.kind, .bool t.gr.dup, .bool t.gr.retain, .int .i64 t.gr.qos, .int .i64 t.gr.id, .string t.gr.topic, .slice m.gs.pa t.gr.pay.length m.gs.pc, .int .i64 t.gr.level, .string t.gr.client, .bool t.gr.clean, .int .i64 t.gr.keep, .bool t.gr.hasWill, .string t.gr.wt, .slice m.gs.wa t.gr.wp.length m.gs.wc, .int .i64 t.gr.wq, .bool t.gr.wr, .bool t.gr.hasUser, .bool t.gr.hasPass, .string t.gr.user, .slice m.gs.sa t.gr.pass.length m.gs.sc, .bool t.gr.present, .int .i64 t.gr.code, .slice m.gs.ua t.gr.subs.length m.gs.uc, .slice m.gs.ca t.gr.codes.length m.gs.cc, .bool t.greeted, .slice m.At m.told.length m.ct, .bool t.left, .slice m.Au m.subs.length m.cu, .slice m.An m.uns.length m.cn, .map (some m.mo), .map (some m.mf)] := BT
   refine C.region ?_
   refine L.mv f41 fun a42 f42 => ?_
   refine L.mv f42 fun a43 f43 => ?_
   refine L.va f43 (E.fa 0 f43 Try.underlying66 rfl wsz34_to) fun a44 f44 => ?_
   refine L.va f44 (E.loadB f44 U34 rfl wsz34_to rfl (Bg5) rfl) fun a45 f45 => ?_
   refine L.va f45 (E.nilCheck f45 rfl) fun a46 f46 => ?_
   refine L.fa 1 f46 U53 rfl wsz34_to fun a47 f47 => ?_
   refine L.storeSeg f47 wantedN wsz34_to rfl rfl (Pk.cells_oneL p t2) BT (by simp [Pk.cells]) rfl fun a48 w8 f48 NB ks => ?_
   have szw8 := ks.size
   replace Bg0 := Bg0.kept ks (by simp; omega)
   replace P2 := P2.keptT ks (NoPk.blk BT (by decide))
   replace Bg5 := Bg5.kept ks (by simp; omega)
   replace HK := HK.trans ks (fun x hx hlt => by obtain rfl := List.mem_singleton.1 hx; exact fp_g)
   replace RT := own_kept1 RT ks BT (by decide)
   replace RS := own_kept1 RS ks BT (by decide)
   replace RU := own_kept1 RU ks BT (by decide)
   replace MO := IsAss.kept MO ks (by simpa using IsAss.ne_blk MO BT)
   replace MF := IsAss.kept MF ks (by simpa using IsAss.ne_blk MF BT)
   replace PS := PS.keptT ks (NoPk.blk BT (by decide))
   replace PF := PF.keptT ks (NoPk.blk BT (by decide))
   have BT : Blk w8 g 53 #[.bool t.clean, .int .i64 p.kind, .bool p.dup, .bool p.retain, .int .i64 p.qos, .int .i64 p.id, .string p.topic, .slice t2.pa p.pay.length t2.pc, .int .i64 p.level, .string p.client, .bool p.clean, .int .i64 p.keep, .bool p.hasWill, .string p.wt, .slice t2.wa p.wp.length t2.wc, .int .i64 p.wq, .bool p.wr, .bool p.hasUser, .bool p.hasPass, .string p.user, .slice t2.sa p.pass.length t2.sc, .bool p.present, .int .i64 p.code, .slice t2.ua p.subs.length t2.uc, .slice t2.ca p.codes.length t2.cc, .bool t.greeted, .slice m.At m.told.length m.ct, .bool t.left, .slice m.Au m.subs.length m.cu, .slice m.An m.uns.length m.cn, .map (some m.mo), .map (some m.mf)] := set_gr (a := .bool t.clean) (b := (t.gr.cells m.gs).toList) (c := [.bool t.greeted, .slice m.At m.told.length m.ct, .bool t.left, .slice m.Au m.subs.length m.cu, .slice m.An m.uns.length m.cn, .map (some m.mo), .map (some m.mf)]) (d := (p.cells t2).toList) rfl NB
   clear f40 f41 a39 f42 a42 f43 a43 f44 a44 f45 a45 f46 a46 f47 a47 ks NB
   refine L.va f48 (E.nilCheck f48 rfl) fun a49 f49 => ?_
   refine L.fa 25 f49 U53 rfl wsz4_to fun a50 f50 => ?_
   refine L.store f50 wantedN wsz4_to rfl rfl rfl BT (by (simp [Value.cells]; done)) fun a51 w9 f51 NB9 ks9 => ?_
   have szw9 := ks9.size
   replace Bg0 := Bg0.kept ks9 (by simp; omega)
   replace P2 := P2.keptT ks9 (NoPk.blk BT (by decide))
   replace Bg5 := Bg5.kept ks9 (by simp; omega)
   replace HK := HK.trans ks9 (fun x hx hlt => by obtain rfl := List.mem_singleton.1 hx; exact fp_g)
   replace RT := own_kept1 RT ks9 BT (by decide)
   replace RS := own_kept1 RS ks9 BT (by decide)
   replace RU := own_kept1 RU ks9 BT (by decide)
   replace MO := IsAss.kept MO ks9 (by simpa using IsAss.ne_blk MO BT)
   replace MF := IsAss.kept MF ks9 (by simpa using IsAss.ne_blk MF BT)
   replace PS := PS.keptT ks9 (NoPk.blk BT (by decide))
   replace PF := PF.keptT ks9 (NoPk.blk BT (by decide))
   replace BT := NB9
   simp only [Value.cells, z1, z2, z3, Nat.reduceAdd, Nat.zero_add] at BT
   clear f48 a48 f49 a49 ks9 f50 a50
   refine wpList_nil (C.end0 (fn := Try.f12) f51 rfl ?_)
   rw [in_1 (in_hg hs13 hs22) hs32]
   exact ⟨rfl, { m with gs := t2, n := m.n + 1 }, ⟨e1, e2, e3, e4, BT, RT, RS, RU, MO, MF, nof, tu, tn, un, hlo, PS, PF, Nat.le_succ_of_le hl1, Nat.le_succ_of_le hl2, Nat.le_succ_of_le hl3, Nat.le_succ_of_le hl4, Nat.le_succ_of_le hl5, cnt_up hcn⟩, Nat.le_refl _, HK, fun x hx => .inl hx, fun x hx => .inl hx⟩
  have hs32 := h3
  refine C.condF f41 rfl ?_
  refine wp_skip (C.end0 (fn := Try.f12) f41 rfl ?_)
  exact ⟨rfl, m, by rw [in_2 (in_hg hs13 hs22) (any66 hs28) hs32]; exact T.kept0 HK, by omega, HK.mono0, fun x hx => .inl hx, fun x hx => .inl hx⟩
 have hs28 := h2
 refine C.condF f33 rfl ?_
 refine C.sk fun K8 hK8 => ?_
 refine L.va f33 (E.taA f33 67 (by decide) rfl) fun a34 f34 => ?_
 refine L.va f34 (E.extract f34 rfl rfl) fun a35 f35 => ?_
 refine L.va f35 (E.extract f35 rfl rfl) fun a36 f36 => ?_
 refine wpList_nil (hK8 _ _ ?_)
 have f37 := f36.sub (sc 0 (sc 3 (sc 26 (sc 42 (sc 43 sn)))))
 clear f32 f33 a31 f34 a34 f35 a35 f36
 refine f37.splitD 42 rfl (fun h4 f38 => ?_) (fun h4 f38 => ?_)
 ·have hs42 := h4
  refine C.condT f38 rfl ?_
  refine wp_seq_k fun K9 hK9 => ?_
  rw [if_pos hs42] at f38
  refine C.region ?_
  refine L.alloc f38 wantedN (by decide) (z := z34) (fun _ => by kernel_rfl) rfl fun a39 w6 g5 N5 f39 => ?_
  have Bg5 := N5.blk
  have kg5 := N5.kept
  have log5 := N5.lo
  have ltg5 := Bg5.lt
  have szw6 := kg5.size
  have frg5 : w.heap.size ≤ g5 := Nat.le_trans HK.size log5
  have neg0_g5 : g0 ≠ g5 := by have := Bg0.lt; omega
  replace HK := HK.z kg5
  replace Bg0 := Bg0.z kg5
  replace P2 := P2.kept0 kg5
  clear f37 N5 kg5
  refine L.storeR f39 wantedN wsz67_to rfl rfl rfl Bg5 rfl rfl fun a40 w7 f40 NB7 ks7 => ?_
  have szw7 := ks7.size
  replace HK := HK.trans ks7 (ktr (by omega))
  replace Bg0 := Bg0.kept ks7 (by simp; omega)
  replace P2 := P2.keptT ks7 (NoPk.blk Bg5 (by decide))
  replace Bg5 := NB7
  clear f38 a36 ks7 f39 a39
  refine wpList_nil (hK9 _ _ ?_)
  have f41 := f40.sub (sc 0 (sc 5 sn))
  replace Bg5 : Blk w7 g5 67 (p.cells t2) := Bg5
  refine C.region ?_
  refine L.mv f41 fun a42 f42 => ?_
  refine L.va f42 (E.fa 0 f42 Try.underlying67 rfl wsz34_to) fun a43 f43 => ?_
  refine L.va f43 (E.loadB f43 U34 rfl wsz34_to rfl (Bg5) rfl) fun a44 f44 => ?_
  refine L.cl f44 (run_call Try.call29 (args2 f44 rfl rfl)) (msg_any p t2 hid B g t m _ (T.kept0 HK) hn) ?_
  clear f40 f41 a40 f42 a42 f43 a43
  rintro e w8 ⟨rfl, m2, T2, up2, kc8, nw2⟩
  refine ⟨_, rfl, fun a45 f45 => ?_⟩
  have szw8 := kc8.size
  have KC := kc8
  refine wpList_nil (C.end0 (fn := Try.f12) f45 rfl ?_)
  exact TrPost.baseN HK (in_3 (in_hg hs13 hs22) (any67 hs42)) ⟨rfl, m2, T2, up2, KC, nw2⟩
 have hs42 := h4
 refine C.condF f38 rfl ?_
 refine C.sk fun K10 hK10 => ?_
 refine L.va f38 (E.taA f38 68 (by decide) rfl) fun a39 f39 => ?_
 refine L.va f39 (E.extract f39 rfl rfl) fun a40 f40 => ?_
 refine L.va f40 (E.extract f40 rfl rfl) fun a41 f41 => ?_
 refine wpList_nil (hK10 _ _ ?_)
 have f42 := f41.sub (sc 0 (sc 3 (sc 26 (sc 49 (sc 50 sn)))))
 clear f37 f38 a36 f39 a39 f40 a40 f41
 refine f42.splitD 49 rfl (fun h5 f43 => ?_) (fun h5 f43 => ?_)
 ·have hs49 := h5
  refine C.condT f43 rfl ?_
  refine wp_seq_k fun K11 hK11 => ?_
  rw [if_pos hs49] at f43
  refine C.region ?_
  refine L.alloc f43 wantedN (by decide) (z := z34) (fun _ => by kernel_rfl) rfl fun a44 w6 g5 N5 f44 => ?_
  have Bg5 := N5.blk
  have kg5 := N5.kept
  have log5 := N5.lo
  have ltg5 := Bg5.lt
  have szw6 := kg5.size
  have frg5 : w.heap.size ≤ g5 := Nat.le_trans HK.size log5
  have neg0_g5 : g0 ≠ g5 := by have := Bg0.lt; omega
  replace HK := HK.z kg5
  replace Bg0 := Bg0.z kg5
  replace P2 := P2.kept0 kg5
  clear f42 N5 kg5
  refine L.storeR f44 wantedN wsz68_to rfl rfl rfl Bg5 rfl rfl fun a45 w7 f45 NB7 ks7 => ?_
  have szw7 := ks7.size
  replace HK := HK.trans ks7 (ktr (by omega))
  replace Bg0 := Bg0.kept ks7 (by simp; omega)
  replace P2 := P2.keptT ks7 (NoPk.blk Bg5 (by decide))
  replace Bg5 := NB7
  clear f43 a41 ks7 f44 a44
  refine wpList_nil (hK11 _ _ ?_)
  have f46 := f45.sub (sc 0 (sc 6 sn))
  replace Bg5 : Blk w7 g5 68 (p.cells t2) := Bg5
  refine C.region ?_
  refine L.mv f46 fun a47 f47 => ?_
  refine L.va f47 (E.fa 0 f47 Try.underlying68 rfl wsz34_to) fun a48 f48 => ?_
  refine L.va f48 (E.loadB f48 U34 rfl wsz34_to rfl (Bg5) rfl) fun a49 f49 => ?_
  refine L.cl f49 (run_call Try.call30 (args2 f49 rfl rfl)) (ack_any p t2 hid B g t m _ (T.kept0 HK) hn) ?_
  clear f45 f46 a45 f47 a47 f48 a48
  rintro e w8 ⟨rfl, m2, T2, up2, kc8, nw2⟩
  refine ⟨_, rfl, fun a50 f50 => ?_⟩
  have szw8 := kc8.size
  have KC := kc8
  refine wpList_nil (C.end0 (fn := Try.f12) f50 rfl ?_)
  exact TrPost.baseN HK (in_ack (in_hg hs13 hs22) (any68 hs49)) ⟨rfl, m2, T2, up2, KC, nw2⟩
 have hs49 := h5
 refine C.condF f43 rfl ?_
 refine C.sk fun K12 hK12 => ?_
 refine L.va f43 (E.taA f43 69 (by decide) rfl) fun a44 f44 => ?_
 refine L.va f44 (E.extract f44 rfl rfl) fun a45 f45 => ?_
 refine L.va f45 (E.extract f45 rfl rfl) fun a46 f46 => ?_
 refine wpList_nil (hK12 _ _ ?_)
 have f47 := f46.sub (sc 0 (sc 3 (sc 26 (sc 56 (sc 57 sn)))))
 clear f42 f43 a41 f44 a44 f45 a45 f46
 refine f47.splitD 56 rfl (fun h6 f48 => ?_) (fun h6 f48 => ?_)
 ·have hs56 := h6
  refine C.condT f48 rfl ?_
  refine wp_seq_k fun K13 hK13 => ?_
  rw [if_pos hs56] at f48
  refine C.region ?_
  refine L.alloc f48 wantedN (by decide) (z := z34) (fun _ => by kernel_rfl) rfl fun a49 w6 g5 N5 f49 => ?_
  have Bg5 := N5.blk
  have kg5 := N5.kept
  have log5 := N5.lo
  have ltg5 := Bg5.lt
  have szw6 := kg5.size
  have frg5 : w.heap.size ≤ g5 := Nat.le_trans HK.size log5
  have neg0_g5 : g0 ≠ g5 := by have := Bg0.lt; omega
  replace HK := HK.z kg5
  replace Bg0 := Bg0.z kg5
  replace P2 := P2.kept0 kg5
  clear f47 N5 kg5
  refine L.storeR f49 wantedN wsz69_to rfl rfl rfl Bg5 rfl rfl fun a50 w7 f50 NB7 ks7 => ?_
  have szw7 := ks7.size
  replace HK := HK.trans ks7 (ktr (by omega))
  replace Bg0 := Bg0.kept ks7 (by simp; omega)
  replace P2 := P2.keptT ks7 (NoPk.blk Bg5 (by decide))
  replace Bg5 := NB7
  clear f48 a46 ks7 f49 a49
  refine wpList_nil (hK13 _ _ ?_)
  have f51 := f50.sub (sc 0 (sc 3 (sc 7 sn)))
  refine wp_seq_k fun K14 hK14 => ?_
  replace Bg5 : Blk w7 g5 69 (p.cells t2) := Bg5
  refine C.region ?_
  refine L.fa 0 f51 U34 rfl wsz3_to fun a52 f52 => ?_
  refine L.ld f52 U3 Bg0 fun a53 f53 => ?_
  refine L.va f53 (E.eq f53) fun a54 f54 => ?_
  refine wpList_nil (hK14 _ _ ?_)
  have f55 := f54.sub (sc 0 (sc 7 (sc 60 sn)))
  clear f50 f51 a50 f52 a52 f53 a53 f54
  refine f55.splitD 60 rfl (fun h7 f56 => ?_) (fun h7 f56 => ?_)
  ·have hs60 := h7
   refine C.condT f56 rfl ?_
   obtain ⟨-, -, -, -, BT, RT, RS, RU, MO, MF, -, -, -, -, -, PS, PF, -⟩ := T.kept0 HK
   replace HK : Kept (m.fp g) w w7 := HK.mono0
   replace BT : Blk w7 g 53 #[.bool t.clean, .int .i64 t.gr.kind, .bool t.gr.dup, .bool t.gr.retain, .int .i64 t.gr.qos, .int .i64 t.gr.id, .string t.gr.topic, .slice m.gs.pa t.gr.pay.length m.gs.pc, .int .i64 t.gr.level, .string t.gr.client, .bool t.gr.clean, .int .i64 t.gr.keep, .bool t.gr.hasWill, .string t.gr.wt, .slice m.gs.wa t.gr.wp.length m.gs.wc, .int .i64 t.gr.wq, .bool t.gr.wr, .bool t.gr.hasUser, .bool t.gr.hasPass, .string t.gr.user, .slice m.gs.sa t.gr.pass.length m.gs.sc, .bool t.gr.present, .int .i64 t.gr.code, .slice m.gs.ua t.gr.subs.length m.gs.uc, .slice m.gs.ca t.gr.codes.length m.gs.cc, .bool t.greeted, .slice m.At m.told.length m.ct, .bool t.left, .slice m.Au m.subs.length m.cu, .slice m.An m.uns.length m.cn, .map (some m.mo), .map (some m.mf)] := BT
   have hd17 : Kept [] w7 (w7.drewN 1) := (Kept.refl _ _).drewN 1
   refine R.beginT (S := fun _ => True) (by kernel_rfl) (by kernel_rfl) trivial fun ht => ?_
   obtain ⟨w8, hww8⟩ : ∃ W, W = w7.drewN 1 := ⟨_, rfl⟩
   rw [← hww8] at hd17 ⊢
   clear f55 hww8
   have szw8 := hd17.size
   replace Bg0 := Bg0.z hd17
   replace P2 := P2.kept0 hd17
   replace Bg5 := Bg5.z hd17
   replace HK := HK.z hd17
   replace BT := BT.z hd17
   replace RT := Own.z RT hd17
   replace RS := Own.z RS hd17
   replace RU := Own.z RU hd17
   replace MO := IsAss.z MO hd17
   replace MF := IsAss.z MF hd17
   replace PS := PS.keptT hd17 (NoPk.nil _)
   replace PF := PF.keptT hd17 (NoPk.nil _)
   clear hd17
   refine R.u 0 f56 rfl ht trivial (fun W hW => (E.move f56 rfl)) fun a57 f57 => ?_
   refine R.u 1 f57 rfl ht trivial (fun W hW => (E.move f57 rfl)) fun a58 f58 => ?_
   refine R.u 2 f58 rfl ht trivial (fun W hW => (E.nilCheck f58 rfl)) fun a59 f59 => ?_
   refine R.u 3 f59 rfl ht trivial (fun W hW => (E.fa 28 f59 U53 rfl wsz51_to)) fun a60 f60 => ?_
   refine R.u 5 f60 rfl ht trivial (fun W hW => (E.fa 0 f60 Try.underlying69 rfl wsz34_to)) fun a61 f61 => ?_
   clear f56 a54 f57 a57 f58 a58 f59 a59 f60 a60
   refine Gp.enter (G := [4, 6, 7]) (L0 := (tf 12 [4, 6, 7, 8, 9, 10, 11])) (L1 := (tf 12 [8, 9, 10, 11])) (fuel := 4) (fun mS a W => ∃ v65 v67 v68 : Value, Fr 104 a [(0, .pointer (some ⟨g, 0, none⟩)), (7, .pointer (some ⟨g5, 0, none⟩)), (61, .pointer (some ⟨g, 0, none⟩)), (64, .pointer (some ⟨g, 0 + 28, none⟩)), (66, .pointer (some ⟨g5, 0 + 0, none⟩)), (65, v65), (67, v67), (68, v68)] ∧ (Blk W g0 34 (p.cells tt)) ∧ (PkO W p t2) ∧ (Blk W g5 69 (p.cells t2)) ∧ (Kept (m.fp g) w W) ∧ (Blk W g 53 #[.bool t.clean, .int .i64 t.gr.kind, .bool t.gr.dup, .bool t.gr.retain, .int .i64 t.gr.qos, .int .i64 t.gr.id, .string t.gr.topic, .slice m.gs.pa t.gr.pay.length m.gs.pc, .int .i64 t.gr.level, .string t.gr.client, .bool t.gr.clean, .int .i64 t.gr.keep, .bool t.gr.hasWill, .string t.gr.wt, .slice m.gs.wa t.gr.wp.length m.gs.wc, .int .i64 t.gr.wq, .bool t.gr.wr, .bool t.gr.hasUser, .bool t.gr.hasPass, .string t.gr.user, .slice m.gs.sa t.gr.pass.length m.gs.sc, .bool t.gr.present, .int .i64 t.gr.code, .slice m.gs.ua t.gr.subs.length m.gs.uc, .slice m.gs.ca t.gr.codes.length m.gs.cc, .bool t.greeted, .slice m.At m.told.length m.ct, .bool t.left, .slice m.Au m.subs.length m.cu, .slice m.An m.uns.length m.cn, .map (some m.mo), .map (some m.mf)]) ∧ (Row W m.At m.ct m.told) ∧ (Row W m.Au m.cu m.subs) ∧ (Row W m.An m.cn m.uns) ∧ (IsAss ansM Try.prog W m.mo t.owed) ∧ (IsAss outM Try.prog W m.mf m.out) ∧ (PksO W m.subs) ∧ (FlsO W m.out) ∧ (mS.testBit 4 = true → PhiV (.slice m.Au m.subs.length m.cu) v65 W) ∧ (mS.testBit 6 = true → PhiV (.agg (p.cells t2)) v67 W) ∧ (mS.testBit 7 = true → PhiN 34 1 (p.cells t2) v68 W)) (by kernel_rfl) (by kernel_rfl) ?_ ?_ ?_
   ·obtain ⟨v65, f62⟩ := f61.any 65 (by decide)
    obtain ⟨v67, f63⟩ := f62.any 67 (by decide)
    obtain ⟨v68, f64⟩ := f63.any 68 (by decide)
    exact ⟨v65, v67, v68, f64.sub (sx (sx (sx (sx (sx (sx (sx (sx sn)))))))), Bg0, P2, Bg5, HK, BT, RT, RS, RU, MO, MF, PS, PF, fun q => absurd q (by simp), fun q => absurd q (by simp), fun q => absurd q (by simp)⟩
   ·intro mS i_ a62 w9 hm hcl hi hG hI
    obtain ⟨v65, v67, v68, f62, Bg0, P2, Bg5, HK, BT, RT, RS, RU, MO, MF, PS, PF, P4, P6, P7⟩ := hI
    simp only [List.mem_cons, List.not_mem_nil, or_false] at hG
    rcases hG with rfl | rfl | rfl
    ·skip
     refine O.val f62 rfl rfl (by decide) wantedN (by exact E.ld f62 U51 (BT)) trivial fun a63 f63 => ?_
     exact ⟨_, _, _, f63.sub (sr rfl (sr rfl (sr rfl (sr rfl (sr rfl (sr rfl (sr rfl (sr rfl sn)))))))), Bg0, P2, Bg5, HK, BT, RT, RS, RU, MO, MF, PS, PF, fun _ => rfl, fun q => P6 (by rwa [Gp.other (by decide)] at q), fun q => P7 (by rwa [Gp.other (by decide)] at q)⟩
    ·skip
     refine O.val f62 rfl rfl (by decide) wantedN (by exact E.loadB f62 U34 rfl wsz34_to rfl (Bg5) rfl) trivial fun a63 f63 => ?_
     exact ⟨_, _, _, f63.sub (sr rfl (sr rfl (sr rfl (sr rfl (sr rfl (sr rfl (sr rfl (sr rfl sn)))))))), Bg0, P2, Bg5, HK, BT, RT, RS, RU, MO, MF, PS, PF, fun q => P4 (by rwa [Gp.other (by decide)] at q), fun _ => rfl, fun q => P7 (by rwa [Gp.other (by decide)] at q)⟩
    skip
    have D6 := P6 (Gp.need (j := 6) (by kernel_rfl) hm hcl hi)
    obtain rfl := D6
    refine O.buildSlice f62 rfl wantedN (by decide) (parts1 f62 rfl) U51 wzi34_to rfl rfl (wbs51_1_to _ _ _ _ _ _ _ _ _ _ _ _ _ _ _ _ _ _ _ _ _ _ _ _) (fun _ _ => trivial) fun a63 w10 g9 N9 hSn f63 => ?_
    clear hSn
    have Bg9 := N9.blk
    have kg9 := N9.kept
    have log9 := N9.lo
    have ltg9 := Bg9.lt
    have szw10 := kg9.size
    have frg9 : w.heap.size ≤ g9 := Nat.le_trans HK.size log9
    have neg0_g9 : g0 ≠ g9 := by have := Bg0.lt; omega
    have neg5_g9 : g5 ≠ g9 := by have := Bg5.lt; omega
    have neg_g9 : g ≠ g9 := by have := BT.lt; omega
    replace Bg0 := Bg0.z kg9
    replace P2 := P2.kept0 kg9
    replace Bg5 := Bg5.z kg9
    replace HK := HK.z kg9
    replace BT := BT.z kg9
    replace RT := Own.z RT kg9
    replace RS := Own.z RS kg9
    replace RU := Own.z RU kg9
    replace MO := IsAss.z MO kg9
    replace MF := IsAss.z MF kg9
    replace PS := PS.keptT kg9 (NoPk.nil _)
    replace PF := PF.keptT kg9 (NoPk.nil _)
    replace P4 := fun q => (P4 q).kept kg9
    replace P6 := fun q => (P6 q).kept kg9
    replace P7 := fun q => (P7 q).kept kg9
    clear N9 kg9
    exact ⟨_, _, _, f63.sub (sr rfl (sr rfl (sr rfl (sr rfl (sr rfl (sr rfl (sr rfl (sr rfl sn)))))))), Bg0, P2, Bg5, HK, BT, RT, RS, RU, MO, MF, PS, PF, fun q => P4 (by rwa [Gp.other (by decide)] at q), fun q => P6 (by rwa [Gp.other (by decide)] at q), fun _ => ⟨g9, rfl, Bg9⟩⟩
   intro mS a62 w9 hm hI
   obtain ⟨v65, v67, v68, f62, Bg0, P2, Bg5, HK, BT, RT, RS, RU, MO, MF, PS, PF, P4, P6, P7⟩ := hI
   have D4 := P4 (hm 4 (by decide))
   obtain rfl := D4
   have D7 := P7 (hm 7 (by decide))
   obtain ⟨gb, rfl, Bgb⟩ := D7
   clear P4 P6 P7
   refine R.one 8 (by kernel_rfl) ?_
   refine O.append f62 rfl wantedN (by decide) U51 wzib34_to rfl rfl rfl rfl RS (Sl1 p t2 Bgb) (Pk.one1 p t2) (by unfold maxLen; omega) (by omega) fun a63 w10 A10 c10 AP => ?_
   have szw10 := AP.kept.size
   have hwh : ∀ b, A10.map (·.block) = some b → m.Au.map (·.block) = some b ∨ w.heap.size ≤ b := fun b hb => (AP.where_ b hb).imp id (fun h => Nat.le_trans HK.size h)
   have HKn := HK.trans AP.kept (fun x hx _ => fp_ownRS (by simpa using hx))
   have BTn := BT.kept AP.kept (own_ne RS BT (by decide))
   have RTn := Own.kept RT AP.kept (own_apart (Apart.symm tu))
   have RSn := (show Row w10 A10 c10 (m.subs ++ [(p, t2)]) by unfold Row; rw [pkRow_app, pkRow_one, List.length_append]; exact AP.own)
   have RUn := Own.kept RU AP.kept (own_apart un)
   have MOn := IsAss.kept MO AP.kept (own_ne_map MO RS)
   have MFn := IsAss.kept MF AP.kept (own_ne_map MF RS)
   have PSn := PS.keptT AP.kept (NoPk.own RS)
   have PFn := PF.keptT AP.kept (NoPk.own RS)
   have P2n := P2.keptT AP.kept (NoPk.own RS)
   refine ⟨trivial, fun f63 => ?_⟩
   clear f62 HK BT RT RS RU MO MF PS PF P2 AP Bgb
   have HK := HKn
   have BT := BTn
   have RT := RTn
   have RS := RSn
   have RU := RUn
   have MO := MOn
   have MF := MFn
   have PS := PSn
   have PF := PFn
   have P2 := P2n
   clear HKn BTn RTn RSn RUn MOn MFn PSn PFn P2n
   refine R.u 9 f63 rfl ht trivial (fun W hW => (E.nilCheck f63 rfl)) fun a64 f64 => ?_
   refine R.u 10 f64 rfl ht trivial (fun W hW => (E.fa 28 f64 U53 rfl wsz51_to)) fun a65 f65 => ?_
   refine R.one 11 (by kernel_rfl) ?_
   refine OT.store f65 rfl wantedN wsz51_to rfl rfl rfl BT (by (simp [Value.cells]; done)) fun a66 w11 f66 NB11 ks11 => ?_
   have szw11 := ks11.size
   replace P2 := P2.keptT ks11 (NoPk.blk BT (by decide))
   replace HK := HK.trans ks11 (fun x hx hlt => by obtain rfl := List.mem_singleton.1 hx; exact fp_g)
   replace RT := own_kept1 RT ks11 BT (by decide)
   replace RS := own_kept1 RS ks11 BT (by decide)
   replace RU := own_kept1 RU ks11 BT (by decide)
   replace MO := IsAss.kept MO ks11 (by simpa using IsAss.ne_blk MO BT)
   replace MF := IsAss.kept MF ks11 (by simpa using IsAss.ne_blk MF BT)
   replace PS := PS.keptT ks11 (NoPk.blk BT (by decide))
   replace PF := PF.keptT ks11 (NoPk.blk BT (by decide))
   replace BT := NB11
   simp only [Value.cells, z1, z2, z3, Nat.reduceAdd, Nat.zero_add] at BT
   clear f63 a63 f64 a64 ks11 f65 a65
   refine R.done (by kernel_rfl) (C.end0 (fn := Try.f12) f66 rfl ?_)
   rw [in_8 (in_hg hs13 hs22) hs60]
   exact ⟨rfl, { m with subs := m.subs ++ [(p, t2)], Au := A10, cu := c10, n := m.n + 1 }, ⟨e1, (by rw [e2, List.map_append]; rfl), e3, e4, (by have e : (m.subs ++ [(p, t2)]).length = m.subs.length + 1 := List.length_append; rw [← e] at BT; exact BT), RT, RS, RU, MO, MF, nof, (Apart.symm (apart_new (Apart.symm tu) hwh hT0)), tn, apart_new un hwh hU0, fp_lo hlo hgl (fpS hwh), (PksO.app PS (PksO.one P2 hL)), PF, Nat.le_succ_of_le hl1, (by rw [List.length_append]; exact Nat.succ_le_succ hl2), Nat.le_succ_of_le hl3, Nat.le_succ_of_le hl4, Nat.le_succ_of_le hl5, cnt_up hcn⟩, Nat.le_refl _, HK, fpS hwh, fun y hy => (List.mem_append.1 hy).imp id (fun h => by obtain rfl := List.mem_singleton.1 h; exact hca)⟩
  have hs60 := h7
  refine C.condF f56 rfl ?_
  obtain ⟨-, -, -, -, BT, RT, RS, RU, MO, MF, -, -, -, -, -, PS, PF, -⟩ := T.kept0 HK
  replace HK : Kept (m.fp g) w w7 := HK.mono0
  replace BT : Blk w7 g 53 #[.bool t.clean, .int .i64 t.gr.kind, .bool t.gr.dup, .bool t.gr.retain, .int .i64 t.gr.qos, .int .i64 t.gr.id, .string t.gr.topic, .slice m.gs.pa t.gr.pay.length m.gs.pc, .int .i64 t.gr.level, .string t.gr.client, .bool t.gr.clean, .int .i64 t.gr.keep, .bool t.gr.hasWill, .string t.gr.wt, .slice m.gs.wa t.gr.wp.length m.gs.wc, .int .i64 t.gr.wq, .bool t.gr.wr, .bool t.gr.hasUser, .bool t.gr.hasPass, .string t.gr.user, .slice m.gs.sa t.gr.pass.length m.gs.sc, .bool t.gr.present, .int .i64 t.gr.code, .slice m.gs.ua t.gr.subs.length m.gs.uc, .slice m.gs.ca t.gr.codes.length m.gs.cc, .bool t.greeted, .slice m.At m.told.length m.ct, .bool t.left, .slice m.Au m.subs.length m.cu, .slice m.An m.uns.length m.cn, .map (some m.mo), .map (some m.mf)] := BT
  have hd18 : Kept [] w7 (w7.drewN 1) := (Kept.refl _ _).drewN 1
  refine R.beginT (S := fun _ => True) (by kernel_rfl) (by kernel_rfl) trivial fun ht => ?_
  obtain ⟨w8, hww8⟩ : ∃ W, W = w7.drewN 1 := ⟨_, rfl⟩
  rw [← hww8] at hd18 ⊢
  clear f55 hww8
  have szw8 := hd18.size
  replace Bg0 := Bg0.z hd18
  replace P2 := P2.kept0 hd18
  replace Bg5 := Bg5.z hd18
  replace HK := HK.z hd18
  replace BT := BT.z hd18
  replace RT := Own.z RT hd18
  replace RS := Own.z RS hd18
  replace RU := Own.z RU hd18
  replace MO := IsAss.z MO hd18
  replace MF := IsAss.z MF hd18
  replace PS := PS.keptT hd18 (NoPk.nil _)
  replace PF := PF.keptT hd18 (NoPk.nil _)
  clear hd18
  refine R.u 0 f56 rfl ht trivial (fun W hW => (E.move f56 rfl)) fun a57 f57 => ?_
  refine R.u 1 f57 rfl ht trivial (fun W hW => (E.move f57 rfl)) fun a58 f58 => ?_
  refine R.u 2 f58 rfl ht trivial (fun W hW => (E.nilCheck f58 rfl)) fun a59 f59 => ?_
  refine R.u 3 f59 rfl ht trivial (fun W hW => (E.fa 29 f59 U53 rfl wsz51_to)) fun a60 f60 => ?_
  refine R.u 5 f60 rfl ht trivial (fun W hW => (E.fa 0 f60 Try.underlying69 rfl wsz34_to)) fun a61 f61 => ?_
  clear f56 a54 f57 a57 f58 a58 f59 a59 f60 a60
  refine Gp.enter (G := [4, 6, 7]) (L0 := (tf 12 [4, 6, 7, 8, 9, 10, 11])) (L1 := (tf 12 [8, 9, 10, 11])) (fuel := 4) (fun mS a W => ∃ v76 v78 v79 : Value, Fr 104 a [(0, .pointer (some ⟨g, 0, none⟩)), (7, .pointer (some ⟨g5, 0, none⟩)), (72, .pointer (some ⟨g, 0, none⟩)), (75, .pointer (some ⟨g, 0 + 29, none⟩)), (77, .pointer (some ⟨g5, 0 + 0, none⟩)), (76, v76), (78, v78), (79, v79)] ∧ (Blk W g0 34 (p.cells tt)) ∧ (PkO W p t2) ∧ (Blk W g5 69 (p.cells t2)) ∧ (Kept (m.fp g) w W) ∧ (Blk W g 53 #[.bool t.clean, .int .i64 t.gr.kind, .bool t.gr.dup, .bool t.gr.retain, .int .i64 t.gr.qos, .int .i64 t.gr.id, .string t.gr.topic, .slice m.gs.pa t.gr.pay.length m.gs.pc, .int .i64 t.gr.level, .string t.gr.client, .bool t.gr.clean, .int .i64 t.gr.keep, .bool t.gr.hasWill, .string t.gr.wt, .slice m.gs.wa t.gr.wp.length m.gs.wc, .int .i64 t.gr.wq, .bool t.gr.wr, .bool t.gr.hasUser, .bool t.gr.hasPass, .string t.gr.user, .slice m.gs.sa t.gr.pass.length m.gs.sc, .bool t.gr.present, .int .i64 t.gr.code, .slice m.gs.ua t.gr.subs.length m.gs.uc, .slice m.gs.ca t.gr.codes.length m.gs.cc, .bool t.greeted, .slice m.At m.told.length m.ct, .bool t.left, .slice m.Au m.subs.length m.cu, .slice m.An m.uns.length m.cn, .map (some m.mo), .map (some m.mf)]) ∧ (Row W m.At m.ct m.told) ∧ (Row W m.Au m.cu m.subs) ∧ (Row W m.An m.cn m.uns) ∧ (IsAss ansM Try.prog W m.mo t.owed) ∧ (IsAss outM Try.prog W m.mf m.out) ∧ (PksO W m.subs) ∧ (FlsO W m.out) ∧ (mS.testBit 4 = true → PhiV (.slice m.An m.uns.length m.cn) v76 W) ∧ (mS.testBit 6 = true → PhiV (.agg (p.cells t2)) v78 W) ∧ (mS.testBit 7 = true → PhiN 34 1 (p.cells t2) v79 W)) (by kernel_rfl) (by kernel_rfl) ?_ ?_ ?_
  ·obtain ⟨v76, f62⟩ := f61.any 76 (by decide)
   obtain ⟨v78, f63⟩ := f62.any 78 (by decide)
   obtain ⟨v79, f64⟩ := f63.any 79 (by decide)
   exact ⟨v76, v78, v79, f64.sub (sx (sx (sx (sx (sx (sx (sx (sx sn)))))))), Bg0, P2, Bg5, HK, BT, RT, RS, RU, MO, MF, PS, PF, fun q => absurd q (by simp), fun q => absurd q (by simp), fun q => absurd q (by simp)⟩
  ·intro mS i_ a62 w9 hm hcl hi hG hI
   obtain ⟨v76, v78, v79, f62, Bg0, P2, Bg5, HK, BT, RT, RS, RU, MO, MF, PS, PF, P4, P6, P7⟩ := hI
   simp only [List.mem_cons, List.not_mem_nil, or_false] at hG
   rcases hG with rfl | rfl | rfl
   ·skip
    refine O.val f62 rfl rfl (by decide) wantedN (by exact E.ld f62 U51 (BT)) trivial fun a63 f63 => ?_
    exact ⟨_, _, _, f63.sub (sr rfl (sr rfl (sr rfl (sr rfl (sr rfl (sr rfl (sr rfl (sr rfl sn)))))))), Bg0, P2, Bg5, HK, BT, RT, RS, RU, MO, MF, PS, PF, fun _ => rfl, fun q => P6 (by rwa [Gp.other (by decide)] at q), fun q => P7 (by rwa [Gp.other (by decide)] at q)⟩
   ·skip
    refine O.val f62 rfl rfl (by decide) wantedN (by exact E.loadB f62 U34 rfl wsz34_to rfl (Bg5) rfl) trivial fun a63 f63 => ?_
    exact ⟨_, _, _, f63.sub (sr rfl (sr rfl (sr rfl (sr rfl (sr rfl (sr rfl (sr rfl (sr rfl sn)))))))), Bg0, P2, Bg5, HK, BT, RT, RS, RU, MO, MF, PS, PF, fun q => P4 (by rwa [Gp.other (by decide)] at q), fun _ => rfl, fun q => P7 (by rwa [Gp.other (by decide)] at q)⟩
   skip
   have D6 := P6 (Gp.need (j := 6) (by kernel_rfl) hm hcl hi)
   obtain rfl := D6
   refine O.buildSlice f62 rfl wantedN (by decide) (parts1 f62 rfl) U51 wzi34_to rfl rfl (wbs51_1_to _ _ _ _ _ _ _ _ _ _ _ _ _ _ _ _ _ _ _ _ _ _ _ _) (fun _ _ => trivial) fun a63 w10 g9 N9 hSn f63 => ?_
   clear hSn
   have Bg9 := N9.blk
   have kg9 := N9.kept
   have log9 := N9.lo
   have ltg9 := Bg9.lt
   have szw10 := kg9.size
   have frg9 : w.heap.size ≤ g9 := Nat.le_trans HK.size log9
   have neg0_g9 : g0 ≠ g9 := by have := Bg0.lt; omega
   have neg5_g9 : g5 ≠ g9 := by have := Bg5.lt; omega
   have neg_g9 : g ≠ g9 := by have := BT.lt; omega
   replace Bg0 := Bg0.z kg9
   replace P2 := P2.kept0 kg9
   replace Bg5 := Bg5.z kg9
   replace HK := HK.z kg9
   replace BT := BT.z kg9
   replace RT := Own.z RT kg9
   replace RS := Own.z RS kg9
   replace RU := Own.z RU kg9
   replace MO := IsAss.z MO kg9
   replace MF := IsAss.z MF kg9
   replace PS := PS.keptT kg9 (NoPk.nil _)
   replace PF := PF.keptT kg9 (NoPk.nil _)
   replace P4 := fun q => (P4 q).kept kg9
   replace P6 := fun q => (P6 q).kept kg9
   replace P7 := fun q => (P7 q).kept kg9
   clear N9 kg9
   exact ⟨_, _, _, f63.sub (sr rfl (sr rfl (sr rfl (sr rfl (sr rfl (sr rfl (sr rfl (sr rfl sn)))))))), Bg0, P2, Bg5, HK, BT, RT, RS, RU, MO, MF, PS, PF, fun q => P4 (by rwa [Gp.other (by decide)] at q), fun q => P6 (by rwa [Gp.other (by decide)] at q), fun _ => ⟨g9, rfl, Bg9⟩⟩
  intro mS a62 w9 hm hI
  obtain ⟨v76, v78, v79, f62, Bg0, P2, Bg5, HK, BT, RT, RS, RU, MO, MF, PS, PF, P4, P6, P7⟩ := hI
  have D4 := P4 (hm 4 (by decide))
  obtain rfl := D4
  have D7 := P7 (hm 7 (by decide))
  obtain ⟨gb, rfl, Bgb⟩ := D7
  clear P4 P6 P7
  refine R.one 8 (by kernel_rfl) ?_
  refine O.append f62 rfl wantedN (by decide) U51 wzib34_to rfl rfl rfl rfl RU (Sl1 p t2 Bgb) (Pk.one1 p t2) (by unfold maxLen; omega) (by omega) fun a63 w10 A10 c10 AP => ?_
  have szw10 := AP.kept.size
  have hwh : ∀ b, A10.map (·.block) = some b → m.An.map (·.block) = some b ∨ w.heap.size ≤ b := fun b hb => (AP.where_ b hb).imp id (fun h => Nat.le_trans HK.size h)
  have HKn := HK.trans AP.kept (fun x hx _ => fp_ownRU (by simpa using hx))
  have BTn := BT.kept AP.kept (own_ne RU BT (by decide))
  have RTn := Own.kept RT AP.kept (own_apart (Apart.symm tn))
  have RSn := Own.kept RS AP.kept (own_apart (Apart.symm un))
  have RUn := (show Row w10 A10 c10 (m.uns ++ [(p, t2)]) by unfold Row; rw [pkRow_app, pkRow_one, List.length_append]; exact AP.own)
  have MOn := IsAss.kept MO AP.kept (own_ne_map MO RU)
  have MFn := IsAss.kept MF AP.kept (own_ne_map MF RU)
  have PSn := PS.keptT AP.kept (NoPk.own RU)
  have PFn := PF.keptT AP.kept (NoPk.own RU)
  have P2n := P2.keptT AP.kept (NoPk.own RU)
  refine ⟨trivial, fun f63 => ?_⟩
  clear f62 HK BT RT RS RU MO MF PS PF P2 AP Bgb
  have HK := HKn
  have BT := BTn
  have RT := RTn
  have RS := RSn
  have RU := RUn
  have MO := MOn
  have MF := MFn
  have PS := PSn
  have PF := PFn
  have P2 := P2n
  clear HKn BTn RTn RSn RUn MOn MFn PSn PFn P2n
  refine R.u 9 f63 rfl ht trivial (fun W hW => (E.nilCheck f63 rfl)) fun a64 f64 => ?_
  refine R.u 10 f64 rfl ht trivial (fun W hW => (E.fa 29 f64 U53 rfl wsz51_to)) fun a65 f65 => ?_
  refine R.one 11 (by kernel_rfl) ?_
  refine OT.store f65 rfl wantedN wsz51_to rfl rfl rfl BT (by (simp [Value.cells]; done)) fun a66 w11 f66 NB11 ks11 => ?_
  have szw11 := ks11.size
  replace P2 := P2.keptT ks11 (NoPk.blk BT (by decide))
  replace HK := HK.trans ks11 (fun x hx hlt => by obtain rfl := List.mem_singleton.1 hx; exact fp_g)
  replace RT := own_kept1 RT ks11 BT (by decide)
  replace RS := own_kept1 RS ks11 BT (by decide)
  replace RU := own_kept1 RU ks11 BT (by decide)
  replace MO := IsAss.kept MO ks11 (by simpa using IsAss.ne_blk MO BT)
  replace MF := IsAss.kept MF ks11 (by simpa using IsAss.ne_blk MF BT)
  replace PS := PS.keptT ks11 (NoPk.blk BT (by decide))
  replace PF := PF.keptT ks11 (NoPk.blk BT (by decide))
  replace BT := NB11
  simp only [Value.cells, z1, z2, z3, Nat.reduceAdd, Nat.zero_add] at BT
  clear f63 a63 f64 a64 ks11 f65 a65
  refine R.done (by kernel_rfl) (C.end0 (fn := Try.f12) f66 rfl ?_)
  rw [in_10 (in_hg hs13 hs22) (any69 hs56) hs60]
  exact ⟨rfl, { m with uns := m.uns ++ [(p, t2)], An := A10, cn := c10, n := m.n + 1 }, ⟨e1, e2, (by rw [e3, List.map_append]; rfl), e4, (by have e : (m.uns ++ [(p, t2)]).length = m.uns.length + 1 := List.length_append; rw [← e] at BT; exact BT), RT, RS, RU, MO, MF, nof, tu, (Apart.symm (apart_new (Apart.symm tn) hwh hT0)), (Apart.symm (apart_new (Apart.symm un) hwh hS0)), fp_lo hlo hgl (fpU hwh), PS, PF, Nat.le_succ_of_le hl1, Nat.le_succ_of_le hl2, (by rw [List.length_append]; exact Nat.succ_le_succ hl3), Nat.le_succ_of_le hl4, Nat.le_succ_of_le hl5, cnt_up hcn⟩, Nat.le_refl _, HK, fpU hwh, fun x hx => .inl hx⟩
 have hs56 := h6
 refine C.condF f48 rfl ?_
 refine C.sk fun K15 hK15 => ?_
 refine L.va f48 (E.taA f48 70 (by decide) rfl) fun a49 f49 => ?_
 refine L.va f49 (E.extract f49 rfl rfl) fun a50 f50 => ?_
 refine L.va f50 (E.extract f50 rfl rfl) fun a51 f51 => ?_
 refine wpList_nil (hK15 _ _ ?_)
 have f52 := f51.sub (sc 0 (sc 3 (sc 84 (sc 85 sn))))
 clear f47 f48 a46 f49 a49 f50 a50 f51
 refine f52.splitD 84 rfl (fun h8 f53 => ?_) (fun h8 f53 => ?_)
 ·have hs84 := h8
  refine C.condT f53 rfl ?_
  refine wp_seq_k fun K16 hK16 => ?_
  rw [if_pos hs84] at f53
  refine C.region ?_
  refine L.alloc f53 wantedN (by decide) (z := z34) (fun _ => by kernel_rfl) rfl fun a54 w6 g5 N5 f54 => ?_
  have Bg5 := N5.blk
  have kg5 := N5.kept
  have log5 := N5.lo
  have ltg5 := Bg5.lt
  have szw6 := kg5.size
  have frg5 : w.heap.size ≤ g5 := Nat.le_trans HK.size log5
  have neg0_g5 : g0 ≠ g5 := by have := Bg0.lt; omega
  replace HK := HK.z kg5
  replace Bg0 := Bg0.z kg5
  replace P2 := P2.kept0 kg5
  clear f52 N5 kg5
  refine L.storeR f54 wantedN wsz70_to rfl rfl rfl Bg5 rfl rfl fun a55 w7 f55 NB7 ks7 => ?_
  have szw7 := ks7.size
  replace HK := HK.trans ks7 (ktr (by omega))
  replace Bg0 := Bg0.kept ks7 (by simp; omega)
  replace P2 := P2.keptT ks7 (NoPk.blk Bg5 (by decide))
  replace Bg5 := NB7
  clear f53 a51 ks7 f54 a54
  refine wpList_nil (hK16 _ _ ?_)
  have f56 := f55.sub (sc 0 (sc 3 sn))
  refine wp_seq_k fun K17 hK17 => ?_
  replace Bg5 : Blk w7 g5 70 (p.cells t2) := Bg5
  obtain ⟨-, -, -, -, BT, RT, RS, RU, MO, MF, -, -, -, -, -, PS, PF, -⟩ := T.kept0 HK
  replace HK : Kept (m.fp g) w w7 := HK.mono0
  replace BT : Blk w7 g 53 #[.bool t.clean, .int .i64 t.gr.kind, .bool t.gr.dup, .bool t.gr.retain, .int .i64 t.gr.qos, .int .i64 t.gr.id, .string t.gr.topic, .slice m.gs.pa t.gr.pay.length m.gs.pc, .int .i64 t.gr.level, .string t.gr.client, .bool t.gr.clean, .int .i64 t.gr.keep, .bool t.gr.hasWill, .string t.gr.wt, .slice m.gs.wa t.gr.wp.length m.gs.wc, .int .i64 t.gr.wq, .bool t.gr.wr, .bool t.gr.hasUser, .bool t.gr.hasPass, .string t.gr.user, .slice m.gs.sa t.gr.pass.length m.gs.sc, .bool t.gr.present, .int .i64 t.gr.code, .slice m.gs.ua t.gr.subs.length m.gs.uc, .slice m.gs.ca t.gr.codes.length m.gs.cc, .bool t.greeted, .slice m.At m.told.length m.ct, .bool t.left, .slice m.Au m.subs.length m.cu, .slice m.An m.uns.length m.cn, .map (some m.mo), .map (some m.mf)] := BT
  refine C.region ?_
  refine L.mv f56 fun a57 f57 => ?_
  refine L.fa 0 f57 U34 rfl wsz3_to fun a58 f58 => ?_
  refine L.ld f58 U3 Bg0 fun a59 f59 => ?_
  refine L.va f59 (E.eq f59) fun a60 f60 => ?_
  refine L.va f60 (E.nilCheck f60 rfl) fun a61 f61 => ?_
  refine L.fa 27 f61 U53 rfl wsz4_to fun a62 f62 => ?_
  refine L.store f62 wantedN wsz4_to rfl rfl rfl BT (by (simp [Value.cells]; done)) fun a63 w8 f63 NB8 ks8 => ?_
  have szw8 := ks8.size
  replace Bg0 := Bg0.kept ks8 (by simp; omega)
  replace P2 := P2.keptT ks8 (NoPk.blk BT (by decide))
  replace Bg5 := Bg5.kept ks8 (by simp; omega)
  replace HK := HK.trans ks8 (fun x hx hlt => by obtain rfl := List.mem_singleton.1 hx; exact fp_g)
  replace RT := own_kept1 RT ks8 BT (by decide)
  replace RS := own_kept1 RS ks8 BT (by decide)
  replace RU := own_kept1 RU ks8 BT (by decide)
  replace MO := IsAss.kept MO ks8 (by simpa using IsAss.ne_blk MO BT)
  replace MF := IsAss.kept MF ks8 (by simpa using IsAss.ne_blk MF BT)
  replace PS := PS.keptT ks8 (NoPk.blk BT (by decide))
  replace PF := PF.keptT ks8 (NoPk.blk BT (by decide))
  replace BT := NB8
  simp only [Value.cells, z1, z2, z3, Nat.reduceAdd, Nat.zero_add] at BT
  clear f55 f56 a55 f57 a57 f58 a58 f59 a59 f60 a60 f61 a61 ks8 f62 a62
  have f64 := f63.sub (sc 0 (sc 3 sn))
  refine wpList_nil (hK17 _ _ (C.sk fun K18 hK18 => ?_))
  refine L.fa 0 f64 U34 rfl wsz3_to fun a65 f65 => ?_
  refine L.ld f65 U3 Bg0 fun a66 f66 => ?_
  refine L.va f66 (E.eq f66) fun a67 f67 => ?_
  refine wpList_nil (hK18 _ _ ?_)
  have f68 := f67.sub (sc 0 (sc 94 sn))
  clear f63 f64 a63 f65 a65 f66 a66 f67
  refine f68.splitD 94 rfl (fun h9 f69 => ?_) (fun h9 f69 => ?_)
  ·have hs94 := h9
   refine C.condT f69 rfl ?_
   have hd : ansM.dom ((13 : Int), (0 : Int)) := ⟨(by decide : (Lit.int .i64 13).wf = true), (by decide : (Lit.int .i64 0).wf = true)⟩
   have hc := cnt_ok hcn ((13 : Int), (0 : Int))
   have ME := AnsE.of MO ((13 : Int), (0 : Int))
   have hd23 : Kept [] w8 (w8.drewN 1) := (Kept.refl _ _).drewN 1
   refine RB.begin (S := fun W => (Blk W g0 34 (p.cells tt)) ∧ (PkO W p t2) ∧ (Blk W g5 70 (p.cells t2)) ∧ (Kept (m.fp g) w W) ∧ (Row W m.At m.ct m.told) ∧ (Row W m.Au m.cu m.subs) ∧ (Row W m.An m.cn m.uns) ∧ (IsAss outM Try.prog W m.mf m.out) ∧ (PksO W m.subs) ∧ (FlsO W m.out) ∧ (Blk W g 53 #[.bool t.clean, .int .i64 t.gr.kind, .bool t.gr.dup, .bool t.gr.retain, .int .i64 t.gr.qos, .int .i64 t.gr.id, .string t.gr.topic, .slice m.gs.pa t.gr.pay.length m.gs.pc, .int .i64 t.gr.level, .string t.gr.client, .bool t.gr.clean, .int .i64 t.gr.keep, .bool t.gr.hasWill, .string t.gr.wt, .slice m.gs.wa t.gr.wp.length m.gs.wc, .int .i64 t.gr.wq, .bool t.gr.wr, .bool t.gr.hasUser, .bool t.gr.hasPass, .string t.gr.user, .slice m.gs.sa t.gr.pass.length m.gs.sc, .bool t.gr.present, .int .i64 t.gr.code, .slice m.gs.ua t.gr.subs.length m.gs.uc, .slice m.gs.ca t.gr.codes.length m.gs.cc, .bool t.greeted, .slice m.At m.told.length m.ct, .bool (decide (p.kind = 14)), .slice m.Au m.subs.length m.cu, .slice m.An m.uns.length m.cn, .map (some m.mo), .map (some m.mf)]) ∧ (AnsE W m.mo t.owed ((13 : Int), (0 : Int)))) 9 (by kernel_rfl) ⟨Bg0.z hd23, P2.kept0 hd23, Bg5.z hd23, HK.z hd23, Own.z RT hd23, Own.z RS hd23, Own.z RU hd23, IsAss.z MF hd23, PS.keptT hd23 (NoPk.nil _), PF.keptT hd23 (NoPk.nil _), BT.z hd23, ME.kept hd23 (by simp)⟩ ?_
   obtain ⟨w9, hww9⟩ : ∃ W, W = w8.drewN 1 := ⟨_, rfl⟩
   rw [← hww9] at hd23 ⊢
   clear f68 hww9
   have szw9 := hd23.size
   replace Bg0 := Bg0.z hd23
   replace P2 := P2.kept0 hd23
   replace Bg5 := Bg5.z hd23
   replace HK := HK.z hd23
   replace RT := Own.z RT hd23
   replace RS := Own.z RS hd23
   replace RU := Own.z RU hd23
   replace MF := IsAss.z MF hd23
   replace PS := PS.keptT hd23 (NoPk.nil _)
   replace PF := PF.keptT hd23 (NoPk.nil _)
   replace BT := BT.z hd23
   replace ME := ME.kept hd23 (by simp)
   clear hd23
   refine RB.tk 0 f69 rfl ⟨Bg0, P2, Bg5, HK, RT, RS, RU, MF, PS, PF, BT, ME⟩ (fun W hW => (E.move f69 rfl)) fun a70 f70 => ?_
   refine RB.tk 1 f70 rfl ⟨Bg0, P2, Bg5, HK, RT, RS, RU, MF, PS, PF, BT, ME⟩ (fun W hW => (E.nilCheck f70 rfl)) fun a71 f71 => ?_
   refine RB.tk 2 f71 rfl ⟨Bg0, P2, Bg5, HK, RT, RS, RU, MF, PS, PF, BT, ME⟩ (fun W hW => (E.fa 30 f71 U53 rfl wsz49_to)) fun a72 f72 => ?_
   refine RB.tk 3 f72 rfl ⟨Bg0, P2, Bg5, HK, RT, RS, RU, MF, PS, PF, BT, ME⟩ (fun W hW => (E.ld f72 Try.underlying49 (hW.2.2.2.2.2.2.2.2.2.2.1))) fun a73 f73 => ?_
   refine RB.tk 4 f73 rfl ⟨Bg0, P2, Bg5, HK, RT, RS, RU, MF, PS, PF, BT, ME⟩ (fun W hW => (E.build f73 (parts2 f73 rfl rfl) (wbl72_0_1_to _ _))) fun a74 f74 => ?_
   refine RB.tk 5 f74 rfl ⟨Bg0, P2, Bg5, HK, RT, RS, RU, MF, PS, PF, BT, ME⟩ (fun W hW => (E.lookO f74 hW.2.2.2.2.2.2.2.2.2.2.2 ((13 : Int), (0 : Int)) hd rfl rfl)) fun a75 f75 => ?_
   refine RB.tk 6 f75 rfl ⟨Bg0, P2, Bg5, HK, RT, RS, RU, MF, PS, PF, BT, ME⟩ (fun W hW => (E.add f75 rfl rfl (IntWalk.i64_in _ (by omega)))) fun a76 f76 => ?_
   clear f69 a67 f70 a70 f71 a71 f72 a72 f73 a73 f74 a74 f75 a75
   refine RB.one 7 (by kernel_rfl) (by kernel_rfl) ?_
   refine O.mapEntryO f76 rfl wantedN (by decide) ME hd rfl rfl (by unfold maxLen; omega) (fun w' ma ks => ⟨Bg0.kept ks (by simpa using Ne.symm (AnsE.ne_blk ME Bg0)), P2.keptT ks (NoPk.ans ME), Bg5.kept ks (by simpa using Ne.symm (AnsE.ne_blk ME Bg5)), HK.trans ks (fun x hx hlt => by obtain rfl := List.mem_singleton.1 hx; exact fp_o), own_keptE RT ks ME, own_keptE RS ks ME, own_keptE RU ks ME, IsAss.kept MF ks (by simpa using (Ne.symm nof)), PS.keptT ks (NoPk.ans ME), PF.keptT ks (NoPk.ans ME), BT.kept ks (by simpa using Ne.symm (AnsE.ne_blk ME BT)), ma⟩) fun a77 w10 v0 stp ma EN ks f77 => ?_
   have szw10 := ks.size
   have Bg0n := Bg0.kept ks (by simpa using Ne.symm (AnsE.ne_blk ME Bg0))
   have P2n := P2.keptT ks (NoPk.ans ME)
   have Bg5n := Bg5.kept ks (by simpa using Ne.symm (AnsE.ne_blk ME Bg5))
   have HKn := HK.trans ks (fun x hx hlt => by obtain rfl := List.mem_singleton.1 hx; exact fp_o)
   have RTn := own_keptE RT ks ME
   have RSn := own_keptE RS ks ME
   have RUn := own_keptE RU ks ME
   have MFn := IsAss.kept MF ks (by simpa using (Ne.symm nof))
   have PSn := PS.keptT ks (NoPk.ans ME)
   have PFn := PF.keptT ks (NoPk.ans ME)
   have BTn := BT.kept ks (by simpa using Ne.symm (AnsE.ne_blk ME BT))
   have MEn := ma
   clear f76 a76 Bg0 P2 Bg5 HK RT RS RU MF PS PF BT ME ks ma
   have Bg0 := Bg0n
   have P2 := P2n
   have Bg5 := Bg5n
   have HK := HKn
   have RT := RTn
   have RS := RSn
   have RU := RUn
   have MF := MFn
   have PS := PSn
   have PF := PFn
   have BT := BTn
   have ME := MEn
   clear Bg0n P2n Bg5n HKn RTn RSn RUn MFn PSn PFn BTn MEn
   refine RB.tk 8 f77 rfl ⟨Bg0, P2, Bg5, HK, RT, RS, RU, MF, PS, PF, BT, ME⟩ (fun W hW => (E.extract f77 rfl rfl)) fun a78 f78 => ?_
   refine RB.stop (by kernel_rfl) ?_
   refine R.one 9 (by kernel_rfl) ?_
   refine O.entryStoreA f78 rfl wantedN EN ((lk t.owed ((13 : Int), (0 : Int))).getD 0 + 1) rfl rfl rfl (fun _ _ _ => trivial) fun a79 w11 MN ks f79 => ?_
   have szw11 := ks.size
   have Bg0n := Bg0.kept ks (by simpa using Ne.symm (AnsE.ne_blk ME Bg0))
   have P2n := P2.keptT ks (NoPk.ans ME)
   have Bg5n := Bg5.kept ks (by simpa using Ne.symm (AnsE.ne_blk ME Bg5))
   have HKn := HK.trans ks (fun x hx hlt => by obtain rfl := List.mem_singleton.1 hx; exact fp_o)
   have RTn := own_keptE RT ks ME
   have RSn := own_keptE RS ks ME
   have RUn := own_keptE RU ks ME
   have MFn := IsAss.kept MF ks (by simpa using (Ne.symm nof))
   have PSn := PS.keptT ks (NoPk.ans ME)
   have PFn := PF.keptT ks (NoPk.ans ME)
   have BTn := BT.kept ks (by simpa using Ne.symm (AnsE.ne_blk ME BT))
   clear f77 a77
   clear f78 a78 ks EN ME Bg0 P2 Bg5 HK RT RS RU MF PS PF BT
   have Bg0 := Bg0n
   have P2 := P2n
   have Bg5 := Bg5n
   have HK := HKn
   have RT := RTn
   have RS := RSn
   have RU := RUn
   have MF := MFn
   have PS := PSn
   have PF := PFn
   have BT := BTn
   clear Bg0n P2n Bg5n HKn RTn RSn RUn MFn PSn PFn BTn
   have MO := MN
   clear MN
   refine R.done (by kernel_rfl) (C.end0 (fn := Try.f12) f79 rfl ?_)
   rw [in_12 (in_hg hs13 hs22) hs94]
   exact ⟨rfl, { m with n := m.n + 1 }, ⟨e1, e2, e3, e4, (by rw [decide_eq_false (by omega)] at BT; exact BT), RT, RS, RU, MO, MF, nof, tu, tn, un, hlo, PS, PF, Nat.le_succ_of_le hl1, Nat.le_succ_of_le hl2, Nat.le_succ_of_le hl3, strike_le hl4 _ _, Nat.le_succ_of_le hl5, cnt_put hcn ((13 : Int), (0 : Int)) (by omega)⟩, Nat.le_refl _, HK, fun x hx => .inl hx, fun x hx => .inl hx⟩
  have hs94 := h9
  refine C.condF f69 rfl ?_
  refine wp_skip (C.end0 (fn := Try.f12) f69 rfl ?_)
  rw [in_sig (in_hg hs13 hs22) (any70 hs84) hs94]
  exact ⟨rfl, m, ⟨e1, e2, e3, e4, BT, RT, RS, RU, MO, MF, nof, tu, tn, un, hlo, PS, PF, hl1, hl2, hl3, hl4, hl5, hcn⟩, by omega, HK, fun x hx => .inl hx, fun x hx => .inl hx⟩
 have hs84 := h8
 refine C.condF f53 rfl ?_
 refine wp_skip (C.end0 (fn := Try.f12) f53 rfl ?_)
 exact ⟨rfl, m, by rw [in_n (in_hg hs13 hs22) (anyN hs28 hs42 hs49 hs56 hs84)]; exact T.kept0 HK, by omega, HK.mono0, fun x hx => .inl hx, fun x hx => .inl hx⟩
end Go.Proofs.Ytkdeedhjkjffpaa
namespace Go.Proofs.Ytkdeedhjkjffpaa
open Go.RowKit Go.Hub Go.Lib Go.WideShapes Go.ChangeMaps
theorem wbl53_0_7_8_tp (x0 : Bool) (x1 : Option Nat) (x2 : Option Nat) : Try.prog.built 53 [(0, .bool x0), (7, .map x1), (8, .map x2)] = some #[.bool x0, (.int .i64 0), (.bool false), (.bool false), (.int .i64 0), (.int .i64 0), (.string ⟨#[]⟩), (.slice none 0 0), (.int .i64 0), (.string ⟨#[]⟩), (.bool false), (.int .i64 0), (.bool false), (.string ⟨#[]⟩), (.slice none 0 0), (.int .i64 0), (.bool false), (.bool false), (.bool false), (.string ⟨#[]⟩), (.slice none 0 0), (.bool false), (.int .i64 0), (.slice none 0 0), (.slice none 0 0), (.bool false), (.slice none 0 0), (.bool false), (.slice none 0 0), (.slice none 0 0), .map x1, .map x2] := by kernel_rfl
theorem wsz49_tp : (Try.prog.info? 49).map (·.size) = some 1 := by kernel_rfl
theorem wsz51_tp : (Try.prog.info? 51).map (·.size) = some 1 := by kernel_rfl
def Tr.new (c : Bool) : Tr := ⟨c, {}, false, [], false, [], [], [], []⟩
def TrM.new (mo mf : Nat) : TrM := ⟨s0, [], [], [], [], none, none, none, 0, 0, 0, mo, mf, 0⟩
def NewPost (B : Nat) (c : Bool) (w : World) (e : Ending) (w' : World) : Prop := ∃ g m, e = .returned (.pointer (some ⟨g, 0, none⟩)) ∧ TrIn B w' g (Tr.new c) m ∧ m.n = 0 ∧ Kept [] w w'
theorem new_in {B n g g1 g2 : Nat} {c : Bool} {W : World} (hB : B ≤ n) (h1 : n ≤ g1) (h2 : n ≤ g2) (h : n ≤ g) (hne : g1 ≠ g2) (b : Blk W g 53 (trCells (Tr.new c) s0 0 0 0 none none none 0 0 0 g1 g2)) (I1 : IsAss ansM Try.prog W g1 []) (I2 : IsAss outM Try.prog W g2 []) : TrIn B W g (Tr.new c) (TrM.new g1 g2) :=
  ⟨rfl, rfl, rfl, rfl, b, Own.nil _ _ _, Own.nil _ _ _, Own.nil _ _ _, I1, I2, hne, (fun b hb => by simp [TrM.new] at hb), (fun b hb => by simp [TrM.new] at hb), (fun b hb => by simp [TrM.new] at hb), fun x hx => by
    have : x = g ∨ x = g1 ∨ x = g2 := by simpa [fp, bk, TrM.new] using hx
    omega, fun x hx => absurd hx (by simp [TrM.new]), fun x hx => absurd hx (by simp [TrM.new]), by simp [TrM.new, Tr.new]⟩
section
variable {P : Program} {ops : Array Oper} {rest : List Oper} {a : Act} {w : World} {Q : Exit → Act → World → Prop} {n d : Nat} {l : FL} {ty : TypeId} {ps : String} {af : Array Edge} {gd : Option (Nat × Bool)} {t : TypeId}
theorem L.makeMapA (f : Fr n a l) (hw : Region.wanted ⟨some d, .makeMap t none, ty, ps, af, gd⟩ (yielded ops a.tmps) = true) (hn : d < n) (M : MT) [DecidableEq M.K] (P : Program)
    (hK : ∀ a' w' g, IsAss M P w' g [] → Kept [] w w' → w.heap.size ≤ g → Fr n a' ((d, .map (some g)) :: l) → wpList P ops Q rest a' w') : wpList P ops Q (⟨some d, .makeMap t none, ty, ps, af, gd⟩ :: rest) a w :=
  L.val f hw rfl hn (E.makeMap f) fun a' f' => hK a' _ _ (IsAss.made M w P) ⟨rfl, rfl, rfl, by simp, fun i hi _ => (Go.MapKept.heap_alloc w _).2 i hi⟩ (Nat.le_refl _) f'
end
theorem sum_le : ∀ {E : List ((Int × Int) × Int)} {n : Nat}, (∀ p ∈ E, 0 ≤ p.2 ∧ p.2 ≤ (n : Int)) → E.length ≤ n → n ≤ 1000000 → 0 ≤ (E.map (·.2)).sum ∧ (E.map (·.2)).sum ≤ 1000000000000 := by
  have key : ∀ (E : List ((Int × Int) × Int)) (n : Nat), n ≤ 1000000 → (∀ p ∈ E, 0 ≤ p.2 ∧ p.2 ≤ (n : Int)) → 0 ≤ (E.map (·.2)).sum ∧ (E.map (·.2)).sum ≤ 1000000 * (E.length : Int) := by
    intro E n hn
    induction E with
    | nil => intro _; simp
    | cons p r ih =>
      intro h
      have h1 := ih fun q hq => h q (List.mem_cons_of_mem _ hq)
      have h2 := h p List.mem_cons_self
      rw [List.map_cons, List.sum_cons, List.length_cons]
      omega
  intro E n h hl hn
  have := key E n hn h
  omega
theorem sum_in {E : List ((Int × Int) × Int)} {k : Int × Int} {u : Int} (hd : (E.map (·.1)).Nodup) (hm : (k, u) ∈ E) (h0 : ∀ p ∈ E, 0 ≤ p.2) : 0 ≤ u ∧ 0 ≤ ((Go.Hub.strike E k).map (·.2)).sum ∧ (E.map (·.2)).sum = u + ((Go.Hub.strike E k).map (·.2)).sum := by
  have hs : ∀ (r : List ((Int × Int) × Int)), (∀ p ∈ r, 0 ≤ p.2) → 0 ≤ (r.map (·.2)).sum := by
    intro r
    induction r with
    | nil => intro _; simp
    | cons p r ih =>
      intro h
      have h1 := ih fun q hq => h q (List.mem_cons_of_mem _ hq)
      have h2 := h p List.mem_cons_self
      rw [List.map_cons, List.sum_cons]
      omega
  refine ⟨h0 _ hm, hs _ fun p hp => h0 p (List.mem_filter.1 hp).1, ?_⟩
  clear h0
  induction E with
  | nil => cases hm
  | cons p r ih =>
    rw [List.map_cons, List.nodup_cons] at hd
    unfold Go.Hub.strike
    rw [List.filter_cons]
    by_cases e : p.1 = k
    · rw [if_neg (by simp [e])]
      have hr : Go.Hub.strike r k = r := by
        unfold Go.Hub.strike
        rw [List.filter_eq_self]
        intro q hq
        have : q.1 ≠ k := fun c => hd.1 (List.mem_map.2 ⟨q, hq, c.trans e.symm⟩)
        simpa using this
      have hpu : p = (k, u) := by
        rcases List.mem_cons.1 hm with h | h
        · exact h.symm
        exact absurd (List.mem_map.2 ⟨_, h, e.symm⟩) hd.1
      have hr2 : (r.filter fun p => !decide (p.1 = k)) = r := hr
      rw [hr2, hpu, List.map_cons, List.sum_cons]
    rw [if_pos (by simp [e])]
    have hm2 : (k, u) ∈ r := by
      rcases List.mem_cons.1 hm with h | h
      · rw [← h] at e; exact absurd rfl e
      exact h
    have := ih hd.2 hm2
    unfold Go.Hub.strike at this
    rw [List.map_cons, List.sum_cons, List.map_cons, List.sum_cons, this]
    omega
theorem hcr_strike {E : List ((Int × Int) × Int)} (h : ∀ p ∈ E, 0 ≤ p.2) (k : Int × Int) : ∀ p ∈ Go.Hub.strike E k, 0 ≤ p.2 := fun p hp => h p (List.mem_filter.1 hp).1
set_option maxHeartbeats 1000000 in
theorem new_any (B : Nat) (c : Bool) (w : World) (hB : B ≤ w.heap.size) : Calls Try.prog 7 #[.bool c] w (NewPost B c w) := by
 have HK : Kept [] w w := Kept.refl [] w
 refine C.enter Try.func7 rfl Try.ntmps7 rfl ?_
 intro a0 f0
 have f1 : Fr 8 a0 [(0, .bool c)] := f0
 refine C.sk fun K0 hK0 => ?_
 refine L.ag f1 fun a2 f2 => ?_
 have f3 := f2.sub (sc 0 sn)
 refine wpList_nil (hK0 _ _ (C.sk fun K1 hK1 => ?_))
 refine L.mv f3 fun a4 f4 => ?_
 refine L.makeMapA f4 wantedN (by decide) ansM Try.prog fun a5 w1 gI1 I1 ks logI1 f5 => ?_
 have szw1 := ks.size
 have frgI1 : w.heap.size ≤ gI1 := Nat.le_trans HK.size logI1
 replace HK := HK.z ks
 clear f0 f1 a0 f2 f3 a2 ks f4 a4
 refine L.makeMapA f5 wantedN (by decide) outM Try.prog fun a6 w2 gI2 I2 ks logI2 f6 => ?_
 have szw2 := ks.size
 have frgI2 : w.heap.size ≤ gI2 := Nat.le_trans HK.size logI2
 have neI2 : gI1 ≠ gI2 := by have := IsAss.lt I1; omega
 replace HK := HK.z ks
 replace I1 := IsAss.z I1 ks
 clear ks f5 a5
 refine L.va f6 (E.build f6 (parts3 f6 rfl rfl rfl) (wbl53_0_7_8_tp _ _ _)) fun a7 f7 => ?_
 refine L.box f7 wantedN (by decide) rfl rfl fun a8 w3 g2 N2 f8 => ?_
 have Bg2 := N2.blk
 have kg2 := N2.kept
 have log2 := N2.lo
 have ltg2 := Bg2.lt
 have szw3 := kg2.size
 have frg2 : w.heap.size ≤ g2 := Nat.le_trans HK.size log2
 replace HK := HK.z kg2
 replace I1 := IsAss.z I1 kg2
 replace I2 := IsAss.z I2 kg2
 clear f6 a6 N2 kg2
 refine L.ag f8 fun a9 f9 => ?_
 have f10 := f9.sub (sc 2 sn)
 refine wpList_nil (hK1 _ _ (wp_ret ?_)); (try simp only [xt, xb]); refine C.ret f10 rfl rfl ?_
 have ltb := Bg2.lt
 exact ⟨g2, TrM.new gI1 gI2, rfl, new_in hB frgI1 frgI2 frg2 neI2 Bg2 I1 I2, rfl, HK⟩
set_option maxHeartbeats 1000000 in
theorem owed_any (B g : Nat) (t : Tr) (m : TrM) (w : World) (T : TrIn B w g t m) (hn : m.n ≤ 1000000) : Calls Try.prog 16 #[.pointer (some ⟨g, 0, none⟩)] w (fun e w' => Kept [] w w' ∧ e = .returned (.int .i64 t.owedI)) := by
 have HK : Kept [] w w := Kept.refl [] w
 have hl1 := T.len.2.1
 have hl2 := T.len.2.2.1
 have hl3 := T.len.2.2.2.1
 have hcn := T.len.2.2.2.2.2
 have hS := sum_le hcn hl3 hn
 have hO : t.owedI ≤ 1000002000000 := by unfold Tr.owedI; rw [T.e2, T.e3, List.length_map, List.length_map]; omega
 have hcr0 : ∀ p ∈ t.owed, 0 ≤ p.2 := fun p hp => (hcn p hp).1
 refine C.enter Try.func16 rfl Try.ntmps16 rfl ?_
 intro a0 f0
 have f1 : Fr 30 a0 [(0, .pointer (some ⟨g, 0, none⟩))] := f0
 refine C.sk fun K0 hK0 => ?_
 refine L.ag f1 fun a2 f2 => ?_
 refine wpList_nil (hK0 _ _ ?_)
 have f3 := f2.sub (sc 0 sn)
 refine wp_seq_k fun K1 hK1 => ?_
 have hd1 : Kept [] w (w.drewN 1) := (Kept.refl _ _).drewN 1
 refine R.beginT (S := fun W => (Kept [] w W)) (by kernel_rfl) (by kernel_rfl) (HK.z hd1) fun ht => ?_
 obtain ⟨w1, hww1⟩ : ∃ W, W = w.drewN 1 := ⟨_, rfl⟩
 rw [← hww1] at hd1 ⊢
 clear f0 f1 a0 f2 hww1
 have szw1 := hd1.size
 replace HK := HK.z hd1
 clear hd1
 refine R.u 0 f3 rfl ht HK (fun W hW => (E.move f3 rfl)) fun a4 f4 => ?_
 refine R.u 1 f4 rfl ht HK (fun W hW => (E.nilCheck f4 rfl)) fun a5 f5 => ?_
 refine R.u 2 f5 rfl ht HK (fun W hW => (E.fa 28 f5 U53 rfl wsz51_tp)) fun a6 f6 => ?_
 refine R.u 3 f6 rfl ht HK (fun W hW => (E.load f6 U51 rfl rfl ((T.kept0 hW).bt.cl rfl))) fun a7 f7 => ?_
 refine R.u 4 f7 rfl ht HK (fun W hW => (E.lenL f7 U51 rfl)) fun a8 f8 => ?_
 refine R.u 5 f8 rfl ht HK (fun W hW => (E.move f8 rfl)) fun a9 f9 => ?_
 refine R.u 6 f9 rfl ht HK (fun W hW => (E.nilCheck f9 rfl)) fun a10 f10 => ?_
 clear f3 a2 f4 a4 f5 a5 f6 a6 f7 a7 f8 a8 f9 a9
 refine R.u 7 f10 rfl ht HK (fun W hW => (E.fa 29 f10 U53 rfl wsz51_tp)) fun a11 f11 => ?_
 refine R.u 8 f11 rfl ht HK (fun W hW => (E.load f11 U51 rfl rfl ((T.kept0 hW).bt.cl rfl))) fun a12 f12 => ?_
 refine R.u 9 f12 rfl ht HK (fun W hW => (E.lenL f12 U51 rfl)) fun a13 f13 => ?_
 refine R.u 10 f13 rfl ht HK (fun W hW => (E.add f13 rfl rfl (IntWalk.i64_in _ (by omega)))) fun a14 f14 => ?_
 refine R.u 11 f14 rfl ht HK (fun W hW => (E.assign f14 rfl)) fun a15 f15 => ?_
 refine R.done (by kernel_rfl) (hK1 _ _ ?_)
 have f16 := f15.sub (sc 0 (sc 3 sn))
 refine wp_seq_k fun K2 hK2 => ?_
 refine C.sk fun K3 hK3 => ?_
 refine L.mv f16 fun a17 f17 => ?_
 refine L.va f17 (E.nilCheck f17 rfl) fun a18 f18 => ?_
 clear f10 a10 f11 a11 f12 a12 f13 a13 f14 a14 f15 f16 a15 f17 a17
 refine L.fa 30 f18 U53 rfl wsz49_tp fun a19 f19 => ?_
 refine L.va f19 (E.load f19 Try.underlying49 rfl rfl ((T.kept0 HK).bt.cl rfl)) fun a20 f20 => ?_
 refine L.rangeA f20 wantedN (by decide) (T.kept0 HK).mo ansOk Try.underlying49 rfl fun a21 w2 r IN ks lor f21 => ?_
 have szw2 := ks.size
 have frr : w.heap.size ≤ r := Nat.le_trans HK.size lor
 replace HK := HK.z ks
 clear f18 a18 f19 a19 ks f20 a20
 refine wpList_nil (hK3 _ _ ?_)
 have f22 := f21.sub (sc 3 (sc 21 sn))
 refine wp_block ?_
 clear f21
 refine C.loop (fun gk a W => ∃ (Rm : List ((Int × Int) × Int)) (c : Nat) (acc : Int), c ≤ gk ∧ Kept [] w W ∧ InRange ansM Try.prog W m.mo r t.owed Rm c ∧ (∀ p ∈ Rm, 0 ≤ p.2) ∧ 0 ≤ acc ∧ acc + (Rm.map (·.2)).sum = t.owedI ∧ Fr 30 a [(3, .int .i64 acc), (21, .pointer (some ⟨r, 0, none⟩))]) (t.owed.length) ?_ ?_
 ·exact ⟨t.owed, t.owed.length, _, Nat.le_refl _, HK, IN, hcr0, by omega, by unfold Tr.owedI; rw [T.e2, T.e3, List.length_map, List.length_map], f22.sub (sr rfl (sr rfl sn))⟩
 intro gk5 a23 w3 hI KL4 hKL4
 obtain ⟨Rm, c, acc, hcg, HK, IN, hcr, ha0, hsum, f23⟩ := hI
 try clear f22
 refine C.sk fun K5 hK5 => ?_
 refine L.nextA f23 wantedN (by decide) IN ansOk ansKv rfl ?_ ?_
 ·skip
  intro hR a24 f24
  subst hR
  refine L.va f24 (E.extract f24 rfl rfl) fun a25 f25 => ?_
  refine wpList_nil (hK5 _ _ ?_)
  have f26 := f25.sub (sc 3 (sc 21 (sc 23 sn)))
  refine wp_seq_k fun K6 hK6 => ?_
  refine C.condF f26 rfl ?_
  refine wp_exit (hK2 _ _ ?_)
  have f27 := f26.sub (sc 3 sn)
  refine C.sk fun K7 hK7 => ?_
  refine L.mv f27 fun a28 f28 => ?_
  refine L.ag f28 fun a29 f29 => ?_
  have f30 := f29.sub (sc 2 sn)
  refine wpList_nil (hK7 _ _ (wp_ret ?_)); (try simp only [xt, xb]); refine C.ret f30 rfl rfl ?_
  have e0 : acc = t.owedI := by rw [← hsum]; exact (Int.add_zero acc).symm
  exact ⟨HK, by rw [e0]⟩
 skip
 intro key u a24 w4 c2 hm IN2 hc2 kn hent f24
 have hb := sum_in IN.2.1 hm hcr
 have hcr2 := hcr_strike hcr key
 have HK2 := HK.trans kn (fun x hx hlt => by obtain rfl := List.mem_singleton.1 hx; exfalso; omega)
 clear IN HK
 have HK := HK2
 have IN : InRange ansM Try.prog w4 m.mo r t.owed (Go.Hub.strike Rm key : List ((Int × Int) × Int)) c2 := IN2
 clear HK2 IN2 kn
 have hent2 : (Instr.entry (.pointer (some ⟨r, 0, none⟩))).run Try.prog w4 = .ok (.tuple #[.agg #[.int .i64 key.1, .int .i64 key.2], .int .i64 u]) w4 := hent
 clear hent
 refine L.va f24 (E.extract f24 rfl rfl) fun a25 f25 => ?_
 refine wpList_nil (hK5 _ _ ?_)
 have f26 := f25.sub (sc 3 (sc 21 (sc 23 sn)))
 refine wp_seq_k fun K8 hK8 => ?_
 refine C.condT f26 rfl ?_
 refine wp_skip (hK8 _ _ ?_)
 have f27 := f26.sub (sc 3 (sc 21 sn))
 refine wp_block ?_
 refine C.sk fun K9 hK9 => ?_
 refine L.va f27 (E.entryA f27 hent2 rfl) fun a28 f28 => ?_
 refine L.va f28 (E.extract f28 rfl rfl) fun a29 f29 => ?_
 refine L.ag f29 fun a30 f30 => ?_
 refine wpList_nil (hK9 _ _ ?_)
 have f31 := f30.sub (sc 3 (sc 5 (sc 21 sn)))
 refine C.region ?_
 refine L.mv f31 fun a32 f32 => ?_
 refine L.mv f32 fun a33 f33 => ?_
 clear f23 f24 f25 f26 f27 a25 f28 a28 f29 a29 f30 f31 a30 f32 a32
 refine L.va f33 (E.add f33 rfl rfl (IntWalk.i64_in _ (by omega))) fun a34 f34 => ?_
 refine L.ag f34 fun a35 f35 => ?_
 clear f33 a33 f34 a34
 refine wpList_nil (hKL4 _ _ (c2) ?_ ?_)
 ·omega
 exact ⟨(Go.Hub.strike Rm key : List ((Int × Int) × Int)), c2, _, Nat.le_refl _, HK, IN, hcr2, by omega, by rw [hb.2.2] at hsum; omega, f35.sub (sr rfl (sr rfl sn))⟩
end Go.Proofs.Ytkdeedhjkjffpaa
namespace Go.Proofs.Ytkdeedhjkjffpaa
open Go.RowKit Go.Hub Go.Lib Go.WideShapes Go.ChangeMaps
theorem wbl34_0_tq (x0 : Int) : Try.prog.built 34 [(0, .int .i64 x0)] = some #[.int .i64 x0, (.bool false), (.bool false), (.int .i64 0), (.int .i64 0), (.string ⟨#[]⟩), (.slice none 0 0), (.int .i64 0), (.string ⟨#[]⟩), (.bool false), (.int .i64 0), (.bool false), (.string ⟨#[]⟩), (.slice none 0 0), (.int .i64 0), (.bool false), (.bool false), (.bool false), (.string ⟨#[]⟩), (.slice none 0 0), (.bool false), (.int .i64 0), (.slice none 0 0), (.slice none 0 0)] := by kernel_rfl
theorem wbl34_0_7_8_9_tq (x0 : Int) (x1 : Int) (x2 : ByteArray) (x3 : Bool) : Try.prog.built 34 [(0, .int .i64 x0), (7, .int .i64 x1), (8, .string x2), (9, .bool x3)] = some #[.int .i64 x0, (.bool false), (.bool false), (.int .i64 0), (.int .i64 0), (.string ⟨#[]⟩), (.slice none 0 0), .int .i64 x1, .string x2, .bool x3, (.int .i64 0), (.bool false), (.string ⟨#[]⟩), (.slice none 0 0), (.int .i64 0), (.bool false), (.bool false), (.bool false), (.string ⟨#[]⟩), (.slice none 0 0), (.bool false), (.int .i64 0), (.slice none 0 0), (.slice none 0 0)] := by kernel_rfl
theorem flat_o (W : World) (p : Pk) (h : p.pay = [] ∧ p.wp = [] ∧ p.pass = [] ∧ p.subs.length = 0 ∧ p.codes = []) : PkO W p s0 := by
  obtain ⟨h1, h2, h3, h4, h5⟩ := h
  have h4 := List.eq_nil_of_length_eq_zero h4
  exact ⟨by rw [h1]; exact Bs.nil _ _ _ _, by rw [h2]; exact Bs.nil _ _ _ _, by rw [h3]; exact Bs.nil _ _ _ _, by rw [h4]; exact Own.nil _ _ _, by rw [h5]; exact Own.nil _ _ _⟩
set_option maxHeartbeats 1000000 in
theorem known_any (w : World) : Calls Try.prog 6 #[] w (fun e w' => Kept [] w w' ∧ e = .returned (.bool true)) := by
 have HK : Kept [] w w := Kept.refl [] w
 refine C.enter Try.func6 rfl Try.ntmps6 rfl ?_
 intro a0 f0
 have f1 : Fr 44 a0 [] := f0
 refine C.sk fun K0 hK0 => ?_
 refine L.ag f1 fun a2 f2 => ?_
 have f3 := f2.sub sn
 refine wpList_nil (hK0 _ _ (C.sk fun K1 hK1 => ?_))
 refine L.cl f3 (run_call Try.call7 (args1 f3 rfl)) (new_any w.heap.size false _ HK.size) ?_
 clear f0 f1 a0 f2
 rintro e w1 ⟨g, m0, rfl, T, up0, kc1⟩
 refine ⟨_, rfl, fun a4 f4 => ?_⟩
 have szw1 := kc1.size
 replace HK := HK.z kc1
 clear f3 a2 kc1
 refine L.ag f4 fun a5 f5 => ?_
 refine wpList_nil (hK1 _ _ ?_)
 have f6 := f5.sub (sc 1 sn)
 refine wp_seq_k fun K2 hK2 => ?_
 refine C.sk fun K3 hK3 => ?_
 refine L.mv f6 fun a7 f7 => ?_
 refine L.va f7 (E.eqlP f7 Try.underlying24 rfl rfl) fun a8 f8 => ?_
 have f9 := f8.as (i := 6) (v' := .bool false) rfl (by rfl)
 refine L.mv f9 fun a10 f10 => ?_
 refine L.mv f10 (hw := (f10.yes rfl rfl)) fun a11 f11 => ?_
 refine L.va f11 (E.build f11 (parts1 f11 rfl) (wbl34_0_tq _)) (hw := (f11.yes rfl rfl)) fun a12 f12 => ?_
 clear f4 a4 f5 f6 a5 f7 a7 f8 f9 a8 f10 a10 f11 a11
 refine L.cl f12 (run_call Try.call14 (args2 f12 rfl rfl)) (out_any ({ kind := 2 } : Pk) s0 (by decide) w.heap.size g (Tr.new false) m0 _ T (by omega) (PkO.ok (flat_o _ _ (by decide))) (by constructor <;> decide)) ?_ (hw := (f12.yes rfl rfl))
 rintro e w2 ⟨rfl, m1, T1, up1, kc2, nw1⟩
 have lo0 := T.lo
 refine ⟨_, rfl, fun a13 f13 => ?_⟩
 have szw2 := kc2.size
 replace HK := HK.trans kc2 (fun x hx hlt => by have := lo0 x hx; omega)
 clear f12 a12 kc2
 have T := T1
 clear T1
 have f14 := f13.as (i := 10) (v' := .bool false) rfl (by kernel_rfl)
 refine L.va f14 (E.pickF f14 rfl rfl) fun a15 f15 => ?_
 refine wpList_nil (hK3 _ _ ?_)
 have f16 := f15.sub (sc 1 (sc 11 sn))
 refine C.condF f16 rfl ?_
 refine wp_skip (hK2 _ _ ?_)
 have f17 := f16.sub (sc 1 sn)
 refine C.sk fun K4 hK4 => ?_
 refine L.mv f17 fun a18 f18 => ?_
 refine L.va f18 (E.build f18 (parts4 f18 rfl rfl rfl rfl) (wbl34_0_7_8_9_tq _ _ _ _)) fun a19 f19 => ?_
 refine L.cl f19 (run_call Try.call12 (args2 f19 rfl rfl)) (in_any ({ kind := 1, level := 4, client := ⟨#[107]⟩, clean := true } : Pk) s0 (by decide) w.heap.size g (((Tr.new false).outT ({ kind := 2 } : Pk)).2) m1 _ T (by omega) (PkO.ok (flat_o _ _ (by decide))) (by constructor <;> decide)) ?_
 clear f13 f14 a13 f15 f16 f17 a15 f18 a18
 rintro e w3 ⟨rfl, m2, T2, up2, kc3, nw2⟩
 have lo0 := T.lo
 refine ⟨_, rfl, fun a20 f20 => ?_⟩
 have szw3 := kc3.size
 replace HK := HK.trans kc3 (fun x hx hlt => by have := lo0 x hx; omega)
 clear f19 a19 kc3
 have T := T2
 clear T2
 have f21 := f20.sub (sc 1 sn)
 refine wpList_nil (hK4 _ _ (C.sk fun K5 hK5 => ?_))
 refine L.mv f21 fun a22 f22 => ?_
 refine L.va f22 (E.build f22 (parts1 f22 rfl) (wbl34_0_tq _)) fun a23 f23 => ?_
 refine L.cl f23 (run_call Try.call14 (args2 f23 rfl rfl)) (out_any ({ kind := 2 } : Pk) s0 (by decide) w.heap.size g ((((Tr.new false).outT ({ kind := 2 } : Pk)).2).inT ({ kind := 1, level := 4, client := ⟨#[107]⟩, clean := true } : Pk)) m2 _ T (by omega) (PkO.ok (flat_o _ _ (by decide))) (by constructor <;> decide)) ?_
 clear f20 f21 a20 f22 a22
 rintro e w4 ⟨rfl, m3, T3, up3, kc4, nw3⟩
 have lo0 := T.lo
 refine ⟨_, rfl, fun a24 f24 => ?_⟩
 have szw4 := kc4.size
 replace HK := HK.trans kc4 (fun x hx hlt => by have := lo0 x hx; omega)
 clear f23 a23 kc4
 have T := T3
 clear T3
 have f25 := f24.as (i := 17) (v' := .bool true) rfl (by kernel_rfl)
 refine L.ag f25 fun a26 f26 => ?_
 have f27 := f26.sub (sc 1 (sc 2 sn))
 refine wpList_nil (hK5 _ _ (C.sk fun K6 hK6 => ?_))
 refine L.mv f27 fun a28 f28 => ?_
 refine L.va f28 (E.build f28 (parts1 f28 rfl) (wbl34_0_tq _)) fun a29 f29 => ?_
 refine L.cl f29 (run_call Try.call12 (args2 f29 rfl rfl)) (in_any ({ kind := 12 } : Pk) s0 (by decide) w.heap.size g ((((((Tr.new false).outT ({ kind := 2 } : Pk)).2).inT ({ kind := 1, level := 4, client := ⟨#[107]⟩, clean := true } : Pk)).outT ({ kind := 2 } : Pk)).2) m3 _ T (by omega) (PkO.ok (flat_o _ _ (by decide))) (by constructor <;> decide)) ?_
 clear f24 f25 a24 f26 f27 a26 f28 a28
 rintro e w5 ⟨rfl, m4, T4, up4, kc5, nw4⟩
 have lo0 := T.lo
 refine ⟨_, rfl, fun a30 f30 => ?_⟩
 have szw5 := kc5.size
 replace HK := HK.trans kc5 (fun x hx hlt => by have := lo0 x hx; omega)
 clear f29 a29 kc5
 have T := T4
 clear T4
 have f31 := f30.sub (sc 1 (sc 2 sn))
 refine wpList_nil (hK6 _ _ (C.sk fun K7 hK7 => ?_))
 refine L.mv f31 fun a32 f32 => ?_
 refine L.cl f32 (run_call Try.call16 (args1 f32 rfl)) (owed_any _ g (((((((Tr.new false).outT ({ kind := 2 } : Pk)).2).inT ({ kind := 1, level := 4, client := ⟨#[107]⟩, clean := true } : Pk)).outT ({ kind := 2 } : Pk)).2).inT ({ kind := 12 } : Pk)) m4 _ T (by omega)) ?_
 clear f30 f31 a30
 rintro e w6 ⟨kc6, rfl⟩
 refine ⟨_, rfl, fun a33 f33 => ?_⟩
 have szw6 := kc6.size
 replace HK := HK.z kc6
 replace T := T.kept0 kc6
 clear f32 a32 kc6
 refine L.ag f33 fun a34 f34 => ?_
 have f35 := f34.sub (sc 1 (sc 2 (sc 3 sn)))
 refine wpList_nil (hK7 _ _ (C.sk fun K8 hK8 => ?_))
 refine L.mv f35 fun a36 f36 => ?_
 refine L.mv f36 fun a37 f37 => ?_
 refine L.mv f37 (hw := (f37.yes rfl rfl)) fun a38 f38 => ?_
 refine L.va f38 (E.eq f38) (hw := (f38.yes rfl rfl)) fun a39 f39 => ?_
 have f40 := f39.as (i := 26) (v' := .bool true) rfl (by kernel_rfl)
 refine L.va f40 (E.pickT f40 rfl rfl) fun a41 f41 => ?_
 clear f33 a33 f34 f35 a34 f36 a36 f37 a37 f38 a38 f39 f40 a39
 refine L.mv f41 fun a42 f42 => ?_
 refine L.mv f42 (hw := (f42.yes rfl rfl)) fun a43 f43 => ?_
 refine L.va f43 (E.build f43 (parts1 f43 rfl) (wbl34_0_tq _)) (hw := (f43.yes rfl rfl)) fun a44 f44 => ?_
 refine L.cl f44 (run_call Try.call14 (args2 f44 rfl rfl)) (out_any ({ kind := 13 } : Pk) s0 (by decide) w.heap.size g (((((((Tr.new false).outT ({ kind := 2 } : Pk)).2).inT ({ kind := 1, level := 4, client := ⟨#[107]⟩, clean := true } : Pk)).outT ({ kind := 2 } : Pk)).2).inT ({ kind := 12 } : Pk)) m4 _ T (by omega) (PkO.ok (flat_o _ _ (by decide))) (by constructor <;> decide)) ?_ (hw := (f44.yes rfl rfl))
 clear f41 a41 f42 a42 f43 a43
 rintro e w7 ⟨rfl, m5, T5, up5, kc7, nw5⟩
 have lo0 := T.lo
 refine ⟨_, rfl, fun a45 f45 => ?_⟩
 have szw7 := kc7.size
 replace HK := HK.trans kc7 (fun x hx hlt => by have := lo0 x hx; omega)
 clear f44 a44 kc7
 have T := T5
 clear T5
 have f46 := f45.as (i := 31) (v' := .bool true) rfl (by kernel_rfl)
 refine L.va f46 (E.pickT f46 rfl rfl) fun a47 f47 => ?_
 refine L.mv f47 fun a48 f48 => ?_
 refine L.mv f48 (hw := (f48.yes rfl rfl)) fun a49 f49 => ?_
 refine L.va f49 (E.build f49 (parts1 f49 rfl) (wbl34_0_tq _)) (hw := (f49.yes rfl rfl)) fun a50 f50 => ?_
 refine L.cl f50 (run_call Try.call14 (args2 f50 rfl rfl)) (out_any ({ kind := 13 } : Pk) s0 (by decide) w.heap.size g (((((((((Tr.new false).outT ({ kind := 2 } : Pk)).2).inT ({ kind := 1, level := 4, client := ⟨#[107]⟩, clean := true } : Pk)).outT ({ kind := 2 } : Pk)).2).inT ({ kind := 12 } : Pk)).outT ({ kind := 13 } : Pk)).2) m5 _ T (by omega) (PkO.ok (flat_o _ _ (by decide))) (by constructor <;> decide)) ?_ (hw := (f50.yes rfl rfl))
 clear f45 f46 a45 f47 a47 f48 a48 f49 a49
 rintro e w8 ⟨rfl, m6, T6, up6, kc8, nw6⟩
 have lo0 := T.lo
 refine ⟨_, rfl, fun a51 f51 => ?_⟩
 have szw8 := kc8.size
 replace HK := HK.trans kc8 (fun x hx hlt => by have := lo0 x hx; omega)
 clear f50 a50 kc8
 have T := T6
 clear T6
 have f52 := f51.as (i := 36) (v' := .bool false) rfl (by kernel_rfl)
 refine L.va f52 (E.not f52 rfl) (hw := (f52.yes rfl rfl)) fun a53 f53 => ?_
 refine L.va f53 (E.pickT f53 rfl rfl) fun a54 f54 => ?_
 refine L.mv f54 fun a55 f55 => ?_
 refine L.mv f55 (hw := (f55.yes rfl rfl)) fun a56 f56 => ?_
 refine L.cl f56 (run_call Try.call16 (args1 f56 rfl)) (owed_any _ g (((((((((((Tr.new false).outT ({ kind := 2 } : Pk)).2).inT ({ kind := 1, level := 4, client := ⟨#[107]⟩, clean := true } : Pk)).outT ({ kind := 2 } : Pk)).2).inT ({ kind := 12 } : Pk)).outT ({ kind := 13 } : Pk)).2).outT ({ kind := 13 } : Pk)).2) m6 _ T (by omega)) ?_ (hw := (f56.yes rfl rfl))
 clear f51 f52 a51 f53 a53 f54 a54 f55 a55
 rintro e w9 ⟨kc9, rfl⟩
 refine ⟨_, rfl, fun a57 f57 => ?_⟩
 have szw9 := kc9.size
 replace HK := HK.z kc9
 replace T := T.kept0 kc9
 clear f56 a56 kc9
 refine L.va f57 (E.eq f57) (hw := (f57.yes rfl rfl)) fun a58 f58 => ?_
 have f59 := f58.as (i := 42) (v' := .bool true) rfl (by kernel_rfl)
 refine L.va f59 (E.pickT f59 rfl rfl) fun a60 f60 => ?_
 refine L.ag f60 fun a61 f61 => ?_
 have f62 := f61.sub (sc 0 sn)
 refine wpList_nil (hK8 _ _ (wp_ret ?_)); (try simp only [xt, xb]); refine C.ret f62 rfl rfl ?_
 exact ⟨HK, rfl⟩
end Go.Proofs.Ytkdeedhjkjffpaa
namespace Go.Proofs.Ytkdeedhjkjffpaa
open Go.RowKit Go.Hub Go.WideShapes Go.ChangeMaps
open Go.Maps (Keyed)
def setM : MT := { k := 3, e := 4, K := Int, V := Bool, dom := fun x => (Lit.int .i64 x).wf = true, kv := fun x => .int .i64 x, kl := fun x => .int .i64 x, ev := fun b => .bool b }
instance : DecidableEq setM.K := inferInstanceAs (DecidableEq Int)
theorem setOk : setM.Ok Try.prog := ⟨Go.Maps.int_keyed U3, fun x hx => Maps.keyOf_int_mk U3 hx, fun x y _ _ h => by injection h⟩
theorem zero4 : ∀ w, (zeroValue 4).run Try.prog w = .ok (.bool false) w := fun w => by kernel_rfl
structure Rt where
  clean : Bool
  connect : Bool
  acked : Bool
  over : Bool
  owed : List Pk
  out : List Pk
  recd : List (Int × Bool)
  gone : List (Int × Bool)
  present : Bool
  wish : Bool
def Rt.new (c : Bool) : Rt := ⟨c, false, false, false, [], [], [], [], false, false⟩
def isM (l : List (Int × Bool)) (i : Int) : Bool := (lk l i).getD false
def setL (l : List (Int × Bool)) (i : Int) : List (Int × Bool) := (i, true) :: strike l i
def atL (i : Int) : List Pk → Option Nat
  | [] => none
  | o :: r => if o.id = i then some 0 else (atL i r).map (· + 1)
def atI (i : Int) (L : List Pk) : Int := match atL i L with | none => -1 | some k => (k : Int)
theorem atI_some {i : Int} {L : List Pk} {k : Nat} (h : atL i L = some k) : atI i L = (k : Int) := by unfold atI; rw [h]
theorem atI_none {i : Int} {L : List Pk} (h : atL i L = none) : atI i L = -1 := by unfold atI; rw [h]
def payL (k q i : Int) : List Pk → Option (List Pk)
  | [] => none
  | o :: r => if o.kind ≠ k ∨ (k = 3 ∧ o.qos ≠ q) then (payL k q i r).map (o :: ·) else if o.id = i then some r else if k = 8 ∨ k = 10 then none else (payL k q i r).map (o :: ·)
def firstL (k : Int) : List Pk → Option Pk
  | [] => none
  | o :: r => if o.kind = k then some o else firstL k r
def Rt.ackR (r : Rt) (p : Pk) : Rt :=
  match atL p.id r.out with
  | none => r
  | some i => match r.out[i]? with
    | none => r
    | some o => if p.kind = 5 ∧ o.qos = 2 then { r with recd := setL r.recd p.id }
      else if (p.kind = 4 ∧ o.qos = 1) ∨ ((p.kind = 7 ∧ o.qos = 2) ∧ isM r.gone p.id = true) then { r with out := r.out.take i ++ r.out.drop (i + 1), recd := strike r.recd p.id, gone := strike r.gone p.id }
      else r
def Rt.inR (r : Rt) (p : Pk) : Rt :=
  if r.over = true ∨ (r.connect = false ∧ p.kind ≠ 1) then r
  else if p.kind = 1 then (if r.connect = false then { r with connect := true, wish := p.clean } else r)
  else if p.kind = 14 then { r with over := true }
  else if p.kind = 3 then (if 0 < p.qos then { r with owed := r.owed ++ [p] } else r)
  else if p.kind = 8 ∨ p.kind = 10 ∨ p.kind = 6 ∨ p.kind = 12 then { r with owed := r.owed ++ [p] }
  else if p.kind = 4 ∨ p.kind = 5 ∨ p.kind = 7 then r.ackR p else r
def Rt.payR (r : Rt) (k q i : Int) : Bool × Rt := match payL k q i r.owed with | none => (false, r) | some l => (true, { r with owed := l })
def Rt.conR (r : Rt) (p : Pk) : Bool × Rt :=
  if r.connect = false ∨ r.acked = true ∨ r.present = true ∨ (p.present = true ∧ (r.clean = true ∨ r.wish = true)) then (false, r)
  else (true, { r with acked := decide (p.code = 0), present := true, wish := !p.present })
def Rt.pubR (r : Rt) (p : Pk) : Bool × Rt :=
  if p.qos = 0 then (true, r) else match atL p.id r.out with
  | none => (true, { r with out := r.out ++ [p] })
  | some i => match r.out[i]? with
    | none => (true, r)
    | some o => (p.dup && !isM r.recd p.id && decide (o.topic = p.topic) && decide (o.pay = p.pay) && decide (o.qos = p.qos), r)
def relP (i : Int) : Pk := { kind := 3, qos := 2, id := i }
def Rt.relR (r : Rt) (p : Pk) : Bool × Rt :=
  match atL p.id r.out with
  | none => if r.wish = false then (true, { r with out := r.out ++ [relP p.id], recd := setL r.recd p.id, gone := setL r.gone p.id }) else (false, r)
  | some i => match r.out[i]? with
    | none => (false, r)
    | some o => if o.qos ≠ 2 ∨ isM r.recd p.id = false then (false, r) else (true, { r with gone := setL r.gone p.id })
def Rt.subR (r : Rt) (p : Pk) : Bool × Rt :=
  match firstL 8 r.owed with
  | none => (false, r)
  | some q => if q.id ≠ p.id ∨ q.subs.length ≠ p.codes.length ∨ codesB q.subs p.codes = false then (false, r) else r.payR 8 0 p.id
def Rt.outR (r : Rt) (p : Pk) : Bool × Rt :=
  if p.kind = 2 then r.conR p else if r.acked = false then (false, r)
  else if p.kind = 9 then r.subR p else if p.kind = 11 then r.payR 10 0 p.id else if p.kind = 4 then r.payR 3 1 p.id else if p.kind = 5 then r.payR 3 2 p.id
  else if p.kind = 7 then r.payR 6 0 p.id else if p.kind = 13 then r.payR 12 0 0 else if p.kind = 3 then r.pubR p else if p.kind = 6 then r.relR p else (false, r)
structure RtM where
  owed : List (Pk × Ad)
  out : List (Pk × Ad)
  Ao : Option Addr
  Aq : Option Addr
  co : Nat
  cq : Nat
  mr : Nat
  mg : Nat
  n : Nat
def rtCells (r : Rt) (no nq : Nat) (Ao Aq : Option Addr) (co cq mr mg : Nat) : Array Value := #[.bool r.clean, .bool r.connect, .bool r.acked, .bool r.over, .slice Ao no co, .slice Aq nq cq, .map (some mr), .map (some mg), .bool r.present, .bool r.wish]
abbrev rtL (r : Rt) (m : RtM) : Array Value := rtCells r m.owed.length m.out.length m.Ao m.Aq m.co m.cq m.mr m.mg
def RtM.fp (m : RtM) (g : Nat) : List Nat := g :: m.mr :: m.mg :: (bk m.Ao ++ bk m.Aq)
def PksS (B : Nat) (w : World) (l : List (Pk × Ad)) : Prop := ∀ x ∈ l, PkS B w x.1 x.2 ∧ x.1.Len
structure RtIn (B : Nat) (w : World) (g : Nat) (r : Rt) (m : RtM) : Prop where
  e1 : r.owed = m.owed.map (·.1)
  e2 : r.out = m.out.map (·.1)
  bt : Blk w g 56 (rtCells r m.owed.length m.out.length m.Ao m.Aq m.co m.cq m.mr m.mg)
  ro : Row w m.Ao m.co m.owed
  rq : Row w m.Aq m.cq m.out
  mr : IsAss setM Try.prog w m.mr r.recd
  mg : IsAss setM Try.prog w m.mg r.gone
  nof : m.mr ≠ m.mg
  oq : Apart m.Ao m.Aq
  lo : ∀ x ∈ m.fp g, B ≤ x
  ps : PksS B w m.owed
  pq : PksS B w m.out
  len : m.owed.length ≤ m.n ∧ m.out.length ≤ m.n ∧ r.recd.length ≤ m.n ∧ r.gone.length ≤ m.n
def RtPost (B g : Nat) (m : RtM) (w : World) (r' : Rt) (v : Value) (e : Ending) (w' : World) : Prop :=
  e = .returned v ∧ ∃ m', RtIn B w' g r' m' ∧ m'.n ≤ m.n + 1 ∧ Kept (m.fp g) w w' ∧ ∀ x ∈ m'.fp g, x ∈ m.fp g ∨ w.heap.size ≤ x
section
variable {w W : World} {L : List Nat} {l r' : List (Pk × Ad)} {B g x t : Nat} {m : RtM} {r : Rt}
theorem PksS.keptT (h : PksS B w l) (hk : Kept L w W) (hL : NoPk w L) (hB : ∀ y ∈ L, B ≤ y) : PksS B W l := fun x hx => ⟨(h x hx).1.keptT hk hL hB, (h x hx).2⟩
theorem PksS.kept0 (h : PksS B w l) (hk : Kept [] w W) : PksS B W l := h.keptT hk (NoPk.nil _) (by simp)
theorem PksS.app (h : PksS B w l) (h' : PksS B w r') : PksS B w (l ++ r') := fun x hx => by
  rcases List.mem_append.1 hx with hx | hx
  · exact h x hx
  exact h' x hx
theorem PksS.one {p : Pk} {s : Ad} (h : PkS B w p s) (hl : p.Len) : PksS B w [(p, s)] := fun x hx => by
  obtain rfl := List.mem_singleton.1 hx
  exact ⟨h, hl⟩
theorem PksS.sub {l' : List (Pk × Ad)} (h : PksS B w l) (hs : ∀ x ∈ l', x ∈ l) : PksS B w l' := fun x hx => h x (hs x hx)
theorem rp_g : g ∈ m.fp g := by simp [RtM.fp]
theorem rp_r : m.mr ∈ m.fp g := by simp [RtM.fp]
theorem rp_m : m.mg ∈ m.fp g := by simp [RtM.fp]
theorem rp_mem {x : Nat} : x ∈ m.fp g ↔ x = g ∨ x = m.mr ∨ x = m.mg ∨ m.Ao.map (·.block) = some x ∨ m.Aq.map (·.block) = some x := by
  unfold RtM.fp
  simp [bk_mem]
theorem rp_ownO {x l c : Nat} (h : (Value.slice m.Ao l c).ownBlock = some x) : x ∈ m.fp g := rp_mem.2 (.inr (.inr (.inr (.inl ((own_block _ _ _ _).1 h)))))
theorem rp_ownQ {x l c : Nat} (h : (Value.slice m.Aq l c).ownBlock = some x) : x ∈ m.fp g := rp_mem.2 (.inr (.inr (.inr (.inr ((own_block _ _ _ _).1 h)))))
theorem rpO {A' : Option Addr} {l : List (Pk × Ad)} {n c k : Nat} (hw : ∀ b, A'.map (·.block) = some b → m.Ao.map (·.block) = some b ∨ n ≤ b) : ∀ x ∈ ({ m with owed := l, Ao := A', co := c, n := k } : RtM).fp g, x ∈ m.fp g ∨ n ≤ x := fun x hx => by
  rcases rp_mem.1 hx with h | h | h | h | h
  · exact .inl (rp_mem.2 (.inl h))
  · exact .inl (rp_mem.2 (.inr (.inl h)))
  · exact .inl (rp_mem.2 (.inr (.inr (.inl h))))
  · exact (hw x h).imp (fun h => rp_mem.2 (.inr (.inr (.inr (.inl h))))) id
  exact .inl (rp_mem.2 (.inr (.inr (.inr (.inr h)))))
theorem rpQ {A' : Option Addr} {l : List (Pk × Ad)} {n c k : Nat} (hw : ∀ b, A'.map (·.block) = some b → m.Aq.map (·.block) = some b ∨ n ≤ b) : ∀ x ∈ ({ m with out := l, Aq := A', cq := c, n := k } : RtM).fp g, x ∈ m.fp g ∨ n ≤ x := fun x hx => by
  rcases rp_mem.1 hx with h | h | h | h | h
  · exact .inl (rp_mem.2 (.inl h))
  · exact .inl (rp_mem.2 (.inr (.inl h)))
  · exact .inl (rp_mem.2 (.inr (.inr (.inl h))))
  · exact .inl (rp_mem.2 (.inr (.inr (.inr (.inl h)))))
  exact (hw x h).imp (fun h => rp_mem.2 (.inr (.inr (.inr (.inr h))))) id
theorem rp_lo {m' : RtM} (hlo : ∀ x ∈ m.fp g, B ≤ x) (hg : g < w.heap.size) (h : ∀ x ∈ m'.fp g, x ∈ m.fp g ∨ w.heap.size ≤ x) : ∀ x ∈ m'.fp g, B ≤ x := fun x hx => by
  have hB : B ≤ g := hlo g rp_g
  rcases h x hx with h | h
  · exact hlo x h
  omega
theorem RtIn.kept0 (h : RtIn B w g r m) (hk : Kept [] w W) : RtIn B W g r m := ⟨h.e1, h.e2, h.bt.kept hk (by simp), Own.kept h.ro hk (by simp), Own.kept h.rq hk (by simp), IsAss.kept h.mr hk (by simp), IsAss.kept h.mg hk (by simp), h.nof, h.oq, h.lo, h.ps.kept0 hk, h.pq.kept0 hk, h.len⟩
theorem Row.at_ {A : Option Addr} {c k : Nat} (h : Row w A c l) {b off : Nat} {x : Pk × Ad} (hA : A = some ⟨b, off, none⟩) (hx : l[k]? = some x) : w.rangeAt b (off + (k : Int).toNat * 24) (x.1.cells x.2).toList := by
  have hk := (List.getElem?_eq_some_iff.1 hx).1
  rw [Int.toNat_natCast]
  refine (Sl.of_own h).row (by omega) hA fun j u hj => ?_
  have hj' := (List.getElem?_eq_some_iff.1 hj).1
  exact flat_at (fun x : Pk × Ad => (x.1.cells x.2).toList) 24 (fun _ => rfl) l k x hx j u hj
theorem Row.cellK {A : Option Addr} {c k j : Nat} (h : Row w A c l) {b off : Nat} {x : Pk × Ad} (hA : A = some ⟨b, off, none⟩) (hx : l[k]? = some x) {u : Value} (hu : (x.1.cells x.2).toList[j]? = some u) : w.cell? ⟨b, off + (k : Int).toNat * 24 + j, none⟩ = some u := Row.at_ h hA hx j u hu
theorem Row.addr {A : Option Addr} {c : Nat} (h : Row w A c l) (hl : 0 < l.length) : ∃ b off, A = some ⟨b, off, none⟩ := Sl.addr (Sl.of_own h) hl
end
theorem own_cap {w : World} {A : Option Addr} {e size n c : Nat} {xs : List Value} (h : Own w e size (.slice A n c) n xs) : n ≤ c := by
  obtain ⟨A', c', e1, h1, _⟩ := h.form
  injection e1 with _ _ e2
  omega
section
variable {l : List Pk} {x : Pk} {k : Nat} {i kd q : Int}
theorem atL_none (h : ∀ (j : Nat) (y : Pk), l[j]? = some y → y.id ≠ i) : atL i l = none := by
  induction l with
  | nil => rfl
  | cons o r ih => rw [atL, if_neg (h 0 o rfl), ih fun j y hj => h (j + 1) y hj]; rfl
theorem atL_some (h : ∀ (j : Nat) (y : Pk), j < k → l[j]? = some y → y.id ≠ i) (hx : l[k]? = some x) (hi : x.id = i) : atL i l = some k := by
  induction l generalizing k with
  | nil => cases hx
  | cons o r ih =>
    cases k with
    | zero => simp at hx; subst hx; rw [atL, if_pos hi]
    | succ k => rw [atL, if_neg (h 0 o (by omega) rfl), ih (fun j y hj hy => h (j + 1) y (by omega) hy) hx]; rfl
def skipB (kd q i : Int) (o : Pk) : Prop := (o.kind ≠ kd ∨ (kd = 3 ∧ o.qos ≠ q)) ∨ (o.id ≠ i ∧ ¬ (kd = 8 ∨ kd = 10))
theorem payL_skip {o : Pk} {r : List Pk} (h : skipB kd q i o) : payL kd q i (o :: r) = (payL kd q i r).map (o :: ·) := by
  rw [payL]
  rcases h with h | h
  · rw [if_pos h]
  by_cases c : o.kind ≠ kd ∨ (kd = 3 ∧ o.qos ≠ q)
  · rw [if_pos c]
  rw [if_neg c, if_neg h.1, if_neg h.2]
theorem payL_none (h : ∀ (j : Nat) (y : Pk), l[j]? = some y → skipB kd q i y) : payL kd q i l = none := by
  induction l with
  | nil => rfl
  | cons o r ih => rw [payL_skip (h 0 o rfl), ih fun j y hj => h (j + 1) y hj]; rfl
theorem payL_hit (h : ∀ (j : Nat) (y : Pk), j < k → l[j]? = some y → skipB kd q i y) (hx : l[k]? = some x) (h1 : ¬ (x.kind ≠ kd ∨ (kd = 3 ∧ x.qos ≠ q))) (h2 : x.id = i) : payL kd q i l = some (l.take k ++ l.drop (k + 1)) := by
  induction l generalizing k with
  | nil => cases hx
  | cons o r ih =>
    cases k with
    | zero => simp at hx; subst hx; rw [payL, if_neg h1, if_pos h2]; rfl
    | succ k => rw [payL_skip (h 0 o (by omega) rfl), ih (fun j y hj hy => h (j + 1) y (by omega) hy) hx]; rfl
theorem payL_stop (h : ∀ (j : Nat) (y : Pk), j < k → l[j]? = some y → skipB kd q i y) (hx : l[k]? = some x) (h1 : ¬ (x.kind ≠ kd ∨ (kd = 3 ∧ x.qos ≠ q))) (h2 : x.id ≠ i) (h3 : kd = 8 ∨ kd = 10) : payL kd q i l = none := by
  induction l generalizing k with
  | nil => cases hx
  | cons o r ih =>
    cases k with
    | zero => simp at hx; subst hx; rw [payL, if_neg h1, if_neg h2, if_pos h3]
    | succ k => rw [payL_skip (h 0 o (by omega) rfl), ih (fun j y hj hy => h (j + 1) y (by omega) hy) hx]; rfl
theorem firstL_none (h : ∀ (j : Nat) (y : Pk), l[j]? = some y → y.kind ≠ kd) : firstL kd l = none := by
  induction l with
  | nil => rfl
  | cons o r ih => rw [firstL, if_neg (h 0 o rfl), ih fun j y hj => h (j + 1) y hj]
theorem firstL_some (h : ∀ (j : Nat) (y : Pk), j < k → l[j]? = some y → y.kind ≠ kd) (hx : l[k]? = some x) (hi : x.kind = kd) : firstL kd l = some x := by
  induction l generalizing k with
  | nil => cases hx
  | cons o r ih =>
    cases k with
    | zero => simp at hx; subst hx; rw [firstL, if_pos hi]
    | succ k => rw [firstL, if_neg (h 0 o (by omega) rfl), ih (fun j y hj hy => h (j + 1) y (by omega) hy) hx]
theorem map_at {m : List (Pk × Ad)} (e : l = m.map (·.1)) {j : Nat} {y : Pk} (h : l[j]? = some y) : ∃ s, m[j]? = some (y, s) := by
  rw [e, List.getElem?_map, Option.map_eq_some_iff] at h
  obtain ⟨⟨a, b⟩, h1, rfl⟩ := h
  exact ⟨b, h1⟩
theorem at_map {m : List (Pk × Ad)} (e : l = m.map (·.1)) {j : Nat} {y : Pk × Ad} (h : m[j]? = some y) : l[j]? = some y.1 := by rw [e, List.getElem?_map, h]; rfl
theorem pass_next {P : Pk → Prop} (h : ∀ (j : Nat) (y : Pk), j < k → l[j]? = some y → P y) (hx : l[k]? = some x) (hP : P x) : ∀ (j : Nat) (y : Pk), j < k + 1 → l[j]? = some y → P y := fun j y hj hy => by
  by_cases e : j = k
  · subst e; rw [hx] at hy; injection hy with hy; subst hy; exact hP
  exact h j y (by omega) hy
theorem pass_all {P : Pk → Prop} (h : ∀ (j : Nat) (y : Pk), j < k → l[j]? = some y → P y) (hk : l.length ≤ k) : ∀ (j : Nat) (y : Pk), l[j]? = some y → P y := fun j y hy => h j y (Nat.lt_of_lt_of_le (List.getElem?_eq_some_iff.1 hy).1 hk) hy
end
end Go.Proofs.Ytkdeedhjkjffpaa
namespace Go.Proofs.Ytkdeedhjkjffpaa
open Go.RowKit Go.Hub Go.Lib Go.WideShapes Go.ChangeMaps
theorem wbl56_0_6_7_tv (x0 : Bool) (x1 : Option Nat) (x2 : Option Nat) : Try.prog.built 56 [(0, .bool x0), (6, .map x1), (7, .map x2)] = some #[.bool x0, (.bool false), (.bool false), (.bool false), (.slice none 0 0), (.slice none 0 0), .map x1, .map x2, (.bool false), (.bool false)] := by kernel_rfl
theorem wsz51_tv : (Try.prog.info? 51).map (·.size) = some 1 := by kernel_rfl
theorem wsz3_tv : (Try.prog.info? 3).map (·.size) = some 1 := by kernel_rfl
theorem wsz34_tv : (Try.prog.info? 34).map (·.size) = some 24 := by kernel_rfl
theorem wbl34__tv  : Try.prog.built 34 [] = some #[(.int .i64 0), (.bool false), (.bool false), (.int .i64 0), (.int .i64 0), (.string ⟨#[]⟩), (.slice none 0 0), (.int .i64 0), (.string ⟨#[]⟩), (.bool false), (.int .i64 0), (.bool false), (.string ⟨#[]⟩), (.slice none 0 0), (.int .i64 0), (.bool false), (.bool false), (.bool false), (.string ⟨#[]⟩), (.slice none 0 0), (.bool false), (.int .i64 0), (.slice none 0 0), (.slice none 0 0)] := by kernel_rfl
def RtM.new (mr mg : Nat) : RtM := ⟨[], [], none, none, 0, 0, mr, mg, 0⟩
theorem newR_fp {n g g1 g2 : Nat} (h1 : n ≤ g1) (h2 : n ≤ g2) (h : n ≤ g) : ∀ x ∈ (RtM.new g1 g2).fp g, n ≤ x := fun x hx => by
  have : x = g ∨ x = g1 ∨ x = g2 := by simpa [RtM.fp, bk, RtM.new] using hx
  omega
theorem newR_in {B n g g1 g2 : Nat} {c : Bool} {W : World} (hB : B ≤ n) (h1 : n ≤ g1) (h2 : n ≤ g2) (h : n ≤ g) (hne : g1 ≠ g2) (b : Blk W g 56 (rtCells (Rt.new c) 0 0 none none 0 0 g1 g2)) (I1 : IsAss setM Try.prog W g1 []) (I2 : IsAss setM Try.prog W g2 []) : RtIn B W g (Rt.new c) (RtM.new g1 g2) :=
  ⟨rfl, rfl, b, Own.nil _ _ _, Own.nil _ _ _, I1, I2, hne, (fun b hb => by simp [RtM.new] at hb), fun x hx => Nat.le_trans hB (newR_fp h1 h2 h x hx), fun x hx => absurd hx (by simp [RtM.new]), fun x hx => absurd hx (by simp [RtM.new]), by simp [RtM.new, Rt.new]⟩
def FirstPost (kd : Int) (r : Rt) (m : RtM) (w : World) (e : Ending) (w' : World) : Prop := Kept [] w w' ∧ ∃ (q : Pk) (s : Ad), e = .returned (.tuple #[.agg (q.cells s), .bool (firstL kd r.owed).isSome]) ∧ ∀ x, firstL kd r.owed = some x → q = x ∧ (x, s) ∈ m.owed
set_option maxHeartbeats 1000000 in
theorem newR_any (B : Nat) (c : Bool) (w : World) (hB : B ≤ w.heap.size) : Calls Try.prog 8 #[.bool c] w (fun e w' => ∃ g m, e = .returned (.pointer (some ⟨g, 0, none⟩)) ∧ RtIn B w' g (Rt.new c) m ∧ m.n = 0 ∧ Kept [] w w' ∧ ∀ x ∈ m.fp g, w.heap.size ≤ x) := by
 have HK : Kept [] w w := Kept.refl [] w
 refine C.enter Try.func8 rfl Try.ntmps8 rfl ?_
 intro a0 f0
 have f1 : Fr 8 a0 [(0, .bool c)] := f0
 refine C.sk fun K0 hK0 => ?_
 refine L.ag f1 fun a2 f2 => ?_
 have f3 := f2.sub (sc 0 sn)
 refine wpList_nil (hK0 _ _ (C.sk fun K1 hK1 => ?_))
 refine L.mv f3 fun a4 f4 => ?_
 refine L.makeMapA f4 wantedN (by decide) setM Try.prog fun a5 w1 gI1 I1 ks logI1 f5 => ?_
 have szw1 := ks.size
 have frgI1 : w.heap.size ≤ gI1 := Nat.le_trans HK.size logI1
 replace HK := HK.z ks
 clear f0 f1 a0 f2 f3 a2 ks f4 a4
 refine L.makeMapA f5 wantedN (by decide) setM Try.prog fun a6 w2 gI2 I2 ks logI2 f6 => ?_
 have szw2 := ks.size
 have frgI2 : w.heap.size ≤ gI2 := Nat.le_trans HK.size logI2
 have neI2 : gI1 ≠ gI2 := by have := IsAss.lt I1; omega
 replace HK := HK.z ks
 replace I1 := IsAss.z I1 ks
 clear ks f5 a5
 refine L.va f6 (E.build f6 (parts3 f6 rfl rfl rfl) (wbl56_0_6_7_tv _ _ _)) fun a7 f7 => ?_
 refine L.box f7 wantedN (by decide) rfl rfl fun a8 w3 g2 N2 f8 => ?_
 have Bg2 := N2.blk
 have kg2 := N2.kept
 have log2 := N2.lo
 have ltg2 := Bg2.lt
 have szw3 := kg2.size
 have frg2 : w.heap.size ≤ g2 := Nat.le_trans HK.size log2
 replace HK := HK.z kg2
 replace I1 := IsAss.z I1 kg2
 replace I2 := IsAss.z I2 kg2
 clear f6 a6 N2 kg2
 refine L.ag f8 fun a9 f9 => ?_
 have f10 := f9.sub (sc 2 sn)
 refine wpList_nil (hK1 _ _ (wp_ret ?_)); (try simp only [xt, xb]); refine C.ret f10 rfl rfl ?_
 have ltb := Bg2.lt
 exact ⟨g2, RtM.new gI1 gI2, rfl, newR_in hB frgI1 frgI2 frg2 neI2 Bg2 I1 I2, rfl, HK, newR_fp frgI1 frgI2 frg2⟩
set_option maxHeartbeats 1000000 in
theorem owedR_any (B g : Nat) (r : Rt) (m : RtM) (w : World) (RR : RtIn B w g r m) (hn : m.n ≤ 1000000) : Calls Try.prog 17 #[.pointer (some ⟨g, 0, none⟩)] w (fun e w' => Kept [] w w' ∧ e = .returned (.int .i64 r.owed.length)) := by
 have HK : Kept [] w w := Kept.refl [] w
 have hl1 := RR.len.1
 refine C.enter Try.func17 rfl Try.ntmps17 rfl ?_
 intro a0 f0
 have f1 : Fr 8 a0 [(0, .pointer (some ⟨g, 0, none⟩))] := f0
 refine C.sk fun K0 hK0 => ?_
 refine L.ag f1 fun a2 f2 => ?_
 have f3 := f2.sub (sc 0 sn)
 refine wpList_nil (hK0 _ _ (C.sk fun K1 hK1 => ?_))
 refine L.mv f3 fun a4 f4 => ?_
 refine L.va f4 (E.nilCheck f4 rfl) fun a5 f5 => ?_
 refine L.fa 4 f5 U56 rfl wsz51_tv fun a6 f6 => ?_
 refine L.va f6 (E.load f6 U51 rfl rfl ((RR.kept0 HK).bt.cl rfl)) fun a7 f7 => ?_
 refine L.va f7 (E.lenL f7 U51 rfl) fun a8 f8 => ?_
 clear f0 f1 a0 f2 f3 a2 f4 a4 f5 a5 f6 a6 f7 a7
 refine L.ag f8 fun a9 f9 => ?_
 have f10 := f9.sub (sc 2 sn)
 refine wpList_nil (hK1 _ _ (wp_ret ?_)); (try simp only [xt, xb]); refine C.ret f10 rfl rfl ?_
 exact ⟨HK, by rw [RR.e1, List.length_map]⟩
set_option maxHeartbeats 1000000 in
theorem at_any (i : Int) (B g : Nat) (r : Rt) (m : RtM) (w : World) (RR : RtIn B w g r m) (hn : m.n ≤ 1000000) : Calls Try.prog 42 #[.pointer (some ⟨g, 0, none⟩), .int .i64 i] w (fun e w' => Kept [] w w' ∧ e = .returned (.int .i64 (atI i r.out))) := by
 have HK : Kept [] w w := Kept.refl [] w
 have hl2 := RR.len.2.1
 refine C.enter Try.func42 rfl Try.ntmps42 rfl ?_
 intro a0 f0
 have f1 : Fr 26 a0 [(0, .pointer (some ⟨g, 0, none⟩)), (1, .int .i64 i)] := f0
 refine C.sk fun K0 hK0 => ?_
 refine L.ag f1 fun a2 f2 => ?_
 refine wpList_nil (hK0 _ _ ?_)
 have f3 := f2.sub (sc 0 (sc 1 sn))
 refine wp_seq_k fun K1 hK1 => ?_
 refine C.sk fun K2 hK2 => ?_
 refine L.ag f3 fun a4 f4 => ?_
 refine wpList_nil (hK2 _ _ ?_)
 have f5 := f4.sub (sc 0 (sc 1 (sc 5 sn)))
 refine wp_block ?_
 clear f0 f1 a0 f2 f3 a2 f4
 refine C.loop (fun gk a W => ∃ k : Nat, k + gk = m.out.length ∧ Kept [] w W ∧ (∀ j (y : Pk), j < k → r.out[j]? = some y → y.id ≠ i) ∧ Fr 26 a [(0, .pointer (some ⟨g, 0, none⟩)), (1, .int .i64 i), (5, .int .i64 k)]) (m.out.length) ?_ ?_
 ·exact ⟨0, by omega, HK, fun j y h => absurd h (by omega), f5.sub (sx (sx (sx sn)))⟩
 intro gk4 a6 w1 hI KL3 hKL3
 obtain ⟨k, hk, HK, hp, f6⟩ := hI
 try clear f5
 refine wp_seq_k fun K4 hK4 => ?_
 refine C.sk fun K5 hK5 => ?_
 refine L.mv f6 fun a7 f7 => ?_
 refine L.mv f7 fun a8 f8 => ?_
 refine L.va f8 (E.nilCheck f8 rfl) fun a9 f9 => ?_
 refine L.fa 5 f9 U56 rfl wsz51_tv fun a10 f10 => ?_
 refine L.va f10 (E.load f10 U51 rfl rfl ((RR.kept0 HK).bt.cl rfl)) fun a11 f11 => ?_
 refine L.va f11 (E.lenL f11 U51 rfl) fun a12 f12 => ?_
 refine L.va f12 (E.lss f12 rfl rfl) fun a13 f13 => ?_
 clear f6 a6 f7 a7 f8 a8 f9 a9 f10 a10 f11 a11 f12 a12
 refine wpList_nil (hK5 _ _ ?_)
 have f14 := f13.sub (sc 0 (sc 1 (sc 5 (sc 12 sn))))
 clear f13
 refine f14.splitD 12 rfl (fun h0 f15 => ?_) (fun h0 f15 => ?_)
 ·obtain ⟨x, hx⟩ := some_at m.out k (by omega)
  obtain ⟨b, off, hA⟩ := Row.addr RR.rq (by omega)
  refine C.condT f15 rfl ?_
  refine wp_skip (hK4 _ _ ?_)
  have f16 := f15.sub (sc 0 (sc 1 (sc 5 sn)))
  refine wp_seq_k fun K6 hK6 => ?_
  refine wp_block ?_
  refine C.sk fun K7 hK7 => ?_
  refine L.mv f16 fun a17 f17 => ?_
  refine L.va f17 (E.nilCheck f17 rfl) fun a18 f18 => ?_
  refine L.fa 5 f18 U56 rfl wsz51_tv fun a19 f19 => ?_
  refine L.va f19 (E.load f19 U51 rfl rfl ((RR.kept0 HK).bt.cl rfl)) fun a20 f20 => ?_
  refine L.mv f20 fun a21 f21 => ?_
  refine L.va f21 (E.indexA f21 (by assumption) U51 wsz34_tv rfl rfl (by omega) (by omega)) fun a22 f22 => ?_
  clear f14 f15 f16 a13 f17 a17 f18 a18 f19 a19 f20 a20 f21 a21
  refine L.fa 4 f22 U34 rfl wsz3_tv fun a23 f23 => ?_
  refine L.va f23 (E.load f23 U3 rfl rfl (Row.cellK (RR.kept0 HK).rq hA hx rfl)) fun a24 f24 => ?_
  refine L.mv f24 fun a25 f25 => ?_
  refine L.va f25 (E.eq f25) fun a26 f26 => ?_
  refine wpList_nil (hK7 _ _ ?_)
  have f27 := f26.sub (sc 0 (sc 1 (sc 5 (sc 24 sn))))
  clear f22 a22 f23 a23 f24 a24 f25 a25 f26
  refine f27.splitD 24 rfl (fun h1 f28 => ?_) (fun h1 f28 => ?_)
  ·have hid := h1
   refine C.condT f28 rfl ?_
   refine C.sk fun K8 hK8 => ?_
   refine L.mv f28 fun a29 f29 => ?_
   refine L.ag f29 fun a30 f30 => ?_
   have f31 := f30.sub (sc 4 sn)
   refine wpList_nil (hK8 _ _ (wp_ret ?_)); (try simp only [xt, xb]); refine C.ret f31 rfl rfl ?_
   exact ⟨HK, by rw [atI_some (atL_some hp (at_map RR.e2 hx) hid)]⟩
  have hid := h1
  refine C.condF f28 rfl ?_
  refine wp_skip (hK6 _ _ ?_)
  have f29 := f28.sub (sc 0 (sc 1 (sc 5 sn)))
  refine C.region ?_
  refine L.mv f29 fun a30 f30 => ?_
  refine L.va f30 (E.add f30 rfl rfl (IntWalk.i64_in _ (by omega))) fun a31 f31 => ?_
  refine L.ag f31 fun a32 f32 => ?_
  clear f27 f28 f29 a26 f30 a30 f31 a31
  refine wpList_nil (hKL3 _ _ (gk4 - 1) ?_ ?_)
  ·omega
  exact ⟨k + 1, by omega, HK, pass_next hp (at_map RR.e2 hx) hid, by simpa using f32.sub (sx (sx (sx sn)))⟩
 refine C.condF f15 rfl ?_
 refine wp_exit (hK1 _ _ ?_)
 have f16 := f15.sub sn
 refine C.sk fun K9 hK9 => ?_
 refine L.ag f16 fun a17 f17 => ?_
 have f18 := f17.sub (sc 4 sn)
 refine wpList_nil (hK9 _ _ (wp_ret ?_)); (try simp only [xt, xb]); refine C.ret f18 rfl rfl ?_
 exact ⟨HK, by rw [atI_none (atL_none (pass_all hp (by rw [RR.e2, List.length_map]; omega)))]⟩
set_option maxHeartbeats 1000000 in
theorem first_any (kd : Int) (B g : Nat) (r : Rt) (m : RtM) (w : World) (RR : RtIn B w g r m) (hn : m.n ≤ 1000000) : Calls Try.prog 39 #[.pointer (some ⟨g, 0, none⟩), .int .i64 kd] w (FirstPost kd r m w) := by
 have HK : Kept [] w w := Kept.refl [] w
 have hl1 := RR.len.1
 refine C.enter Try.func39 rfl Try.ntmps39 rfl ?_
 intro a0 f0
 have f1 : Fr 34 a0 [(0, .pointer (some ⟨g, 0, none⟩)), (1, .int .i64 kd)] := f0
 refine C.sk fun K0 hK0 => ?_
 refine L.alloc f1 wantedN (by decide) (z := z34) (fun _ => by kernel_rfl) rfl fun a2 w1 g0 N0 f2 => ?_
 have Bg0 := N0.blk
 have kg0 := N0.kept
 have log0 := N0.lo
 have ltg0 := Bg0.lt
 have szw1 := kg0.size
 have frg0 : w.heap.size ≤ g0 := Nat.le_trans HK.size log0
 replace HK := HK.z kg0
 clear f0 N0 kg0
 refine L.ag f2 fun a3 f3 => ?_
 refine wpList_nil (hK0 _ _ ?_)
 have f4 := f3.sub (sc 0 (sc 1 (sc 4 sn)))
 refine wp_seq_k fun K1 hK1 => ?_
 refine C.sk fun K2 hK2 => ?_
 refine L.ag f4 fun a5 f5 => ?_
 refine wpList_nil (hK2 _ _ ?_)
 have f6 := f5.sub (sc 0 (sc 1 (sc 4 (sc 6 sn))))
 refine wp_block ?_
 clear f1 a0 f2 a2 f3 f4 a3 f5
 refine C.loop (fun gk a W => ∃ k : Nat, k + gk = m.owed.length ∧ Kept [] w W ∧ Blk W g0 34 (({} : Pk).cells s0) ∧ (∀ j (y : Pk), j < k → r.owed[j]? = some y → y.kind ≠ kd) ∧ Fr 34 a [(0, .pointer (some ⟨g, 0, none⟩)), (1, .int .i64 kd), (4, .pointer (some ⟨g0, 0, none⟩)), (6, .int .i64 k)]) (m.owed.length) ?_ ?_
 ·exact ⟨0, by omega, HK, Bg0, fun j y h => absurd h (by omega), f6.sub (sx (sx (sx (sx sn))))⟩
 intro gk4 a7 w2 hI KL3 hKL3
 obtain ⟨k, hk, HK, Bg0, hp, f7⟩ := hI
 try clear f6
 refine wp_seq_k fun K4 hK4 => ?_
 refine C.sk fun K5 hK5 => ?_
 refine L.mv f7 fun a8 f8 => ?_
 refine L.mv f8 fun a9 f9 => ?_
 refine L.va f9 (E.nilCheck f9 rfl) fun a10 f10 => ?_
 refine L.fa 4 f10 U56 rfl wsz51_tv fun a11 f11 => ?_
 refine L.va f11 (E.load f11 U51 rfl rfl ((RR.kept0 HK).bt.cl rfl)) fun a12 f12 => ?_
 refine L.va f12 (E.lenL f12 U51 rfl) fun a13 f13 => ?_
 refine L.va f13 (E.lss f13 rfl rfl) fun a14 f14 => ?_
 clear f7 a7 f8 a8 f9 a9 f10 a10 f11 a11 f12 a12 f13 a13
 refine wpList_nil (hK5 _ _ ?_)
 have f15 := f14.sub (sc 0 (sc 1 (sc 4 (sc 6 (sc 13 sn)))))
 clear f14
 refine f15.splitD 13 rfl (fun h0 f16 => ?_) (fun h0 f16 => ?_)
 ·obtain ⟨x, hx⟩ := some_at m.owed k (by omega)
  obtain ⟨b, off, hA⟩ := Row.addr RR.ro (by omega)
  refine C.condT f16 rfl ?_
  refine wp_skip (hK4 _ _ ?_)
  have f17 := f16.sub (sc 0 (sc 1 (sc 4 (sc 6 sn))))
  refine wp_seq_k fun K6 hK6 => ?_
  refine wp_block ?_
  refine C.sk fun K7 hK7 => ?_
  refine L.mv f17 fun a18 f18 => ?_
  refine L.va f18 (E.nilCheck f18 rfl) fun a19 f19 => ?_
  refine L.fa 4 f19 U56 rfl wsz51_tv fun a20 f20 => ?_
  refine L.va f20 (E.load f20 U51 rfl rfl ((RR.kept0 HK).bt.cl rfl)) fun a21 f21 => ?_
  refine L.mv f21 fun a22 f22 => ?_
  refine L.va f22 (E.indexA f22 (by assumption) U51 wsz34_tv rfl rfl (by omega) (by omega)) fun a23 f23 => ?_
  clear f15 f16 f17 a14 f18 a18 f19 a19 f20 a20 f21 a21 f22 a22
  refine L.fa 0 f23 U34 rfl wsz3_tv fun a24 f24 => ?_
  refine L.va f24 (E.load f24 U3 rfl rfl (Row.cellK (RR.kept0 HK).ro hA hx rfl)) fun a25 f25 => ?_
  refine L.mv f25 fun a26 f26 => ?_
  refine L.va f26 (E.eq f26) fun a27 f27 => ?_
  refine wpList_nil (hK7 _ _ ?_)
  have f28 := f27.sub (sc 0 (sc 1 (sc 4 (sc 6 (sc 25 sn)))))
  clear f23 a23 f24 a24 f25 a25 f26 a26 f27
  refine f28.splitD 25 rfl (fun h1 f29 => ?_) (fun h1 f29 => ?_)
  ·have hid := h1
   refine C.condT f29 rfl ?_
   refine C.sk fun K8 hK8 => ?_
   refine L.mv f29 fun a30 f30 => ?_
   refine L.va f30 (E.nilCheck f30 rfl) fun a31 f31 => ?_
   refine L.fa 4 f31 U56 rfl wsz51_tv fun a32 f32 => ?_
   refine L.va f32 (E.load f32 U51 rfl rfl ((RR.kept0 HK).bt.cl rfl)) fun a33 f33 => ?_
   refine L.mv f33 fun a34 f34 => ?_
   refine L.va f34 (E.indexA f34 (by assumption) U51 wsz34_tv rfl rfl (by omega) (by omega)) fun a35 f35 => ?_
   refine L.va f35 (E.loadR f35 U34 rfl wsz34_tv rfl (Row.at_ (RR.kept0 HK).ro hA hx) rfl) fun a36 f36 => ?_
   clear f28 f29 a27 f30 a30 f31 a31 f32 a32 f33 a33 f34 a34 f35 a35
   refine L.storeR f36 wantedN wsz34_tv rfl rfl rfl Bg0 rfl rfl fun a37 w3 f37 NB3 ks3 => ?_
   have szw3 := ks3.size
   replace HK := HK.trans ks3 (ktr (by omega))
   replace Bg0 := NB3
   clear ks3 f36 a36
   refine L.ag f37 fun a38 f38 => ?_
   have f39 := f38.sub (sc 4 (sc 5 sn))
   refine wpList_nil (hK8 _ _ (wp_ret ?_)); (try simp only [xt, xb]); refine C.retCT f39 rfl rfl rfl Bg0 U34 rfl wsz34_tv ?_
   exact ⟨HK, x.1, x.2, by rw [firstL_some hp (at_map RR.e1 hx) hid]; rfl, fun y hy => by rw [firstL_some hp (at_map RR.e1 hx) hid] at hy; injection hy with hy; subst hy; exact ⟨rfl, List.mem_of_getElem? hx⟩⟩
  have hid := h1
  refine C.condF f29 rfl ?_
  refine wp_skip (hK6 _ _ ?_)
  have f30 := f29.sub (sc 0 (sc 1 (sc 4 (sc 6 sn))))
  refine C.region ?_
  refine L.mv f30 fun a31 f31 => ?_
  refine L.va f31 (E.add f31 rfl rfl (IntWalk.i64_in _ (by omega))) fun a32 f32 => ?_
  refine L.ag f32 fun a33 f33 => ?_
  clear f28 f29 f30 a27 f31 a31 f32 a32
  refine wpList_nil (hKL3 _ _ (gk4 - 1) ?_ ?_)
  ·omega
  exact ⟨k + 1, by omega, HK, Bg0, pass_next hp (at_map RR.e1 hx) hid, by simpa using f33.sub (sx (sx (sx (sx sn))))⟩
 refine C.condF f16 rfl ?_
 refine wp_exit (hK1 _ _ ?_)
 have f17 := f16.sub (sc 4 sn)
 refine C.sk fun K9 hK9 => ?_
 refine L.va f17 (E.build f17 (parts0 f17) (wbl34__tv)) fun a18 f18 => ?_
 refine L.storeR f18 wantedN wsz34_tv rfl rfl rfl Bg0 rfl rfl fun a19 w3 f19 NB3 ks3 => ?_
 have szw3 := ks3.size
 replace HK := HK.trans ks3 (ktr (by omega))
 replace Bg0 := NB3
 clear f15 f16 f17 a14 ks3 f18 a18
 refine L.ag f19 fun a20 f20 => ?_
 have f21 := f20.sub (sc 4 (sc 5 sn))
 refine wpList_nil (hK9 _ _ (wp_ret ?_)); (try simp only [xt, xb]); refine C.retCT f21 rfl rfl rfl Bg0 U34 rfl wsz34_tv ?_
 have hno := firstL_none (pass_all hp (by rw [RR.e1, List.length_map]; omega))
 exact ⟨HK, {}, s0, by rw [hno]; rfl, fun y hy => by rw [hno] at hy; cases hy⟩
end Go.Proofs.Ytkdeedhjkjffpaa
namespace Go.Proofs.Ytkdeedhjkjffpaa
open Go.RowKit Go.Hub Go.Lib Go.WideShapes Go.ChangeMaps
theorem wzib34_tw : (Try.prog.info? 34).map (fun i => (i.zero, i.size, i.bytes)) = some (some (.agg #[(.int .i64 0), (.bool false), (.bool false), (.int .i64 0), (.int .i64 0), (.string ⟨#[]⟩), (.slice none 0 0), (.int .i64 0), (.string ⟨#[]⟩), (.bool false), (.int .i64 0), (.bool false), (.string ⟨#[]⟩), (.slice none 0 0), (.int .i64 0), (.bool false), (.bool false), (.bool false), (.string ⟨#[]⟩), (.slice none 0 0), (.bool false), (.int .i64 0), (.slice none 0 0), (.slice none 0 0)]), 24, 288) := by kernel_rfl
theorem wsz3_tw : (Try.prog.info? 3).map (·.size) = some 1 := by kernel_rfl
theorem wsz34_tw : (Try.prog.info? 34).map (·.size) = some 24 := by kernel_rfl
theorem wsz51_tw : (Try.prog.info? 51).map (·.size) = some 1 := by kernel_rfl
theorem wsz54_tw : (Try.prog.info? 54).map (·.size) = some 1 := by kernel_rfl
section
variable {w W w' : World} {A : Option Addr} {n c k x t : Nat} {l : List (Pk × Ad)} {L : List Pk} {cs : Array Value} {r : Rt} {p o : Pk} {y : Nat}
theorem new_ne {xs : List Value} {e size k0 : Nat} (_h : Own w e size (.slice A k0 c) k0 xs) (hb : ∀ b, A.map (·.block) = some b → b < n) (hx : n ≤ x) : x ∉ (Value.slice A k0 c).ownBlock.toList := fun hm => by
  have := hb x ((own_block _ _ _ _).1 (by simpa using hm))
  omega
theorem row_oneT (l : List (Pk × Ad)) (j : Nat) : ∀ u ∈ (pkRow l).take j, u.oneCell' = true := fun u hu => pkRow_oneCell l u (List.mem_of_mem_take hu)
theorem row_oneD (l : List (Pk × Ad)) (j : Nat) : ∀ u ∈ (pkRow l).drop j, u.oneCell' = true := fun u hu => pkRow_oneCell l u (List.mem_of_mem_drop hu)
theorem pkRow_take (l : List (Pk × Ad)) (k : Nat) : (pkRow l).take (k * 24) = pkRow (l.take k) := (flat_take (fun x : Pk × Ad => (x.1.cells x.2).toList) 24 (fun _ => rfl) l k).symm
theorem pkRow_drop (l : List (Pk × Ad)) (k : Nat) : (pkRow l).drop (k * 24) = pkRow (l.drop k) := (flat_drop (fun x : Pk × Ad => (x.1.cells x.2).toList) 24 (fun _ => rfl) l k).symm
theorem del_len (hk : k < l.length) : ((k : Int)).toNat + (l.length - ((k : Int) + 1).toNat) = (l.take k ++ l.drop (k + 1)).length := by
  rw [List.length_append, List.length_take, List.length_drop, Nat.min_eq_left (by omega)]
  omega
theorem row_del (hk : k < l.length) (h : Own w 34 24 (.slice A (0 + k + (l.length - ((k : Int) + 1).toNat)) c) (0 + k + (l.length - ((k : Int) + 1).toNat)) (([] ++ (pkRow l).take (k * 24)) ++ (pkRow l).drop (((k : Int) + 1).toNat * 24))) : Row w A c (l.take k ++ l.drop (k + 1)) := by
  rw [show 0 + k + (l.length - ((k : Int) + 1).toNat) = (l.take k ++ l.drop (k + 1)).length by rw [← del_len hk]; omega, List.nil_append, pkRow_take, show ((k : Int) + 1).toNat = k + 1 by omega, pkRow_drop, ← pkRow_app] at h
  exact h
theorem map_del (l : List (Pk × Ad)) (k : Nat) : (l.map (·.1)).take k ++ (l.map (·.1)).drop (k + 1) = (l.take k ++ l.drop (k + 1)).map (·.1) := by rw [List.map_append, List.map_take, List.map_drop]
theorem mem_del (l : List (Pk × Ad)) (k : Nat) : ∀ x ∈ l.take k ++ l.drop (k + 1), x ∈ l := fun x hx => by
  rcases List.mem_append.1 hx with h | h
  · exact List.mem_of_mem_take h
  exact List.mem_of_mem_drop h
theorem del_le (h : l.length ≤ n) : (l.take k ++ l.drop (k + 1)).length ≤ n := by
  rw [List.length_append, List.length_take, List.length_drop]
  omega
theorem strike_le1 {K V : Type} [DecidableEq K] {E : List (K × V)} (h : E.length ≤ n) (k : K) : (Go.Hub.strike E k).length ≤ n := Nat.le_trans (List.length_filter_le _ _) h
theorem ackR_no (h : ∀ (j : Nat) (y : Pk), r.out[j]? = some y → y.id ≠ p.id) : r.ackR p = r := by unfold Rt.ackR; rw [atL_none h]
theorem ackR_rec (h : atL p.id r.out = some k) (ho : r.out[k]? = some o) (h1 : p.kind = 5) (h2 : o.qos = 2) : r.ackR p = { r with recd := setL r.recd p.id } := by
  unfold Rt.ackR
  rw [h]
  show (match r.out[k]? with | none => r | some o => _) = _
  rw [ho]
  exact if_pos ⟨h1, h2⟩
theorem ackR_del (h : atL p.id r.out = some k) (ho : r.out[k]? = some o) (h1 : (p.kind = 4 ∧ o.qos = 1) ∨ ((p.kind = 7 ∧ o.qos = 2) ∧ isM r.gone p.id = true)) : r.ackR p = { r with out := r.out.take k ++ r.out.drop (k + 1), recd := strike r.recd p.id, gone := strike r.gone p.id } := by
  unfold Rt.ackR
  rw [h]
  show (match r.out[k]? with | none => r | some o => _) = _
  rw [ho]
  show (if _ then _ else _) = _
  rw [if_neg (by rcases h1 with h1 | ⟨h1, _⟩ <;> omega), if_pos h1]
theorem ackR_else (h : atL p.id r.out = some k) (ho : r.out[k]? = some o) (h0 : ¬ (p.kind = 5 ∧ o.qos = 2)) (h1 : ¬ ((p.kind = 4 ∧ o.qos = 1) ∨ ((p.kind = 7 ∧ o.qos = 2) ∧ isM r.gone p.id = true))) : r.ackR p = r := by
  unfold Rt.ackR
  rw [h]
  show (match r.out[k]? with | none => r | some o => _) = _
  rw [ho]
  show (if _ then _ else _) = _
  rw [if_neg h0, if_neg h1]
end
section
variable {P : Program} {ops : Array Oper} {rest : List Oper} {a : Act} {w : World} {Q : Exit → Act → World → Prop} {n : Nat} {l : FL} {dst : Option Nat} {ty : TypeId} {ps : String} {af : Array Edge} {gd : Option (Nat × Bool)} {x y : Operand} {mm : Nat} {EE : List (Int × Bool)}
theorem E.lookB (f : Fr n a l) (h : IsAss setM Try.prog w mm EE) (key : Int) (hd : (Lit.int .i64 key).wf = true) (hx : evl l x = some (.map (some mm))) (hy : evl l y = some (.int .i64 key)) :
    (execOp a.eval ⟨dst, .lookup 54 x y false, ty, ps, af, gd⟩).run Try.prog w = .ok (.value (.bool (isM EE key))) w := by
  have h1 := E.lookA (dst := dst) (ty := ty) (ps := ps) (af := af) (gd := gd) f h setOk U54 zero4 key hd hx hy
  rw [h1]
  unfold isM
  cases hq : lk (K := setM.K) (V := setM.V) EE key with
  | none =>
    have h2 : lk EE key = none := hq
    rw [h2]; rfl
  | some v =>
    have h2 : lk EE key = some v := hq
    rw [h2]; rfl
end
set_option maxRecDepth 100000 in
set_option maxHeartbeats 4000000 in
theorem ackR_any (p : Pk) (s : Ad) (hid : (Lit.int .i64 p.id).wf = true) (B g : Nat) (r : Rt) (m : RtM) (w : World) (RR : RtIn B w g r m) (hn : m.n ≤ 1000000) (hBw : B ≤ w.heap.size) : Calls Try.prog 31 #[.pointer (some ⟨g, 0, none⟩), .agg (p.cells s)] w (fun e w' => RtPost B g m w (r.ackR p) (.tuple #[]) e w') := by
 have HK : Kept [] w w := Kept.refl [] w
 have RR0 := RR
 obtain ⟨e1, e2, BT, RO, RQ, MR, MG, nof, oq, hlo, PS, PQ, hl1, hl2, hl3, hl4⟩ := RR0
 have hgl := BT.lt
 have hgr := IsAss.ne_blk MR BT
 have hgm := IsAss.ne_blk MG BT
 have hmr := IsAss.lt MR
 have hmg := IsAss.lt MG
 have hO0 := own_lt RO
 have hQ0 := own_lt RQ
 have hcO := own_cap RO
 have hcQ := own_cap RQ
 have hBg := hlo g rp_g
 have hBr := hlo m.mr rp_r
 have hBm := hlo m.mg rp_m
 clear BT RO RQ MR MG PS PQ
 refine C.enter Try.func31 rfl Try.ntmps31 rfl ?_
 intro a0 f0
 have f1 : Fr 98 a0 [(0, .pointer (some ⟨g, 0, none⟩)), (1, .agg (p.cells s))] := f0
 refine C.sk fun K0 hK0 => ?_
 refine L.box f1 wantedN (by decide) rfl rfl fun a2 w1 g0 N0 f2 => ?_
 have Bg0 := N0.blk
 have kg0 := N0.kept
 have log0 := N0.lo
 have ltg0 := Bg0.lt
 have szw1 := kg0.size
 have frg0 : w.heap.size ≤ g0 := Nat.le_trans HK.size log0
 replace HK := HK.z kg0
 clear f0 N0 kg0
 have f3 := f2.sub (sc 0 (sc 3 sn))
 refine wpList_nil (hK0 _ _ (C.sk fun K1 hK1 => ?_))
 refine L.ag f3 fun a4 f4 => ?_
 refine wpList_nil (hK1 _ _ ?_)
 have f5 := f4.sub (sc 0 (sc 3 (sc 4 sn)))
 refine wp_block ?_
 clear f1 a0 f2 f3 a2 f4
 refine C.loop (fun gk a W => ∃ k : Nat, k + gk = m.out.length ∧ Kept [] w W ∧ Blk W g0 34 (p.cells s) ∧ (∀ j (y : Pk), j < k → r.out[j]? = some y → y.id ≠ p.id) ∧ Fr 98 a [(0, .pointer (some ⟨g, 0, none⟩)), (3, .pointer (some ⟨g0, 0, none⟩)), (4, .int .i64 k)]) (m.out.length) ?_ ?_
 ·exact ⟨0, by omega, HK, Bg0, fun j y h => absurd h (by omega), f5.sub (sx (sx (sx sn)))⟩
 intro gk3 a6 w2 hI KL2 hKL2
 obtain ⟨k, hk, HK, Bg0, hp, f6⟩ := hI
 try clear f5
 refine wp_seq_k fun K3 hK3 => ?_
 refine C.sk fun K4 hK4 => ?_
 refine L.mv f6 fun a7 f7 => ?_
 refine L.mv f7 fun a8 f8 => ?_
 refine L.va f8 (E.nilCheck f8 rfl) fun a9 f9 => ?_
 refine L.fa 5 f9 U56 rfl wsz51_tw fun a10 f10 => ?_
 refine L.va f10 (E.load f10 U51 rfl rfl ((RR.kept0 HK).bt.cl rfl)) fun a11 f11 => ?_
 refine L.va f11 (E.lenL f11 U51 rfl) fun a12 f12 => ?_
 refine L.va f12 (E.lss f12 rfl rfl) fun a13 f13 => ?_
 clear f6 a6 f7 a7 f8 a8 f9 a9 f10 a10 f11 a11 f12 a12
 refine wpList_nil (hK4 _ _ ?_)
 have f14 := f13.sub (sc 0 (sc 3 (sc 4 (sc 12 sn))))
 clear f13
 refine f14.splitD 12 rfl (fun h0 f15 => ?_) (fun h0 f15 => ?_)
 ·obtain ⟨x, hx⟩ := some_at m.out k (by omega)
  obtain ⟨b, off, hA⟩ := Row.addr RR.rq (by omega)
  refine C.condT f15 rfl ?_
  refine wp_skip (hK3 _ _ ?_)
  have f16 := f15.sub (sc 0 (sc 3 (sc 4 sn)))
  refine wp_seq_k fun K5 hK5 => ?_
  refine wp_block ?_
  refine C.sk fun K6 hK6 => ?_
  refine L.mv f16 fun a17 f17 => ?_
  refine L.va f17 (E.nilCheck f17 rfl) fun a18 f18 => ?_
  refine L.fa 5 f18 U56 rfl wsz51_tw fun a19 f19 => ?_
  refine L.va f19 (E.load f19 U51 rfl rfl ((RR.kept0 HK).bt.cl rfl)) fun a20 f20 => ?_
  refine L.mv f20 fun a21 f21 => ?_
  refine L.va f21 (E.indexA f21 (by assumption) U51 wsz34_tw rfl rfl (by omega) (by omega)) fun a22 f22 => ?_
  clear f14 f15 f16 a13 f17 a17 f18 a18 f19 a19 f20 a20 f21 a21
  refine L.va f22 (E.loadR f22 U34 rfl wsz34_tw rfl (Row.at_ (RR.kept0 HK).rq hA hx) rfl) fun a23 f23 => ?_
  refine L.alloc f23 wantedN (by decide) (z := z34) (fun _ => by kernel_rfl) rfl fun a24 w3 g2 N2 f24 => ?_
  have Bg2 := N2.blk
  have kg2 := N2.kept
  have log2 := N2.lo
  have ltg2 := Bg2.lt
  have szw3 := kg2.size
  have frg2 : w.heap.size ≤ g2 := Nat.le_trans HK.size log2
  have neg0_g2 : g0 ≠ g2 := by have := Bg0.lt; omega
  replace HK := HK.z kg2
  replace Bg0 := Bg0.z kg2
  clear f22 a22 N2 kg2
  refine L.storeR f24 wantedN wsz34_tw rfl rfl rfl Bg2 rfl rfl fun a25 w4 f25 NB4 ks4 => ?_
  have szw4 := ks4.size
  replace HK := HK.trans ks4 (ktr (by omega))
  replace Bg0 := Bg0.kept ks4 (by simp; omega)
  replace Bg2 := NB4
  clear f23 a23 ks4 f24 a24
  refine wpList_nil (hK6 _ _ ?_)
  have f26 := f25.sub (sc 0 (sc 3 (sc 4 (sc 5 sn))))
  refine wp_seq_k fun K7 hK7 => ?_
  refine C.sk fun K8 hK8 => ?_
  refine L.fa 4 f26 U34 rfl wsz3_tw fun a27 f27 => ?_
  refine L.ld f27 U3 Bg2 fun a28 f28 => ?_
  refine L.fa 4 f28 U34 rfl wsz3_tw fun a29 f29 => ?_
  refine L.ld f29 U3 Bg0 fun a30 f30 => ?_
  refine L.va f30 (E.neq f30 rfl rfl) fun a31 f31 => ?_
  refine wpList_nil (hK8 _ _ ?_)
  have f32 := f31.sub (sc 0 (sc 3 (sc 4 (sc 5 (sc 26 sn)))))
  clear f25 f26 a25 f27 a27 f28 a28 f29 a29 f30 a30 f31
  refine f32.splitN 26 rfl (fun h1 f33 => ?_) (fun h1 f33 => ?_)
  ·have hs26 := h1
   refine C.condT f33 rfl ?_
   refine wp_exit (hK5 _ _ ?_)
   have f34 := f33.sub (sc 0 (sc 3 (sc 4 sn)))
   refine C.region ?_
   refine L.mv f34 fun a35 f35 => ?_
   refine L.va f35 (E.add f35 rfl rfl (IntWalk.i64_in _ (by omega))) fun a36 f36 => ?_
   refine L.ag f36 fun a37 f37 => ?_
   clear f32 f33 f34 a31 f35 a35 f36 a36
   refine wpList_nil (hKL2 _ _ (gk3 - 1) ?_ ?_)
   ·omega
   exact ⟨k + 1, by omega, HK, Bg0, pass_next hp (at_map e2 hx) hs26, by simpa using f37.sub (sx (sx (sx sn)))⟩
  have hs26 := h1
  refine C.condF f33 rfl ?_
  refine wp_skip (hK7 _ _ ?_)
  have f34 := f33.sub (sc 0 (sc 3 (sc 4 (sc 5 sn))))
  refine wp_seq_k fun K9 hK9 => ?_
  refine wp_block ?_
  obtain ⟨J7, hJ7⟩ : ∃ J : Act → World → Prop, J = fun a W => ∃ (b7 : Bool) (gx : Nat), (b7 = true → (p.kind = 5 ∧ x.1.qos = 2)) ∧ (b7 = false → ¬ (p.kind = 5 ∧ x.1.qos = 2)) ∧ Kept [] w W ∧ Blk W g0 34 (p.cells s) ∧ Blk W gx 34 (x.1.cells x.2) ∧ Fr 98 a [(0, .pointer (some ⟨g, 0, none⟩)), (3, .pointer (some ⟨g0, 0, none⟩)), (4, .int .i64 k), (5, .pointer (some ⟨gx, 0, none⟩)), (27, .bool b7)] := ⟨_, rfl⟩
  clear f32 f33
  refine C.cut J7 ?_ ?_
  ·skip
   refine C.region ?_
   refine L.fa 0 f34 U34 rfl wsz3_tw fun a35 f35 => ?_
   refine L.ld f35 U3 Bg0 fun a36 f36 => ?_
   refine L.va f36 (E.eq f36) fun a37 f37 => ?_
   refine L.mv f37 fun a38 f38 => ?_
   clear f34 a31 f35 a35 f36 a36 f37 a37
   refine f38.splitD 31 rfl (fun h2 f39 => ?_) (fun h2 f39 => ?_)
   ·refine L.fa 3 f39 U34 rfl wsz3_tw (hw := (f39.yes rfl rfl)) fun a40 f40 => ?_
    refine L.ld f40 U3 Bg2 (hw := (f40.yes rfl rfl)) fun a41 f41 => ?_
    refine L.va f41 (E.eq f41) (hw := (f41.yes rfl rfl)) fun a42 f42 => ?_
    refine L.va f42 (E.pickT f42 rfl rfl) fun a43 f43 => ?_
    refine L.ag f43 fun a44 f44 => ?_
    exact wpList_nil (jn J7 (by rw [hJ7]; exact ⟨_, g2, (fun h => by (simp at h; omega)), (fun h => by (simp at h; omega)), HK, Bg0, Bg2, f44.sub (sr rfl (sr rfl (sr rfl (sr rfl (sr rfl sn)))))⟩))
   refine L.run f39 (rest' := []) (by kernel_rfl) fun a40 f40 => ?_
   clear f38
   have f41 := f40.sub (scR f40 0 (scR f40 3 (scR f40 4 (scR f40 5 (sv 27 (.bool false) sn)))))
   exact wpList_nil (jn J7 (by rw [hJ7]; exact ⟨_, g2, (fun h => by exact absurd h (by decide)), (fun h => by (simp at h; omega)), HK, Bg0, Bg2, f41.sub (sr rfl (sr rfl (sr rfl (sr rfl (sr rfl sn)))))⟩))
  intro a35 w5 hj
  rw [hJ7] at hj
  clear hJ7 J7
  obtain ⟨b7, gx, hrec, hnrec, HK, Bg0, Bgx, f35⟩ := hj
  try clear f34
  refine f35.split 27 rfl (fun h3 f36 => ?_) (fun h3 f36 => ?_)
  ·have hs27 := h3
   refine C.condT f36 rfl ?_
   replace Bg0 : Blk w5 g0 34 (p.cells s) := Bg0
   obtain ⟨-, -, BT, RO, RQ, MR, MG, -, -, -, PS, PQ, -⟩ := RR.kept0 HK
   replace HK : Kept (m.fp g) w w5 := HK.mono0
   replace BT : Blk w5 g 56 #[.bool r.clean, .bool r.connect, .bool r.acked, .bool r.over, .slice m.Ao m.owed.length m.co, .slice m.Aq m.out.length m.cq, .map (some m.mr), .map (some m.mg), .bool r.present, .bool r.wish] := BT
   have hd7 : Kept [] w5 (w5.drewN 1) := (Kept.refl _ _).drewN 1
   refine RB.begin (S := fun W => (Blk W g0 34 (p.cells s)) ∧ (Blk W g 56 (rtL r m))) 6 (by kernel_rfl) ⟨Bg0.z hd7, BT.z hd7⟩ ?_
   obtain ⟨w6, hww6⟩ : ∃ W, W = w5.drewN 1 := ⟨_, rfl⟩
   rw [← hww6] at hd7 ⊢
   clear f35 hww6
   have szw6 := hd7.size
   replace Bg0 := Bg0.z hd7
   replace HK := HK.z hd7
   replace BT := BT.z hd7
   replace RO := Own.z RO hd7
   replace RQ := Own.z RQ hd7
   replace MR := IsAss.z MR hd7
   replace MG := IsAss.z MG hd7
   replace PS := PksS.kept0 PS hd7
   replace PQ := PksS.kept0 PQ hd7
   clear hd7
   refine RB.tk 0 f36 rfl ⟨Bg0, BT⟩ (fun W hW => (E.move f36 rfl)) fun a37 f37 => ?_
   refine RB.tk 1 f37 rfl ⟨Bg0, BT⟩ (fun W hW => (E.nilCheck f37 rfl)) fun a38 f38 => ?_
   refine RB.tk 2 f38 rfl ⟨Bg0, BT⟩ (fun W hW => (E.fa 6 f38 U56 rfl wsz54_tw)) fun a39 f39 => ?_
   refine RB.tk 3 f39 rfl ⟨Bg0, BT⟩ (fun W hW => (E.ld f39 U54 (hW.2))) fun a40 f40 => ?_
   refine RB.tk 4 f40 rfl ⟨Bg0, BT⟩ (fun W hW => (E.fa 4 f40 U34 rfl wsz3_tw)) fun a41 f41 => ?_
   refine RB.tk 5 f41 rfl ⟨Bg0, BT⟩ (fun W hW => (E.ld f41 U3 (hW.1))) fun a42 f42 => ?_
   refine RB.stop (by kernel_rfl) ?_
   refine R.one 6 (by kernel_rfl) ?_
   refine O.mapPutA f42 rfl wantedN MR setOk U54 (p.id) hid (true) rfl rfl rfl (Nat.lt_of_le_of_lt hl3 (by unfold maxLen; omega)) (fun w' _ ks => trivial) fun a43 w7 MN ks f43 => ?_
   have szw7 := ks.size
   have Bg0n := Bg0.kept ks (by simpa using Ne.symm (IsAss.ne_blk MR Bg0))
   have HKn := HK.trans ks (fun x hx hlt => by obtain rfl := List.mem_singleton.1 hx; exact rp_r)
   have BTn := BT.kept ks (by simpa using Ne.symm (IsAss.ne_blk MR BT))
   have ROn := own_keptM RO ks MR
   have RQn := own_keptM RQ ks MR
   have MGn := IsAss.kept MG ks (by simpa using (Ne.symm nof))
   have PSn := PksS.keptT PS ks (NoPk.map MR) (by intro y hy; obtain rfl := List.mem_singleton.1 hy; omega)
   have PQn := PksS.keptT PQ ks (NoPk.map MR) (by intro y hy; obtain rfl := List.mem_singleton.1 hy; omega)
   clear f36 a35 f37 a37 f38 a38 f39 a39 f40 a40 f41 a41 f42 ks MR  Bg0 HK BT RO RQ MG PS PQ
   have Bg0 := Bg0n
   have HK := HKn
   have BT := BTn
   have RO := ROn
   have RQ := RQn
   have MG := MGn
   have PS := PSn
   have PQ := PQn
   clear Bg0n HKn BTn ROn RQn MGn PSn PQn
   have MR := MN
   clear MN
   refine R.done (by kernel_rfl) (hK9 _ _ ?_)
   have f44 := f43.sub sn
   refine wp_ret ?_; (try simp only [xt, xb]); refine C.ret0 f44 rfl ?_
   have hat := atL_some hp (at_map e2 hx) hs26
   have hro := at_map e2 hx
   rw [ackR_rec hat hro (hrec hs27).1 (hrec hs27).2]
   exact ⟨rfl, { m with n := m.n + 1 }, ⟨e1, e2, BT, RO, RQ, MR, MG, nof, oq, hlo, PS, PQ, Nat.le_succ_of_le hl1, Nat.le_succ_of_le hl2, strike_le hl3 _ _, Nat.le_succ_of_le hl4⟩, Nat.le_refl _, HK, fun x hx => .inl hx⟩
  have hs27 := h3
  refine C.condF f36 rfl ?_
  obtain ⟨J10, hJ10⟩ : ∃ J : Act → World → Prop, J = fun a W => ∃ bb : Bool, (bb = true → ((p.kind = 4 ∧ x.1.qos = 1) ∨ ((p.kind = 7 ∧ x.1.qos = 2) ∧ isM r.gone p.id = true))) ∧ (bb = false → ¬ ((p.kind = 4 ∧ x.1.qos = 1) ∨ ((p.kind = 7 ∧ x.1.qos = 2) ∧ isM r.gone p.id = true))) ∧ Kept [] w W ∧ Blk W g0 34 (p.cells s) ∧ Fr 98 a [(0, .pointer (some ⟨g, 0, none⟩)), (3, .pointer (some ⟨g0, 0, none⟩)), (4, .int .i64 k), (42, .bool bb)] := ⟨_, rfl⟩
  clear f35
  refine C.cut J10 ?_ ?_
  ·skip
   refine C.sk fun K10 hK10 => ?_
   refine L.fa 0 f36 U34 rfl wsz3_tw fun a37 f37 => ?_
   refine L.ld f37 U3 Bg0 fun a38 f38 => ?_
   refine L.va f38 (E.eq f38) fun a39 f39 => ?_
   refine L.mv f39 fun a40 f40 => ?_
   clear f36 a35 f37 a37 f38 a38 f39 a39
   refine f40.splitD 46 rfl (fun h4 f41 => ?_) (fun h4 f41 => ?_)
   ·refine L.fa 3 f41 U34 rfl wsz3_tw (hw := (f41.yes rfl rfl)) fun a42 f42 => ?_
    refine L.ld f42 U3 Bgx (hw := (f42.yes rfl rfl)) fun a43 f43 => ?_
    refine L.va f43 (E.eq f43) (hw := (f43.yes rfl rfl)) fun a44 f44 => ?_
    refine L.va f44 (E.pickT f44 rfl rfl) fun a45 f45 => ?_
    refine L.ag f45 fun a46 f46 => ?_
    refine wpList_nil (hK10 _ _ ?_)
    have f47 := f46.sub (sc 0 (sc 3 (sc 4 (sc 5 (sc 42 sn)))))
    clear f40 f41 a40 f42 a42 f43 a43 f44 a44 f45 a45 f46
    refine f47.splitD 42 rfl (fun h5 f48 => ?_) (fun h5 f48 => ?_)
    ·have hs42 := h5
     refine C.condT f48 rfl ?_
     exact wp_skip (jn J10 (by rw [hJ10]; exact ⟨_, (fun h => by (simp at h; exact .inl ⟨by omega, by omega⟩)), (fun h => by (simp_all; done)), HK, Bg0, f48.sub (sr rfl (sr rfl (sr rfl (sr rfl sn))))⟩))
    have hs42 := h5
    refine C.condF f48 rfl ?_
    replace Bg0 : Blk w5 g0 34 (p.cells s) := Bg0
    replace Bgx : Blk w5 gx 34 (x.1.cells x.2) := Bgx
    have hd9 : Kept [] w5 (w5.drewN 1) := (Kept.refl _ _).drewN 1
    refine R.beginT (S := fun W => (Kept [] w W) ∧ (Blk W g0 34 (p.cells s)) ∧ (Blk W gx 34 (x.1.cells x.2))) (by kernel_rfl) (by kernel_rfl) ⟨HK.z hd9, Bg0.z hd9, Bgx.z hd9⟩ fun ht => ?_
    obtain ⟨w6, hww6⟩ : ∃ W, W = w5.drewN 1 := ⟨_, rfl⟩
    rw [← hww6] at hd9 ⊢
    clear f47 hww6
    have szw6 := hd9.size
    replace HK := HK.z hd9
    replace Bg0 := Bg0.z hd9
    replace Bgx := Bgx.z hd9
    clear hd9
    refine R.u 0 f48 rfl ht ⟨HK, Bg0, Bgx⟩ (fun W hW => (E.fa 0 f48 U34 rfl wsz3_tw)) fun a49 f49 => ?_
    refine R.u 1 f49 rfl ht ⟨HK, Bg0, Bgx⟩ (fun W hW => (E.ld f49 U3 (hW.2.1))) fun a50 f50 => ?_
    refine R.u 2 f50 rfl ht ⟨HK, Bg0, Bgx⟩ (fun W hW => (E.eq f50)) fun a51 f51 => ?_
    refine R.u 3 f51 rfl ht ⟨HK, Bg0, Bgx⟩ (fun W hW => (E.move f51 rfl)) fun a52 f52 => ?_
    clear f48 a46 f49 a49 f50 a50 f51 a51
    refine f52.splitD 54 rfl (fun h6 f53 => ?_) (fun h6 f53 => ?_)
    ·refine R.u 4 f53 rfl ht ⟨HK, Bg0, Bgx⟩ (fun W hW => (E.fa 3 f53 U34 rfl wsz3_tw)) (hw := (f53.yes rfl rfl)) fun a54 f54 => ?_
     refine R.u 5 f54 rfl ht ⟨HK, Bg0, Bgx⟩ (fun W hW => (E.ld f54 U3 (hW.2.2))) (hw := (f54.yes rfl rfl)) fun a55 f55 => ?_
     refine R.u 6 f55 rfl ht ⟨HK, Bg0, Bgx⟩ (fun W hW => (E.eq f55)) (hw := (f55.yes rfl rfl)) fun a56 f56 => ?_
     refine R.u 7 f56 rfl ht ⟨HK, Bg0, Bgx⟩ (fun W hW => (E.pickT f56 rfl rfl)) fun a57 f57 => ?_
     refine R.u 8 f57 rfl ht ⟨HK, Bg0, Bgx⟩ (fun W hW => (E.move f57 rfl)) fun a58 f58 => ?_
     clear f52 f53 a52 f54 a54 f55 a55 f56 a56 f57 a57
     refine f58.splitD 59 rfl (fun h7 f59 => ?_) (fun h7 f59 => ?_)
     ·refine R.u 9 f59 rfl ht ⟨HK, Bg0, Bgx⟩ (fun W hW => (E.move f59 rfl)) (hw := (f59.yes rfl rfl)) fun a60 f60 => ?_
      refine R.u 10 f60 rfl ht ⟨HK, Bg0, Bgx⟩ (fun W hW => (E.nilCheck f60 rfl)) (hw := (f60.yes rfl rfl)) fun a61 f61 => ?_
      refine R.u 11 f61 rfl ht ⟨HK, Bg0, Bgx⟩ (fun W hW => (E.fa 7 f61 U56 rfl wsz54_tw)) (hw := (f61.yes rfl rfl)) fun a62 f62 => ?_
      refine R.u 12 f62 rfl ht ⟨HK, Bg0, Bgx⟩ (fun W hW => (E.load f62 U54 rfl rfl ((RR.kept0 hW.1).bt.cl rfl))) (hw := (f62.yes rfl rfl)) fun a63 f63 => ?_
      refine R.u 13 f63 rfl ht ⟨HK, Bg0, Bgx⟩ (fun W hW => (E.fa 4 f63 U34 rfl wsz3_tw)) (hw := (f63.yes rfl rfl)) fun a64 f64 => ?_
      refine R.u 14 f64 rfl ht ⟨HK, Bg0, Bgx⟩ (fun W hW => (E.ld f64 U3 (hW.2.1))) (hw := (f64.yes rfl rfl)) fun a65 f65 => ?_
      refine R.u 15 f65 rfl ht ⟨HK, Bg0, Bgx⟩ (fun W hW => (E.lookB f65 (RR.kept0 hW.1).mg (p.id) hid rfl rfl)) (hw := (f65.yes rfl rfl)) fun a66 f66 => ?_
      clear f58 f59 a58 f60 a60 f61 a61 f62 a62 f63 a63 f64 a64 f65 a65
      refine R.u 16 f66 rfl ht ⟨HK, Bg0, Bgx⟩ (fun W hW => (E.pickT f66 rfl rfl)) fun a67 f67 => ?_
      refine R.u 17 f67 rfl ht ⟨HK, Bg0, Bgx⟩ (fun W hW => (E.assign f67 rfl)) fun a68 f68 => ?_
      exact R.done (by kernel_rfl) (jn J10 (by rw [hJ10]; exact ⟨_, (fun h => by (exact .inr ⟨⟨by omega, by omega⟩, h⟩)), (fun h => by (simp_all; done)), HK, Bg0, f68.sub (sr rfl (sr rfl (sr rfl (sr rfl sn))))⟩))
     refine R.runT [9, 10, 11, 12, 13, 14, 15, 16, 17] (tf 18 []) f59 ht (fun _ _ _ _ h => h) ⟨HK, Bg0, Bgx⟩ (by kernel_rfl) fun a60 f60 => ?_
     have f61 := f60.sub (scT f60 0 (scT f60 3 (scT f60 4 (sv 42 (.bool false) sn))))
     exact R.done (by kernel_rfl) (jn J10 (by rw [hJ10]; exact ⟨_, (fun h => by exact absurd h (by decide)), (fun h => by (simp at h; simp_all; done)), HK, Bg0, f61.sub (sr rfl (sr rfl (sr rfl (sr rfl sn))))⟩))
    refine R.runT [4, 5, 6, 7, 8, 9, 10, 11, 12, 13, 14, 15, 16, 17] (tf 18 []) f53 ht (fun _ _ _ _ h => h) ⟨HK, Bg0, Bgx⟩ (by kernel_rfl) fun a54 f54 => ?_
    have f55 := f54.sub (scT f54 0 (scT f54 3 (scT f54 4 (sv 42 (.bool false) sn))))
    exact R.done (by kernel_rfl) (jn J10 (by rw [hJ10]; exact ⟨_, (fun h => by exact absurd h (by decide)), (fun h => by (simp at h; simp_all; done)), HK, Bg0, f55.sub (sr rfl (sr rfl (sr rfl (sr rfl sn))))⟩))
   refine L.run f41 (rest' := []) (by kernel_rfl) fun a42 f42 => ?_
   clear f40
   refine wpList_nil (hK10 _ _ ?_)
   have f43 := f42.sub (scR f42 0 (scR f42 3 (scR f42 4 (scR f42 5 (sv 42 (.bool false) sn)))))
   refine C.condF f43 rfl ?_
   replace Bg0 : Blk w5 g0 34 (p.cells s) := Bg0
   replace Bgx : Blk w5 gx 34 (x.1.cells x.2) := Bgx
   have hd9 : Kept [] w5 (w5.drewN 1) := (Kept.refl _ _).drewN 1
   refine R.beginT (S := fun W => (Kept [] w W) ∧ (Blk W g0 34 (p.cells s)) ∧ (Blk W gx 34 (x.1.cells x.2))) (by kernel_rfl) (by kernel_rfl) ⟨HK.z hd9, Bg0.z hd9, Bgx.z hd9⟩ fun ht => ?_
   obtain ⟨w6, hww6⟩ : ∃ W, W = w5.drewN 1 := ⟨_, rfl⟩
   rw [← hww6] at hd9 ⊢
   clear f42 f41 hww6
   have szw6 := hd9.size
   replace HK := HK.z hd9
   replace Bg0 := Bg0.z hd9
   replace Bgx := Bgx.z hd9
   clear hd9
   refine R.u 0 f43 rfl ht ⟨HK, Bg0, Bgx⟩ (fun W hW => (E.fa 0 f43 U34 rfl wsz3_tw)) fun a44 f44 => ?_
   refine R.u 1 f44 rfl ht ⟨HK, Bg0, Bgx⟩ (fun W hW => (E.ld f44 U3 (hW.2.1))) fun a45 f45 => ?_
   refine R.u 2 f45 rfl ht ⟨HK, Bg0, Bgx⟩ (fun W hW => (E.eq f45)) fun a46 f46 => ?_
   refine R.u 3 f46 rfl ht ⟨HK, Bg0, Bgx⟩ (fun W hW => (E.move f46 rfl)) fun a47 f47 => ?_
   clear f43 a42 f44 a44 f45 a45 f46 a46
   refine f47.splitD 54 rfl (fun h8 f48 => ?_) (fun h8 f48 => ?_)
   ·refine R.u 4 f48 rfl ht ⟨HK, Bg0, Bgx⟩ (fun W hW => (E.fa 3 f48 U34 rfl wsz3_tw)) (hw := (f48.yes rfl rfl)) fun a49 f49 => ?_
    refine R.u 5 f49 rfl ht ⟨HK, Bg0, Bgx⟩ (fun W hW => (E.ld f49 U3 (hW.2.2))) (hw := (f49.yes rfl rfl)) fun a50 f50 => ?_
    refine R.u 6 f50 rfl ht ⟨HK, Bg0, Bgx⟩ (fun W hW => (E.eq f50)) (hw := (f50.yes rfl rfl)) fun a51 f51 => ?_
    refine R.u 7 f51 rfl ht ⟨HK, Bg0, Bgx⟩ (fun W hW => (E.pickT f51 rfl rfl)) fun a52 f52 => ?_
    refine R.u 8 f52 rfl ht ⟨HK, Bg0, Bgx⟩ (fun W hW => (E.move f52 rfl)) fun a53 f53 => ?_
    clear f47 f48 a47 f49 a49 f50 a50 f51 a51 f52 a52
    refine f53.splitD 59 rfl (fun h9 f54 => ?_) (fun h9 f54 => ?_)
    ·refine R.u 9 f54 rfl ht ⟨HK, Bg0, Bgx⟩ (fun W hW => (E.move f54 rfl)) (hw := (f54.yes rfl rfl)) fun a55 f55 => ?_
     refine R.u 10 f55 rfl ht ⟨HK, Bg0, Bgx⟩ (fun W hW => (E.nilCheck f55 rfl)) (hw := (f55.yes rfl rfl)) fun a56 f56 => ?_
     refine R.u 11 f56 rfl ht ⟨HK, Bg0, Bgx⟩ (fun W hW => (E.fa 7 f56 U56 rfl wsz54_tw)) (hw := (f56.yes rfl rfl)) fun a57 f57 => ?_
     refine R.u 12 f57 rfl ht ⟨HK, Bg0, Bgx⟩ (fun W hW => (E.load f57 U54 rfl rfl ((RR.kept0 hW.1).bt.cl rfl))) (hw := (f57.yes rfl rfl)) fun a58 f58 => ?_
     refine R.u 13 f58 rfl ht ⟨HK, Bg0, Bgx⟩ (fun W hW => (E.fa 4 f58 U34 rfl wsz3_tw)) (hw := (f58.yes rfl rfl)) fun a59 f59 => ?_
     refine R.u 14 f59 rfl ht ⟨HK, Bg0, Bgx⟩ (fun W hW => (E.ld f59 U3 (hW.2.1))) (hw := (f59.yes rfl rfl)) fun a60 f60 => ?_
     refine R.u 15 f60 rfl ht ⟨HK, Bg0, Bgx⟩ (fun W hW => (E.lookB f60 (RR.kept0 hW.1).mg (p.id) hid rfl rfl)) (hw := (f60.yes rfl rfl)) fun a61 f61 => ?_
     clear f53 f54 a53 f55 a55 f56 a56 f57 a57 f58 a58 f59 a59 f60 a60
     refine R.u 16 f61 rfl ht ⟨HK, Bg0, Bgx⟩ (fun W hW => (E.pickT f61 rfl rfl)) fun a62 f62 => ?_
     refine R.u 17 f62 rfl ht ⟨HK, Bg0, Bgx⟩ (fun W hW => (E.assign f62 rfl)) fun a63 f63 => ?_
     exact R.done (by kernel_rfl) (jn J10 (by rw [hJ10]; exact ⟨_, (fun h => by (exact .inr ⟨⟨by omega, by omega⟩, h⟩)), (fun h => by (simp_all; done)), HK, Bg0, f63.sub (sr rfl (sr rfl (sr rfl (sr rfl sn))))⟩))
    refine R.runT [9, 10, 11, 12, 13, 14, 15, 16, 17] (tf 18 []) f54 ht (fun _ _ _ _ h => h) ⟨HK, Bg0, Bgx⟩ (by kernel_rfl) fun a55 f55 => ?_
    have f56 := f55.sub (scT f55 0 (scT f55 3 (scT f55 4 (sv 42 (.bool false) sn))))
    exact R.done (by kernel_rfl) (jn J10 (by rw [hJ10]; exact ⟨_, (fun h => by exact absurd h (by decide)), (fun h => by (simp at h; simp_all; done)), HK, Bg0, f56.sub (sr rfl (sr rfl (sr rfl (sr rfl sn))))⟩))
   refine R.runT [4, 5, 6, 7, 8, 9, 10, 11, 12, 13, 14, 15, 16, 17] (tf 18 []) f48 ht (fun _ _ _ _ h => h) ⟨HK, Bg0, Bgx⟩ (by kernel_rfl) fun a49 f49 => ?_
   have f50 := f49.sub (scT f49 0 (scT f49 3 (scT f49 4 (sv 42 (.bool false) sn))))
   exact R.done (by kernel_rfl) (jn J10 (by rw [hJ10]; exact ⟨_, (fun h => by exact absurd h (by decide)), (fun h => by (simp at h; simp_all; done)), HK, Bg0, f50.sub (sr rfl (sr rfl (sr rfl (sr rfl sn))))⟩))
  intro a37 w6 hj
  rw [hJ10] at hj
  clear hJ10 J10
  obtain ⟨bb, hyes, hno, HK, Bg0, f37⟩ := hj
  try clear f36
  refine f37.split 42 rfl (fun h10 f38 => ?_) (fun h10 f38 => ?_)
  ·have hs42 := h10
   refine C.condT f38 rfl ?_
   refine wp_seq_k fun K11 hK11 => ?_
   replace Bg0 : Blk w6 g0 34 (p.cells s) := Bg0
   obtain ⟨-, -, BT, RO, RQ, MR, MG, -, -, -, PS, PQ, -⟩ := RR.kept0 HK
   replace HK : Kept (m.fp g) w w6 := HK.mono0
   replace BT : Blk w6 g 56 #[.bool r.clean, .bool r.connect, .bool r.acked, .bool r.over, .slice m.Ao m.owed.length m.co, .slice m.Aq m.out.length m.cq, .map (some m.mr), .map (some m.mg), .bool r.present, .bool r.wish] := BT
   have hd10 : Kept [] w6 (w6.drewN 1) := (Kept.refl _ _).drewN 1
   refine RB.begin (S := fun W => (Blk W g 56 (rtL r m))) 16 (by kernel_rfl) (BT.z hd10) ?_
   obtain ⟨w7, hww7⟩ : ∃ W, W = w6.drewN 1 := ⟨_, rfl⟩
   rw [← hww7] at hd10 ⊢
   clear f37 hww7
   have szw7 := hd10.size
   replace Bg0 := Bg0.z hd10
   replace HK := HK.z hd10
   replace BT := BT.z hd10
   replace RO := Own.z RO hd10
   replace RQ := Own.z RQ hd10
   replace MR := IsAss.z MR hd10
   replace MG := IsAss.z MG hd10
   replace PS := PksS.kept0 PS hd10
   replace PQ := PksS.kept0 PQ hd10
   clear hd10
   refine RB.tk 0 f38 rfl BT (fun W hW => (E.move f38 rfl)) fun a39 f39 => ?_
   refine RB.tk 1 f39 rfl BT (fun W hW => (E.move f39 rfl)) fun a40 f40 => ?_
   refine RB.tk 2 f40 rfl BT (fun W hW => (E.nilCheck f40 rfl)) fun a41 f41 => ?_
   refine RB.tk 3 f41 rfl BT (fun W hW => (E.fa 5 f41 U56 rfl wsz51_tw)) fun a42 f42 => ?_
   refine RB.tk 4 f42 rfl BT (fun W hW => (E.ld f42 U51 (hW))) fun a43 f43 => ?_
   refine RB.tk 5 f43 rfl BT (fun W hW => (E.move f43 rfl)) fun a44 f44 => ?_
   refine RB.tk 6 f44 rfl BT (fun W hW => (E.slLhi f44 U51 wsz34_tw rfl rfl (by omega) (by omega) )) fun a45 f45 => ?_
   clear f38 a37 f39 a39 f40 a40 f41 a41 f42 a42 f43 a43 f44 a44
   refine RB.tk 8 f45 rfl BT (fun W hW => (E.move f45 rfl)) fun a46 f46 => ?_
   refine RB.tk 9 f46 rfl BT (fun W hW => (E.nilCheck f46 rfl)) fun a47 f47 => ?_
   refine RB.tk 10 f47 rfl BT (fun W hW => (E.fa 5 f47 U56 rfl wsz51_tw)) fun a48 f48 => ?_
   refine RB.tk 11 f48 rfl BT (fun W hW => (E.ld f48 U51 (hW))) fun a49 f49 => ?_
   refine RB.tk 12 f49 rfl BT (fun W hW => (E.move f49 rfl)) fun a50 f50 => ?_
   refine RB.tk 13 f50 rfl BT (fun W hW => (E.add f50 rfl rfl (IntWalk.i64_in _ (by omega)))) fun a51 f51 => ?_
   refine RB.tk 14 f51 rfl BT (fun W hW => (E.slLlo f51 U51 wsz34_tw rfl rfl (by omega) (by omega) )) fun a52 f52 => ?_
   clear f45 a45 f46 a46 f47 a47 f48 a48 f49 a49 f50 a50 f51 a51
   refine RB.one 7 (by kernel_rfl) (by kernel_rfl) ?_
   have Bg0_0 := Bg0
   have HK_0 := HK
   have BT_0 := BT
   have RO_0 := RO
   have RQ_0 := RQ
   have MR_0 := MR
   have MG_0 := MG
   have PS_0 := PS
   have PQ_0 := PQ
   have szd : w7.heap.size ≤ w7.heap.size := Nat.le_refl _
   refine O.append f52 rfl wantedN (by decide) U51 wzib34_tw rfl rfl rfl rfl (Own.nil _ _ _) (Sl.of_own (Own.head RQ (k := k) (by omega))) (row_oneT _ _) (by unfold maxLen; omega) (by omega) fun a53 w8 A1 c1 AP => ?_
   have k1 : Kept [] w7 w8 := (AP.fresh rfl).1
   have szw8 := k1.size
   have F1 : Fresh w7 w8 34 24 A1 (0 + k) c1 _ := ⟨AP.own, (AP.fresh rfl).2⟩
   clear AP
   replace Bg0 := Bg0.z k1
   replace HK := HK.z k1
   replace BT := BT.z k1
   replace RO := Own.z RO k1
   replace RQ := Own.z RQ k1
   replace MR := IsAss.z MR k1
   replace MG := IsAss.z MG k1
   replace PS := PksS.kept0 PS k1
   replace PQ := PksS.kept0 PQ k1
   refine ⟨BT, fun f53 => ?_⟩
   refine RB.one 15 (by kernel_rfl) (by kernel_rfl) ?_
   refine O.append f53 rfl wantedN (by decide) U51 wzib34_tw rfl rfl rfl rfl F1.own (Sl.of_own (Own.cut RQ (k := ((k : Int) + 1).toNat) (by omega))) (row_oneD _ _) (by unfold maxLen; omega) (by omega) fun a54 w9 A2 c2 AP => ?_
   have kg : Kept [] w7 w9 := AP.grow F1 k1
   have szw9 := kg.size
   have F2 := AP.next F1 k1.size
   clear f52 a52 AP F1 k1 Bg0 HK BT RO RQ MR MG PS PQ
   have Bg0 := Bg0_0.kept kg (by simp)
   have HK := HK_0.z kg
   have BT := BT_0.kept kg (by simp)
   have RO := Own.z RO_0 kg
   have RQ := Own.z RQ_0 kg
   have MR := IsAss.z MR_0 kg
   have MG := IsAss.z MG_0 kg
   have PS := PksS.kept0 PS_0 kg
   have PQ := PksS.kept0 PQ_0 kg
   have hF3 : ∀ b, A2.map (·.block) = some b → w7.heap.size ≤ b := F2.lo
   have hF2 : ∀ b, A2.map (·.block) = some b → w.heap.size ≤ b := fun b hb => Nat.le_trans (Nat.le_trans HK_0.size szd) (F2.lo b hb)
   refine ⟨BT, fun f54 => ?_⟩
   clear f53 a53 kg Bg0_0 HK_0 BT_0 RO_0 RQ_0 MR_0 MG_0 PS_0 PQ_0
   refine RB.stop (by kernel_rfl) ?_
   refine  R.take 16 f54 rfl rfl (by decide) (by kernel_rfl) (by kernel_rfl) (by kernel_rfl) (fun _ _ _ _ h => h) wantedN trivial (fun W hW => (E.nilCheck f54 rfl)) fun a55 f55 => ?_
   refine  R.take 17 f55 rfl rfl (by decide) (by kernel_rfl) (by kernel_rfl) (by kernel_rfl) (fun _ _ _ _ h => h) wantedN trivial (fun W hW => (E.fa 5 f55 U56 rfl wsz51_tw)) fun a56 f56 => ?_
   refine R.one 18 (by kernel_rfl) ?_
   refine OT.store f56 rfl wantedN wsz51_tw rfl rfl rfl BT (by (simp [Value.cells]; done)) fun a57 w10 f57 NB10 ks10 => ?_
   have szw10 := ks10.size
   replace Bg0 := Bg0.kept ks10 (by simp; omega)
   replace HK := HK.trans ks10 (fun x hx hlt => by obtain rfl := List.mem_singleton.1 hx; exact rp_g)
   replace RO := own_kept1 RO ks10 BT (by decide)
   replace RQ := own_kept1 RQ ks10 BT (by decide)
   replace MR := IsAss.kept MR ks10 (by simpa using IsAss.ne_blk MR BT)
   replace MG := IsAss.kept MG ks10 (by simpa using IsAss.ne_blk MG BT)
   replace PS := PksS.keptT PS ks10 (NoPk.blk BT (by decide)) (by intro y hy; obtain rfl := List.mem_singleton.1 hy; omega)
   replace PQ := PksS.keptT PQ ks10 (NoPk.blk BT (by decide)) (by intro y hy; obtain rfl := List.mem_singleton.1 hy; omega)
   replace F2 := fresh_blk F2 ks10 BT (by decide)
   replace BT := NB10
   simp only [Value.cells, z1, z2, z3, Nat.reduceAdd, Nat.zero_add] at BT
   clear f54 a54 f55 a55 ks10 f56 a56
   refine R.done (by kernel_rfl) (hK11 _ _ ?_)
   have f58 := f57.sub (sc 0 (sc 3 sn))
   refine wp_seq_k fun K12 hK12 => ?_
   have hdl := del_len (l := m.out) (k := k) (by omega)
   rw [hdl] at BT
   have RN : Row w10 A2 c2 (m.out.take k ++ m.out.drop (k + 1)) := row_del (by omega) F2.own
   clear f57 F2 RQ
   have RQ := RN
   clear RN
   have hwh : ∀ b, A2.map (·.block) = some b → m.Aq.map (·.block) = some b ∨ w.heap.size ≤ b := fun b hb => .inr (hF2 b hb)
   have hd11 : Kept [] w10 (w10.drewN 1) := (Kept.refl _ _).drewN 1
   refine R.beginT (S := fun W => (Blk W g0 34 (p.cells s)) ∧ (Blk W g 56 #[.bool r.clean, .bool r.connect, .bool r.acked, .bool r.over, .slice m.Ao m.owed.length m.co, .slice A2 (m.out.take k ++ m.out.drop (k + 1)).length c2, .map (some m.mr), .map (some m.mg), .bool r.present, .bool r.wish])) (by kernel_rfl) (by kernel_rfl) ⟨Bg0.z hd11, BT.z hd11⟩ fun ht => ?_
   obtain ⟨w11, hww11⟩ : ∃ W, W = w10.drewN 1 := ⟨_, rfl⟩
   rw [← hww11] at hd11 ⊢
   clear hww11
   have szw11 := hd11.size
   replace Bg0 := Bg0.z hd11
   replace HK := HK.z hd11
   replace RO := Own.z RO hd11
   replace MR := IsAss.z MR hd11
   replace MG := IsAss.z MG hd11
   replace PS := PksS.kept0 PS hd11
   replace PQ := PksS.kept0 PQ hd11
   replace BT := BT.z hd11
   replace RQ := Own.z RQ hd11
   clear hd11
   refine R.u 0 f58 rfl ht ⟨Bg0, BT⟩ (fun W hW => (E.move f58 rfl)) fun a59 f59 => ?_
   refine R.u 1 f59 rfl ht ⟨Bg0, BT⟩ (fun W hW => (E.nilCheck f59 rfl)) fun a60 f60 => ?_
   refine R.u 2 f60 rfl ht ⟨Bg0, BT⟩ (fun W hW => (E.fa 6 f60 U56 rfl wsz54_tw)) fun a61 f61 => ?_
   refine R.u 3 f61 rfl ht ⟨Bg0, BT⟩ (fun W hW => (E.ld f61 U54 (hW.2))) fun a62 f62 => ?_
   refine R.u 4 f62 rfl ht ⟨Bg0, BT⟩ (fun W hW => (E.fa 4 f62 U34 rfl wsz3_tw)) fun a63 f63 => ?_
   refine R.u 5 f63 rfl ht ⟨Bg0, BT⟩ (fun W hW => (E.ld f63 U3 (hW.1))) fun a64 f64 => ?_
   refine R.one 6 (by kernel_rfl) ?_
   refine O.mapDropA f64 rfl wantedN MR setOk U54 rfl (p.id) hid rfl rfl (fun w' _ ks => ⟨Bg0.kept ks (by simpa using Ne.symm (IsAss.ne_blk MR Bg0)), BT.kept ks (by simpa using Ne.symm (IsAss.ne_blk MR BT))⟩) fun a65 w12 MN ks f65 => ?_
   have szw12 := ks.size
   have Bg0n := Bg0.kept ks (by simpa using Ne.symm (IsAss.ne_blk MR Bg0))
   have HKn := HK.trans ks (fun x hx hlt => by obtain rfl := List.mem_singleton.1 hx; exact rp_r)
   have ROn := own_keptM RO ks MR
   have MGn := IsAss.kept MG ks (by simpa using (Ne.symm nof))
   have PSn := PksS.keptT PS ks (NoPk.map MR) (by intro y hy; obtain rfl := List.mem_singleton.1 hy; omega)
   have PQn := PksS.keptT PQ ks (NoPk.map MR) (by intro y hy; obtain rfl := List.mem_singleton.1 hy; omega)
   have BTn := BT.kept ks (by simpa using Ne.symm (IsAss.ne_blk MR BT))
   have RQn := own_keptM RQ ks MR
   clear f58 a57 f59 a59 f60 a60 f61 a61 f62 a62 f63 a63 f64 ks MR  Bg0 HK RO MG PS PQ BT RQ
   have Bg0 := Bg0n
   have HK := HKn
   have RO := ROn
   have MG := MGn
   have PS := PSn
   have PQ := PQn
   have BT := BTn
   have RQ := RQn
   clear Bg0n HKn ROn MGn PSn PQn BTn RQn
   have MR := MN
   clear MN
   refine R.done (by kernel_rfl) (hK12 _ _ ?_)
   have f66 := f65.sub (sc 0 (sc 3 sn))
   have hd12 : Kept [] w12 (w12.drewN 1) := (Kept.refl _ _).drewN 1
   refine R.beginT (S := fun W => (Blk W g0 34 (p.cells s)) ∧ (Blk W g 56 #[.bool r.clean, .bool r.connect, .bool r.acked, .bool r.over, .slice m.Ao m.owed.length m.co, .slice A2 (m.out.take k ++ m.out.drop (k + 1)).length c2, .map (some m.mr), .map (some m.mg), .bool r.present, .bool r.wish])) (by kernel_rfl) (by kernel_rfl) ⟨Bg0.z hd12, BT.z hd12⟩ fun ht => ?_
   obtain ⟨w13, hww13⟩ : ∃ W, W = w12.drewN 1 := ⟨_, rfl⟩
   rw [← hww13] at hd12 ⊢
   clear f65 hww13
   have szw13 := hd12.size
   replace Bg0 := Bg0.z hd12
   replace HK := HK.z hd12
   replace RO := Own.z RO hd12
   replace MG := IsAss.z MG hd12
   replace PS := PksS.kept0 PS hd12
   replace PQ := PksS.kept0 PQ hd12
   replace BT := BT.z hd12
   replace RQ := Own.z RQ hd12
   replace MR := IsAss.z MR hd12
   clear hd12
   refine R.u 0 f66 rfl ht ⟨Bg0, BT⟩ (fun W hW => (E.move f66 rfl)) fun a67 f67 => ?_
   refine R.u 1 f67 rfl ht ⟨Bg0, BT⟩ (fun W hW => (E.nilCheck f67 rfl)) fun a68 f68 => ?_
   refine R.u 2 f68 rfl ht ⟨Bg0, BT⟩ (fun W hW => (E.fa 7 f68 U56 rfl wsz54_tw)) fun a69 f69 => ?_
   refine R.u 3 f69 rfl ht ⟨Bg0, BT⟩ (fun W hW => (E.ld f69 U54 (hW.2))) fun a70 f70 => ?_
   refine R.u 4 f70 rfl ht ⟨Bg0, BT⟩ (fun W hW => (E.fa 4 f70 U34 rfl wsz3_tw)) fun a71 f71 => ?_
   refine R.u 5 f71 rfl ht ⟨Bg0, BT⟩ (fun W hW => (E.ld f71 U3 (hW.1))) fun a72 f72 => ?_
   refine R.one 6 (by kernel_rfl) ?_
   refine O.mapDropA f72 rfl wantedN MG setOk U54 rfl (p.id) hid rfl rfl (fun w' _ ks => ⟨Bg0.kept ks (by simpa using Ne.symm (IsAss.ne_blk MG Bg0)), BT.kept ks (by simpa using Ne.symm (IsAss.ne_blk MG BT))⟩) fun a73 w14 MN ks f73 => ?_
   have szw14 := ks.size
   have Bg0n := Bg0.kept ks (by simpa using Ne.symm (IsAss.ne_blk MG Bg0))
   have HKn := HK.trans ks (fun x hx hlt => by obtain rfl := List.mem_singleton.1 hx; exact rp_m)
   have ROn := own_keptM RO ks MG
   have PSn := PksS.keptT PS ks (NoPk.map MG) (by intro y hy; obtain rfl := List.mem_singleton.1 hy; omega)
   have PQn := PksS.keptT PQ ks (NoPk.map MG) (by intro y hy; obtain rfl := List.mem_singleton.1 hy; omega)
   have BTn := BT.kept ks (by simpa using Ne.symm (IsAss.ne_blk MG BT))
   have RQn := own_keptM RQ ks MG
   have MRn := IsAss.kept MR ks (by simpa using nof)
   clear f66 a65 f67 a67 f68 a68 f69 a69 f70 a70 f71 a71 f72 ks MG  Bg0 HK RO PS PQ BT RQ MR
   have Bg0 := Bg0n
   have HK := HKn
   have RO := ROn
   have PS := PSn
   have PQ := PQn
   have BT := BTn
   have RQ := RQn
   have MR := MRn
   clear Bg0n HKn ROn PSn PQn BTn RQn MRn
   have MG := MN
   clear MN
   refine R.done (by kernel_rfl) (hK9 _ _ ?_)
   have f74 := f73.sub sn
   refine wp_ret ?_; (try simp only [xt, xb]); refine C.ret0 f74 rfl ?_
   have hat := atL_some hp (at_map e2 hx) hs26
   have hro := at_map e2 hx
   rw [ackR_del hat hro (hyes hs42)]
   exact ⟨rfl, { m with out := m.out.take k ++ m.out.drop (k + 1), Aq := A2, cq := c2 }, ⟨e1, (by rw [e2]; exact map_del _ _), BT, RO, RQ, MR, MG, nof, (Apart.symm (apart_new (Apart.symm oq) hwh hO0)), rp_lo hlo hgl (rpQ hwh), PS, (PksS.sub PQ (mem_del _ _)), hl1, del_le hl2, strike_le1 hl3 _, strike_le1 hl4 _⟩, Nat.le_succ _, HK, rpQ hwh⟩
  have hs42 := h10
  refine C.condF f38 rfl ?_
  refine wp_skip (hK9 _ _ ?_)
  have f39 := f38.sub sn
  refine wp_ret ?_; (try simp only [xt, xb]); refine C.ret0 f39 rfl ?_
  have hat := atL_some hp (at_map e2 hx) hs26
  have hro := at_map e2 hx
  rw [ackR_else hat hro (hnrec hs27) (hno hs42)]
  exact ⟨rfl, m, RR.kept0 HK, by omega, HK.mono0, fun x hx => .inl hx⟩
 refine C.condF f15 rfl ?_
 refine wp_exit (C.end0 (fn := Try.f31) f15 rfl ?_)
 rw [ackR_no (pass_all hp (by rw [e2, List.length_map]; omega))]
 exact ⟨rfl, m, RR.kept0 HK, by omega, HK.mono0, fun x hx => .inl hx⟩
end Go.Proofs.Ytkdeedhjkjffpaa
