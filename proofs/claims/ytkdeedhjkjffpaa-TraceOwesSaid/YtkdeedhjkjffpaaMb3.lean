/- Merged by program (shrink.py): contracts and plain laws that the claim's statement uses, part 3. -/
import Derived.Test.YtkdeedhjkjffpaaMb2
set_option linter.all false

namespace Go.Proofs.Ytkdeedhjkjffpaa
open Go.RowKit Go.Hub Go.Lib Go.WideShapes Go.ChangeMaps
theorem wsz3_tl : (Try.prog.info? 3).map (·.size) = some 1 := by kernel_rfl
theorem wsz34_tl : (Try.prog.info? 34).map (·.size) = some 24 := by kernel_rfl
theorem wsz51_tl : (Try.prog.info? 51).map (·.size) = some 1 := by kernel_rfl
theorem Row.cellAt {w : World} {A : Option Addr} {c : Nat} {x : Pk × Ad} {l r : List (Pk × Ad)} (hx : l = x :: r) (h : Row w A c l) {b off j : Nat} (hA : A = some ⟨b, off, none⟩) {u : Value} (hu : (x.1.cells x.2).toList[j]? = some u) : w.cell? ⟨b, off + j, none⟩ = some u := by
  subst hx
  obtain ⟨b', off', e, hc⟩ := h.cell0 j hu
  rw [hA] at e
  injection e with e
  injection e with e1 e2
  rw [e1, e2]
  exact hc
theorem del_row {w : World} {A : Option Addr} {c : Nat} {x : Pk × Ad} {l r : List (Pk × Ad)} (h : Row w A c l) (hx : l = x :: r) : Calls Try.prog 54 #[.slice A l.length c, .int .i64 0, .int .i64 1] w fun e w' => e = .returned (.slice A r.length c) ∧ Row w' A c r ∧ Kept (Value.slice A l.length c).ownBlock.toList w w' := by
  subst hx
  obtain ⟨b, off, hA, _⟩ := h.cell0 0 rfl
  subst hA
  refine (del_any b off _ c 0 _ w h (pkRow_oneCell _) (by simp)).mono ?_
  rintro e w' ⟨rfl, h1, h2⟩
  refine ⟨rfl, ?_, ?_⟩
  · have e : (pkRow (x :: r)).take (0 * 24) ++ (pkRow (x :: r)).drop ((0 + 1) * 24) = pkRow r := by
      have : pkRow (x :: r) = (x.1.cells x.2).toList ++ pkRow r := by simp [pkRow]
      rw [this, Nat.zero_mul, List.take_zero, List.nil_append]
      exact List.drop_left' rfl
    rw [e] at h1
    exact h1
  have : (Value.slice (some ⟨b, off, none⟩) (x :: r).length c).ownBlock = some b := (own_block _ _ _ _).2 rfl
  rw [this]
  exact h2
section
variable {t : Tr} {p : Pk} {l r : List (Pk × Ad)} {x : Pk × Ad}
theorem uns_nil (e : t.unsubs = l.map (·.1)) (h : l = []) : t.unsT p = (false, t) := by
  unfold Tr.unsT
  rw [e, h]
  rfl
theorem uns_ne (e : t.unsubs = l.map (·.1)) (hx : l = x :: r) (h : ¬ x.1.id = p.id) : t.unsT p = (false, t) := by
  unfold Tr.unsT
  rw [e, hx]
  exact if_pos h
theorem uns_ok (e : t.unsubs = l.map (·.1)) (hx : l = x :: r) (h : x.1.id = p.id) : t.unsT p = (true, { t with unsubs := r.map (·.1) }) := by
  unfold Tr.unsT
  rw [e, hx]
  exact if_neg (fun c => c h)
end
set_option maxHeartbeats 4000000 in
theorem uns_any (p : Pk) (s : Ad) (B g : Nat) (t : Tr) (m : TrM) (w : World) (T : TrIn B w g t m) (hn : m.n ≤ 1000000) : Calls Try.prog 37 #[.pointer (some ⟨g, 0, none⟩), .agg (p.cells s)] w (TrPost B g m w (t.unsT p).2 (.bool (t.unsT p).1)) := by
 have HK : Kept (m.fp g) w w := Kept.refl _ _
 obtain ⟨e1, e2, e3, e4, BT, RT, RS, RU, MO, MF, nof, tu, tn, un, hlo, PS, PF, hl1, hl2, hl3, hl4, hl5, hcn⟩ := T
 replace BT : Blk w g 53 #[.bool t.clean, .int .i64 t.gr.kind, .bool t.gr.dup, .bool t.gr.retain, .int .i64 t.gr.qos, .int .i64 t.gr.id, .string t.gr.topic, .slice m.gs.pa t.gr.pay.length m.gs.pc, .int .i64 t.gr.level, .string t.gr.client, .bool t.gr.clean, .int .i64 t.gr.keep, .bool t.gr.hasWill, .string t.gr.wt, .slice m.gs.wa t.gr.wp.length m.gs.wc, .int .i64 t.gr.wq, .bool t.gr.wr, .bool t.gr.hasUser, .bool t.gr.hasPass, .string t.gr.user, .slice m.gs.sa t.gr.pass.length m.gs.sc, .bool t.gr.present, .int .i64 t.gr.code, .slice m.gs.ua t.gr.subs.length m.gs.uc, .slice m.gs.ca t.gr.codes.length m.gs.cc, .bool t.greeted, .slice m.At m.told.length m.ct, .bool t.left, .slice m.Au m.subs.length m.cu, .slice m.An m.uns.length m.cn, .map (some m.mo), .map (some m.mf)] := BT
 have hgl := BT.lt
 have hgo := IsAss.ne_blk MO BT
 have hgf := IsAss.ne_blk MF BT
 have hmo := IsAss.lt MO
 have hmf := IsAss.lt MF
 have hT0 := own_lt RT
 have hS0 := own_lt RS
 have hU0 := own_lt RU
 refine C.enter Try.func37 rfl Try.ntmps37 rfl ?_
 intro a0 f0
 have f1 : Fr 31 a0 [(0, .pointer (some ⟨g, 0, none⟩)), (1, .agg (p.cells s))] := f0
 refine C.sk fun K0 hK0 => ?_
 refine L.box f1 wantedN (by decide) rfl rfl fun a2 w1 g0 N0 f2 => ?_
 have Bg0 := N0.blk
 have kg0 := N0.kept
 have log0 := N0.lo
 have ltg0 := Bg0.lt
 have szw1 := kg0.size
 have frg0 : w.heap.size ≤ g0 := Nat.le_trans HK.size log0
 have neg_g0 : g ≠ g0 := by have := BT.lt; omega
 replace HK := HK.trans kg0 (by simp)
 replace BT := BT.kept kg0 (by simp)
 replace RT := Own.kept RT kg0 (by simp)
 replace RS := Own.kept RS kg0 (by simp)
 replace RU := Own.kept RU kg0 (by simp)
 replace MO := IsAss.kept MO kg0 (by simp)
 replace MF := IsAss.kept MF kg0 (by simp)
 replace PS := PS.keptT kg0 (NoPk.nil _)
 replace PF := PF.keptT kg0 (NoPk.nil _)
 clear f0 N0 kg0
 refine L.ag f2 fun a3 f3 => ?_
 refine wpList_nil (hK0 _ _ ?_)
 have f4 := f3.sub (sc 0 (sc 3 sn))
 refine wp_seq_k fun K1 hK1 => ?_
 refine wp_seq_k fun K2 hK2 => ?_
 have hd1 : Kept [] w1 (w1.drewN 1) := (Kept.refl _ _).drewN 1
 refine R.beginT (S := fun W => (Kept (m.fp g) w W) ∧ (Blk W g 53 #[.bool t.clean, .int .i64 t.gr.kind, .bool t.gr.dup, .bool t.gr.retain, .int .i64 t.gr.qos, .int .i64 t.gr.id, .string t.gr.topic, .slice m.gs.pa t.gr.pay.length m.gs.pc, .int .i64 t.gr.level, .string t.gr.client, .bool t.gr.clean, .int .i64 t.gr.keep, .bool t.gr.hasWill, .string t.gr.wt, .slice m.gs.wa t.gr.wp.length m.gs.wc, .int .i64 t.gr.wq, .bool t.gr.wr, .bool t.gr.hasUser, .bool t.gr.hasPass, .string t.gr.user, .slice m.gs.sa t.gr.pass.length m.gs.sc, .bool t.gr.present, .int .i64 t.gr.code, .slice m.gs.ua t.gr.subs.length m.gs.uc, .slice m.gs.ca t.gr.codes.length m.gs.cc, .bool t.greeted, .slice m.At m.told.length m.ct, .bool t.left, .slice m.Au m.subs.length m.cu, .slice m.An m.uns.length m.cn, .map (some m.mo), .map (some m.mf)]) ∧ (Row W m.At m.ct m.told) ∧ (Row W m.Au m.cu m.subs) ∧ (Row W m.An m.cn m.uns) ∧ (IsAss ansM Try.prog W m.mo t.owed) ∧ (IsAss outM Try.prog W m.mf m.out) ∧ (PksO W m.subs) ∧ (FlsO W m.out) ∧ (Blk W g0 34 (p.cells s))) (by kernel_rfl) (by kernel_rfl) ⟨HK.trans hd1 (by simp), BT.kept hd1 (by simp), Own.kept RT hd1 (by simp), Own.kept RS hd1 (by simp), Own.kept RU hd1 (by simp), IsAss.kept MO hd1 (by simp), IsAss.kept MF hd1 (by simp), PS.keptT hd1 (NoPk.nil _), PF.keptT hd1 (NoPk.nil _), Bg0.kept hd1 (by simp)⟩ fun ht => ?_
 obtain ⟨w2, hww2⟩ : ∃ W, W = w1.drewN 1 := ⟨_, rfl⟩
 rw [← hww2] at hd1 ⊢
 clear f1 a0 f2 a2 f3 hww2
 have szw2 := hd1.size
 replace HK := HK.trans hd1 (by simp)
 replace BT := BT.kept hd1 (by simp)
 replace RT := Own.kept RT hd1 (by simp)
 replace RS := Own.kept RS hd1 (by simp)
 replace RU := Own.kept RU hd1 (by simp)
 replace MO := IsAss.kept MO hd1 (by simp)
 replace MF := IsAss.kept MF hd1 (by simp)
 replace PS := PS.keptT hd1 (NoPk.nil _)
 replace PF := PF.keptT hd1 (NoPk.nil _)
 replace Bg0 := Bg0.kept hd1 (by simp)
 clear hd1
 refine R.u 0 f4 rfl ht ⟨HK, BT, RT, RS, RU, MO, MF, PS, PF, Bg0⟩ (fun W hW => (E.move f4 rfl)) fun a5 f5 => ?_
 refine R.u 1 f5 rfl ht ⟨HK, BT, RT, RS, RU, MO, MF, PS, PF, Bg0⟩ (fun W hW => (E.nilCheck f5 rfl)) fun a6 f6 => ?_
 refine R.u 2 f6 rfl ht ⟨HK, BT, RT, RS, RU, MO, MF, PS, PF, Bg0⟩ (fun W hW => (E.fa 29 f6 Try.underlying53 rfl wsz51_tl)) fun a7 f7 => ?_
 refine R.u 3 f7 rfl ht ⟨HK, BT, RT, RS, RU, MO, MF, PS, PF, Bg0⟩ (fun W hW => (by exact E.ld f7 Try.underlying51 (hW.2.1))) fun a8 f8 => ?_
 refine R.u 4 f8 rfl ht ⟨HK, BT, RT, RS, RU, MO, MF, PS, PF, Bg0⟩ (fun W hW => (E.lenL f8 Try.underlying51 rfl)) fun a9 f9 => ?_
 refine R.u 5 f9 rfl ht ⟨HK, BT, RT, RS, RU, MO, MF, PS, PF, Bg0⟩ (fun W hW => (E.eq f9)) fun a10 f10 => ?_
 refine R.u 6 f10 rfl ht ⟨HK, BT, RT, RS, RU, MO, MF, PS, PF, Bg0⟩ (fun W hW => (E.move f10 rfl)) fun a11 f11 => ?_
 clear f4 a3 f5 a5 f6 a6 f7 a7 f8 a8 f9 a9 f10 a10
 refine f11.splitD 11 rfl (fun h0 f12 => ?_) (fun h0 f12 => ?_)
 ·have hs11 := h0
  refine R.runT [7, 8, 9, 10, 11, 12, 13, 14, 15, 16, 17] #[true, true, true, true, true, true, true, true, true, true, true, true, true, true, true, true, true, true] f12 ht (fun _ _ _ _ h => h) ⟨HK, BT, RT, RS, RU, MO, MF, PS, PF, Bg0⟩ (by kernel_rfl) fun a13 f13 => ?_
  have f14 := f13.sub (sub_cons (i := 0) (Fr.keptT f13 (by kernel_rfl) rfl) (sub_cons (i := 22) (v := .bool true) (by kernel_rfl) sn))
  refine R.done (by kernel_rfl) (hK2 _ _ ?_)
  have f15 := f14.sub (sc 0 (sc 22 sn))
  refine C.condT f15 rfl ?_
  refine C.sk fun K3 hK3 => ?_
  refine L.ag f15 fun a16 f16 => ?_
  refine wpList_nil (hK3 _ _ ?_)
  have f17 := f16.sub (sc 4 sn)
  refine wp_ret ?_
  try simp only [Exit.inBlock, Exit.then]
  refine C.ret (P := Try.prog) (fn := Try.f37) f17 rfl rfl ?_
  rw [uns_nil e3 (List.eq_nil_of_length_eq_zero (by omega))]
  exact ⟨rfl, m, ⟨e1, e2, e3, e4, BT, RT, RS, RU, MO, MF, nof, tu, tn, un, hlo, PS, PF, hl1, hl2, hl3, hl4, hl5, hcn⟩, by omega, HK, fun x hx => .inl hx, fun x hx => .inl hx⟩
 have hne : m.uns ≠ [] := fun e => by rw [e] at h0; simp at h0
 obtain ⟨x, r, hx⟩ := List.exists_cons_of_ne_nil hne
 obtain ⟨b0, off0, hA, _⟩ := Row.cell0 (hx ▸ RU) 4 rfl
 have hlr : r.length ≤ m.n := by have := congrArg List.length hx; rw [List.length_cons] at this; omega
 have hxl : 0 < m.uns.length := by rw [hx]; simp
 refine R.u 7 f12 rfl ht ⟨HK, BT, RT, RS, RU, MO, MF, PS, PF, Bg0⟩ (fun W hW => (E.move f12 rfl)) (hw := (f12.yes rfl rfl)) fun a13 f13 => ?_
 refine R.u 8 f13 rfl ht ⟨HK, BT, RT, RS, RU, MO, MF, PS, PF, Bg0⟩ (fun W hW => (E.nilCheck f13 rfl)) (hw := (f13.yes rfl rfl)) fun a14 f14 => ?_
 refine R.u 9 f14 rfl ht ⟨HK, BT, RT, RS, RU, MO, MF, PS, PF, Bg0⟩ (fun W hW => (E.fa 29 f14 Try.underlying53 rfl wsz51_tl)) (hw := (f14.yes rfl rfl)) fun a15 f15 => ?_
 refine R.u 10 f15 rfl ht ⟨HK, BT, RT, RS, RU, MO, MF, PS, PF, Bg0⟩ (fun W hW => (by exact E.ld f15 Try.underlying51 (hW.2.1))) (hw := (f15.yes rfl rfl)) fun a16 f16 => ?_
 refine R.u 11 f16 rfl ht ⟨HK, BT, RT, RS, RU, MO, MF, PS, PF, Bg0⟩ (fun W hW => (E.indexA f16 (by assumption) Try.underlying51 wsz34_tl rfl rfl (by omega) (by omega))) (hw := (f16.yes rfl rfl)) fun a17 f17 => ?_
 refine R.u 12 f17 rfl ht ⟨HK, BT, RT, RS, RU, MO, MF, PS, PF, Bg0⟩ (fun W hW => (E.fa 4 f17 Try.underlying34 rfl wsz3_tl)) (hw := (f17.yes rfl rfl)) fun a18 f18 => ?_
 refine R.u 13 f18 rfl ht ⟨HK, BT, RT, RS, RU, MO, MF, PS, PF, Bg0⟩ (fun W hW => (by exact E.load f18 Try.underlying3 rfl rfl (Row.cellAt hx hW.2.2.2.2.1 hA rfl))) (hw := (f18.yes rfl rfl)) fun a19 f19 => ?_
 clear f11 f12 a11 f13 a13 f14 a14 f15 a15 f16 a16 f17 a17 f18 a18
 refine R.u 14 f19 rfl ht ⟨HK, BT, RT, RS, RU, MO, MF, PS, PF, Bg0⟩ (fun W hW => (E.fa 4 f19 Try.underlying34 rfl wsz3_tl)) (hw := (f19.yes rfl rfl)) fun a20 f20 => ?_
 refine R.u 15 f20 rfl ht ⟨HK, BT, RT, RS, RU, MO, MF, PS, PF, Bg0⟩ (fun W hW => (by exact E.ld f20 Try.underlying3 (hW.2.2.2.2.2.2.2.2.2))) (hw := (f20.yes rfl rfl)) fun a21 f21 => ?_
 refine R.u 16 f21 rfl ht ⟨HK, BT, RT, RS, RU, MO, MF, PS, PF, Bg0⟩ (fun W hW => (E.neq f21 rfl rfl)) (hw := (f21.yes rfl rfl)) fun a22 f22 => ?_
 refine R.u 17 f22 rfl ht ⟨HK, BT, RT, RS, RU, MO, MF, PS, PF, Bg0⟩ (fun W hW => (E.pickF f22 rfl rfl)) fun a23 f23 => ?_
 refine R.done (by kernel_rfl) (hK2 _ _ ?_)
 have f24 := f23.sub (sc 0 (sc 22 sn))
 clear f19 a19 f20 a20 f21 a21 f22 a22 f23
 refine f24.splitN 22 rfl (fun h1 f25 => ?_) (fun h1 f25 => ?_)
 ·have hs22 := h1
  refine C.condT f25 rfl ?_
  refine C.sk fun K4 hK4 => ?_
  refine L.ag f25 fun a26 f26 => ?_
  refine wpList_nil (hK4 _ _ ?_)
  have f27 := f26.sub (sc 4 sn)
  refine wp_ret ?_
  try simp only [Exit.inBlock, Exit.then]
  refine C.ret (P := Try.prog) (fn := Try.f37) f27 rfl rfl ?_
  rw [uns_ne e3 hx (by assumption)]
  exact ⟨rfl, m, ⟨e1, e2, e3, e4, BT, RT, RS, RU, MO, MF, nof, tu, tn, un, hlo, PS, PF, hl1, hl2, hl3, hl4, hl5, hcn⟩, by omega, HK, fun x hx => .inl hx, fun x hx => .inl hx⟩
 have hs22 := h1
 refine C.condF f25 rfl ?_
 refine wp_skip (hK1 _ _ ?_)
 have f26 := f25.sub (sc 0 sn)
 refine C.sk fun K5 hK5 => ?_
 refine L.mv f26 fun a27 f27 => ?_
 refine L.mv f27 fun a28 f28 => ?_
 refine L.va f28 (E.nilCheck f28 rfl) fun a29 f29 => ?_
 refine L.va f29 (E.fa 29 f29 Try.underlying53 rfl wsz51_tl) fun a30 f30 => ?_
 refine L.va f30 (by exact E.ld f30 Try.underlying51 (BT)) fun a31 f31 => ?_
 refine L.cl f31 (run_call Try.call54 (args3 f31 rfl rfl rfl)) (del_row RU hx) ?_
 clear f24 f25 f26 a23 f27 a27 f28 a28 f29 a29 f30 a30
 rintro e w3 ⟨rfl, RN, kc⟩
 refine ⟨_, rfl, fun a32 f32 => ?_⟩
 have szw3 := kc.size
 have HKn := HK.trans kc (fun x hx _ => fp_ownRU (by simpa using hx))
 have BTn := BT.kept kc (own_ne RU BT (by decide))
 have RTn := Own.kept RT kc (own_apart (Apart.symm tn))
 have RSn := Own.kept RS kc (own_apart (Apart.symm un))
 have MOn := IsAss.kept MO kc (own_ne_map MO RU)
 have MFn := IsAss.kept MF kc (own_ne_map MF RU)
 have PSn := PS.keptT kc (NoPk.own RU)
 have PFn := PF.keptT kc (NoPk.own RU)
 clear f31 a31 kc HK BT RT RS MO MF PS PF RU
 have HK := HKn
 have BT := BTn
 have RT := RTn
 have RS := RSn
 have MO := MOn
 have MF := MFn
 have PS := PSn
 have PF := PFn
 have RU := RN
 clear RN HKn BTn RTn RSn MOn MFn PSn PFn
 refine L.va f32 (E.nilCheck f32 rfl) fun a33 f33 => ?_
 refine L.va f33 (E.fa 29 f33 Try.underlying53 rfl wsz51_tl) fun a34 f34 => ?_
 refine L.store f34 wantedN wsz51_tl rfl rfl rfl BT (by (simp [Value.cells]; done)) fun a35 w4 f35 NB4 ks4 => ?_
 have szw4 := ks4.size
 replace HK := HK.trans ks4 (fun x hx hlt => by obtain rfl := List.mem_singleton.1 hx; exact fp_g)
 replace RT := own_kept1 RT ks4 BT (by decide)
 replace RS := own_kept1 RS ks4 BT (by decide)
 replace MO := IsAss.kept MO ks4 (by simpa using IsAss.ne_blk MO BT)
 replace MF := IsAss.kept MF ks4 (by simpa using IsAss.ne_blk MF BT)
 replace PS := PS.keptT ks4 (NoPk.blk BT (by decide))
 replace PF := PF.keptT ks4 (NoPk.blk BT (by decide))
 replace RU := own_kept1 RU ks4 BT (by decide)
 replace BT := NB4
 simp only [Value.cells, z1, z2, z3, Nat.reduceAdd, Nat.zero_add] at BT
 clear f32 a32 f33 a33 ks4 f34 a34
 refine wpList_nil (hK5 _ _ ?_)
 have f36 := f35.sub sn
 refine C.sk fun K6 hK6 => ?_
 refine L.ag f36 fun a37 f37 => ?_
 refine wpList_nil (hK6 _ _ ?_)
 have f38 := f37.sub (sc 4 sn)
 refine wp_ret ?_
 try simp only [Exit.inBlock, Exit.then]
 refine C.ret (P := Try.prog) (fn := Try.f37) f38 rfl rfl ?_
 rw [uns_ok e3 hx (by assumption)]
 exact ⟨rfl, { m with uns := r, n := m.n + 1 }, ⟨e1, e2, rfl, e4, BT, RT, RS, RU, MO, MF, nof, tu, tn, un, hlo, PS, PF, Nat.le_succ_of_le hl1, Nat.le_succ_of_le hl2, Nat.le_succ_of_le hlr, Nat.le_succ_of_le hl4, Nat.le_succ_of_le hl5, cnt_up hcn⟩, Nat.le_refl _, HK, fun x hx => .inl hx, fun x hx => .inl hx⟩
end Go.Proofs.Ytkdeedhjkjffpaa
namespace Go.Proofs.Ytkdeedhjkjffpaa
open Go.RowKit Go.Hub Go.Lib Go.WideShapes Go.ChangeMaps
theorem wsz3_tl2 : (Try.prog.info? 3).map (·.size) = some 1 := by kernel_rfl
theorem wsz31_tl2 : (Try.prog.info? 31).map (·.size) = some 1 := by kernel_rfl
theorem wsz32_tl2 : (Try.prog.info? 32).map (·.size) = some 1 := by kernel_rfl
theorem wsz34_tl2 : (Try.prog.info? 34).map (·.size) = some 24 := by kernel_rfl
theorem wsz46_tl2 : (Try.prog.info? 46).map (·.size) = some 2 := by kernel_rfl
theorem wsz51_tl2 : (Try.prog.info? 51).map (·.size) = some 1 := by kernel_rfl
theorem PksO.head {w : World} {l r : List (Pk × Ad)} {x : Pk × Ad} (h : PksO w l) (hx : l = x :: r) : PkO w x.1 x.2 ∧ x.1.Len := h x (hx ▸ List.mem_cons_self)
theorem codes_step {l : List (ByteArray × Int)} {q : List Int} {k : Nat} {d : ByteArray × Int} {d' : Int} (hd : l[k]? = some d) (hd' : q[k]? = some d') : codesB (l.drop k) (q.drop k) = ((decide (d' = 128) || decide (d' = d.2)) && codesB (l.drop (k + 1)) (q.drop (k + 1))) := by
  obtain ⟨h1, e1⟩ := List.getElem?_eq_some_iff.1 hd
  obtain ⟨h2, e2⟩ := List.getElem?_eq_some_iff.1 hd'
  rw [List.drop_eq_getElem_cons h1, List.drop_eq_getElem_cons h2, e1, e2]
  rfl
section
variable {t : Tr} {p : Pk} {l r : List (Pk × Ad)} {x : Pk × Ad}
theorem suba_nil (e : t.subs = l.map (·.1)) (h : l = []) : t.subT p = (false, t) := by
  unfold Tr.subT
  rw [e, h]
  rfl
theorem suba_ne (e : t.subs = l.map (·.1)) (hx : l = x :: r) (h : ¬ x.1.id = p.id ∨ ¬ x.1.subs.length = p.codes.length ∨ codesB x.1.subs p.codes = false) : t.subT p = (false, t) := by
  unfold Tr.subT
  rw [e, hx]
  exact if_pos h
theorem suba_ok (e : t.subs = l.map (·.1)) (hx : l = x :: r) (h : x.1.id = p.id) (h1 : x.1.subs.length = p.codes.length) (h2 : codesB x.1.subs p.codes = true) : t.subT p = (true, { t with subs := r.map (·.1) }) := by
  unfold Tr.subT
  rw [e, hx]
  refine if_neg ?_
  rintro (c | c | c)
  · exact c h
  · exact c h1
  exact Bool.noConfusion (c.symm.trans h2)
end
set_option maxHeartbeats 4000000 in
theorem sub_any (p : Pk) (s : Ad) (B g : Nat) (t : Tr) (m : TrM) (w : World) (T : TrIn B w g t m) (hn : m.n ≤ 1000000) (PP : PkO w p s) : Calls Try.prog 36 #[.pointer (some ⟨g, 0, none⟩), .agg (p.cells s)] w (TrPost B g m w (t.subT p).2 (.bool (t.subT p).1)) := by
 have HK : Kept (m.fp g) w w := Kept.refl _ _
 obtain ⟨e1, e2, e3, e4, BT, RT, RS, RU, MO, MF, nof, tu, tn, un, hlo, PS, PF, hl1, hl2, hl3, hl4, hl5, hcn⟩ := T
 replace BT : Blk w g 53 #[.bool t.clean, .int .i64 t.gr.kind, .bool t.gr.dup, .bool t.gr.retain, .int .i64 t.gr.qos, .int .i64 t.gr.id, .string t.gr.topic, .slice m.gs.pa t.gr.pay.length m.gs.pc, .int .i64 t.gr.level, .string t.gr.client, .bool t.gr.clean, .int .i64 t.gr.keep, .bool t.gr.hasWill, .string t.gr.wt, .slice m.gs.wa t.gr.wp.length m.gs.wc, .int .i64 t.gr.wq, .bool t.gr.wr, .bool t.gr.hasUser, .bool t.gr.hasPass, .string t.gr.user, .slice m.gs.sa t.gr.pass.length m.gs.sc, .bool t.gr.present, .int .i64 t.gr.code, .slice m.gs.ua t.gr.subs.length m.gs.uc, .slice m.gs.ca t.gr.codes.length m.gs.cc, .bool t.greeted, .slice m.At m.told.length m.ct, .bool t.left, .slice m.Au m.subs.length m.cu, .slice m.An m.uns.length m.cn, .map (some m.mo), .map (some m.mf)] := BT
 have hgl := BT.lt
 have hgo := IsAss.ne_blk MO BT
 have hgf := IsAss.ne_blk MF BT
 have hmo := IsAss.lt MO
 have hmf := IsAss.lt MF
 have hT0 := own_lt RT
 have hS0 := own_lt RS
 have hU0 := own_lt RU
 refine C.enter Try.func36 rfl Try.ntmps36 rfl ?_
 intro a0 f0
 have f1 : Fr 75 a0 [(0, .pointer (some ⟨g, 0, none⟩)), (1, .agg (p.cells s))] := f0
 refine C.sk fun K0 hK0 => ?_
 refine L.box f1 wantedN (by decide) rfl rfl fun a2 w1 g0 N0 f2 => ?_
 have Bg0 := N0.blk
 have kg0 := N0.kept
 have log0 := N0.lo
 have ltg0 := Bg0.lt
 have szw1 := kg0.size
 have frg0 : w.heap.size ≤ g0 := Nat.le_trans HK.size log0
 have neg_g0 : g ≠ g0 := by have := BT.lt; omega
 replace HK := HK.trans kg0 (by simp)
 replace BT := BT.kept kg0 (by simp)
 replace RT := Own.kept RT kg0 (by simp)
 replace RS := Own.kept RS kg0 (by simp)
 replace RU := Own.kept RU kg0 (by simp)
 replace MO := IsAss.kept MO kg0 (by simp)
 replace MF := IsAss.kept MF kg0 (by simp)
 replace PS := PS.keptT kg0 (NoPk.nil _)
 replace PF := PF.keptT kg0 (NoPk.nil _)
 replace PP := PP.keptT kg0 (NoPk.nil _)
 clear f0 N0 kg0
 refine L.ag f2 fun a3 f3 => ?_
 refine wpList_nil (hK0 _ _ ?_)
 have f4 := f3.sub (sc 0 (sc 3 sn))
 refine wp_seq_k fun K1 hK1 => ?_
 refine wp_seq_k fun K2 hK2 => ?_
 have hd1 : Kept [] w1 (w1.drewN 1) := (Kept.refl _ _).drewN 1
 refine R.beginT (S := fun W => (Kept (m.fp g) w W) ∧ (Blk W g 53 #[.bool t.clean, .int .i64 t.gr.kind, .bool t.gr.dup, .bool t.gr.retain, .int .i64 t.gr.qos, .int .i64 t.gr.id, .string t.gr.topic, .slice m.gs.pa t.gr.pay.length m.gs.pc, .int .i64 t.gr.level, .string t.gr.client, .bool t.gr.clean, .int .i64 t.gr.keep, .bool t.gr.hasWill, .string t.gr.wt, .slice m.gs.wa t.gr.wp.length m.gs.wc, .int .i64 t.gr.wq, .bool t.gr.wr, .bool t.gr.hasUser, .bool t.gr.hasPass, .string t.gr.user, .slice m.gs.sa t.gr.pass.length m.gs.sc, .bool t.gr.present, .int .i64 t.gr.code, .slice m.gs.ua t.gr.subs.length m.gs.uc, .slice m.gs.ca t.gr.codes.length m.gs.cc, .bool t.greeted, .slice m.At m.told.length m.ct, .bool t.left, .slice m.Au m.subs.length m.cu, .slice m.An m.uns.length m.cn, .map (some m.mo), .map (some m.mf)]) ∧ (Row W m.At m.ct m.told) ∧ (Row W m.Au m.cu m.subs) ∧ (Row W m.An m.cn m.uns) ∧ (IsAss ansM Try.prog W m.mo t.owed) ∧ (IsAss outM Try.prog W m.mf m.out) ∧ (PksO W m.subs) ∧ (FlsO W m.out) ∧ (PkO W p s) ∧ (Blk W g0 34 (p.cells s))) (by kernel_rfl) (by kernel_rfl) ⟨HK.trans hd1 (by simp), BT.kept hd1 (by simp), Own.kept RT hd1 (by simp), Own.kept RS hd1 (by simp), Own.kept RU hd1 (by simp), IsAss.kept MO hd1 (by simp), IsAss.kept MF hd1 (by simp), PS.keptT hd1 (NoPk.nil _), PF.keptT hd1 (NoPk.nil _), PP.keptT hd1 (NoPk.nil _), Bg0.kept hd1 (by simp)⟩ fun ht => ?_
 obtain ⟨w2, hww2⟩ : ∃ W, W = w1.drewN 1 := ⟨_, rfl⟩
 rw [← hww2] at hd1 ⊢
 clear f1 a0 f2 a2 f3 hww2
 have szw2 := hd1.size
 replace HK := HK.trans hd1 (by simp)
 replace BT := BT.kept hd1 (by simp)
 replace RT := Own.kept RT hd1 (by simp)
 replace RS := Own.kept RS hd1 (by simp)
 replace RU := Own.kept RU hd1 (by simp)
 replace MO := IsAss.kept MO hd1 (by simp)
 replace MF := IsAss.kept MF hd1 (by simp)
 replace PS := PS.keptT hd1 (NoPk.nil _)
 replace PF := PF.keptT hd1 (NoPk.nil _)
 replace PP := PP.keptT hd1 (NoPk.nil _)
 replace Bg0 := Bg0.kept hd1 (by simp)
 clear hd1
 refine R.u 0 f4 rfl ht ⟨HK, BT, RT, RS, RU, MO, MF, PS, PF, PP, Bg0⟩ (fun W hW => (E.move f4 rfl)) fun a5 f5 => ?_
 refine R.u 1 f5 rfl ht ⟨HK, BT, RT, RS, RU, MO, MF, PS, PF, PP, Bg0⟩ (fun W hW => (E.nilCheck f5 rfl)) fun a6 f6 => ?_
 refine R.u 2 f6 rfl ht ⟨HK, BT, RT, RS, RU, MO, MF, PS, PF, PP, Bg0⟩ (fun W hW => (E.fa 28 f6 Try.underlying53 rfl wsz51_tl2)) fun a7 f7 => ?_
 refine R.u 3 f7 rfl ht ⟨HK, BT, RT, RS, RU, MO, MF, PS, PF, PP, Bg0⟩ (fun W hW => (by exact E.ld f7 Try.underlying51 (hW.2.1))) fun a8 f8 => ?_
 refine R.u 4 f8 rfl ht ⟨HK, BT, RT, RS, RU, MO, MF, PS, PF, PP, Bg0⟩ (fun W hW => (E.lenL f8 Try.underlying51 rfl)) fun a9 f9 => ?_
 refine R.u 5 f9 rfl ht ⟨HK, BT, RT, RS, RU, MO, MF, PS, PF, PP, Bg0⟩ (fun W hW => (E.eq f9)) fun a10 f10 => ?_
 refine R.u 6 f10 rfl ht ⟨HK, BT, RT, RS, RU, MO, MF, PS, PF, PP, Bg0⟩ (fun W hW => (E.move f10 rfl)) fun a11 f11 => ?_
 clear f4 a3 f5 a5 f6 a6 f7 a7 f8 a8 f9 a9 f10 a10
 refine f11.splitD 14 rfl (fun h0 f12 => ?_) (fun h0 f12 => ?_)
 ·have hs14 := h0
  refine R.runT [7, 8, 9, 10, 11, 12, 13, 14, 15, 16, 17, 18, 19, 20, 21, 22, 23, 24, 25, 26, 27, 28, 29, 30, 31] #[true, true, true, true, true, true, true, true, true, true, true, true, true, true, true, true, true, true, true, true, true, true, true, true, true, true, true, true, true, true, true, true] f12 ht (fun _ _ _ _ h => h) ⟨HK, BT, RT, RS, RU, MO, MF, PS, PF, PP, Bg0⟩ (by kernel_rfl) fun a13 f13 => ?_
  have f14 := f13.sub (sub_cons (i := 0) (Fr.keptT f13 (by kernel_rfl) rfl) (sub_cons (i := 3) (Fr.keptT f13 (by kernel_rfl) rfl) (sub_cons (i := 39) (v := .bool true) (by kernel_rfl) sn)))
  refine R.done (by kernel_rfl) (hK2 _ _ ?_)
  have f15 := f14.sub (sc 0 (sc 3 (sc 39 sn)))
  refine C.condT f15 rfl ?_
  refine C.sk fun K3 hK3 => ?_
  refine L.ag f15 fun a16 f16 => ?_
  refine wpList_nil (hK3 _ _ ?_)
  have f17 := f16.sub (sc 4 sn)
  refine wp_ret ?_
  try simp only [Exit.inBlock, Exit.then]
  refine C.ret (P := Try.prog) (fn := Try.f36) f17 rfl rfl ?_
  rw [suba_nil e2 (List.eq_nil_of_length_eq_zero (by omega))]
  exact ⟨rfl, m, ⟨e1, e2, e3, e4, BT, RT, RS, RU, MO, MF, nof, tu, tn, un, hlo, PS, PF, hl1, hl2, hl3, hl4, hl5, hcn⟩, by omega, HK, fun x hx => .inl hx, fun x hx => .inl hx⟩
 have hne : m.subs ≠ [] := fun e => by rw [e] at h0; simp at h0
 obtain ⟨x, r, hx⟩ := List.exists_cons_of_ne_nil hne
 obtain ⟨b0, off0, hA, _⟩ := Row.cell0 (hx ▸ RS) 4 rfl
 have hlr : r.length ≤ m.n := by have := congrArg List.length hx; rw [List.length_cons] at this; omega
 have hxl : 0 < m.subs.length := by rw [hx]; simp
 have hsl := (PksO.head PS hx).2.subs
 refine R.u 7 f12 rfl ht ⟨HK, BT, RT, RS, RU, MO, MF, PS, PF, PP, Bg0⟩ (fun W hW => (E.move f12 rfl)) (hw := (f12.yes rfl rfl)) fun a13 f13 => ?_
 refine R.u 8 f13 rfl ht ⟨HK, BT, RT, RS, RU, MO, MF, PS, PF, PP, Bg0⟩ (fun W hW => (E.nilCheck f13 rfl)) (hw := (f13.yes rfl rfl)) fun a14 f14 => ?_
 refine R.u 9 f14 rfl ht ⟨HK, BT, RT, RS, RU, MO, MF, PS, PF, PP, Bg0⟩ (fun W hW => (E.fa 28 f14 Try.underlying53 rfl wsz51_tl2)) (hw := (f14.yes rfl rfl)) fun a15 f15 => ?_
 refine R.u 10 f15 rfl ht ⟨HK, BT, RT, RS, RU, MO, MF, PS, PF, PP, Bg0⟩ (fun W hW => (by exact E.ld f15 Try.underlying51 (hW.2.1))) (hw := (f15.yes rfl rfl)) fun a16 f16 => ?_
 refine R.u 11 f16 rfl ht ⟨HK, BT, RT, RS, RU, MO, MF, PS, PF, PP, Bg0⟩ (fun W hW => (E.indexA f16 (by assumption) Try.underlying51 wsz34_tl2 rfl rfl (by omega) (by omega))) (hw := (f16.yes rfl rfl)) fun a17 f17 => ?_
 refine R.u 12 f17 rfl ht ⟨HK, BT, RT, RS, RU, MO, MF, PS, PF, PP, Bg0⟩ (fun W hW => (E.fa 4 f17 Try.underlying34 rfl wsz3_tl2)) (hw := (f17.yes rfl rfl)) fun a18 f18 => ?_
 refine R.u 13 f18 rfl ht ⟨HK, BT, RT, RS, RU, MO, MF, PS, PF, PP, Bg0⟩ (fun W hW => (by exact E.load f18 Try.underlying3 rfl rfl (Row.cellAt hx hW.2.2.2.1 hA rfl))) (hw := (f18.yes rfl rfl)) fun a19 f19 => ?_
 clear f11 f12 a11 f13 a13 f14 a14 f15 a15 f16 a16 f17 a17 f18 a18
 refine R.u 14 f19 rfl ht ⟨HK, BT, RT, RS, RU, MO, MF, PS, PF, PP, Bg0⟩ (fun W hW => (E.fa 4 f19 Try.underlying34 rfl wsz3_tl2)) (hw := (f19.yes rfl rfl)) fun a20 f20 => ?_
 refine R.u 15 f20 rfl ht ⟨HK, BT, RT, RS, RU, MO, MF, PS, PF, PP, Bg0⟩ (fun W hW => (by exact E.ld f20 Try.underlying3 (hW.2.2.2.2.2.2.2.2.2.2))) (hw := (f20.yes rfl rfl)) fun a21 f21 => ?_
 refine R.u 16 f21 rfl ht ⟨HK, BT, RT, RS, RU, MO, MF, PS, PF, PP, Bg0⟩ (fun W hW => (E.neq f21 rfl rfl)) (hw := (f21.yes rfl rfl)) fun a22 f22 => ?_
 refine R.u 17 f22 rfl ht ⟨HK, BT, RT, RS, RU, MO, MF, PS, PF, PP, Bg0⟩ (fun W hW => (E.pickF f22 rfl rfl)) fun a23 f23 => ?_
 refine R.u 18 f23 rfl ht ⟨HK, BT, RT, RS, RU, MO, MF, PS, PF, PP, Bg0⟩ (fun W hW => (E.move f23 rfl)) fun a24 f24 => ?_
 clear f19 a19 f20 a20 f21 a21 f22 a22 f23 a23
 refine f24.splitN 26 rfl (fun h1 f25 => ?_) (fun h1 f25 => ?_)
 ·have hs26 := h1
  refine R.runT [19, 20, 21, 22, 23, 24, 25, 26, 27, 28, 29, 30, 31] #[true, true, true, true, true, true, true, true, true, true, true, true, true, true, true, true, true, true, true, true, true, true, true, true, true, true, true, true, true, true, true, true] f25 ht (fun _ _ _ _ h => h) ⟨HK, BT, RT, RS, RU, MO, MF, PS, PF, PP, Bg0⟩ (by kernel_rfl) fun a26 f26 => ?_
  have f27 := f26.sub (sub_cons (i := 0) (Fr.keptT f26 (by kernel_rfl) rfl) (sub_cons (i := 3) (Fr.keptT f26 (by kernel_rfl) rfl) (sub_cons (i := 39) (v := .bool true) (by kernel_rfl) sn)))
  refine R.done (by kernel_rfl) (hK2 _ _ ?_)
  have f28 := f27.sub (sc 0 (sc 3 (sc 39 sn)))
  refine C.condT f28 rfl ?_
  refine C.sk fun K4 hK4 => ?_
  refine L.ag f28 fun a29 f29 => ?_
  refine wpList_nil (hK4 _ _ ?_)
  have f30 := f29.sub (sc 4 sn)
  refine wp_ret ?_
  try simp only [Exit.inBlock, Exit.then]
  refine C.ret (P := Try.prog) (fn := Try.f36) f30 rfl rfl ?_
  rw [suba_ne e2 hx (.inl (by assumption))]
  exact ⟨rfl, m, ⟨e1, e2, e3, e4, BT, RT, RS, RU, MO, MF, nof, tu, tn, un, hlo, PS, PF, hl1, hl2, hl3, hl4, hl5, hcn⟩, by omega, HK, fun x hx => .inl hx, fun x hx => .inl hx⟩
 have hs26 := h1
 refine R.u 19 f25 rfl ht ⟨HK, BT, RT, RS, RU, MO, MF, PS, PF, PP, Bg0⟩ (fun W hW => (E.move f25 rfl)) (hw := (f25.yes rfl rfl)) fun a26 f26 => ?_
 refine R.u 20 f26 rfl ht ⟨HK, BT, RT, RS, RU, MO, MF, PS, PF, PP, Bg0⟩ (fun W hW => (E.nilCheck f26 rfl)) (hw := (f26.yes rfl rfl)) fun a27 f27 => ?_
 refine R.u 21 f27 rfl ht ⟨HK, BT, RT, RS, RU, MO, MF, PS, PF, PP, Bg0⟩ (fun W hW => (E.fa 28 f27 Try.underlying53 rfl wsz51_tl2)) (hw := (f27.yes rfl rfl)) fun a28 f28 => ?_
 refine R.u 22 f28 rfl ht ⟨HK, BT, RT, RS, RU, MO, MF, PS, PF, PP, Bg0⟩ (fun W hW => (by exact E.ld f28 Try.underlying51 (hW.2.1))) (hw := (f28.yes rfl rfl)) fun a29 f29 => ?_
 refine R.u 23 f29 rfl ht ⟨HK, BT, RT, RS, RU, MO, MF, PS, PF, PP, Bg0⟩ (fun W hW => (E.indexA f29 (by assumption) Try.underlying51 wsz34_tl2 rfl rfl (by omega) (by omega))) (hw := (f29.yes rfl rfl)) fun a30 f30 => ?_
 refine R.u 24 f30 rfl ht ⟨HK, BT, RT, RS, RU, MO, MF, PS, PF, PP, Bg0⟩ (fun W hW => (E.fa 22 f30 Try.underlying34 rfl wsz31_tl2)) (hw := (f30.yes rfl rfl)) fun a31 f31 => ?_
 refine R.u 25 f31 rfl ht ⟨HK, BT, RT, RS, RU, MO, MF, PS, PF, PP, Bg0⟩ (fun W hW => (by exact E.load f31 Try.underlying31 rfl rfl (Row.cellAt hx hW.2.2.2.1 hA rfl))) (hw := (f31.yes rfl rfl)) fun a32 f32 => ?_
 clear f24 f25 a24 f26 a26 f27 a27 f28 a28 f29 a29 f30 a30 f31 a31
 refine R.u 26 f32 rfl ht ⟨HK, BT, RT, RS, RU, MO, MF, PS, PF, PP, Bg0⟩ (fun W hW => (E.lenL f32 Try.underlying31 rfl)) (hw := (f32.yes rfl rfl)) fun a33 f33 => ?_
 refine R.u 27 f33 rfl ht ⟨HK, BT, RT, RS, RU, MO, MF, PS, PF, PP, Bg0⟩ (fun W hW => (E.fa 23 f33 Try.underlying34 rfl wsz32_tl2)) (hw := (f33.yes rfl rfl)) fun a34 f34 => ?_
 refine R.u 28 f34 rfl ht ⟨HK, BT, RT, RS, RU, MO, MF, PS, PF, PP, Bg0⟩ (fun W hW => (by exact E.ld f34 Try.underlying32 (hW.2.2.2.2.2.2.2.2.2.2))) (hw := (f34.yes rfl rfl)) fun a35 f35 => ?_
 refine R.u 29 f35 rfl ht ⟨HK, BT, RT, RS, RU, MO, MF, PS, PF, PP, Bg0⟩ (fun W hW => (E.lenL f35 Try.underlying32 rfl)) (hw := (f35.yes rfl rfl)) fun a36 f36 => ?_
 refine R.u 30 f36 rfl ht ⟨HK, BT, RT, RS, RU, MO, MF, PS, PF, PP, Bg0⟩ (fun W hW => (E.neq f36 rfl rfl)) (hw := (f36.yes rfl rfl)) fun a37 f37 => ?_
 refine R.u 31 f37 rfl ht ⟨HK, BT, RT, RS, RU, MO, MF, PS, PF, PP, Bg0⟩ (fun W hW => (E.pickF f37 rfl rfl)) fun a38 f38 => ?_
 refine R.done (by kernel_rfl) (hK2 _ _ ?_)
 have f39 := f38.sub (sc 0 (sc 3 (sc 39 sn)))
 clear f32 a32 f33 a33 f34 a34 f35 a35 f36 a36 f37 a37 f38
 refine f39.splitN 39 rfl (fun h2 f40 => ?_) (fun h2 f40 => ?_)
 ·have hs39 := h2
  refine C.condT f40 rfl ?_
  refine C.sk fun K5 hK5 => ?_
  refine L.ag f40 fun a41 f41 => ?_
  refine wpList_nil (hK5 _ _ ?_)
  have f42 := f41.sub (sc 4 sn)
  refine wp_ret ?_
  try simp only [Exit.inBlock, Exit.then]
  refine C.ret (P := Try.prog) (fn := Try.f36) f42 rfl rfl ?_
  rw [suba_ne e2 hx (.inr (.inl (by omega)))]
  exact ⟨rfl, m, ⟨e1, e2, e3, e4, BT, RT, RS, RU, MO, MF, nof, tu, tn, un, hlo, PS, PF, hl1, hl2, hl3, hl4, hl5, hcn⟩, by omega, HK, fun x hx => .inl hx, fun x hx => .inl hx⟩
 have hs39 := h2
 refine C.condF f40 rfl ?_
 refine wp_skip (hK1 _ _ ?_)
 have f41 := f40.sub (sc 0 (sc 3 sn))
 refine wp_seq_k fun K6 hK6 => ?_
 refine C.sk fun K7 hK7 => ?_
 refine L.mv f41 fun a42 f42 => ?_
 refine L.va f42 (E.nilCheck f42 rfl) fun a43 f43 => ?_
 refine L.va f43 (E.fa 28 f43 Try.underlying53 rfl wsz51_tl2) fun a44 f44 => ?_
 refine L.va f44 (by exact E.ld f44 Try.underlying51 (BT)) fun a45 f45 => ?_
 refine L.va f45 (E.indexA f45 (by assumption) Try.underlying51 wsz34_tl2 rfl rfl (by omega) (by omega)) fun a46 f46 => ?_
 refine L.va f46 (E.fa 22 f46 Try.underlying34 rfl wsz31_tl2) fun a47 f47 => ?_
 clear f39 f40 f41 a38 f42 a42 f43 a43 f44 a44 f45 a45 f46 a46
 refine L.va f47 (by exact E.load f47 Try.underlying31 rfl rfl (Row.cellAt hx RS hA rfl)) fun a48 f48 => ?_
 refine L.va f48 (E.lenL f48 Try.underlying31 rfl) fun a49 f49 => ?_
 refine L.mv f49 fun a50 f50 => ?_
 refine wpList_nil (hK7 _ _ ?_)
 have f51 := f50.sub (sc 0 (sc 3 (sc 46 (sc 47 (sc 48 sn)))))
 refine wp_block ?_
 clear f47 a47 f48 a48 f49 a49 f50
 refine C.loop (fun gk a W => ∃ k : Nat, k + gk = x.1.subs.length ∧ (Kept (m.fp g) w W) ∧ (Blk W g 53 #[.bool t.clean, .int .i64 t.gr.kind, .bool t.gr.dup, .bool t.gr.retain, .int .i64 t.gr.qos, .int .i64 t.gr.id, .string t.gr.topic, .slice m.gs.pa t.gr.pay.length m.gs.pc, .int .i64 t.gr.level, .string t.gr.client, .bool t.gr.clean, .int .i64 t.gr.keep, .bool t.gr.hasWill, .string t.gr.wt, .slice m.gs.wa t.gr.wp.length m.gs.wc, .int .i64 t.gr.wq, .bool t.gr.wr, .bool t.gr.hasUser, .bool t.gr.hasPass, .string t.gr.user, .slice m.gs.sa t.gr.pass.length m.gs.sc, .bool t.gr.present, .int .i64 t.gr.code, .slice m.gs.ua t.gr.subs.length m.gs.uc, .slice m.gs.ca t.gr.codes.length m.gs.cc, .bool t.greeted, .slice m.At m.told.length m.ct, .bool t.left, .slice m.Au m.subs.length m.cu, .slice m.An m.uns.length m.cn, .map (some m.mo), .map (some m.mf)]) ∧ (Row W m.At m.ct m.told) ∧ (Row W m.Au m.cu m.subs) ∧ (Row W m.An m.cn m.uns) ∧ (IsAss ansM Try.prog W m.mo t.owed) ∧ (IsAss outM Try.prog W m.mf m.out) ∧ (PksO W m.subs) ∧ (FlsO W m.out) ∧ (Blk W g0 34 (p.cells s)) ∧ (PkO W p s) ∧ codesB x.1.subs p.codes = codesB (x.1.subs.drop k) (p.codes.drop k) ∧ Fr 75 a [(0, .pointer (some ⟨g, 0, none⟩)), (3, .pointer (some ⟨g0, 0, none⟩)), (46, .slice x.2.ua x.1.subs.length x.2.uc), (47, .int .i64 x.1.subs.length), (48, .int .i64 k)]) (x.1.subs.length) ?_ ?_
 ·exact ⟨0, by omega, HK, BT, RT, RS, RU, MO, MF, PS, PF, Bg0, PP, rfl, f51.sub (sub_cons rfl (sub_cons rfl (sub_cons rfl (sub_cons rfl (sub_cons rfl sn)))))⟩
 intro gk9 a52 w3 hI KL8 hKL8
 obtain ⟨k, hk, HK, BT, RT, RS, RU, MO, MF, PS, PF, Bg0, PP, hq, f52⟩ := hI
 try clear f51
 refine C.sk fun K9 hK9 => ?_
 refine L.va f52 (E.lss f52 rfl rfl) fun a53 f53 => ?_
 refine wpList_nil (hK9 _ _ ?_)
 have f54 := f53.sub (sc 0 (sc 3 (sc 46 (sc 47 (sc 48 (sc 49 sn))))))
 refine wp_seq_k fun K10 hK10 => ?_
 clear f52 a52 f53
 refine f54.splitD 49 rfl (fun h3 f55 => ?_) (fun h3 f55 => ?_)
 ·obtain ⟨d, hd⟩ := some_at x.1.subs k (by omega)
  obtain ⟨d', hd'⟩ := some_at p.codes k (by omega)
  obtain ⟨bk, ofk, hAk⟩ := (Sl.of_own (PksO.head PS hx).1.subs).addr (by omega)
  obtain ⟨bc, ofc, hAc⟩ := (Sl.of_own PP.codes).addr (by omega)
  refine C.condT f55 rfl ?_
  refine wp_skip (hK10 _ _ ?_)
  have f56 := f55.sub (sc 0 (sc 3 (sc 46 (sc 47 (sc 48 sn)))))
  refine wp_seq_k fun K11 hK11 => ?_
  refine wp_block ?_
  refine wp_seq_k fun K12 hK12 => ?_
  have HR : Kept [] w3 w3 := Kept.refl _ _
  refine C.region ?_
  refine L.mv f56 fun a57 f57 => ?_
  refine L.va f57 (E.indexA f57 (by assumption) Try.underlying31 wsz46_tl2 rfl rfl (by omega) (by omega)) fun a58 f58 => ?_
  refine L.va f58 (by exact E.loadR f58 Try.underlying46 rfl wsz46_tl2 rfl (sub_row (Sl.of_own (PksO.head PS hx).1.subs) hAk hd) rfl) fun a59 f59 => ?_
  refine L.alloc f59 wantedN (by decide) (z := (.agg #[(.string ⟨#[]⟩), (.int .i64 0)])) (fun _ => by kernel_rfl) rfl fun a60 w4 g3 N3 f60 => ?_
  have Bg3 := N3.blk
  have kg3 := N3.kept
  have log3 := N3.lo
  have ltg3 := Bg3.lt
  have szw4 := kg3.size
  have frg3 : w.heap.size ≤ g3 := Nat.le_trans HK.size log3
  have frg3_HR : w3.heap.size ≤ g3 := Nat.le_trans HR.size log3
  have neg_g3 : g ≠ g3 := by have := BT.lt; omega
  have neg0_g3 : g0 ≠ g3 := by have := Bg0.lt; omega
  replace HK := HK.trans kg3 (by simp)
  replace BT := BT.kept kg3 (by simp)
  replace RT := Own.kept RT kg3 (by simp)
  replace RS := Own.kept RS kg3 (by simp)
  replace RU := Own.kept RU kg3 (by simp)
  replace MO := IsAss.kept MO kg3 (by simp)
  replace MF := IsAss.kept MF kg3 (by simp)
  replace Bg0 := Bg0.kept kg3 (by simp)
  replace HR := HR.trans kg3 (by simp)
  clear f54 f55 f56 a53 f57 a57 f58 a58 N3 kg3
  refine L.ag f60 fun a61 f61 => ?_
  refine L.storeR f61 wantedN wsz46_tl2 rfl rfl rfl Bg3 rfl rfl fun a62 w5 f62 NB5 ks5 => ?_
  have szw5 := ks5.size
  replace HK := HK.trans ks5 (fun x hx hlt => by obtain rfl := List.mem_singleton.1 hx; (exfalso; omega))
  replace BT := BT.kept ks5 (by simp; omega)
  replace RT := own_keptF RT ks5 hT0 frg3
  replace RS := own_keptF RS ks5 hS0 frg3
  replace RU := own_keptF RU ks5 hU0 frg3
  replace MO := IsAss.kept MO ks5 (by simpa using IsAss.ne_blk MO Bg3)
  replace MF := IsAss.kept MF ks5 (by simpa using IsAss.ne_blk MF Bg3)
  replace Bg0 := Bg0.kept ks5 (by simp; omega)
  replace HR := HR.trans ks5 (ktr (by omega))
  replace Bg3 := NB5
  clear f59 a59 f60 a60 ks5 f61 a61
  refine wpList_nil (hK12 _ _ ?_)
  have f63 := f62.sub (sc 0 (sc 3 (sc 5 (sc 6 (sc 46 (sc 47 (sc 48 sn)))))))
  refine wp_seq_k fun K13 hK13 => ?_
  replace PS := PS.keptT HR (NoPk.nil _)
  replace PF := PF.keptT HR (NoPk.nil _)
  replace PP := PP.keptT HR (NoPk.nil _)
  clear f62 HR
  refine C.region ?_
  refine L.va f63 (E.fa 23 f63 Try.underlying34 rfl wsz32_tl2) fun a64 f64 => ?_
  refine L.va f64 (by exact E.ld f64 Try.underlying32 (Bg0)) fun a65 f65 => ?_
  refine L.mv f65 fun a66 f66 => ?_
  refine L.va f66 (E.indexA f66 (by assumption) Try.underlying32 wsz3_tl2 rfl rfl (by omega) (by omega)) fun a67 f67 => ?_
  refine L.va f67 (by exact E.load f67 Try.underlying3 rfl rfl (code_cell1 (Sl.of_own PP.codes) hAc hd')) fun a68 f68 => ?_
  refine L.ag f68 fun a69 f69 => ?_
  refine wpList_nil (hK13 _ _ ?_)
  have f70 := f69.sub (sc 0 (sc 3 (sc 6 (sc 7 (sc 46 (sc 47 (sc 48 sn)))))))
  refine C.sk fun K14 hK14 => ?_
  refine L.mv f70 fun a71 f71 => ?_
  clear f63 a62 f64 a64 f65 a65 f66 a66 f67 a67 f68 a68 f69 f70 a69
  refine L.va f71 (E.neq f71 rfl rfl) fun a72 f72 => ?_
  refine L.mv f72 fun a73 f73 => ?_
  clear f71 a71 f72 a72
  refine f73.splitN 60 rfl (fun h4 f74 => ?_) (fun h4 f74 => ?_)
  ·have hs60 := h4
   refine L.mv f74 (hw := (f74.yes rfl rfl)) fun a75 f75 => ?_
   refine L.va f75 (E.fa 1 f75 Try.underlying46 rfl wsz3_tl2) (hw := (f75.yes rfl rfl)) fun a76 f76 => ?_
   refine L.va f76 (by exact E.ld f76 Try.underlying3 (Bg3)) (hw := (f76.yes rfl rfl)) fun a77 f77 => ?_
   refine L.va f77 (E.neq f77 rfl rfl) (hw := (f77.yes rfl rfl)) fun a78 f78 => ?_
   refine L.va f78 (E.pickT f78 rfl rfl) fun a79 f79 => ?_
   refine wpList_nil (hK14 _ _ ?_)
   have f80 := f79.sub (sc 0 (sc 3 (sc 46 (sc 47 (sc 48 (sc 65 sn))))))
   clear f73 f74 a73 f75 a75 f76 a76 f77 a77 f78 a78 f79
   refine f80.splitN 65 rfl (fun h5 f81 => ?_) (fun h5 f81 => ?_)
   ·have hs65 := h5
    refine C.condT f81 rfl ?_
    refine C.sk fun K15 hK15 => ?_
    refine L.ag f81 fun a82 f82 => ?_
    refine wpList_nil (hK15 _ _ ?_)
    have f83 := f82.sub (sc 4 sn)
    refine wp_ret ?_
    try simp only [Exit.inBlock, Exit.then]
    refine C.ret (P := Try.prog) (fn := Try.f36) f83 rfl rfl ?_
    rw [suba_ne e2 hx (.inr (.inr (by rw [hq, codes_step hd hd', decide_eq_false (by assumption), decide_eq_false (by assumption)]; rfl)))]
    exact ⟨rfl, m, ⟨e1, e2, e3, e4, BT, RT, RS, RU, MO, MF, nof, tu, tn, un, hlo, PS, PF, hl1, hl2, hl3, hl4, hl5, hcn⟩, by omega, HK, fun x hx => .inl hx, fun x hx => .inl hx⟩
   have hs65 := h5
   refine C.condF f81 rfl ?_
   refine wp_skip (hK11 _ _ ?_)
   have f82 := f81.sub (sc 0 (sc 3 (sc 46 (sc 47 (sc 48 sn)))))
   refine C.region ?_
   refine L.va f82 (E.add f82 rfl rfl (IntWalk.i64_in _ (by omega))) fun a83 f83 => ?_
   refine L.mv f83 fun a84 f84 => ?_
   clear f80 f81 f82 a79 f83 a83
   refine wpList_nil (hKL8 _ _ (gk9 - 1) ?_ ?_)
   ·omega
   exact ⟨k + 1, by omega, HK, BT, RT, RS, RU, MO, MF, PS, PF, Bg0, PP, by rw [hq, codes_step hd hd']; (rw [decide_eq_true (p := _ = d.2) (by first | assumption | omega), Bool.or_true]; rfl), f84.sub (sub_cons rfl (sub_cons rfl (sub_cons rfl (sub_cons rfl (sub_cons rfl sn)))))⟩
  have hs60 := h4
  refine L.run f74 (rest' := []) (by kernel_rfl) fun a75 f75 => ?_
  clear f73
  skip
  refine wpList_nil (hK14 _ _ ?_)
  have f76 := f75.sub (sub_cons (i := 0) (Fr.kept f75 (by kernel_rfl) rfl) (sub_cons (i := 3) (Fr.kept f75 (by kernel_rfl) rfl) (sub_cons (i := 46) (Fr.kept f75 (by kernel_rfl) rfl) (sub_cons (i := 47) (Fr.kept f75 (by kernel_rfl) rfl) (sub_cons (i := 48) (Fr.kept f75 (by kernel_rfl) rfl) (sub_cons (i := 65) (v := .bool false) (by kernel_rfl) sn))))))
  refine C.condF f76 rfl ?_
  refine wp_skip (hK11 _ _ ?_)
  have f77 := f76.sub (sc 0 (sc 3 (sc 46 (sc 47 (sc 48 sn)))))
  refine C.region ?_
  refine L.va f77 (E.add f77 rfl rfl (IntWalk.i64_in _ (by omega))) fun a78 f78 => ?_
  refine L.mv f78 fun a79 f79 => ?_
  clear f75 f74 f76 f77 a75 f78 a78
  refine wpList_nil (hKL8 _ _ (gk9 - 1) ?_ ?_)
  ·omega
  exact ⟨k + 1, by omega, HK, BT, RT, RS, RU, MO, MF, PS, PF, Bg0, PP, by rw [hq, codes_step hd hd']; (rw [decide_eq_true (p := _ = (128 : Int)) (by first | assumption | omega)]; rfl), f79.sub (sub_cons rfl (sub_cons rfl (sub_cons rfl (sub_cons rfl (sub_cons rfl sn)))))⟩
 have hs49 := h3
 refine C.condF f55 rfl ?_
 refine wp_exit (hK6 _ _ ?_)
 have f56 := f55.sub (sc 0 sn)
 refine C.sk fun K16 hK16 => ?_
 refine L.mv f56 fun a57 f57 => ?_
 refine L.mv f57 fun a58 f58 => ?_
 refine L.va f58 (E.nilCheck f58 rfl) fun a59 f59 => ?_
 refine L.va f59 (E.fa 28 f59 Try.underlying53 rfl wsz51_tl2) fun a60 f60 => ?_
 refine L.va f60 (by exact E.ld f60 Try.underlying51 (BT)) fun a61 f61 => ?_
 refine L.cl f61 (run_call Try.call54 (args3 f61 rfl rfl rfl)) (del_row RS hx) ?_
 clear f54 f55 f56 a53 f57 a57 f58 a58 f59 a59 f60 a60
 rintro e w4 ⟨rfl, RN, kc⟩
 refine ⟨_, rfl, fun a62 f62 => ?_⟩
 have szw4 := kc.size
 have HKn := HK.trans kc (fun x hx _ => fp_ownRS (by simpa using hx))
 have BTn := BT.kept kc (own_ne RS BT (by decide))
 have RTn := Own.kept RT kc (own_apart (Apart.symm tu))
 have RUn := Own.kept RU kc (own_apart un)
 have MOn := IsAss.kept MO kc (own_ne_map MO RS)
 have MFn := IsAss.kept MF kc (own_ne_map MF RS)
 have PSn := PS.keptT kc (NoPk.own RS)
 have PFn := PF.keptT kc (NoPk.own RS)
 clear f61 a61 kc HK BT RT RU MO MF PS PF RS
 have HK := HKn
 have BT := BTn
 have RT := RTn
 have RU := RUn
 have MO := MOn
 have MF := MFn
 have PS := PSn
 have PF := PFn
 have RS := RN
 clear RN HKn BTn RTn RUn MOn MFn PSn PFn
 refine L.va f62 (E.nilCheck f62 rfl) fun a63 f63 => ?_
 refine L.va f63 (E.fa 28 f63 Try.underlying53 rfl wsz51_tl2) fun a64 f64 => ?_
 refine L.store f64 wantedN wsz51_tl2 rfl rfl rfl BT (by (simp [Value.cells]; done)) fun a65 w5 f65 NB5 ks5 => ?_
 have szw5 := ks5.size
 replace HK := HK.trans ks5 (fun x hx hlt => by obtain rfl := List.mem_singleton.1 hx; exact fp_g)
 replace RT := own_kept1 RT ks5 BT (by decide)
 replace RU := own_kept1 RU ks5 BT (by decide)
 replace MO := IsAss.kept MO ks5 (by simpa using IsAss.ne_blk MO BT)
 replace MF := IsAss.kept MF ks5 (by simpa using IsAss.ne_blk MF BT)
 replace PS := PS.keptT ks5 (NoPk.blk BT (by decide))
 replace PF := PF.keptT ks5 (NoPk.blk BT (by decide))
 replace RS := own_kept1 RS ks5 BT (by decide)
 replace BT := NB5
 simp only [Value.cells, z1, z2, z3, Nat.reduceAdd, Nat.zero_add] at BT
 clear f62 a62 f63 a63 ks5 f64 a64
 refine wpList_nil (hK16 _ _ ?_)
 have f66 := f65.sub sn
 refine C.sk fun K17 hK17 => ?_
 refine L.ag f66 fun a67 f67 => ?_
 refine wpList_nil (hK17 _ _ ?_)
 have f68 := f67.sub (sc 4 sn)
 refine wp_ret ?_
 try simp only [Exit.inBlock, Exit.then]
 refine C.ret (P := Try.prog) (fn := Try.f36) f68 rfl rfl ?_
 rw [suba_ok e2 hx (by omega) (by omega) (by rw [hq, List.drop_eq_nil_of_le (by omega)]; rfl)]
 exact ⟨rfl, { m with subs := r, n := m.n + 1 }, ⟨e1, rfl, e3, e4, BT, RT, RS, RU, MO, MF, nof, tu, tn, un, hlo, PksO.tail (hx ▸ PS), PF, Nat.le_succ_of_le hl1, Nat.le_succ_of_le hlr, Nat.le_succ_of_le hl3, Nat.le_succ_of_le hl4, Nat.le_succ_of_le hl5, cnt_up hcn⟩, Nat.le_refl _, HK, fun x hx => .inl hx, fun y hy => .inl (by rw [hx]; exact List.mem_cons_of_mem _ hy)⟩
end Go.Proofs.Ytkdeedhjkjffpaa
namespace Go.Proofs.Ytkdeedhjkjffpaa
open Go.RowKit Go.Hub Go.Lib Go.WideShapes Go.ChangeMaps
theorem wsz3_tn : (Try.prog.info? 3).map (·.size) = some 1 := by kernel_rfl
theorem wsz34_tn : (Try.prog.info? 34).map (·.size) = some 24 := by kernel_rfl
theorem wbl72_0_1_tn (x0 : Int) (x1 : Int) : Try.prog.built 72 [(0, .int .i64 x0), (1, .int .i64 x1)] = some #[.int .i64 x0, .int .i64 x1] := by kernel_rfl
section
variable {B g : Nat} {t : Tr} {m : TrM} {w w1 w2 : World} {p : Pk}
theorem TrIn.kept0 (h : TrIn B w g t m) (hk : Kept [] w w1) : TrIn B w1 g t m := ⟨h.e1, h.e2, h.e3, h.e4, h.bt.kept hk (by simp), Own.kept h.rt hk (by simp), Own.kept h.rs hk (by simp), Own.kept h.ru hk (by simp), IsAss.kept h.mo hk (by simp), IsAss.kept h.mf hk (by simp), h.nof, h.tu, h.tn, h.un, h.lo, h.ps.keptT hk (NoPk.nil _), h.pf.keptT hk (NoPk.nil _), h.len⟩
theorem _root_.Go.Hub.Kept.mono0 {L : List Nat} (h : Kept [] w w1) : Kept L w w1 := ⟨h.os, h.tape, h.output, h.size, fun i hi _ => h.block i hi (by simp)⟩
theorem TrPost.base {e : Ending} {q q' : Bool × Tr} (hk : Kept [] w w1) (eq : q = q') (h : TrPost B g m w1 q'.2 (.bool q'.1) e w2) : TrPost B g m w q.2 (.bool q.1) e w2 := by
  subst eq
  obtain ⟨h1, m', h2, h3, h4, h5, h6⟩ := h
  exact ⟨h1, m', h2, h3, (Kept.mono0 hk).trans h4 (fun x hx hlt => hx), fun x hx => (h5 x hx).imp id (fun h => Nat.le_trans hk.size h), fun x hx => (h6 x hx).imp id (fun h b hb => Nat.le_trans hk.size (h b hb))⟩
theorem TrPost.baseN {e : Ending} {t1 t2 : Tr} {v : Value} (hk : Kept [] w w1) (eq : t1 = t2) (h : TrPost B g m w1 t2 v e w2) : TrPost B g m w t1 v e w2 := by
  subst eq
  obtain ⟨h1, m', h2, h3, h4, h5, h6⟩ := h
  exact ⟨h1, m', h2, h3, (Kept.mono0 hk).trans h4 (fun x hx hlt => hx), fun x hx => (h5 x hx).imp id (fun h => Nat.le_trans hk.size h), fun x hx => (h6 x hx).imp id (fun h b hb => Nat.le_trans hk.size (h b hb))⟩
theorem ready_ne {l : List (Pk × Ad)} (e : t.told = l.map (·.1)) (h : t.readyB = true) : l ≠ [] := fun e2 => by
  unfold Tr.readyB at h
  rw [e, e2] at h
  cases h
theorem wf_small {x : Int} (h0 : 0 ≤ x) (h1 : x ≤ 1000000) : (Lit.int .i64 x).wf = true := by
  have a : IntKind.i64.min ≤ x := Int.le_trans (by decide) h0
  have b : x ≤ IntKind.i64.max := Int.le_trans h1 (by decide)
  show (decide (IntKind.i64.min ≤ x) && decide (x ≤ IntKind.i64.max)) = true
  rw [decide_eq_true a, decide_eq_true b]
  rfl
theorem out_2 (h : p.kind = 2) : t.outT p = t.connT p := by unfold Tr.outT; rw [if_pos h]
theorem out_no (h : ¬ p.kind = 2) (hr : t.readyB = false) : t.outT p = (false, t) := by unfold Tr.outT; rw [if_neg h, if_pos hr]
theorem out_go (hr : t.readyB = true) (h : ¬ p.kind = 2) : t.outT p = if p.kind = 3 then t.pubT p else if p.kind = 6 then t.relT p else if p.kind = 9 then t.subT p else if p.kind = 11 then t.unsT p
  else if p.kind = 4 ∨ p.kind = 5 ∨ p.kind = 7 then t.payT (p.kind, p.id) else if p.kind = 13 then t.payT (13, 0) else (false, t) := by unfold Tr.outT; rw [if_neg h, if_neg (by rw [hr]; simp)]
theorem out_3 (hr : t.readyB = true) (h : p.kind = 3) : t.outT p = t.pubT p := by rw [out_go hr (by omega), if_pos h]
theorem out_6 (hr : t.readyB = true) (h : p.kind = 6) : t.outT p = t.relT p := by rw [out_go hr (by omega), if_neg (by omega), if_pos h]
theorem out_9 (hr : t.readyB = true) (h : p.kind = 9) : t.outT p = t.subT p := by rw [out_go hr (by omega), if_neg (by omega), if_neg (by omega), if_pos h]
theorem out_11 (hr : t.readyB = true) (h : p.kind = 11) : t.outT p = t.unsT p := by rw [out_go hr (by omega), if_neg (by omega), if_neg (by omega), if_neg (by omega), if_pos h]
theorem out_pay (hr : t.readyB = true) (h : p.kind = 4 ∨ p.kind = 5 ∨ p.kind = 7) : t.outT p = t.payT (p.kind, p.id) := by rw [out_go hr (by omega), if_neg (by omega), if_neg (by omega), if_neg (by omega), if_neg (by omega), if_pos h]
theorem out_13 (hr : t.readyB = true) (h : p.kind = 13) : t.outT p = t.payT (p.kind, 0) := by rw [out_go hr (by omega), if_neg (by omega), if_neg (by omega), if_neg (by omega), if_neg (by omega), if_neg (by omega), if_pos h, h]
theorem out_n (h : ¬ p.kind = 2) (h3 : ¬ p.kind = 3) (h6 : ¬ p.kind = 6) (h9 : ¬ p.kind = 9) (h11 : ¬ p.kind = 11) (h4 : ¬ (p.kind = 4 ∨ p.kind = 5 ∨ p.kind = 7)) (h13 : ¬ p.kind = 13) : t.outT p = (false, t) := by
  by_cases hr : t.readyB = true
  · rw [out_go hr h, if_neg h3, if_neg h6, if_neg h9, if_neg h11, if_neg h4, if_neg h13]
  rw [out_no h (by simpa using hr)]
end
set_option maxHeartbeats 4000000 in
theorem out_any (p : Pk) (s : Ad) (hid : (Lit.int .i64 p.id).wf = true) (B g : Nat) (t : Tr) (m : TrM) (w : World) (T : TrIn B w g t m) (hn : m.n ≤ 1000000) (PP : PkO w p s) (hL : p.Len) : Calls Try.prog 14 #[.pointer (some ⟨g, 0, none⟩), .agg (p.cells s)] w (TrPost B g m w (t.outT p).2 (.bool (t.outT p).1)) := by
 have HK : Kept [] w w := Kept.refl [] w
 refine C.enter Try.func14 rfl Try.ntmps14 rfl ?_
 intro a0 f0
 have f1 : Fr 54 a0 [(0, .pointer (some ⟨g, 0, none⟩)), (1, .agg (p.cells s))] := f0
 refine C.sk fun K0 hK0 => ?_
 refine L.box f1 wantedN (by decide) rfl rfl fun a2 w1 g0 N0 f2 => ?_
 have Bg0 := N0.blk
 have kg0 := N0.kept
 have log0 := N0.lo
 have ltg0 := Bg0.lt
 have szw1 := kg0.size
 have frg0 : w.heap.size ≤ g0 := Nat.le_trans HK.size log0
 replace HK := HK.trans kg0 (by simp)
 replace T := T.kept0 kg0
 replace PP := PP.kept0 kg0
 clear f0 N0 kg0
 refine L.ag f2 fun a3 f3 => ?_
 refine wpList_nil (hK0 _ _ ?_)
 have f4 := f3.sub (sc 0 (sc 3 sn))
 refine wp_seq_k fun K1 hK1 => ?_
 refine C.sk fun K2 hK2 => ?_
 refine L.va f4 (E.fa 0 f4 Try.underlying34 rfl wsz3_tn) fun a5 f5 => ?_
 refine L.va f5 (by exact E.ld f5 Try.underlying3 (Bg0)) fun a6 f6 => ?_
 refine L.va f6 (E.eq f6) fun a7 f7 => ?_
 refine wpList_nil (hK2 _ _ ?_)
 have f8 := f7.sub (sc 0 (sc 3 (sc 7 sn)))
 clear f1 a0 f2 a2 f3 f4 a3 f5 a5 f6 a6 f7
 refine f8.splitD 7 rfl (fun h0 f9 => ?_) (fun h0 f9 => ?_)
 ·have hs7 := h0
  refine C.condT f9 rfl ?_
  refine C.sk fun K3 hK3 => ?_
  refine L.mv f9 fun a10 f10 => ?_
  refine L.va f10 (by exact E.loadB f10 Try.underlying34 rfl wsz34_tn rfl (Bg0) rfl) fun a11 f11 => ?_
  refine L.cl f11 (run_call Try.call32 (args2 f11 rfl rfl)) (conn_any p s B g t m _ T hn) ?_
  clear f8 f9 a7 f10 a10
  rintro e w2 ⟨rfl, m2, T2, up2, kc2, nw2⟩
  refine ⟨_, rfl, fun a12 f12 => ?_⟩
  have szw2 := kc2.size
  have KC := kc2
  refine L.ag f12 fun a13 f13 => ?_
  refine wpList_nil (hK3 _ _ ?_)
  have f14 := f13.sub (sc 4 sn)
  refine wp_ret ?_
  try simp only [Exit.inBlock, Exit.then]
  refine C.ret (P := Try.prog) (fn := Try.f14) f14 rfl rfl ?_
  exact TrPost.base HK (out_2 hs7) ⟨rfl, m2, T2, up2, KC, nw2⟩
 have hs7 := h0
 refine C.condF f9 rfl ?_
 refine wp_skip (hK1 _ _ ?_)
 have f10 := f9.sub (sc 0 (sc 3 sn))
 refine wp_seq_k fun K4 hK4 => ?_
 refine C.sk fun K5 hK5 => ?_
 refine L.mv f10 fun a11 f11 => ?_
 refine L.cl f11 (run_call Try.call33 (args1 f11 rfl)) (ready_any B g t m _ T hn) ?_
 clear f8 f9 f10 a7
 rintro e w2 ⟨kc2, rfl⟩
 refine ⟨_, rfl, fun a12 f12 => ?_⟩
 have szw2 := kc2.size
 replace HK := HK.trans kc2 (by simp)
 replace T := T.kept0 kc2
 replace PP := PP.kept0 kc2
 replace Bg0 := Bg0.kept kc2 (by simp)
 clear f11 a11 kc2
 refine L.va f12 (E.not f12 rfl) fun a13 f13 => ?_
 refine wpList_nil (hK5 _ _ ?_)
 have f14 := f13.sub (sc 0 (sc 3 (sc 13 sn)))
 clear f12 a12 f13
 refine f14.splitNB 13 rfl (fun h1 f15 => ?_) (fun h1 f15 => ?_)
 ·have hs13 := h1
  refine C.condT f15 rfl ?_
  refine C.sk fun K6 hK6 => ?_
  refine L.ag f15 fun a16 f16 => ?_
  refine wpList_nil (hK6 _ _ ?_)
  have f17 := f16.sub (sc 4 sn)
  refine wp_ret ?_
  try simp only [Exit.inBlock, Exit.then]
  refine C.ret (P := Try.prog) (fn := Try.f14) f17 rfl rfl ?_
  exact ⟨by rw [out_no hs7 (show t.readyB = false by assumption)], m, by rw [out_no hs7 (show t.readyB = false by assumption)]; exact T, by omega, HK.mono0, fun x hx => .inl hx, fun x hx => .inl hx⟩
 have hs13 := h1
 refine C.condF f15 rfl ?_
 refine wp_skip (hK4 _ _ ?_)
 have f16 := f15.sub (sc 0 (sc 3 sn))
 refine wp_seq_k fun K7 hK7 => ?_
 refine C.sk fun K8 hK8 => ?_
 refine L.va f16 (E.fa 0 f16 Try.underlying34 rfl wsz3_tn) fun a17 f17 => ?_
 refine L.va f17 (by exact E.ld f17 Try.underlying3 (Bg0)) fun a18 f18 => ?_
 refine wpList_nil (hK8 _ _ ?_)
 have f19 := f18.sub (sc 0 (sc 3 (sc 15 sn)))
 refine wp_block ?_
 refine C.sk fun K9 hK9 => ?_
 refine L.va f19 (E.eq f19) fun a20 f20 => ?_
 refine L.ag f20 fun a21 f21 => ?_
 refine wpList_nil (hK9 _ _ ?_)
 have f22 := f21.sub (sc 0 (sc 3 (sc 15 (sc 16 sn))))
 clear f14 f15 f16 a13 f17 a17 f18 f19 a18 f20 a20 f21
 refine f22.splitD 16 rfl (fun h2 f23 => ?_) (fun h2 f23 => ?_)
 ·have hs16 := h2
  refine C.condT f23 rfl ?_
  refine C.sk fun K10 hK10 => ?_
  refine L.mv f23 fun a24 f24 => ?_
  refine L.va f24 (by exact E.loadB f24 Try.underlying34 rfl wsz34_tn rfl (Bg0) rfl) fun a25 f25 => ?_
  refine L.cl f25 (run_call Try.call34 (args2 f25 rfl rfl)) (pub_any p s hid B g t m _ T hn PP hL) ?_
  clear f22 f23 a21 f24 a24
  rintro e w3 ⟨rfl, m2, T2, up2, kc3, nw2⟩
  refine ⟨_, rfl, fun a26 f26 => ?_⟩
  have szw3 := kc3.size
  have KC := kc3
  refine L.ag f26 fun a27 f27 => ?_
  refine wpList_nil (hK10 _ _ ?_)
  have f28 := f27.sub (sc 4 sn)
  refine wp_ret ?_
  try simp only [Exit.inBlock, Exit.then]
  refine C.ret (P := Try.prog) (fn := Try.f14) f28 rfl rfl ?_
  exact TrPost.base HK (out_3 (show t.readyB = true by assumption) hs16) ⟨rfl, m2, T2, up2, KC, nw2⟩
 have hs16 := h2
 refine C.condF f23 rfl ?_
 refine C.sk fun K11 hK11 => ?_
 refine L.va f23 (E.eq f23) fun a24 f24 => ?_
 refine L.ag f24 fun a25 f25 => ?_
 refine wpList_nil (hK11 _ _ ?_)
 have f26 := f25.sub (sc 0 (sc 3 (sc 15 (sc 21 sn))))
 clear f22 f23 a21 f24 a24 f25
 refine f26.splitD 21 rfl (fun h3 f27 => ?_) (fun h3 f27 => ?_)
 ·have hs21 := h3
  refine C.condT f27 rfl ?_
  refine wp_seq_k fun K12 hK12 => ?_
  have hne := ready_ne T.e1 (show t.readyB = true by assumption)
  refine C.region ?_
  refine L.mv f27 fun a28 f28 => ?_
  refine L.va f28 (by exact E.loadB f28 Try.underlying34 rfl wsz34_tn rfl (Bg0) rfl) fun a29 f29 => ?_
  refine L.cl f29 (run_call Try.call35 (args2 f29 rfl rfl)) (rel_any p s hid B g t m _ T hn hne) ?_
  clear f26 f27 a25 f28 a28
  rintro e w3 ⟨rfl, m2, T2, up2, kc3, nw2⟩
  refine ⟨_, rfl, fun a30 f30 => ?_⟩
  have szw3 := kc3.size
  have KC := kc3
  refine L.ag f30 fun a31 f31 => ?_
  refine wpList_nil (hK12 _ _ ?_)
  have f32 := f31.sub (sc 4 sn)
  refine wp_ret ?_
  try simp only [Exit.inBlock, Exit.then]
  refine C.ret (P := Try.prog) (fn := Try.f14) f32 rfl rfl ?_
  exact TrPost.base HK (out_6 (show t.readyB = true by assumption) hs21) ⟨rfl, m2, T2, up2, KC, nw2⟩
 have hs21 := h3
 refine C.condF f27 rfl ?_
 refine C.sk fun K13 hK13 => ?_
 refine L.va f27 (E.eq f27) fun a28 f28 => ?_
 refine L.ag f28 fun a29 f29 => ?_
 refine wpList_nil (hK13 _ _ ?_)
 have f30 := f29.sub (sc 0 (sc 3 (sc 15 (sc 26 sn))))
 clear f26 f27 a25 f28 a28 f29
 refine f30.splitD 26 rfl (fun h4 f31 => ?_) (fun h4 f31 => ?_)
 ·have hs26 := h4
  refine C.condT f31 rfl ?_
  refine C.sk fun K14 hK14 => ?_
  refine L.mv f31 fun a32 f32 => ?_
  refine L.va f32 (by exact E.loadB f32 Try.underlying34 rfl wsz34_tn rfl (Bg0) rfl) fun a33 f33 => ?_
  refine L.cl f33 (run_call Try.call36 (args2 f33 rfl rfl)) (sub_any p s B g t m _ T hn PP) ?_
  clear f30 f31 a29 f32 a32
  rintro e w3 ⟨rfl, m2, T2, up2, kc3, nw2⟩
  refine ⟨_, rfl, fun a34 f34 => ?_⟩
  have szw3 := kc3.size
  have KC := kc3
  refine L.ag f34 fun a35 f35 => ?_
  refine wpList_nil (hK14 _ _ ?_)
  have f36 := f35.sub (sc 4 sn)
  refine wp_ret ?_
  try simp only [Exit.inBlock, Exit.then]
  refine C.ret (P := Try.prog) (fn := Try.f14) f36 rfl rfl ?_
  exact TrPost.base HK (out_9 (show t.readyB = true by assumption) hs26) ⟨rfl, m2, T2, up2, KC, nw2⟩
 have hs26 := h4
 refine C.condF f31 rfl ?_
 refine C.sk fun K15 hK15 => ?_
 refine L.va f31 (E.eq f31) fun a32 f32 => ?_
 refine L.ag f32 fun a33 f33 => ?_
 refine wpList_nil (hK15 _ _ ?_)
 have f34 := f33.sub (sc 0 (sc 3 (sc 15 (sc 31 sn))))
 clear f30 f31 a29 f32 a32 f33
 refine f34.splitD 31 rfl (fun h5 f35 => ?_) (fun h5 f35 => ?_)
 ·have hs31 := h5
  refine C.condT f35 rfl ?_
  refine C.sk fun K16 hK16 => ?_
  refine L.mv f35 fun a36 f36 => ?_
  refine L.va f36 (by exact E.loadB f36 Try.underlying34 rfl wsz34_tn rfl (Bg0) rfl) fun a37 f37 => ?_
  refine L.cl f37 (run_call Try.call37 (args2 f37 rfl rfl)) (uns_any p s B g t m _ T hn) ?_
  clear f34 f35 a33 f36 a36
  rintro e w3 ⟨rfl, m2, T2, up2, kc3, nw2⟩
  refine ⟨_, rfl, fun a38 f38 => ?_⟩
  have szw3 := kc3.size
  have KC := kc3
  refine L.ag f38 fun a39 f39 => ?_
  refine wpList_nil (hK16 _ _ ?_)
  have f40 := f39.sub (sc 4 sn)
  refine wp_ret ?_
  try simp only [Exit.inBlock, Exit.then]
  refine C.ret (P := Try.prog) (fn := Try.f14) f40 rfl rfl ?_
  exact TrPost.base HK (out_11 (show t.readyB = true by assumption) hs31) ⟨rfl, m2, T2, up2, KC, nw2⟩
 have hs31 := h5
 refine C.condF f35 rfl ?_
 refine wp_seq_k fun K17 hK17 => ?_
 refine C.sk fun K18 hK18 => ?_
 refine L.va f35 (E.eq f35) fun a36 f36 => ?_
 refine L.ag f36 fun a37 f37 => ?_
 refine wpList_nil (hK18 _ _ ?_)
 have f38 := f37.sub (sc 0 (sc 3 (sc 15 (sc 36 sn))))
 clear f34 f35 a33 f36 a36 f37
 refine f38.splitD 36 rfl (fun h6 f39 => ?_) (fun h6 f39 => ?_)
 ·have hs36 := h6
  refine C.condT f39 rfl ?_
  refine wp_skip (hK17 _ _ ?_)
  have f40 := f39.sub (sc 0 (sc 3 (sc 15 (sc 36 sn))))
  refine C.condT f40 rfl ?_
  refine wp_seq_k fun K19 hK19 => ?_
  have hd : ansM.dom (p.kind, p.id) := ⟨wf_small (by omega) (by omega), hid⟩
  refine C.region ?_
  refine L.mv f40 fun a41 f41 => ?_
  refine L.va f41 (E.fa 0 f41 Try.underlying34 rfl wsz3_tn) fun a42 f42 => ?_
  refine L.va f42 (by exact E.ld f42 Try.underlying3 (Bg0)) fun a43 f43 => ?_
  refine L.va f43 (E.fa 4 f43 Try.underlying34 rfl wsz3_tn) fun a44 f44 => ?_
  refine L.va f44 (by exact E.ld f44 Try.underlying3 (Bg0)) fun a45 f45 => ?_
  refine L.va f45 (E.build f45 (parts2 f45 rfl rfl) (wbl72_0_1_tn _ _)) fun a46 f46 => ?_
  clear f38 f39 f40 a37 f41 a41 f42 a42 f43 a43 f44 a44 f45 a45
  refine L.cl f46 (run_call Try.call38 (args2 f46 rfl rfl)) (pay_any (p.kind, p.id) hd B g t m _ T hn) ?_
  rintro e w3 ⟨rfl, m2, T2, up2, kc3, nw2⟩
  refine ⟨_, rfl, fun a47 f47 => ?_⟩
  have szw3 := kc3.size
  have KC := kc3
  refine L.ag f47 fun a48 f48 => ?_
  refine wpList_nil (hK19 _ _ ?_)
  have f49 := f48.sub (sc 4 sn)
  refine wp_ret ?_
  try simp only [Exit.inBlock, Exit.then]
  refine C.ret (P := Try.prog) (fn := Try.f14) f49 rfl rfl ?_
  exact TrPost.base HK (out_pay (show t.readyB = true by assumption) (by omega)) ⟨rfl, m2, T2, up2, KC, nw2⟩
 have hs36 := h6
 refine C.condF f39 rfl ?_
 refine C.sk fun K20 hK20 => ?_
 refine L.va f39 (E.eq f39) fun a40 f40 => ?_
 refine L.ag f40 fun a41 f41 => ?_
 refine wpList_nil (hK20 _ _ ?_)
 have f42 := f41.sub (sc 0 (sc 3 (sc 15 (sc 36 sn))))
 clear f38 f39 a37 f40 a40 f41
 refine f42.splitD 36 rfl (fun h7 f43 => ?_) (fun h7 f43 => ?_)
 ·have hs36 := h7
  refine C.condT f43 rfl ?_
  refine wp_skip (hK17 _ _ ?_)
  have f44 := f43.sub (sc 0 (sc 3 (sc 15 (sc 36 sn))))
  refine C.condT f44 rfl ?_
  refine wp_seq_k fun K21 hK21 => ?_
  have hd : ansM.dom (p.kind, p.id) := ⟨wf_small (by omega) (by omega), hid⟩
  refine C.region ?_
  refine L.mv f44 fun a45 f45 => ?_
  refine L.va f45 (E.fa 0 f45 Try.underlying34 rfl wsz3_tn) fun a46 f46 => ?_
  refine L.va f46 (by exact E.ld f46 Try.underlying3 (Bg0)) fun a47 f47 => ?_
  refine L.va f47 (E.fa 4 f47 Try.underlying34 rfl wsz3_tn) fun a48 f48 => ?_
  refine L.va f48 (by exact E.ld f48 Try.underlying3 (Bg0)) fun a49 f49 => ?_
  refine L.va f49 (E.build f49 (parts2 f49 rfl rfl) (wbl72_0_1_tn _ _)) fun a50 f50 => ?_
  clear f42 f43 f44 a41 f45 a45 f46 a46 f47 a47 f48 a48 f49 a49
  refine L.cl f50 (run_call Try.call38 (args2 f50 rfl rfl)) (pay_any (p.kind, p.id) hd B g t m _ T hn) ?_
  rintro e w3 ⟨rfl, m2, T2, up2, kc3, nw2⟩
  refine ⟨_, rfl, fun a51 f51 => ?_⟩
  have szw3 := kc3.size
  have KC := kc3
  refine L.ag f51 fun a52 f52 => ?_
  refine wpList_nil (hK21 _ _ ?_)
  have f53 := f52.sub (sc 4 sn)
  refine wp_ret ?_
  try simp only [Exit.inBlock, Exit.then]
  refine C.ret (P := Try.prog) (fn := Try.f14) f53 rfl rfl ?_
  exact TrPost.base HK (out_pay (show t.readyB = true by assumption) (by omega)) ⟨rfl, m2, T2, up2, KC, nw2⟩
 have hs36 := h7
 refine C.condF f43 rfl ?_
 refine C.region ?_
 refine L.va f43 (E.eq f43) fun a44 f44 => ?_
 refine L.ag f44 fun a45 f45 => ?_
 refine wpList_nil (hK17 _ _ ?_)
 have f46 := f45.sub (sc 0 (sc 3 (sc 15 (sc 36 sn))))
 clear f42 f43 a41 f44 a44 f45
 refine f46.splitD 36 rfl (fun h8 f47 => ?_) (fun h8 f47 => ?_)
 ·have hs36 := h8
  refine C.condT f47 rfl ?_
  refine wp_seq_k fun K22 hK22 => ?_
  have hd : ansM.dom (p.kind, p.id) := ⟨wf_small (by omega) (by omega), hid⟩
  refine C.region ?_
  refine L.mv f47 fun a48 f48 => ?_
  refine L.va f48 (E.fa 0 f48 Try.underlying34 rfl wsz3_tn) fun a49 f49 => ?_
  refine L.va f49 (by exact E.ld f49 Try.underlying3 (Bg0)) fun a50 f50 => ?_
  refine L.va f50 (E.fa 4 f50 Try.underlying34 rfl wsz3_tn) fun a51 f51 => ?_
  refine L.va f51 (by exact E.ld f51 Try.underlying3 (Bg0)) fun a52 f52 => ?_
  refine L.va f52 (E.build f52 (parts2 f52 rfl rfl) (wbl72_0_1_tn _ _)) fun a53 f53 => ?_
  refine L.cl f53 (run_call Try.call38 (args2 f53 rfl rfl)) (pay_any (p.kind, p.id) hd B g t m _ T hn) ?_
  clear f46 f47 a45 f48 a48 f49 a49 f50 a50 f51 a51 f52 a52
  rintro e w3 ⟨rfl, m2, T2, up2, kc3, nw2⟩
  refine ⟨_, rfl, fun a54 f54 => ?_⟩
  have szw3 := kc3.size
  have KC := kc3
  refine L.ag f54 fun a55 f55 => ?_
  refine wpList_nil (hK22 _ _ ?_)
  have f56 := f55.sub (sc 4 sn)
  refine wp_ret ?_
  try simp only [Exit.inBlock, Exit.then]
  refine C.ret (P := Try.prog) (fn := Try.f14) f56 rfl rfl ?_
  exact TrPost.base HK (out_pay (show t.readyB = true by assumption) (by omega)) ⟨rfl, m2, T2, up2, KC, nw2⟩
 have hs36 := h8
 refine C.condF f47 rfl ?_
 refine C.sk fun K23 hK23 => ?_
 refine L.va f47 (E.eq f47) fun a48 f48 => ?_
 refine L.ag f48 fun a49 f49 => ?_
 refine wpList_nil (hK23 _ _ ?_)
 have f50 := f49.sub (sc 0 (sc 3 (sc 47 sn)))
 clear f46 f47 a45 f48 a48 f49
 refine f50.splitD 47 rfl (fun h9 f51 => ?_) (fun h9 f51 => ?_)
 ·have hs47 := h9
  refine C.condT f51 rfl ?_
  refine wp_seq_k fun K24 hK24 => ?_
  have hd : ansM.dom (p.kind, (0 : Int)) := ⟨wf_small (by omega) (by omega), (by decide : (Lit.int .i64 0).wf = true)⟩
  refine C.region ?_
  refine L.mv f51 fun a52 f52 => ?_
  refine L.va f52 (E.fa 0 f52 Try.underlying34 rfl wsz3_tn) fun a53 f53 => ?_
  refine L.va f53 (by exact E.ld f53 Try.underlying3 (Bg0)) fun a54 f54 => ?_
  refine L.va f54 (E.build f54 (parts2 f54 rfl rfl) (wbl72_0_1_tn _ _)) fun a55 f55 => ?_
  refine L.cl f55 (run_call Try.call38 (args2 f55 rfl rfl)) (pay_any (p.kind, (0 : Int)) hd B g t m _ T hn) ?_
  clear f50 f51 a49 f52 a52 f53 a53 f54 a54
  rintro e w3 ⟨rfl, m2, T2, up2, kc3, nw2⟩
  refine ⟨_, rfl, fun a56 f56 => ?_⟩
  have szw3 := kc3.size
  have KC := kc3
  refine L.ag f56 fun a57 f57 => ?_
  refine wpList_nil (hK24 _ _ ?_)
  have f58 := f57.sub (sc 4 sn)
  refine wp_ret ?_
  try simp only [Exit.inBlock, Exit.then]
  refine C.ret (P := Try.prog) (fn := Try.f14) f58 rfl rfl ?_
  exact TrPost.base HK (out_13 (show t.readyB = true by assumption) hs47) ⟨rfl, m2, T2, up2, KC, nw2⟩
 have hs47 := h9
 refine C.condF f51 rfl ?_
 refine wp_skip (hK7 _ _ ?_)
 have f52 := f51.sub sn
 refine C.sk fun K25 hK25 => ?_
 refine L.ag f52 fun a53 f53 => ?_
 refine wpList_nil (hK25 _ _ ?_)
 have f54 := f53.sub (sc 4 sn)
 refine wp_ret ?_
 try simp only [Exit.inBlock, Exit.then]
 refine C.ret (P := Try.prog) (fn := Try.f14) f54 rfl rfl ?_
 exact ⟨by rw [out_n hs7 hs16 hs21 hs26 hs31 (by omega) hs47], m, by rw [out_n hs7 hs16 hs21 hs26 hs31 (by omega) hs47]; exact T, by omega, HK.mono0, fun x hx => .inl hx, fun x hx => .inl hx⟩
end Go.Proofs.Ytkdeedhjkjffpaa
namespace Go.Proofs.Ytkdeedhjkjffpaa
open Go.RowKit Go.Hub Go.Lib Go.WideShapes Go.ChangeMaps
theorem wzib34_to : (Try.prog.info? 34).map (fun i => (i.zero, i.size, i.bytes)) = some (some (.agg #[(.int .i64 0), (.bool false), (.bool false), (.int .i64 0), (.int .i64 0), (.string ⟨#[]⟩), (.slice none 0 0), (.int .i64 0), (.string ⟨#[]⟩), (.bool false), (.int .i64 0), (.bool false), (.string ⟨#[]⟩), (.slice none 0 0), (.int .i64 0), (.bool false), (.bool false), (.bool false), (.string ⟨#[]⟩), (.slice none 0 0), (.bool false), (.int .i64 0), (.slice none 0 0), (.slice none 0 0)]), 24, 288) := by kernel_rfl
theorem wzi34_to : (Try.prog.info? 34).map (fun i => (i.zero, i.size)) = some (some (.agg #[(.int .i64 0), (.bool false), (.bool false), (.int .i64 0), (.int .i64 0), (.string ⟨#[]⟩), (.slice none 0 0), (.int .i64 0), (.string ⟨#[]⟩), (.bool false), (.int .i64 0), (.bool false), (.string ⟨#[]⟩), (.slice none 0 0), (.int .i64 0), (.bool false), (.bool false), (.bool false), (.string ⟨#[]⟩), (.slice none 0 0), (.bool false), (.int .i64 0), (.slice none 0 0), (.slice none 0 0)]), 24) := by kernel_rfl
theorem wbs51_1_to (x0_0 x0_1 x0_2 x0_3 x0_4 x0_5 x0_6 x0_7 x0_8 x0_9 x0_10 x0_11 x0_12 x0_13 x0_14 x0_15 x0_16 x0_17 x0_18 x0_19 x0_20 x0_21 x0_22 x0_23 : Value) : Instr.fill (fun i => some (i * 24, 24)) ((Array.range (1 * 24)).map fun j => (Value.cells (.agg #[(.int .i64 0), (.bool false), (.bool false), (.int .i64 0), (.int .i64 0), (.string ⟨#[]⟩), (.slice none 0 0), (.int .i64 0), (.string ⟨#[]⟩), (.bool false), (.int .i64 0), (.bool false), (.string ⟨#[]⟩), (.slice none 0 0), (.int .i64 0), (.bool false), (.bool false), (.bool false), (.string ⟨#[]⟩), (.slice none 0 0), (.bool false), (.int .i64 0), (.slice none 0 0), (.slice none 0 0)]))[j % (Value.cells (.agg #[(.int .i64 0), (.bool false), (.bool false), (.int .i64 0), (.int .i64 0), (.string ⟨#[]⟩), (.slice none 0 0), (.int .i64 0), (.string ⟨#[]⟩), (.bool false), (.int .i64 0), (.bool false), (.string ⟨#[]⟩), (.slice none 0 0), (.int .i64 0), (.bool false), (.bool false), (.bool false), (.string ⟨#[]⟩), (.slice none 0 0), (.bool false), (.int .i64 0), (.slice none 0 0), (.slice none 0 0)])).size]!) [(0, .agg #[x0_0, x0_1, x0_2, x0_3, x0_4, x0_5, x0_6, x0_7, x0_8, x0_9, x0_10, x0_11, x0_12, x0_13, x0_14, x0_15, x0_16, x0_17, x0_18, x0_19, x0_20, x0_21, x0_22, x0_23])] = some #[x0_0, x0_1, x0_2, x0_3, x0_4, x0_5, x0_6, x0_7, x0_8, x0_9, x0_10, x0_11, x0_12, x0_13, x0_14, x0_15, x0_16, x0_17, x0_18, x0_19, x0_20, x0_21, x0_22, x0_23] := by kernel_rfl
theorem wsz3_to : (Try.prog.info? 3).map (·.size) = some 1 := by kernel_rfl
theorem wsz4_to : (Try.prog.info? 4).map (·.size) = some 1 := by kernel_rfl
theorem wsz34_to : (Try.prog.info? 34).map (·.size) = some 24 := by kernel_rfl
theorem wsz49_to : (Try.prog.info? 49).map (·.size) = some 1 := by kernel_rfl
theorem wsz51_to : (Try.prog.info? 51).map (·.size) = some 1 := by kernel_rfl
theorem wsz66_to : (Try.prog.info? 66).map (·.size) = some 24 := by kernel_rfl
theorem wsz67_to : (Try.prog.info? 67).map (·.size) = some 24 := by kernel_rfl
theorem wsz68_to : (Try.prog.info? 68).map (·.size) = some 24 := by kernel_rfl
theorem wsz69_to : (Try.prog.info? 69).map (·.size) = some 24 := by kernel_rfl
theorem wsz70_to : (Try.prog.info? 70).map (·.size) = some 24 := by kernel_rfl
theorem wbl72_0_1_to (x0 : Int) (x1 : Int) : Try.prog.built 72 [(0, .int .i64 x0), (1, .int .i64 x1)] = some #[.int .i64 x0, .int .i64 x1] := by kernel_rfl
theorem setSeg_mid (a b c d : List Value) (h : b.length = d.length) : setSeg (a ++ (b ++ c)) a.length d = a ++ (d ++ c) := by
  apply List.ext_getElem?
  intro i
  rw [setSeg_at _ _ _ _ (by rw [List.length_append, List.length_append]; omega)]
  by_cases h1 : i < a.length
  · rw [if_neg (by omega)]
    simp [List.getElem?_append, h1]
  by_cases h2 : i - a.length < d.length
  · rw [if_pos (by omega)]
    simp [List.getElem?_append, h1, h2]
  rw [if_neg (by omega)]
  simp [List.getElem?_append, h1, h2, h]
theorem set_gr {w : World} {g : Nat} {a : Value} {b c d : List Value} (hb : b.length = d.length) (h : Blk w g 53 (setSeg (a :: (b ++ c)) (0 + 1) d).toArray) : Blk w g 53 (a :: (d ++ c)).toArray := by
  have := setSeg_mid [a] b c d hb
  rw [show setSeg (a :: (b ++ c)) (0 + 1) d = a :: (d ++ c) from this] at h
  exact h
section
variable {k : Int}
theorem any66 (h : anyT k = some 66) : k = 1 ∨ k = 2 := by
  rcases anyT_is h with ⟨e, h⟩ | ⟨e, h⟩ | ⟨e, h⟩ | ⟨e, h⟩ | ⟨e, h⟩ <;> first | exact h | exact absurd e (by decide)
theorem any67 (h : anyT k = some 67) : k = 3 := by
  rcases anyT_is h with ⟨e, h⟩ | ⟨e, h⟩ | ⟨e, h⟩ | ⟨e, h⟩ | ⟨e, h⟩ <;> first | exact h | exact absurd e (by decide)
theorem any68 (h : anyT k = some 68) : (4 ≤ k ∧ k ≤ 7) ∨ k = 9 ∨ k = 11 := by
  rcases anyT_is h with ⟨e, h⟩ | ⟨e, h⟩ | ⟨e, h⟩ | ⟨e, h⟩ | ⟨e, h⟩ <;> first | exact h | exact absurd e (by decide)
theorem any69 (h : anyT k = some 69) : k = 8 ∨ k = 10 := by
  rcases anyT_is h with ⟨e, h⟩ | ⟨e, h⟩ | ⟨e, h⟩ | ⟨e, h⟩ | ⟨e, h⟩ <;> first | exact h | exact absurd e (by decide)
theorem any70 (h : anyT k = some 70) : 12 ≤ k ∧ k ≤ 14 := by
  rcases anyT_is h with ⟨e, h⟩ | ⟨e, h⟩ | ⟨e, h⟩ | ⟨e, h⟩ | ⟨e, h⟩ <;> first | exact h | exact absurd e (by decide)
theorem anyN (h0 : ¬ anyT k = some 66) (h1 : ¬ anyT k = some 67) (h2 : ¬ anyT k = some 68) (h3 : ¬ anyT k = some 69) (h4 : ¬ anyT k = some 70) : k < 1 ∨ 14 < k := by
  unfold anyT at h0 h1 h2 h3 h4
  by_cases c1 : k = 1 ∨ k = 2
  · rw [if_pos c1] at h0; exact absurd rfl h0
  by_cases c2 : k = 3
  · rw [if_neg c1, if_pos c2] at h1; exact absurd rfl h1
  by_cases c3 : (4 ≤ k ∧ k ≤ 7) ∨ k = 9 ∨ k = 11
  · rw [if_neg c1, if_neg c2, if_pos c3] at h2; exact absurd rfl h2
  by_cases c4 : k = 8 ∨ k = 10
  · rw [if_neg c1, if_neg c2, if_neg c3, if_pos c4] at h3; exact absurd rfl h3
  by_cases c5 : 12 ≤ k ∧ k ≤ 14
  · rw [if_neg c1, if_neg c2, if_neg c3, if_neg c4, if_pos c5] at h4; exact absurd rfl h4
  omega
theorem Pk.cells_oneL (p : Pk) (s : Ad) : (p.cells s).toList.all (·.oneCell') = true := rfl
variable {t : Tr} {p : Pk}
theorem in_hg (h : t.left = false) (h2 : ¬ t.greeted = decide (p.kind = 1)) : ¬ (t.left = true ∨ t.greeted = decide (p.kind = 1)) := by
  rintro (c | c)
  · exact Bool.noConfusion (c.symm.trans h)
  exact h2 c
theorem in_skip (h : t.left = true ∨ t.greeted = decide (p.kind = 1)) : t.inT p = t := by unfold Tr.inT; rw [if_pos h]
theorem in_go (h : ¬ (t.left = true ∨ t.greeted = decide (p.kind = 1))) : t.inT p = if p.kind = 1 then { t with gr := p, greeted := true }
  else if p.kind = 3 then t.msgT p
  else if (4 ≤ p.kind ∧ p.kind ≤ 7) ∨ p.kind = 9 ∨ p.kind = 11 then t.ackT p
  else if p.kind = 8 then { t with subs := t.subs ++ [p] }
  else if p.kind = 10 then { t with unsubs := t.unsubs ++ [p] }
  else if p.kind = 12 then { t with left := false }.owe (13, 0)
  else if p.kind = 13 ∨ p.kind = 14 then { t with left := decide (p.kind = 14) }
  else t := by unfold Tr.inT; rw [if_neg h]
variable (hg : ¬ (t.left = true ∨ t.greeted = decide (p.kind = 1)))
include hg
theorem in_1 (h : p.kind = 1) : t.inT p = { t with gr := p, greeted := true } := by rw [in_go hg, if_pos h]
theorem in_2 (h : p.kind = 1 ∨ p.kind = 2) (h1 : ¬ p.kind = 1) : t.inT p = t := by rw [in_go hg, if_neg h1, if_neg (by omega), if_neg (by omega), if_neg (by omega), if_neg (by omega), if_neg (by omega), if_neg (by omega)]
theorem in_3 (h : p.kind = 3) : t.inT p = t.msgT p := by rw [in_go hg, if_neg (by omega), if_pos h]
theorem in_ack (h : (4 ≤ p.kind ∧ p.kind ≤ 7) ∨ p.kind = 9 ∨ p.kind = 11) : t.inT p = t.ackT p := by rw [in_go hg, if_neg (by omega), if_neg (by omega), if_pos h]
theorem in_8 (h : p.kind = 8) : t.inT p = { t with subs := t.subs ++ [p] } := by rw [in_go hg, if_neg (by omega), if_neg (by omega), if_neg (by omega), if_pos h]
theorem in_10 (h : p.kind = 8 ∨ p.kind = 10) (h1 : ¬ p.kind = 8) : t.inT p = { t with unsubs := t.unsubs ++ [p] } := by rw [in_go hg, if_neg (by omega), if_neg (by omega), if_neg (by omega), if_neg h1, if_pos (by omega)]
theorem in_12 (h : p.kind = 12) : t.inT p = { t with left := false, owed := ((13, 0), (lk t.owed (13, 0)).getD 0 + 1) :: strike t.owed (13, 0) } := by
  rw [in_go hg, if_neg (by omega), if_neg (by omega), if_neg (by omega), if_neg (by omega), if_neg (by omega), if_pos h]
  rfl
theorem in_sig (h : 12 ≤ p.kind ∧ p.kind ≤ 14) (h1 : ¬ p.kind = 12) : t.inT p = { t with left := decide (p.kind = 14) } := by rw [in_go hg, if_neg (by omega), if_neg (by omega), if_neg (by omega), if_neg (by omega), if_neg (by omega), if_neg h1, if_pos (by omega)]
theorem in_n (h : p.kind < 1 ∨ 14 < p.kind) : t.inT p = t := by rw [in_go hg, if_neg (by omega), if_neg (by omega), if_neg (by omega), if_neg (by omega), if_neg (by omega), if_neg (by omega), if_neg (by omega)]
end
set_option maxRecDepth 100000 in
set_option maxHeartbeats 400000 in
theorem in_any (p : Pk) (s : Ad) (hid : (Lit.int .i64 p.id).wf = true) (B g : Nat) (t : Tr) (m : TrM) (w : World) (T : TrIn B w g t m) (hn : m.n ≤ 1000000) (PP : PkO w p s) (hL : p.Len) : Calls Try.prog 12 #[.pointer (some ⟨g, 0, none⟩), .agg (p.cells s)] w (TrPost B g m w (t.inT p) (.tuple #[])) := by
 have HK : Kept [] w w := Kept.refl [] w
 have T0 := T
 obtain ⟨e1, e2, e3, e4, BT, RT, RS, RU, MO, MF, nof, tu, tn, un, hlo, PS, PF, hl1, hl2, hl3, hl4, hl5, hcn⟩ := T0
 have hgl := BT.lt
 have hgo := IsAss.ne_blk MO BT
 have hgf := IsAss.ne_blk MF BT
 have hmo := IsAss.lt MO
 have hmf := IsAss.lt MF
 have hT0 := own_lt RT
 have hS0 := own_lt RS
 have hU0 := own_lt RU
 clear BT RT RS RU MO MF PS PF
 refine C.enter Try.func12 rfl Try.ntmps12 rfl ?_
 intro a0 f0
 have f1 : Fr 104 a0 [(0, .pointer (some ⟨g, 0, none⟩)), (1, .agg (p.cells s))] := f0
 refine C.sk fun K0 hK0 => ?_
 refine L.box f1 wantedN (by decide) rfl rfl fun a2 w1 g0 N0 f2 => ?_
 have Bg0 := N0.blk
 have kg0 := N0.kept
 have log0 := N0.lo
 have ltg0 := Bg0.lt
 have szw1 := kg0.size
 have frg0 : w.heap.size ≤ g0 := Nat.le_trans HK.size log0
 replace HK := HK.trans kg0 (by simp)
 replace PP := PP.kept0 kg0
 clear f0 N0 kg0
 refine wpList_nil (hK0 _ _ ?_)
 have f3 := f2.sub (sc 0 (sc 3 sn))
 refine wp_seq_k fun K1 hK1 => ?_
 refine wp_seq_k fun K2 hK2 => ?_
 have hd1 : Kept [] w1 (w1.drewN 1) := (Kept.refl _ _).drewN 1
 refine R.beginT (S := fun W => (Kept [] w W) ∧ (PkO W p s) ∧ (Blk W g0 34 (p.cells s))) (by kernel_rfl) (by kernel_rfl) ⟨HK.trans hd1 (by simp), PP.kept0 hd1, Bg0.kept hd1 (by simp)⟩ fun ht => ?_
 obtain ⟨w2, hww2⟩ : ∃ W, W = w1.drewN 1 := ⟨_, rfl⟩
 rw [← hww2] at hd1 ⊢
 clear f1 a0 f2 hww2
 have szw2 := hd1.size
 replace HK := HK.trans hd1 (by simp)
 replace PP := PP.kept0 hd1
 replace Bg0 := Bg0.kept hd1 (by simp)
 clear hd1
 refine R.u 0 f3 rfl ht ⟨HK, PP, Bg0⟩ (fun W hW => (E.move f3 rfl)) fun a4 f4 => ?_
 refine R.u 1 f4 rfl ht ⟨HK, PP, Bg0⟩ (fun W hW => (E.nilCheck f4 rfl)) fun a5 f5 => ?_
 refine R.u 2 f5 rfl ht ⟨HK, PP, Bg0⟩ (fun W hW => (E.fa 27 f5 Try.underlying53 rfl wsz4_to)) fun a6 f6 => ?_
 refine R.u 3 f6 rfl ht ⟨HK, PP, Bg0⟩ (fun W hW => (by exact E.load f6 Try.underlying4 rfl rfl ((T.kept0 hW.1).bt.cl rfl))) fun a7 f7 => ?_
 refine R.u 4 f7 rfl ht ⟨HK, PP, Bg0⟩ (fun W hW => (E.move f7 rfl)) fun a8 f8 => ?_
 clear f3 a2 f4 a4 f5 a5 f6 a6 f7 a7
 refine f8.split 13 rfl (fun h0 f9 => ?_) (fun h0 f9 => ?_)
 ·have hs13 := h0
  refine R.runT [5, 6, 7, 8, 9, 10, 11, 12, 13] #[true, true, true, true, true, true, true, true, true, true, true, true, true, true] f9 ht (fun _ _ _ _ h => h) ⟨HK, PP, Bg0⟩ (by kernel_rfl) fun a10 f10 => ?_
  have f11 := f10.sub (sub_cons (i := 0) (Fr.keptT f10 (by kernel_rfl) rfl) (sub_cons (i := 3) (Fr.keptT f10 (by kernel_rfl) rfl) (sub_cons (i := 22) (v := .bool true) (by kernel_rfl) sn)))
  refine R.done (by kernel_rfl) (hK2 _ _ ?_)
  have f12 := f11.sub (sc 0 (sc 3 (sc 22 sn)))
  refine C.condT f12 rfl ?_
  refine wp_ret ?_
  try simp only [Exit.inBlock, Exit.then]
  refine C.ret0 (P := Try.prog) (fn := Try.f12) f12 rfl ?_
  exact ⟨rfl, m, by rw [in_skip (.inl hs13)]; exact T.kept0 HK, by omega, HK.mono0, fun x hx => .inl hx, fun x hx => .inl hx⟩
 have hs13 := h0
 refine R.u 5 f9 rfl ht ⟨HK, PP, Bg0⟩ (fun W hW => (E.move f9 rfl)) (hw := (f9.yes rfl rfl)) fun a10 f10 => ?_
 refine R.u 6 f10 rfl ht ⟨HK, PP, Bg0⟩ (fun W hW => (E.nilCheck f10 rfl)) (hw := (f10.yes rfl rfl)) fun a11 f11 => ?_
 refine R.u 7 f11 rfl ht ⟨HK, PP, Bg0⟩ (fun W hW => (E.fa 25 f11 Try.underlying53 rfl wsz4_to)) (hw := (f11.yes rfl rfl)) fun a12 f12 => ?_
 refine R.u 8 f12 rfl ht ⟨HK, PP, Bg0⟩ (fun W hW => (by exact E.load f12 Try.underlying4 rfl rfl ((T.kept0 hW.1).bt.cl rfl))) (hw := (f12.yes rfl rfl)) fun a13 f13 => ?_
 refine R.u 9 f13 rfl ht ⟨HK, PP, Bg0⟩ (fun W hW => (E.fa 0 f13 Try.underlying34 rfl wsz3_to)) (hw := (f13.yes rfl rfl)) fun a14 f14 => ?_
 refine R.u 10 f14 rfl ht ⟨HK, PP, Bg0⟩ (fun W hW => (by exact E.ld f14 Try.underlying3 (hW.2.2))) (hw := (f14.yes rfl rfl)) fun a15 f15 => ?_
 refine R.u 11 f15 rfl ht ⟨HK, PP, Bg0⟩ (fun W hW => (E.eq f15)) (hw := (f15.yes rfl rfl)) fun a16 f16 => ?_
 clear f8 f9 a8 f10 a10 f11 a11 f12 a12 f13 a13 f14 a14 f15 a15
 refine R.u 12 f16 rfl ht ⟨HK, PP, Bg0⟩ (fun W hW => (E.eqlB f16 Try.underlying4 rfl rfl)) (hw := (f16.yes rfl rfl)) fun a17 f17 => ?_
 refine R.u 13 f17 rfl ht ⟨HK, PP, Bg0⟩ (fun W hW => (E.pickF f17 rfl rfl)) fun a18 f18 => ?_
 refine R.done (by kernel_rfl) (hK2 _ _ ?_)
 have f19 := f18.sub (sc 0 (sc 3 (sc 22 sn)))
 clear f16 a16 f17 a17 f18
 refine f19.splitD 22 rfl (fun h1 f20 => ?_) (fun h1 f20 => ?_)
 ·have hs22 := h1
  refine C.condT f20 rfl ?_
  refine wp_ret ?_
  try simp only [Exit.inBlock, Exit.then]
  refine C.ret0 (P := Try.prog) (fn := Try.f12) f20 rfl ?_
  exact ⟨rfl, m, by rw [in_skip (.inr hs22)]; exact T.kept0 HK, by omega, HK.mono0, fun x hx => .inl hx, fun x hx => .inl hx⟩
 have hs22 := h1
 refine C.condF f20 rfl ?_
 refine wp_skip (hK1 _ _ ?_)
 have f21 := f20.sub (sc 0 (sc 3 sn))
 refine C.sk fun K3 hK3 => ?_
 refine L.va f21 (by exact E.loadB f21 Try.underlying34 rfl wsz34_to rfl (Bg0) rfl) fun a22 f22 => ?_
 refine L.cl f22 (run_call Try.call27 (args1 f22 rfl)) (copy_any p s _ PP.toIn hL) ?_
 clear f19 f20 f21 a18
 rintro e w3 ⟨kc3, tt, rfl, PT⟩
 replace PT := PT.o
 refine ⟨_, rfl, fun a23 f23 => ?_⟩
 have szw3 := kc3.size
 replace HK := HK.trans kc3 (by simp)
 replace Bg0 := Bg0.kept kc3 (by simp)
 clear f22 a22 kc3
 refine L.storeR f23 wantedN wsz34_to rfl rfl rfl Bg0 rfl rfl fun a24 w4 f24 NB4 ks4 => ?_
 have szw4 := ks4.size
 replace HK := HK.trans ks4 (ktr (by omega))
 replace PT := PT.keptT ks4 (NoPk.blk Bg0 (by decide))
 replace Bg0 := NB4
 clear ks4 f23 a23
 refine wpList_nil (hK3 _ _ ?_)
 have f25 := f24.sub (sc 0 (sc 3 sn))
 refine wp_seq_k fun K4 hK4 => ?_
 replace Bg0 : Blk w4 g0 34 (p.cells tt) := Bg0
 refine C.region ?_
 refine L.va f25 (by exact E.loadB f25 Try.underlying34 rfl wsz34_to rfl (Bg0) rfl) fun a26 f26 => ?_
 refine L.cl f26 (run_call Try.call28 (args1 f26 rfl)) (any_any p tt _ PT.toIn hL) ?_
 clear f24 f25 a24
 rintro e w5 ⟨kc5, t2, rfl, P2⟩
 have hca : ∀ b, t2.ca.map (·.block) = some b → w.heap.size ≤ b := fun b hb => Nat.le_trans HK.size (P2.codes.lo b hb)
 replace P2 := P2.o
 refine ⟨_, rfl, fun a27 f27 => ?_⟩
 have szw5 := kc5.size
 replace HK := HK.trans kc5 (by simp)
 replace Bg0 := Bg0.kept kc5 (by simp)
 clear f26 a26 kc5
 refine wpList_nil (hK4 _ _ ?_)
 have f28 := f27.sub (sc 0 (sc 3 (sc 26 sn)))
 refine wp_block ?_
 refine C.sk fun K5 hK5 => ?_
 refine L.va f28 (E.taA f28 66 (by decide) rfl) fun a29 f29 => ?_
 refine L.va f29 (E.extract f29 rfl rfl) fun a30 f30 => ?_
 refine L.va f30 (E.extract f30 rfl rfl) fun a31 f31 => ?_
 refine wpList_nil (hK5 _ _ ?_)
 have f32 := f31.sub (sc 0 (sc 3 (sc 26 (sc 28 (sc 29 sn)))))
 clear f27 f28 a27 f29 a29 f30 a30 f31
 refine f32.splitD 28 rfl (fun h2 f33 => ?_) (fun h2 f33 => ?_)
 ·have hs28 := h2
  refine C.condT f33 rfl ?_
  refine wp_seq_k fun K6 hK6 => ?_
  rw [if_pos hs28] at f33
  refine C.region ?_
  refine L.alloc f33 wantedN (by decide) (z := (.agg #[(.int .i64 0), (.bool false), (.bool false), (.int .i64 0), (.int .i64 0), (.string ⟨#[]⟩), (.slice none 0 0), (.int .i64 0), (.string ⟨#[]⟩), (.bool false), (.int .i64 0), (.bool false), (.string ⟨#[]⟩), (.slice none 0 0), (.int .i64 0), (.bool false), (.bool false), (.bool false), (.string ⟨#[]⟩), (.slice none 0 0), (.bool false), (.int .i64 0), (.slice none 0 0), (.slice none 0 0)])) (fun _ => by kernel_rfl) rfl fun a34 w6 g5 N5 f34 => ?_
  have Bg5 := N5.blk
  have kg5 := N5.kept
  have log5 := N5.lo
  have ltg5 := Bg5.lt
  have szw6 := kg5.size
  have frg5 : w.heap.size ≤ g5 := Nat.le_trans HK.size log5
  have neg0_g5 : g0 ≠ g5 := by have := Bg0.lt; omega
  replace HK := HK.trans kg5 (by simp)
  replace Bg0 := Bg0.kept kg5 (by simp)
  replace P2 := P2.kept0 kg5
  clear f32 N5 kg5
  refine L.storeR f34 wantedN wsz66_to rfl rfl rfl Bg5 rfl rfl fun a35 w7 f35 NB7 ks7 => ?_
  have szw7 := ks7.size
  replace HK := HK.trans ks7 (ktr (by omega))
  replace Bg0 := Bg0.kept ks7 (by simp; omega)
  replace P2 := P2.keptT ks7 (NoPk.blk Bg5 (by decide))
  replace Bg5 := NB7
  clear f33 a31 ks7 f34 a34
  refine wpList_nil (hK6 _ _ ?_)
  have f36 := f35.sub (sc 0 (sc 3 (sc 4 sn)))
  refine wp_seq_k fun K7 hK7 => ?_
  replace Bg5 : Blk w7 g5 66 (p.cells t2) := Bg5
  refine C.region ?_
  refine L.va f36 (E.fa 0 f36 Try.underlying34 rfl wsz3_to) fun a37 f37 => ?_
  refine L.va f37 (by exact E.ld f37 Try.underlying3 (Bg0)) fun a38 f38 => ?_
  refine L.va f38 (E.eq f38) fun a39 f39 => ?_
  refine wpList_nil (hK7 _ _ ?_)
  have f40 := f39.sub (sc 0 (sc 4 (sc 32 sn)))
  clear f35 f36 a35 f37 a37 f38 a38 f39
  refine f40.splitD 32 rfl (fun h3 f41 => ?_) (fun h3 f41 => ?_)
  ·have hs32 := h3
   refine C.condT f41 rfl ?_
   obtain ⟨-, -, -, -, BT, RT, RS, RU, MO, MF, -, -, -, -, -, PS, PF, -⟩ := T.kept0 HK
   replace HK : Kept (m.fp g) w w7 := HK.mono0
   replace BT : Blk w7 g 53 #[.bool t.clean, .int .i64 t.gr.kind, .bool t.gr.dup, .bool t.gr.retain, .int .i64 t.gr.qos, .int .i64 t.gr.id, .string t.gr.topic, .slice m.gs.pa t.gr.pay.length m.gs.pc, .int .i64 t.gr.level, .string t.gr.client, .bool t.gr.clean, .int .i64 t.gr.keep, .bool t.gr.hasWill, .string t.gr.wt, .slice m.gs.wa t.gr.wp.length m.gs.wc, .int .i64 t.gr.wq, .bool t.gr.wr, .bool t.gr.hasUser, .bool t.gr.hasPass, .string t.gr.user, .slice m.gs.sa t.gr.pass.length m.gs.sc, .bool t.gr.present, .int .i64 t.gr.code, .slice m.gs.ua t.gr.subs.length m.gs.uc, .slice m.gs.ca t.gr.codes.length m.gs.cc, .bool t.greeted, .slice m.At m.told.length m.ct, .bool t.left, .slice m.Au m.subs.length m.cu, .slice m.An m.uns.length m.cn, .map (some m.mo), .map (some m.mf)] := BT
   refine C.region ?_
   refine L.mv f41 fun a42 f42 => ?_
   refine L.mv f42 fun a43 f43 => ?_
   refine L.va f43 (E.fa 0 f43 Try.underlying66 rfl wsz34_to) fun a44 f44 => ?_
   refine L.va f44 (by exact E.loadB f44 Try.underlying34 rfl wsz34_to rfl (Bg5) rfl) fun a45 f45 => ?_
   refine L.va f45 (E.nilCheck f45 rfl) fun a46 f46 => ?_
   refine L.va f46 (E.fa 1 f46 Try.underlying53 rfl wsz34_to) fun a47 f47 => ?_
   refine L.storeSeg f47 wantedN wsz34_to rfl rfl (Pk.cells_oneL p t2) BT (by simp [Pk.cells]) rfl fun a48 w8 f48 NB ks => ?_
   have szw8 := ks.size
   replace Bg0 := Bg0.kept ks (by simp; omega)
   replace P2 := P2.keptT ks (NoPk.blk BT (by decide))
   replace Bg5 := Bg5.kept ks (by simp; omega)
   replace HK := HK.trans ks (fun x hx hlt => by obtain rfl := List.mem_singleton.1 hx; exact fp_g)
   replace RT := own_kept1 RT ks BT (by decide)
   replace RS := own_kept1 RS ks BT (by decide)
   replace RU := own_kept1 RU ks BT (by decide)
   replace MO := IsAss.kept MO ks (by simpa using IsAss.ne_blk MO BT)
   replace MF := IsAss.kept MF ks (by simpa using IsAss.ne_blk MF BT)
   replace PS := PS.keptT ks (NoPk.blk BT (by decide))
   replace PF := PF.keptT ks (NoPk.blk BT (by decide))
   have BT : Blk w8 g 53 #[.bool t.clean, .int .i64 p.kind, .bool p.dup, .bool p.retain, .int .i64 p.qos, .int .i64 p.id, .string p.topic, .slice t2.pa p.pay.length t2.pc, .int .i64 p.level, .string p.client, .bool p.clean, .int .i64 p.keep, .bool p.hasWill, .string p.wt, .slice t2.wa p.wp.length t2.wc, .int .i64 p.wq, .bool p.wr, .bool p.hasUser, .bool p.hasPass, .string p.user, .slice t2.sa p.pass.length t2.sc, .bool p.present, .int .i64 p.code, .slice t2.ua p.subs.length t2.uc, .slice t2.ca p.codes.length t2.cc, .bool t.greeted, .slice m.At m.told.length m.ct, .bool t.left, .slice m.Au m.subs.length m.cu, .slice m.An m.uns.length m.cn, .map (some m.mo), .map (some m.mf)] := set_gr (a := .bool t.clean) (b := (t.gr.cells m.gs).toList) (c := [.bool t.greeted, .slice m.At m.told.length m.ct, .bool t.left, .slice m.Au m.subs.length m.cu, .slice m.An m.uns.length m.cn, .map (some m.mo), .map (some m.mf)]) (d := (p.cells t2).toList) rfl NB
   clear f40 f41 a39 f42 a42 f43 a43 f44 a44 f45 a45 f46 a46 f47 a47 ks NB
   refine L.va f48 (E.nilCheck f48 rfl) fun a49 f49 => ?_
   refine L.va f49 (E.fa 25 f49 Try.underlying53 rfl wsz4_to) fun a50 f50 => ?_
   refine L.store f50 wantedN wsz4_to rfl rfl rfl BT (by (simp [Value.cells]; done)) fun a51 w9 f51 NB9 ks9 => ?_
   have szw9 := ks9.size
   replace Bg0 := Bg0.kept ks9 (by simp; omega)
   replace P2 := P2.keptT ks9 (NoPk.blk BT (by decide))
   replace Bg5 := Bg5.kept ks9 (by simp; omega)
   replace HK := HK.trans ks9 (fun x hx hlt => by obtain rfl := List.mem_singleton.1 hx; exact fp_g)
   replace RT := own_kept1 RT ks9 BT (by decide)
   replace RS := own_kept1 RS ks9 BT (by decide)
   replace RU := own_kept1 RU ks9 BT (by decide)
   replace MO := IsAss.kept MO ks9 (by simpa using IsAss.ne_blk MO BT)
   replace MF := IsAss.kept MF ks9 (by simpa using IsAss.ne_blk MF BT)
   replace PS := PS.keptT ks9 (NoPk.blk BT (by decide))
   replace PF := PF.keptT ks9 (NoPk.blk BT (by decide))
   replace BT := NB9
   simp only [Value.cells, z1, z2, z3, Nat.reduceAdd, Nat.zero_add] at BT
   clear f48 a48 f49 a49 ks9 f50 a50
   refine wpList_nil (C.end0 (P := Try.prog) (fn := Try.f12) f51 rfl ?_)
   rw [in_1 (in_hg hs13 hs22) hs32]
   exact ⟨rfl, { m with gs := t2, n := m.n + 1 }, ⟨e1, e2, e3, e4, BT, RT, RS, RU, MO, MF, nof, tu, tn, un, hlo, PS, PF, Nat.le_succ_of_le hl1, Nat.le_succ_of_le hl2, Nat.le_succ_of_le hl3, Nat.le_succ_of_le hl4, Nat.le_succ_of_le hl5, cnt_up hcn⟩, Nat.le_refl _, HK, fun x hx => .inl hx, fun x hx => .inl hx⟩
  have hs32 := h3
  refine C.condF f41 rfl ?_
  refine wp_skip (C.end0 (P := Try.prog) (fn := Try.f12) f41 rfl ?_)
  exact ⟨rfl, m, by rw [in_2 (in_hg hs13 hs22) (any66 hs28) hs32]; exact T.kept0 HK, by omega, HK.mono0, fun x hx => .inl hx, fun x hx => .inl hx⟩
 have hs28 := h2
 refine C.condF f33 rfl ?_
 refine C.sk fun K8 hK8 => ?_
 refine L.va f33 (E.taA f33 67 (by decide) rfl) fun a34 f34 => ?_
 refine L.va f34 (E.extract f34 rfl rfl) fun a35 f35 => ?_
 refine L.va f35 (E.extract f35 rfl rfl) fun a36 f36 => ?_
 refine wpList_nil (hK8 _ _ ?_)
 have f37 := f36.sub (sc 0 (sc 3 (sc 26 (sc 42 (sc 43 sn)))))
 clear f32 f33 a31 f34 a34 f35 a35 f36
 refine f37.splitD 42 rfl (fun h4 f38 => ?_) (fun h4 f38 => ?_)
 ·have hs42 := h4
  refine C.condT f38 rfl ?_
  refine wp_seq_k fun K9 hK9 => ?_
  rw [if_pos hs42] at f38
  refine C.region ?_
  refine L.alloc f38 wantedN (by decide) (z := (.agg #[(.int .i64 0), (.bool false), (.bool false), (.int .i64 0), (.int .i64 0), (.string ⟨#[]⟩), (.slice none 0 0), (.int .i64 0), (.string ⟨#[]⟩), (.bool false), (.int .i64 0), (.bool false), (.string ⟨#[]⟩), (.slice none 0 0), (.int .i64 0), (.bool false), (.bool false), (.bool false), (.string ⟨#[]⟩), (.slice none 0 0), (.bool false), (.int .i64 0), (.slice none 0 0), (.slice none 0 0)])) (fun _ => by kernel_rfl) rfl fun a39 w6 g5 N5 f39 => ?_
  have Bg5 := N5.blk
  have kg5 := N5.kept
  have log5 := N5.lo
  have ltg5 := Bg5.lt
  have szw6 := kg5.size
  have frg5 : w.heap.size ≤ g5 := Nat.le_trans HK.size log5
  have neg0_g5 : g0 ≠ g5 := by have := Bg0.lt; omega
  replace HK := HK.trans kg5 (by simp)
  replace Bg0 := Bg0.kept kg5 (by simp)
  replace P2 := P2.kept0 kg5
  clear f37 N5 kg5
  refine L.storeR f39 wantedN wsz67_to rfl rfl rfl Bg5 rfl rfl fun a40 w7 f40 NB7 ks7 => ?_
  have szw7 := ks7.size
  replace HK := HK.trans ks7 (ktr (by omega))
  replace Bg0 := Bg0.kept ks7 (by simp; omega)
  replace P2 := P2.keptT ks7 (NoPk.blk Bg5 (by decide))
  replace Bg5 := NB7
  clear f38 a36 ks7 f39 a39
  refine wpList_nil (hK9 _ _ ?_)
  have f41 := f40.sub (sc 0 (sc 5 sn))
  replace Bg5 : Blk w7 g5 67 (p.cells t2) := Bg5
  refine C.region ?_
  refine L.mv f41 fun a42 f42 => ?_
  refine L.va f42 (E.fa 0 f42 Try.underlying67 rfl wsz34_to) fun a43 f43 => ?_
  refine L.va f43 (by exact E.loadB f43 Try.underlying34 rfl wsz34_to rfl (Bg5) rfl) fun a44 f44 => ?_
  refine L.cl f44 (run_call Try.call29 (args2 f44 rfl rfl)) (msg_any p t2 hid B g t m _ (T.kept0 HK) hn) ?_
  clear f40 f41 a40 f42 a42 f43 a43
  rintro e w8 ⟨rfl, m2, T2, up2, kc8, nw2⟩
  refine ⟨_, rfl, fun a45 f45 => ?_⟩
  have szw8 := kc8.size
  have KC := kc8
  refine wpList_nil (C.end0 (P := Try.prog) (fn := Try.f12) f45 rfl ?_)
  exact TrPost.baseN HK (in_3 (in_hg hs13 hs22) (any67 hs42)) ⟨rfl, m2, T2, up2, KC, nw2⟩
 have hs42 := h4
 refine C.condF f38 rfl ?_
 refine C.sk fun K10 hK10 => ?_
 refine L.va f38 (E.taA f38 68 (by decide) rfl) fun a39 f39 => ?_
 refine L.va f39 (E.extract f39 rfl rfl) fun a40 f40 => ?_
 refine L.va f40 (E.extract f40 rfl rfl) fun a41 f41 => ?_
 refine wpList_nil (hK10 _ _ ?_)
 have f42 := f41.sub (sc 0 (sc 3 (sc 26 (sc 49 (sc 50 sn)))))
 clear f37 f38 a36 f39 a39 f40 a40 f41
 refine f42.splitD 49 rfl (fun h5 f43 => ?_) (fun h5 f43 => ?_)
 ·have hs49 := h5
  refine C.condT f43 rfl ?_
  refine wp_seq_k fun K11 hK11 => ?_
  rw [if_pos hs49] at f43
  refine C.region ?_
  refine L.alloc f43 wantedN (by decide) (z := (.agg #[(.int .i64 0), (.bool false), (.bool false), (.int .i64 0), (.int .i64 0), (.string ⟨#[]⟩), (.slice none 0 0), (.int .i64 0), (.string ⟨#[]⟩), (.bool false), (.int .i64 0), (.bool false), (.string ⟨#[]⟩), (.slice none 0 0), (.int .i64 0), (.bool false), (.bool false), (.bool false), (.string ⟨#[]⟩), (.slice none 0 0), (.bool false), (.int .i64 0), (.slice none 0 0), (.slice none 0 0)])) (fun _ => by kernel_rfl) rfl fun a44 w6 g5 N5 f44 => ?_
  have Bg5 := N5.blk
  have kg5 := N5.kept
  have log5 := N5.lo
  have ltg5 := Bg5.lt
  have szw6 := kg5.size
  have frg5 : w.heap.size ≤ g5 := Nat.le_trans HK.size log5
  have neg0_g5 : g0 ≠ g5 := by have := Bg0.lt; omega
  replace HK := HK.trans kg5 (by simp)
  replace Bg0 := Bg0.kept kg5 (by simp)
  replace P2 := P2.kept0 kg5
  clear f42 N5 kg5
  refine L.storeR f44 wantedN wsz68_to rfl rfl rfl Bg5 rfl rfl fun a45 w7 f45 NB7 ks7 => ?_
  have szw7 := ks7.size
  replace HK := HK.trans ks7 (ktr (by omega))
  replace Bg0 := Bg0.kept ks7 (by simp; omega)
  replace P2 := P2.keptT ks7 (NoPk.blk Bg5 (by decide))
  replace Bg5 := NB7
  clear f43 a41 ks7 f44 a44
  refine wpList_nil (hK11 _ _ ?_)
  have f46 := f45.sub (sc 0 (sc 6 sn))
  replace Bg5 : Blk w7 g5 68 (p.cells t2) := Bg5
  refine C.region ?_
  refine L.mv f46 fun a47 f47 => ?_
  refine L.va f47 (E.fa 0 f47 Try.underlying68 rfl wsz34_to) fun a48 f48 => ?_
  refine L.va f48 (by exact E.loadB f48 Try.underlying34 rfl wsz34_to rfl (Bg5) rfl) fun a49 f49 => ?_
  refine L.cl f49 (run_call Try.call30 (args2 f49 rfl rfl)) (ack_any p t2 hid B g t m _ (T.kept0 HK) hn) ?_
  clear f45 f46 a45 f47 a47 f48 a48
  rintro e w8 ⟨rfl, m2, T2, up2, kc8, nw2⟩
  refine ⟨_, rfl, fun a50 f50 => ?_⟩
  have szw8 := kc8.size
  have KC := kc8
  refine wpList_nil (C.end0 (P := Try.prog) (fn := Try.f12) f50 rfl ?_)
  exact TrPost.baseN HK (in_ack (in_hg hs13 hs22) (any68 hs49)) ⟨rfl, m2, T2, up2, KC, nw2⟩
 have hs49 := h5
 refine C.condF f43 rfl ?_
 refine C.sk fun K12 hK12 => ?_
 refine L.va f43 (E.taA f43 69 (by decide) rfl) fun a44 f44 => ?_
 refine L.va f44 (E.extract f44 rfl rfl) fun a45 f45 => ?_
 refine L.va f45 (E.extract f45 rfl rfl) fun a46 f46 => ?_
 refine wpList_nil (hK12 _ _ ?_)
 have f47 := f46.sub (sc 0 (sc 3 (sc 26 (sc 56 (sc 57 sn)))))
 clear f42 f43 a41 f44 a44 f45 a45 f46
 refine f47.splitD 56 rfl (fun h6 f48 => ?_) (fun h6 f48 => ?_)
 ·have hs56 := h6
  refine C.condT f48 rfl ?_
  refine wp_seq_k fun K13 hK13 => ?_
  rw [if_pos hs56] at f48
  refine C.region ?_
  refine L.alloc f48 wantedN (by decide) (z := (.agg #[(.int .i64 0), (.bool false), (.bool false), (.int .i64 0), (.int .i64 0), (.string ⟨#[]⟩), (.slice none 0 0), (.int .i64 0), (.string ⟨#[]⟩), (.bool false), (.int .i64 0), (.bool false), (.string ⟨#[]⟩), (.slice none 0 0), (.int .i64 0), (.bool false), (.bool false), (.bool false), (.string ⟨#[]⟩), (.slice none 0 0), (.bool false), (.int .i64 0), (.slice none 0 0), (.slice none 0 0)])) (fun _ => by kernel_rfl) rfl fun a49 w6 g5 N5 f49 => ?_
  have Bg5 := N5.blk
  have kg5 := N5.kept
  have log5 := N5.lo
  have ltg5 := Bg5.lt
  have szw6 := kg5.size
  have frg5 : w.heap.size ≤ g5 := Nat.le_trans HK.size log5
  have neg0_g5 : g0 ≠ g5 := by have := Bg0.lt; omega
  replace HK := HK.trans kg5 (by simp)
  replace Bg0 := Bg0.kept kg5 (by simp)
  replace P2 := P2.kept0 kg5
  clear f47 N5 kg5
  refine L.storeR f49 wantedN wsz69_to rfl rfl rfl Bg5 rfl rfl fun a50 w7 f50 NB7 ks7 => ?_
  have szw7 := ks7.size
  replace HK := HK.trans ks7 (ktr (by omega))
  replace Bg0 := Bg0.kept ks7 (by simp; omega)
  replace P2 := P2.keptT ks7 (NoPk.blk Bg5 (by decide))
  replace Bg5 := NB7
  clear f48 a46 ks7 f49 a49
  refine wpList_nil (hK13 _ _ ?_)
  have f51 := f50.sub (sc 0 (sc 3 (sc 7 sn)))
  refine wp_seq_k fun K14 hK14 => ?_
  replace Bg5 : Blk w7 g5 69 (p.cells t2) := Bg5
  refine C.region ?_
  refine L.va f51 (E.fa 0 f51 Try.underlying34 rfl wsz3_to) fun a52 f52 => ?_
  refine L.va f52 (by exact E.ld f52 Try.underlying3 (Bg0)) fun a53 f53 => ?_
  refine L.va f53 (E.eq f53) fun a54 f54 => ?_
  refine wpList_nil (hK14 _ _ ?_)
  have f55 := f54.sub (sc 0 (sc 7 (sc 60 sn)))
  clear f50 f51 a50 f52 a52 f53 a53 f54
  refine f55.splitD 60 rfl (fun h7 f56 => ?_) (fun h7 f56 => ?_)
  ·have hs60 := h7
   refine C.condT f56 rfl ?_
   obtain ⟨-, -, -, -, BT, RT, RS, RU, MO, MF, -, -, -, -, -, PS, PF, -⟩ := T.kept0 HK
   replace HK : Kept (m.fp g) w w7 := HK.mono0
   replace BT : Blk w7 g 53 #[.bool t.clean, .int .i64 t.gr.kind, .bool t.gr.dup, .bool t.gr.retain, .int .i64 t.gr.qos, .int .i64 t.gr.id, .string t.gr.topic, .slice m.gs.pa t.gr.pay.length m.gs.pc, .int .i64 t.gr.level, .string t.gr.client, .bool t.gr.clean, .int .i64 t.gr.keep, .bool t.gr.hasWill, .string t.gr.wt, .slice m.gs.wa t.gr.wp.length m.gs.wc, .int .i64 t.gr.wq, .bool t.gr.wr, .bool t.gr.hasUser, .bool t.gr.hasPass, .string t.gr.user, .slice m.gs.sa t.gr.pass.length m.gs.sc, .bool t.gr.present, .int .i64 t.gr.code, .slice m.gs.ua t.gr.subs.length m.gs.uc, .slice m.gs.ca t.gr.codes.length m.gs.cc, .bool t.greeted, .slice m.At m.told.length m.ct, .bool t.left, .slice m.Au m.subs.length m.cu, .slice m.An m.uns.length m.cn, .map (some m.mo), .map (some m.mf)] := BT
   have hd17 : Kept [] w7 (w7.drewN 1) := (Kept.refl _ _).drewN 1
   refine R.beginT (S := fun _ => True) (by kernel_rfl) (by kernel_rfl) trivial fun ht => ?_
   obtain ⟨w8, hww8⟩ : ∃ W, W = w7.drewN 1 := ⟨_, rfl⟩
   rw [← hww8] at hd17 ⊢
   clear f55 hww8
   have szw8 := hd17.size
   replace Bg0 := Bg0.kept hd17 (by simp)
   replace P2 := P2.kept0 hd17
   replace Bg5 := Bg5.kept hd17 (by simp)
   replace HK := HK.trans hd17 (by simp)
   replace BT := BT.kept hd17 (by simp)
   replace RT := Own.kept RT hd17 (by simp)
   replace RS := Own.kept RS hd17 (by simp)
   replace RU := Own.kept RU hd17 (by simp)
   replace MO := IsAss.kept MO hd17 (by simp)
   replace MF := IsAss.kept MF hd17 (by simp)
   replace PS := PS.keptT hd17 (NoPk.nil _)
   replace PF := PF.keptT hd17 (NoPk.nil _)
   clear hd17
   refine R.u 0 f56 rfl ht trivial (fun W hW => (E.move f56 rfl)) fun a57 f57 => ?_
   refine R.u 1 f57 rfl ht trivial (fun W hW => (E.move f57 rfl)) fun a58 f58 => ?_
   refine R.u 2 f58 rfl ht trivial (fun W hW => (E.nilCheck f58 rfl)) fun a59 f59 => ?_
   refine R.u 3 f59 rfl ht trivial (fun W hW => (E.fa 28 f59 Try.underlying53 rfl wsz51_to)) fun a60 f60 => ?_
   refine R.u 5 f60 rfl ht trivial (fun W hW => (E.fa 0 f60 Try.underlying69 rfl wsz34_to)) fun a61 f61 => ?_
   clear f56 a54 f57 a57 f58 a58 f59 a59 f60 a60
   refine Gp.enter (G := [4, 6, 7]) (L0 := #[true, true, true, true, false, true, false, false, false, false, false, false]) (L1 := #[true, true, true, true, true, true, true, true, false, false, false, false]) (fuel := 4) (fun mS a W => ∃ v65 v67 v68 : Value, Fr 104 a [(0, .pointer (some ⟨g, 0, none⟩)), (7, .pointer (some ⟨g5, 0, none⟩)), (61, .pointer (some ⟨g, 0, none⟩)), (64, .pointer (some ⟨g, 0 + 28, none⟩)), (66, .pointer (some ⟨g5, 0 + 0, none⟩)), (65, v65), (67, v67), (68, v68)] ∧ (Blk W g0 34 (p.cells tt)) ∧ (PkO W p t2) ∧ (Blk W g5 69 (p.cells t2)) ∧ (Kept (m.fp g) w W) ∧ (Blk W g 53 #[.bool t.clean, .int .i64 t.gr.kind, .bool t.gr.dup, .bool t.gr.retain, .int .i64 t.gr.qos, .int .i64 t.gr.id, .string t.gr.topic, .slice m.gs.pa t.gr.pay.length m.gs.pc, .int .i64 t.gr.level, .string t.gr.client, .bool t.gr.clean, .int .i64 t.gr.keep, .bool t.gr.hasWill, .string t.gr.wt, .slice m.gs.wa t.gr.wp.length m.gs.wc, .int .i64 t.gr.wq, .bool t.gr.wr, .bool t.gr.hasUser, .bool t.gr.hasPass, .string t.gr.user, .slice m.gs.sa t.gr.pass.length m.gs.sc, .bool t.gr.present, .int .i64 t.gr.code, .slice m.gs.ua t.gr.subs.length m.gs.uc, .slice m.gs.ca t.gr.codes.length m.gs.cc, .bool t.greeted, .slice m.At m.told.length m.ct, .bool t.left, .slice m.Au m.subs.length m.cu, .slice m.An m.uns.length m.cn, .map (some m.mo), .map (some m.mf)]) ∧ (Row W m.At m.ct m.told) ∧ (Row W m.Au m.cu m.subs) ∧ (Row W m.An m.cn m.uns) ∧ (IsAss ansM Try.prog W m.mo t.owed) ∧ (IsAss outM Try.prog W m.mf m.out) ∧ (PksO W m.subs) ∧ (FlsO W m.out) ∧ (mS.testBit 4 = true → PhiV (.slice m.Au m.subs.length m.cu) v65 W) ∧ (mS.testBit 6 = true → PhiV (.agg (p.cells t2)) v67 W) ∧ (mS.testBit 7 = true → PhiN 34 1 (p.cells t2) v68 W)) (by kernel_rfl) (by kernel_rfl) ?_ ?_ ?_
   ·obtain ⟨v65, f62⟩ := f61.any 65 (by decide)
    obtain ⟨v67, f63⟩ := f62.any 67 (by decide)
    obtain ⟨v68, f64⟩ := f63.any 68 (by decide)
    exact ⟨v65, v67, v68, f64.sub (sub_cons rfl (sub_cons rfl (sub_cons rfl (sub_cons rfl (sub_cons rfl (sub_cons rfl (sub_cons rfl (sub_cons rfl sn)))))))), Bg0, P2, Bg5, HK, BT, RT, RS, RU, MO, MF, PS, PF, fun q => absurd q (by simp), fun q => absurd q (by simp), fun q => absurd q (by simp)⟩
   ·intro mS i_ a62 w9 hm hcl hi hG hI
    obtain ⟨v65, v67, v68, f62, Bg0, P2, Bg5, HK, BT, RT, RS, RU, MO, MF, PS, PF, P4, P6, P7⟩ := hI
    simp only [List.mem_cons, List.not_mem_nil, or_false] at hG
    rcases hG with rfl | rfl | rfl
    ·skip
     refine O.val f62 rfl rfl (by decide) wantedN (by exact E.ld f62 Try.underlying51 (BT)) trivial fun a63 f63 => ?_
     exact ⟨_, _, _, f63.sub (sub_cons rfl (sub_cons rfl (sub_cons rfl (sub_cons rfl (sub_cons rfl (sub_cons rfl (sub_cons rfl (sub_cons rfl sn)))))))), Bg0, P2, Bg5, HK, BT, RT, RS, RU, MO, MF, PS, PF, fun _ => rfl, fun q => P6 (by rwa [Gp.other (by decide)] at q), fun q => P7 (by rwa [Gp.other (by decide)] at q)⟩
    ·skip
     refine O.val f62 rfl rfl (by decide) wantedN (by exact E.loadB f62 Try.underlying34 rfl wsz34_to rfl (Bg5) rfl) trivial fun a63 f63 => ?_
     exact ⟨_, _, _, f63.sub (sub_cons rfl (sub_cons rfl (sub_cons rfl (sub_cons rfl (sub_cons rfl (sub_cons rfl (sub_cons rfl (sub_cons rfl sn)))))))), Bg0, P2, Bg5, HK, BT, RT, RS, RU, MO, MF, PS, PF, fun q => P4 (by rwa [Gp.other (by decide)] at q), fun _ => rfl, fun q => P7 (by rwa [Gp.other (by decide)] at q)⟩
    skip
    have D6 := P6 (Gp.need (j := 6) (by kernel_rfl) hm hcl hi)
    obtain rfl := D6
    refine O.buildSlice f62 rfl wantedN (by decide) (parts1 f62 rfl) Try.underlying51 wzi34_to rfl rfl (wbs51_1_to _ _ _ _ _ _ _ _ _ _ _ _ _ _ _ _ _ _ _ _ _ _ _ _) (fun _ _ => trivial) fun a63 w10 g9 N9 hSn f63 => ?_
    clear hSn
    have Bg9 := N9.blk
    have kg9 := N9.kept
    have log9 := N9.lo
    have ltg9 := Bg9.lt
    have szw10 := kg9.size
    have frg9 : w.heap.size ≤ g9 := Nat.le_trans HK.size log9
    have neg0_g9 : g0 ≠ g9 := by have := Bg0.lt; omega
    have neg5_g9 : g5 ≠ g9 := by have := Bg5.lt; omega
    have neg_g9 : g ≠ g9 := by have := BT.lt; omega
    replace Bg0 := Bg0.kept kg9 (by simp)
    replace P2 := P2.kept0 kg9
    replace Bg5 := Bg5.kept kg9 (by simp)
    replace HK := HK.trans kg9 (by simp)
    replace BT := BT.kept kg9 (by simp)
    replace RT := Own.kept RT kg9 (by simp)
    replace RS := Own.kept RS kg9 (by simp)
    replace RU := Own.kept RU kg9 (by simp)
    replace MO := IsAss.kept MO kg9 (by simp)
    replace MF := IsAss.kept MF kg9 (by simp)
    replace PS := PS.keptT kg9 (NoPk.nil _)
    replace PF := PF.keptT kg9 (NoPk.nil _)
    replace P4 := fun q => (P4 q).kept kg9
    replace P6 := fun q => (P6 q).kept kg9
    replace P7 := fun q => (P7 q).kept kg9
    clear N9 kg9
    exact ⟨_, _, _, f63.sub (sub_cons rfl (sub_cons rfl (sub_cons rfl (sub_cons rfl (sub_cons rfl (sub_cons rfl (sub_cons rfl (sub_cons rfl sn)))))))), Bg0, P2, Bg5, HK, BT, RT, RS, RU, MO, MF, PS, PF, fun q => P4 (by rwa [Gp.other (by decide)] at q), fun q => P6 (by rwa [Gp.other (by decide)] at q), fun _ => ⟨g9, rfl, Bg9⟩⟩
   intro mS a62 w9 hm hI
   obtain ⟨v65, v67, v68, f62, Bg0, P2, Bg5, HK, BT, RT, RS, RU, MO, MF, PS, PF, P4, P6, P7⟩ := hI
   have D4 := P4 (hm 4 (by decide))
   obtain rfl := D4
   have D7 := P7 (hm 7 (by decide))
   obtain ⟨gb, rfl, Bgb⟩ := D7
   clear P4 P6 P7
   refine R.one 8 (by kernel_rfl) ?_
   refine O.append f62 rfl wantedN (by decide) Try.underlying51 wzib34_to rfl rfl rfl rfl RS (Sl1 p t2 Bgb) (Pk.one1 p t2) (by unfold maxLen; omega) (by omega) fun a63 w10 A10 c10 AP => ?_
   have szw10 := AP.kept.size
   have hwh : ∀ b, A10.map (·.block) = some b → m.Au.map (·.block) = some b ∨ w.heap.size ≤ b := fun b hb => (AP.where_ b hb).imp id (fun h => Nat.le_trans HK.size h)
   skip
   have HKn := HK.trans AP.kept (fun x hx _ => fp_ownRS (by simpa using hx))
   have BTn := BT.kept AP.kept (own_ne RS BT (by decide))
   have RTn := Own.kept RT AP.kept (own_apart (Apart.symm tu))
   have RSn := (show Row w10 A10 c10 (m.subs ++ [(p, t2)]) by unfold Row; rw [pkRow_app, pkRow_one, List.length_append]; exact AP.own)
   have RUn := Own.kept RU AP.kept (own_apart un)
   have MOn := IsAss.kept MO AP.kept (own_ne_map MO RS)
   have MFn := IsAss.kept MF AP.kept (own_ne_map MF RS)
   have PSn := PS.keptT AP.kept (NoPk.own RS)
   have PFn := PF.keptT AP.kept (NoPk.own RS)
   have P2n := P2.keptT AP.kept (NoPk.own RS)
   refine ⟨trivial, fun f63 => ?_⟩
   clear f62 HK BT RT RS RU MO MF PS PF P2 AP Bgb
   have HK := HKn
   have BT := BTn
   have RT := RTn
   have RS := RSn
   have RU := RUn
   have MO := MOn
   have MF := MFn
   have PS := PSn
   have PF := PFn
   have P2 := P2n
   clear HKn BTn RTn RSn RUn MOn MFn PSn PFn P2n
   refine R.u 9 f63 rfl ht trivial (fun W hW => (E.nilCheck f63 rfl)) fun a64 f64 => ?_
   refine R.u 10 f64 rfl ht trivial (fun W hW => (E.fa 28 f64 Try.underlying53 rfl wsz51_to)) fun a65 f65 => ?_
   refine R.one 11 (by kernel_rfl) ?_
   refine OT.store f65 rfl wantedN wsz51_to rfl rfl rfl BT (by (simp [Value.cells]; done)) fun a66 w11 f66 NB11 ks11 => ?_
   have szw11 := ks11.size
   replace P2 := P2.keptT ks11 (NoPk.blk BT (by decide))
   replace HK := HK.trans ks11 (fun x hx hlt => by obtain rfl := List.mem_singleton.1 hx; exact fp_g)
   replace RT := own_kept1 RT ks11 BT (by decide)
   replace RS := own_kept1 RS ks11 BT (by decide)
   replace RU := own_kept1 RU ks11 BT (by decide)
   replace MO := IsAss.kept MO ks11 (by simpa using IsAss.ne_blk MO BT)
   replace MF := IsAss.kept MF ks11 (by simpa using IsAss.ne_blk MF BT)
   replace PS := PS.keptT ks11 (NoPk.blk BT (by decide))
   replace PF := PF.keptT ks11 (NoPk.blk BT (by decide))
   replace BT := NB11
   simp only [Value.cells, z1, z2, z3, Nat.reduceAdd, Nat.zero_add] at BT
   clear f63 a63 f64 a64 ks11 f65 a65
   refine R.done (by kernel_rfl) (C.end0 (P := Try.prog) (fn := Try.f12) f66 rfl ?_)
   rw [in_8 (in_hg hs13 hs22) hs60]
   exact ⟨rfl, { m with subs := m.subs ++ [(p, t2)], Au := A10, cu := c10, n := m.n + 1 }, ⟨e1, (by rw [e2, List.map_append]; rfl), e3, e4, (by have e : (m.subs ++ [(p, t2)]).length = m.subs.length + 1 := List.length_append; rw [← e] at BT; exact BT), RT, RS, RU, MO, MF, nof, (Apart.symm (apart_new (Apart.symm tu) hwh hT0)), tn, apart_new un hwh hU0, fp_lo hlo hgl (fpS hwh), (PksO.app PS (PksO.one P2 hL)), PF, Nat.le_succ_of_le hl1, (by rw [List.length_append]; exact Nat.succ_le_succ hl2), Nat.le_succ_of_le hl3, Nat.le_succ_of_le hl4, Nat.le_succ_of_le hl5, cnt_up hcn⟩, Nat.le_refl _, HK, fpS hwh, fun y hy => (List.mem_append.1 hy).imp id (fun h => by obtain rfl := List.mem_singleton.1 h; exact hca)⟩
  have hs60 := h7
  refine C.condF f56 rfl ?_
  obtain ⟨-, -, -, -, BT, RT, RS, RU, MO, MF, -, -, -, -, -, PS, PF, -⟩ := T.kept0 HK
  replace HK : Kept (m.fp g) w w7 := HK.mono0
  replace BT : Blk w7 g 53 #[.bool t.clean, .int .i64 t.gr.kind, .bool t.gr.dup, .bool t.gr.retain, .int .i64 t.gr.qos, .int .i64 t.gr.id, .string t.gr.topic, .slice m.gs.pa t.gr.pay.length m.gs.pc, .int .i64 t.gr.level, .string t.gr.client, .bool t.gr.clean, .int .i64 t.gr.keep, .bool t.gr.hasWill, .string t.gr.wt, .slice m.gs.wa t.gr.wp.length m.gs.wc, .int .i64 t.gr.wq, .bool t.gr.wr, .bool t.gr.hasUser, .bool t.gr.hasPass, .string t.gr.user, .slice m.gs.sa t.gr.pass.length m.gs.sc, .bool t.gr.present, .int .i64 t.gr.code, .slice m.gs.ua t.gr.subs.length m.gs.uc, .slice m.gs.ca t.gr.codes.length m.gs.cc, .bool t.greeted, .slice m.At m.told.length m.ct, .bool t.left, .slice m.Au m.subs.length m.cu, .slice m.An m.uns.length m.cn, .map (some m.mo), .map (some m.mf)] := BT
  have hd18 : Kept [] w7 (w7.drewN 1) := (Kept.refl _ _).drewN 1
  refine R.beginT (S := fun _ => True) (by kernel_rfl) (by kernel_rfl) trivial fun ht => ?_
  obtain ⟨w8, hww8⟩ : ∃ W, W = w7.drewN 1 := ⟨_, rfl⟩
  rw [← hww8] at hd18 ⊢
  clear f55 hww8
  have szw8 := hd18.size
  replace Bg0 := Bg0.kept hd18 (by simp)
  replace P2 := P2.kept0 hd18
  replace Bg5 := Bg5.kept hd18 (by simp)
  replace HK := HK.trans hd18 (by simp)
  replace BT := BT.kept hd18 (by simp)
  replace RT := Own.kept RT hd18 (by simp)
  replace RS := Own.kept RS hd18 (by simp)
  replace RU := Own.kept RU hd18 (by simp)
  replace MO := IsAss.kept MO hd18 (by simp)
  replace MF := IsAss.kept MF hd18 (by simp)
  replace PS := PS.keptT hd18 (NoPk.nil _)
  replace PF := PF.keptT hd18 (NoPk.nil _)
  clear hd18
  refine R.u 0 f56 rfl ht trivial (fun W hW => (E.move f56 rfl)) fun a57 f57 => ?_
  refine R.u 1 f57 rfl ht trivial (fun W hW => (E.move f57 rfl)) fun a58 f58 => ?_
  refine R.u 2 f58 rfl ht trivial (fun W hW => (E.nilCheck f58 rfl)) fun a59 f59 => ?_
  refine R.u 3 f59 rfl ht trivial (fun W hW => (E.fa 29 f59 Try.underlying53 rfl wsz51_to)) fun a60 f60 => ?_
  refine R.u 5 f60 rfl ht trivial (fun W hW => (E.fa 0 f60 Try.underlying69 rfl wsz34_to)) fun a61 f61 => ?_
  clear f56 a54 f57 a57 f58 a58 f59 a59 f60 a60
  refine Gp.enter (G := [4, 6, 7]) (L0 := #[true, true, true, true, false, true, false, false, false, false, false, false]) (L1 := #[true, true, true, true, true, true, true, true, false, false, false, false]) (fuel := 4) (fun mS a W => ∃ v76 v78 v79 : Value, Fr 104 a [(0, .pointer (some ⟨g, 0, none⟩)), (7, .pointer (some ⟨g5, 0, none⟩)), (72, .pointer (some ⟨g, 0, none⟩)), (75, .pointer (some ⟨g, 0 + 29, none⟩)), (77, .pointer (some ⟨g5, 0 + 0, none⟩)), (76, v76), (78, v78), (79, v79)] ∧ (Blk W g0 34 (p.cells tt)) ∧ (PkO W p t2) ∧ (Blk W g5 69 (p.cells t2)) ∧ (Kept (m.fp g) w W) ∧ (Blk W g 53 #[.bool t.clean, .int .i64 t.gr.kind, .bool t.gr.dup, .bool t.gr.retain, .int .i64 t.gr.qos, .int .i64 t.gr.id, .string t.gr.topic, .slice m.gs.pa t.gr.pay.length m.gs.pc, .int .i64 t.gr.level, .string t.gr.client, .bool t.gr.clean, .int .i64 t.gr.keep, .bool t.gr.hasWill, .string t.gr.wt, .slice m.gs.wa t.gr.wp.length m.gs.wc, .int .i64 t.gr.wq, .bool t.gr.wr, .bool t.gr.hasUser, .bool t.gr.hasPass, .string t.gr.user, .slice m.gs.sa t.gr.pass.length m.gs.sc, .bool t.gr.present, .int .i64 t.gr.code, .slice m.gs.ua t.gr.subs.length m.gs.uc, .slice m.gs.ca t.gr.codes.length m.gs.cc, .bool t.greeted, .slice m.At m.told.length m.ct, .bool t.left, .slice m.Au m.subs.length m.cu, .slice m.An m.uns.length m.cn, .map (some m.mo), .map (some m.mf)]) ∧ (Row W m.At m.ct m.told) ∧ (Row W m.Au m.cu m.subs) ∧ (Row W m.An m.cn m.uns) ∧ (IsAss ansM Try.prog W m.mo t.owed) ∧ (IsAss outM Try.prog W m.mf m.out) ∧ (PksO W m.subs) ∧ (FlsO W m.out) ∧ (mS.testBit 4 = true → PhiV (.slice m.An m.uns.length m.cn) v76 W) ∧ (mS.testBit 6 = true → PhiV (.agg (p.cells t2)) v78 W) ∧ (mS.testBit 7 = true → PhiN 34 1 (p.cells t2) v79 W)) (by kernel_rfl) (by kernel_rfl) ?_ ?_ ?_
  ·obtain ⟨v76, f62⟩ := f61.any 76 (by decide)
   obtain ⟨v78, f63⟩ := f62.any 78 (by decide)
   obtain ⟨v79, f64⟩ := f63.any 79 (by decide)
   exact ⟨v76, v78, v79, f64.sub (sub_cons rfl (sub_cons rfl (sub_cons rfl (sub_cons rfl (sub_cons rfl (sub_cons rfl (sub_cons rfl (sub_cons rfl sn)))))))), Bg0, P2, Bg5, HK, BT, RT, RS, RU, MO, MF, PS, PF, fun q => absurd q (by simp), fun q => absurd q (by simp), fun q => absurd q (by simp)⟩
  ·intro mS i_ a62 w9 hm hcl hi hG hI
   obtain ⟨v76, v78, v79, f62, Bg0, P2, Bg5, HK, BT, RT, RS, RU, MO, MF, PS, PF, P4, P6, P7⟩ := hI
   simp only [List.mem_cons, List.not_mem_nil, or_false] at hG
   rcases hG with rfl | rfl | rfl
   ·skip
    refine O.val f62 rfl rfl (by decide) wantedN (by exact E.ld f62 Try.underlying51 (BT)) trivial fun a63 f63 => ?_
    exact ⟨_, _, _, f63.sub (sub_cons rfl (sub_cons rfl (sub_cons rfl (sub_cons rfl (sub_cons rfl (sub_cons rfl (sub_cons rfl (sub_cons rfl sn)))))))), Bg0, P2, Bg5, HK, BT, RT, RS, RU, MO, MF, PS, PF, fun _ => rfl, fun q => P6 (by rwa [Gp.other (by decide)] at q), fun q => P7 (by rwa [Gp.other (by decide)] at q)⟩
   ·skip
    refine O.val f62 rfl rfl (by decide) wantedN (by exact E.loadB f62 Try.underlying34 rfl wsz34_to rfl (Bg5) rfl) trivial fun a63 f63 => ?_
    exact ⟨_, _, _, f63.sub (sub_cons rfl (sub_cons rfl (sub_cons rfl (sub_cons rfl (sub_cons rfl (sub_cons rfl (sub_cons rfl (sub_cons rfl sn)))))))), Bg0, P2, Bg5, HK, BT, RT, RS, RU, MO, MF, PS, PF, fun q => P4 (by rwa [Gp.other (by decide)] at q), fun _ => rfl, fun q => P7 (by rwa [Gp.other (by decide)] at q)⟩
   skip
   have D6 := P6 (Gp.need (j := 6) (by kernel_rfl) hm hcl hi)
   obtain rfl := D6
   refine O.buildSlice f62 rfl wantedN (by decide) (parts1 f62 rfl) Try.underlying51 wzi34_to rfl rfl (wbs51_1_to _ _ _ _ _ _ _ _ _ _ _ _ _ _ _ _ _ _ _ _ _ _ _ _) (fun _ _ => trivial) fun a63 w10 g9 N9 hSn f63 => ?_
   clear hSn
   have Bg9 := N9.blk
   have kg9 := N9.kept
   have log9 := N9.lo
   have ltg9 := Bg9.lt
   have szw10 := kg9.size
   have frg9 : w.heap.size ≤ g9 := Nat.le_trans HK.size log9
   have neg0_g9 : g0 ≠ g9 := by have := Bg0.lt; omega
   have neg5_g9 : g5 ≠ g9 := by have := Bg5.lt; omega
   have neg_g9 : g ≠ g9 := by have := BT.lt; omega
   replace Bg0 := Bg0.kept kg9 (by simp)
   replace P2 := P2.kept0 kg9
   replace Bg5 := Bg5.kept kg9 (by simp)
   replace HK := HK.trans kg9 (by simp)
   replace BT := BT.kept kg9 (by simp)
   replace RT := Own.kept RT kg9 (by simp)
   replace RS := Own.kept RS kg9 (by simp)
   replace RU := Own.kept RU kg9 (by simp)
   replace MO := IsAss.kept MO kg9 (by simp)
   replace MF := IsAss.kept MF kg9 (by simp)
   replace PS := PS.keptT kg9 (NoPk.nil _)
   replace PF := PF.keptT kg9 (NoPk.nil _)
   replace P4 := fun q => (P4 q).kept kg9
   replace P6 := fun q => (P6 q).kept kg9
   replace P7 := fun q => (P7 q).kept kg9
   clear N9 kg9
   exact ⟨_, _, _, f63.sub (sub_cons rfl (sub_cons rfl (sub_cons rfl (sub_cons rfl (sub_cons rfl (sub_cons rfl (sub_cons rfl (sub_cons rfl sn)))))))), Bg0, P2, Bg5, HK, BT, RT, RS, RU, MO, MF, PS, PF, fun q => P4 (by rwa [Gp.other (by decide)] at q), fun q => P6 (by rwa [Gp.other (by decide)] at q), fun _ => ⟨g9, rfl, Bg9⟩⟩
  intro mS a62 w9 hm hI
  obtain ⟨v76, v78, v79, f62, Bg0, P2, Bg5, HK, BT, RT, RS, RU, MO, MF, PS, PF, P4, P6, P7⟩ := hI
  have D4 := P4 (hm 4 (by decide))
  obtain rfl := D4
  have D7 := P7 (hm 7 (by decide))
  obtain ⟨gb, rfl, Bgb⟩ := D7
  clear P4 P6 P7
  refine R.one 8 (by kernel_rfl) ?_
  refine O.append f62 rfl wantedN (by decide) Try.underlying51 wzib34_to rfl rfl rfl rfl RU (Sl1 p t2 Bgb) (Pk.one1 p t2) (by unfold maxLen; omega) (by omega) fun a63 w10 A10 c10 AP => ?_
  have szw10 := AP.kept.size
  have hwh : ∀ b, A10.map (·.block) = some b → m.An.map (·.block) = some b ∨ w.heap.size ≤ b := fun b hb => (AP.where_ b hb).imp id (fun h => Nat.le_trans HK.size h)
  skip
  have HKn := HK.trans AP.kept (fun x hx _ => fp_ownRU (by simpa using hx))
  have BTn := BT.kept AP.kept (own_ne RU BT (by decide))
  have RTn := Own.kept RT AP.kept (own_apart (Apart.symm tn))
  have RSn := Own.kept RS AP.kept (own_apart (Apart.symm un))
  have RUn := (show Row w10 A10 c10 (m.uns ++ [(p, t2)]) by unfold Row; rw [pkRow_app, pkRow_one, List.length_append]; exact AP.own)
  have MOn := IsAss.kept MO AP.kept (own_ne_map MO RU)
  have MFn := IsAss.kept MF AP.kept (own_ne_map MF RU)
  have PSn := PS.keptT AP.kept (NoPk.own RU)
  have PFn := PF.keptT AP.kept (NoPk.own RU)
  have P2n := P2.keptT AP.kept (NoPk.own RU)
  refine ⟨trivial, fun f63 => ?_⟩
  clear f62 HK BT RT RS RU MO MF PS PF P2 AP Bgb
  have HK := HKn
  have BT := BTn
  have RT := RTn
  have RS := RSn
  have RU := RUn
  have MO := MOn
  have MF := MFn
  have PS := PSn
  have PF := PFn
  have P2 := P2n
  clear HKn BTn RTn RSn RUn MOn MFn PSn PFn P2n
  refine R.u 9 f63 rfl ht trivial (fun W hW => (E.nilCheck f63 rfl)) fun a64 f64 => ?_
  refine R.u 10 f64 rfl ht trivial (fun W hW => (E.fa 29 f64 Try.underlying53 rfl wsz51_to)) fun a65 f65 => ?_
  refine R.one 11 (by kernel_rfl) ?_
  refine OT.store f65 rfl wantedN wsz51_to rfl rfl rfl BT (by (simp [Value.cells]; done)) fun a66 w11 f66 NB11 ks11 => ?_
  have szw11 := ks11.size
  replace P2 := P2.keptT ks11 (NoPk.blk BT (by decide))
  replace HK := HK.trans ks11 (fun x hx hlt => by obtain rfl := List.mem_singleton.1 hx; exact fp_g)
  replace RT := own_kept1 RT ks11 BT (by decide)
  replace RS := own_kept1 RS ks11 BT (by decide)
  replace RU := own_kept1 RU ks11 BT (by decide)
  replace MO := IsAss.kept MO ks11 (by simpa using IsAss.ne_blk MO BT)
  replace MF := IsAss.kept MF ks11 (by simpa using IsAss.ne_blk MF BT)
  replace PS := PS.keptT ks11 (NoPk.blk BT (by decide))
  replace PF := PF.keptT ks11 (NoPk.blk BT (by decide))
  replace BT := NB11
  simp only [Value.cells, z1, z2, z3, Nat.reduceAdd, Nat.zero_add] at BT
  clear f63 a63 f64 a64 ks11 f65 a65
  refine R.done (by kernel_rfl) (C.end0 (P := Try.prog) (fn := Try.f12) f66 rfl ?_)
  rw [in_10 (in_hg hs13 hs22) (any69 hs56) hs60]
  exact ⟨rfl, { m with uns := m.uns ++ [(p, t2)], An := A10, cn := c10, n := m.n + 1 }, ⟨e1, e2, (by rw [e3, List.map_append]; rfl), e4, (by have e : (m.uns ++ [(p, t2)]).length = m.uns.length + 1 := List.length_append; rw [← e] at BT; exact BT), RT, RS, RU, MO, MF, nof, tu, (Apart.symm (apart_new (Apart.symm tn) hwh hT0)), (Apart.symm (apart_new (Apart.symm un) hwh hS0)), fp_lo hlo hgl (fpU hwh), PS, PF, Nat.le_succ_of_le hl1, Nat.le_succ_of_le hl2, (by rw [List.length_append]; exact Nat.succ_le_succ hl3), Nat.le_succ_of_le hl4, Nat.le_succ_of_le hl5, cnt_up hcn⟩, Nat.le_refl _, HK, fpU hwh, fun x hx => .inl hx⟩
 have hs56 := h6
 refine C.condF f48 rfl ?_
 refine C.sk fun K15 hK15 => ?_
 refine L.va f48 (E.taA f48 70 (by decide) rfl) fun a49 f49 => ?_
 refine L.va f49 (E.extract f49 rfl rfl) fun a50 f50 => ?_
 refine L.va f50 (E.extract f50 rfl rfl) fun a51 f51 => ?_
 refine wpList_nil (hK15 _ _ ?_)
 have f52 := f51.sub (sc 0 (sc 3 (sc 84 (sc 85 sn))))
 clear f47 f48 a46 f49 a49 f50 a50 f51
 refine f52.splitD 84 rfl (fun h8 f53 => ?_) (fun h8 f53 => ?_)
 ·have hs84 := h8
  refine C.condT f53 rfl ?_
  refine wp_seq_k fun K16 hK16 => ?_
  rw [if_pos hs84] at f53
  refine C.region ?_
  refine L.alloc f53 wantedN (by decide) (z := (.agg #[(.int .i64 0), (.bool false), (.bool false), (.int .i64 0), (.int .i64 0), (.string ⟨#[]⟩), (.slice none 0 0), (.int .i64 0), (.string ⟨#[]⟩), (.bool false), (.int .i64 0), (.bool false), (.string ⟨#[]⟩), (.slice none 0 0), (.int .i64 0), (.bool false), (.bool false), (.bool false), (.string ⟨#[]⟩), (.slice none 0 0), (.bool false), (.int .i64 0), (.slice none 0 0), (.slice none 0 0)])) (fun _ => by kernel_rfl) rfl fun a54 w6 g5 N5 f54 => ?_
  have Bg5 := N5.blk
  have kg5 := N5.kept
  have log5 := N5.lo
  have ltg5 := Bg5.lt
  have szw6 := kg5.size
  have frg5 : w.heap.size ≤ g5 := Nat.le_trans HK.size log5
  have neg0_g5 : g0 ≠ g5 := by have := Bg0.lt; omega
  replace HK := HK.trans kg5 (by simp)
  replace Bg0 := Bg0.kept kg5 (by simp)
  replace P2 := P2.kept0 kg5
  clear f52 N5 kg5
  refine L.storeR f54 wantedN wsz70_to rfl rfl rfl Bg5 rfl rfl fun a55 w7 f55 NB7 ks7 => ?_
  have szw7 := ks7.size
  replace HK := HK.trans ks7 (ktr (by omega))
  replace Bg0 := Bg0.kept ks7 (by simp; omega)
  replace P2 := P2.keptT ks7 (NoPk.blk Bg5 (by decide))
  replace Bg5 := NB7
  clear f53 a51 ks7 f54 a54
  refine wpList_nil (hK16 _ _ ?_)
  have f56 := f55.sub (sc 0 (sc 3 sn))
  refine wp_seq_k fun K17 hK17 => ?_
  replace Bg5 : Blk w7 g5 70 (p.cells t2) := Bg5
  obtain ⟨-, -, -, -, BT, RT, RS, RU, MO, MF, -, -, -, -, -, PS, PF, -⟩ := T.kept0 HK
  replace HK : Kept (m.fp g) w w7 := HK.mono0
  replace BT : Blk w7 g 53 #[.bool t.clean, .int .i64 t.gr.kind, .bool t.gr.dup, .bool t.gr.retain, .int .i64 t.gr.qos, .int .i64 t.gr.id, .string t.gr.topic, .slice m.gs.pa t.gr.pay.length m.gs.pc, .int .i64 t.gr.level, .string t.gr.client, .bool t.gr.clean, .int .i64 t.gr.keep, .bool t.gr.hasWill, .string t.gr.wt, .slice m.gs.wa t.gr.wp.length m.gs.wc, .int .i64 t.gr.wq, .bool t.gr.wr, .bool t.gr.hasUser, .bool t.gr.hasPass, .string t.gr.user, .slice m.gs.sa t.gr.pass.length m.gs.sc, .bool t.gr.present, .int .i64 t.gr.code, .slice m.gs.ua t.gr.subs.length m.gs.uc, .slice m.gs.ca t.gr.codes.length m.gs.cc, .bool t.greeted, .slice m.At m.told.length m.ct, .bool t.left, .slice m.Au m.subs.length m.cu, .slice m.An m.uns.length m.cn, .map (some m.mo), .map (some m.mf)] := BT
  refine C.region ?_
  refine L.mv f56 fun a57 f57 => ?_
  refine L.va f57 (E.fa 0 f57 Try.underlying34 rfl wsz3_to) fun a58 f58 => ?_
  refine L.va f58 (by exact E.ld f58 Try.underlying3 (Bg0)) fun a59 f59 => ?_
  refine L.va f59 (E.eq f59) fun a60 f60 => ?_
  refine L.va f60 (E.nilCheck f60 rfl) fun a61 f61 => ?_
  refine L.va f61 (E.fa 27 f61 Try.underlying53 rfl wsz4_to) fun a62 f62 => ?_
  refine L.store f62 wantedN wsz4_to rfl rfl rfl BT (by (simp [Value.cells]; done)) fun a63 w8 f63 NB8 ks8 => ?_
  have szw8 := ks8.size
  replace Bg0 := Bg0.kept ks8 (by simp; omega)
  replace P2 := P2.keptT ks8 (NoPk.blk BT (by decide))
  replace Bg5 := Bg5.kept ks8 (by simp; omega)
  replace HK := HK.trans ks8 (fun x hx hlt => by obtain rfl := List.mem_singleton.1 hx; exact fp_g)
  replace RT := own_kept1 RT ks8 BT (by decide)
  replace RS := own_kept1 RS ks8 BT (by decide)
  replace RU := own_kept1 RU ks8 BT (by decide)
  replace MO := IsAss.kept MO ks8 (by simpa using IsAss.ne_blk MO BT)
  replace MF := IsAss.kept MF ks8 (by simpa using IsAss.ne_blk MF BT)
  replace PS := PS.keptT ks8 (NoPk.blk BT (by decide))
  replace PF := PF.keptT ks8 (NoPk.blk BT (by decide))
  replace BT := NB8
  simp only [Value.cells, z1, z2, z3, Nat.reduceAdd, Nat.zero_add] at BT
  clear f55 f56 a55 f57 a57 f58 a58 f59 a59 f60 a60 f61 a61 ks8 f62 a62
  refine wpList_nil (hK17 _ _ ?_)
  have f64 := f63.sub (sc 0 (sc 3 sn))
  refine C.sk fun K18 hK18 => ?_
  refine L.va f64 (E.fa 0 f64 Try.underlying34 rfl wsz3_to) fun a65 f65 => ?_
  refine L.va f65 (by exact E.ld f65 Try.underlying3 (Bg0)) fun a66 f66 => ?_
  refine L.va f66 (E.eq f66) fun a67 f67 => ?_
  refine wpList_nil (hK18 _ _ ?_)
  have f68 := f67.sub (sc 0 (sc 94 sn))
  clear f63 f64 a63 f65 a65 f66 a66 f67
  refine f68.splitD 94 rfl (fun h9 f69 => ?_) (fun h9 f69 => ?_)
  ·have hs94 := h9
   refine C.condT f69 rfl ?_
   have hd : ansM.dom ((13 : Int), (0 : Int)) := ⟨(by decide : (Lit.int .i64 13).wf = true), (by decide : (Lit.int .i64 0).wf = true)⟩
   have hc := cnt_ok hcn ((13 : Int), (0 : Int))
   have ME := AnsE.of MO ((13 : Int), (0 : Int))
   have hd23 : Kept [] w8 (w8.drewN 1) := (Kept.refl _ _).drewN 1
   refine RB.begin (S := fun W => (Blk W g0 34 (p.cells tt)) ∧ (PkO W p t2) ∧ (Blk W g5 70 (p.cells t2)) ∧ (Kept (m.fp g) w W) ∧ (Row W m.At m.ct m.told) ∧ (Row W m.Au m.cu m.subs) ∧ (Row W m.An m.cn m.uns) ∧ (IsAss outM Try.prog W m.mf m.out) ∧ (PksO W m.subs) ∧ (FlsO W m.out) ∧ (Blk W g 53 #[.bool t.clean, .int .i64 t.gr.kind, .bool t.gr.dup, .bool t.gr.retain, .int .i64 t.gr.qos, .int .i64 t.gr.id, .string t.gr.topic, .slice m.gs.pa t.gr.pay.length m.gs.pc, .int .i64 t.gr.level, .string t.gr.client, .bool t.gr.clean, .int .i64 t.gr.keep, .bool t.gr.hasWill, .string t.gr.wt, .slice m.gs.wa t.gr.wp.length m.gs.wc, .int .i64 t.gr.wq, .bool t.gr.wr, .bool t.gr.hasUser, .bool t.gr.hasPass, .string t.gr.user, .slice m.gs.sa t.gr.pass.length m.gs.sc, .bool t.gr.present, .int .i64 t.gr.code, .slice m.gs.ua t.gr.subs.length m.gs.uc, .slice m.gs.ca t.gr.codes.length m.gs.cc, .bool t.greeted, .slice m.At m.told.length m.ct, .bool (decide (p.kind = 14)), .slice m.Au m.subs.length m.cu, .slice m.An m.uns.length m.cn, .map (some m.mo), .map (some m.mf)]) ∧ (AnsE W m.mo t.owed ((13 : Int), (0 : Int)))) 9 (by kernel_rfl) ⟨Bg0.kept hd23 (by simp), P2.kept0 hd23, Bg5.kept hd23 (by simp), HK.trans hd23 (by simp), Own.kept RT hd23 (by simp), Own.kept RS hd23 (by simp), Own.kept RU hd23 (by simp), IsAss.kept MF hd23 (by simp), PS.keptT hd23 (NoPk.nil _), PF.keptT hd23 (NoPk.nil _), BT.kept hd23 (by simp), ME.kept hd23 (by simp)⟩ ?_
   obtain ⟨w9, hww9⟩ : ∃ W, W = w8.drewN 1 := ⟨_, rfl⟩
   rw [← hww9] at hd23 ⊢
   clear f68 hww9
   have szw9 := hd23.size
   replace Bg0 := Bg0.kept hd23 (by simp)
   replace P2 := P2.kept0 hd23
   replace Bg5 := Bg5.kept hd23 (by simp)
   replace HK := HK.trans hd23 (by simp)
   replace RT := Own.kept RT hd23 (by simp)
   replace RS := Own.kept RS hd23 (by simp)
   replace RU := Own.kept RU hd23 (by simp)
   replace MF := IsAss.kept MF hd23 (by simp)
   replace PS := PS.keptT hd23 (NoPk.nil _)
   replace PF := PF.keptT hd23 (NoPk.nil _)
   replace BT := BT.kept hd23 (by simp)
   replace ME := ME.kept hd23 (by simp)
   clear hd23
   refine RB.take 0 f69 rfl rfl (by decide) (by kernel_rfl) (by kernel_rfl) (by kernel_rfl) (by kernel_rfl) (fun _ _ _ _ h => h) wantedN ⟨Bg0, P2, Bg5, HK, RT, RS, RU, MF, PS, PF, BT, ME⟩ (fun W hW => (E.move f69 rfl)) fun a70 f70 => ?_
   refine RB.take 1 f70 rfl rfl (by decide) (by kernel_rfl) (by kernel_rfl) (by kernel_rfl) (by kernel_rfl) (fun _ _ _ _ h => h) wantedN ⟨Bg0, P2, Bg5, HK, RT, RS, RU, MF, PS, PF, BT, ME⟩ (fun W hW => (E.nilCheck f70 rfl)) fun a71 f71 => ?_
   refine RB.take 2 f71 rfl rfl (by decide) (by kernel_rfl) (by kernel_rfl) (by kernel_rfl) (by kernel_rfl) (fun _ _ _ _ h => h) wantedN ⟨Bg0, P2, Bg5, HK, RT, RS, RU, MF, PS, PF, BT, ME⟩ (fun W hW => (E.fa 30 f71 Try.underlying53 rfl wsz49_to)) fun a72 f72 => ?_
   refine RB.take 3 f72 rfl rfl (by decide) (by kernel_rfl) (by kernel_rfl) (by kernel_rfl) (by kernel_rfl) (fun _ _ _ _ h => h) wantedN ⟨Bg0, P2, Bg5, HK, RT, RS, RU, MF, PS, PF, BT, ME⟩ (fun W hW => (by exact E.ld f72 Try.underlying49 (hW.2.2.2.2.2.2.2.2.2.2.1))) fun a73 f73 => ?_
   refine RB.take 4 f73 rfl rfl (by decide) (by kernel_rfl) (by kernel_rfl) (by kernel_rfl) (by kernel_rfl) (fun _ _ _ _ h => h) wantedN ⟨Bg0, P2, Bg5, HK, RT, RS, RU, MF, PS, PF, BT, ME⟩ (fun W hW => (E.build f73 (parts2 f73 rfl rfl) (wbl72_0_1_to _ _))) fun a74 f74 => ?_
   refine RB.take 5 f74 rfl rfl (by decide) (by kernel_rfl) (by kernel_rfl) (by kernel_rfl) (by kernel_rfl) (fun _ _ _ _ h => h) wantedN ⟨Bg0, P2, Bg5, HK, RT, RS, RU, MF, PS, PF, BT, ME⟩ (fun W hW => (E.lookO f74 hW.2.2.2.2.2.2.2.2.2.2.2 ((13 : Int), (0 : Int)) hd rfl rfl)) fun a75 f75 => ?_
   refine RB.take 6 f75 rfl rfl (by decide) (by kernel_rfl) (by kernel_rfl) (by kernel_rfl) (by kernel_rfl) (fun _ _ _ _ h => h) wantedN ⟨Bg0, P2, Bg5, HK, RT, RS, RU, MF, PS, PF, BT, ME⟩ (fun W hW => (E.add f75 rfl rfl (IntWalk.i64_in _ (by omega)))) fun a76 f76 => ?_
   clear f69 a67 f70 a70 f71 a71 f72 a72 f73 a73 f74 a74 f75 a75
   refine RB.one 7 (by kernel_rfl) (by kernel_rfl) ?_
   refine O.mapEntryO f76 rfl wantedN (by decide) ME hd rfl rfl (by unfold maxLen; omega) (fun w' ma ks => ⟨Bg0.kept ks (by simpa using Ne.symm (AnsE.ne_blk ME Bg0)), P2.keptT ks (NoPk.ans ME), Bg5.kept ks (by simpa using Ne.symm (AnsE.ne_blk ME Bg5)), HK.trans ks (fun x hx hlt => by obtain rfl := List.mem_singleton.1 hx; exact fp_o), own_keptE RT ks ME, own_keptE RS ks ME, own_keptE RU ks ME, IsAss.kept MF ks (by simpa using (Ne.symm nof)), PS.keptT ks (NoPk.ans ME), PF.keptT ks (NoPk.ans ME), BT.kept ks (by simpa using Ne.symm (AnsE.ne_blk ME BT)), ma⟩) fun a77 w10 v0 stp ma EN ks f77 => ?_
   have szw10 := ks.size
   have Bg0n := Bg0.kept ks (by simpa using Ne.symm (AnsE.ne_blk ME Bg0))
   have P2n := P2.keptT ks (NoPk.ans ME)
   have Bg5n := Bg5.kept ks (by simpa using Ne.symm (AnsE.ne_blk ME Bg5))
   have HKn := HK.trans ks (fun x hx hlt => by obtain rfl := List.mem_singleton.1 hx; exact fp_o)
   have RTn := own_keptE RT ks ME
   have RSn := own_keptE RS ks ME
   have RUn := own_keptE RU ks ME
   have MFn := IsAss.kept MF ks (by simpa using (Ne.symm nof))
   have PSn := PS.keptT ks (NoPk.ans ME)
   have PFn := PF.keptT ks (NoPk.ans ME)
   have BTn := BT.kept ks (by simpa using Ne.symm (AnsE.ne_blk ME BT))
   have MEn := ma
   clear f76 a76 Bg0 P2 Bg5 HK RT RS RU MF PS PF BT ME ks ma
   have Bg0 := Bg0n
   have P2 := P2n
   have Bg5 := Bg5n
   have HK := HKn
   have RT := RTn
   have RS := RSn
   have RU := RUn
   have MF := MFn
   have PS := PSn
   have PF := PFn
   have BT := BTn
   have ME := MEn
   clear Bg0n P2n Bg5n HKn RTn RSn RUn MFn PSn PFn BTn MEn
   refine RB.take 8 f77 rfl rfl (by decide) (by kernel_rfl) (by kernel_rfl) (by kernel_rfl) (by kernel_rfl) (fun _ _ _ _ h => h) wantedN ⟨Bg0, P2, Bg5, HK, RT, RS, RU, MF, PS, PF, BT, ME⟩ (fun W hW => (E.extract f77 rfl rfl)) fun a78 f78 => ?_
   refine RB.stop (by kernel_rfl) ?_
   refine R.one 9 (by kernel_rfl) ?_
   refine O.entryStoreA f78 rfl wantedN EN ((lk t.owed ((13 : Int), (0 : Int))).getD 0 + 1) rfl rfl rfl (fun _ _ _ => trivial) fun a79 w11 MN ks f79 => ?_
   have szw11 := ks.size
   have Bg0n := Bg0.kept ks (by simpa using Ne.symm (AnsE.ne_blk ME Bg0))
   have P2n := P2.keptT ks (NoPk.ans ME)
   have Bg5n := Bg5.kept ks (by simpa using Ne.symm (AnsE.ne_blk ME Bg5))
   have HKn := HK.trans ks (fun x hx hlt => by obtain rfl := List.mem_singleton.1 hx; exact fp_o)
   have RTn := own_keptE RT ks ME
   have RSn := own_keptE RS ks ME
   have RUn := own_keptE RU ks ME
   have MFn := IsAss.kept MF ks (by simpa using (Ne.symm nof))
   have PSn := PS.keptT ks (NoPk.ans ME)
   have PFn := PF.keptT ks (NoPk.ans ME)
   have BTn := BT.kept ks (by simpa using Ne.symm (AnsE.ne_blk ME BT))
   clear f77 a77
   skip
   clear f78 a78 ks EN ME Bg0 P2 Bg5 HK RT RS RU MF PS PF BT
   have Bg0 := Bg0n
   have P2 := P2n
   have Bg5 := Bg5n
   have HK := HKn
   have RT := RTn
   have RS := RSn
   have RU := RUn
   have MF := MFn
   have PS := PSn
   have PF := PFn
   have BT := BTn
   clear Bg0n P2n Bg5n HKn RTn RSn RUn MFn PSn PFn BTn
   have MO := MN
   clear MN
   refine R.done (by kernel_rfl) (C.end0 (P := Try.prog) (fn := Try.f12) f79 rfl ?_)
   rw [in_12 (in_hg hs13 hs22) hs94]
   exact ⟨rfl, { m with n := m.n + 1 }, ⟨e1, e2, e3, e4, (by rw [decide_eq_false (by omega)] at BT; exact BT), RT, RS, RU, MO, MF, nof, tu, tn, un, hlo, PS, PF, Nat.le_succ_of_le hl1, Nat.le_succ_of_le hl2, Nat.le_succ_of_le hl3, strike_le hl4 _ _, Nat.le_succ_of_le hl5, cnt_put hcn ((13 : Int), (0 : Int)) (by omega)⟩, Nat.le_refl _, HK, fun x hx => .inl hx, fun x hx => .inl hx⟩
  have hs94 := h9
  refine C.condF f69 rfl ?_
  refine wp_skip (C.end0 (P := Try.prog) (fn := Try.f12) f69 rfl ?_)
  rw [in_sig (in_hg hs13 hs22) (any70 hs84) hs94]
  exact ⟨rfl, m, ⟨e1, e2, e3, e4, BT, RT, RS, RU, MO, MF, nof, tu, tn, un, hlo, PS, PF, hl1, hl2, hl3, hl4, hl5, hcn⟩, by omega, HK, fun x hx => .inl hx, fun x hx => .inl hx⟩
 have hs84 := h8
 refine C.condF f53 rfl ?_
 refine wp_skip (C.end0 (P := Try.prog) (fn := Try.f12) f53 rfl ?_)
 exact ⟨rfl, m, by rw [in_n (in_hg hs13 hs22) (anyN hs28 hs42 hs49 hs56 hs84)]; exact T.kept0 HK, by omega, HK.mono0, fun x hx => .inl hx, fun x hx => .inl hx⟩
end Go.Proofs.Ytkdeedhjkjffpaa
namespace Go.Proofs.Ytkdeedhjkjffpaa
open Go.RowKit Go.Hub Go.Lib Go.WideShapes Go.ChangeMaps
theorem wbl53_0_7_8_tp (x0 : Bool) (x1 : Option Nat) (x2 : Option Nat) : Try.prog.built 53 [(0, .bool x0), (7, .map x1), (8, .map x2)] = some #[.bool x0, (.int .i64 0), (.bool false), (.bool false), (.int .i64 0), (.int .i64 0), (.string ⟨#[]⟩), (.slice none 0 0), (.int .i64 0), (.string ⟨#[]⟩), (.bool false), (.int .i64 0), (.bool false), (.string ⟨#[]⟩), (.slice none 0 0), (.int .i64 0), (.bool false), (.bool false), (.bool false), (.string ⟨#[]⟩), (.slice none 0 0), (.bool false), (.int .i64 0), (.slice none 0 0), (.slice none 0 0), (.bool false), (.slice none 0 0), (.bool false), (.slice none 0 0), (.slice none 0 0), .map x1, .map x2] := by kernel_rfl
theorem wsz49_tp : (Try.prog.info? 49).map (·.size) = some 1 := by kernel_rfl
theorem wsz51_tp : (Try.prog.info? 51).map (·.size) = some 1 := by kernel_rfl
def Tr.new (c : Bool) : Tr := ⟨c, {}, false, [], false, [], [], [], []⟩
def TrM.new (mo mf : Nat) : TrM := ⟨s0, [], [], [], [], none, none, none, 0, 0, 0, mo, mf, 0⟩
def NewPost (B : Nat) (c : Bool) (w : World) (e : Ending) (w' : World) : Prop := ∃ g m, e = .returned (.pointer (some ⟨g, 0, none⟩)) ∧ TrIn B w' g (Tr.new c) m ∧ m.n = 0 ∧ Kept [] w w'
theorem new_in {B n g g1 g2 : Nat} {c : Bool} {W : World} (hB : B ≤ n) (h1 : n ≤ g1) (h2 : n ≤ g2) (h : n ≤ g) (hne : g1 ≠ g2) (b : Blk W g 53 (trCells (Tr.new c) s0 0 0 0 none none none 0 0 0 g1 g2)) (I1 : IsAss ansM Try.prog W g1 []) (I2 : IsAss outM Try.prog W g2 []) : TrIn B W g (Tr.new c) (TrM.new g1 g2) :=
  ⟨rfl, rfl, rfl, rfl, b, Own.nil _ _ _, Own.nil _ _ _, Own.nil _ _ _, I1, I2, hne, (fun b hb => by simp [TrM.new] at hb), (fun b hb => by simp [TrM.new] at hb), (fun b hb => by simp [TrM.new] at hb), fun x hx => by
    have : x = g ∨ x = g1 ∨ x = g2 := by simpa [fp, bk, TrM.new] using hx
    omega, fun x hx => absurd hx (by simp [TrM.new]), fun x hx => absurd hx (by simp [TrM.new]), by simp [TrM.new, Tr.new]⟩
section
variable {P : Program} {ops : Array Oper} {rest : List Oper} {a : Act} {w : World} {Q : Exit → Act → World → Prop} {n d : Nat} {l : FL} {ty : TypeId} {ps : String} {af : Array Edge} {gd : Option (Nat × Bool)} {t : TypeId}
theorem L.makeMapA (f : Fr n a l) (hw : Region.wanted ⟨some d, .makeMap t none, ty, ps, af, gd⟩ (yielded ops a.tmps) = true) (hn : d < n) (M : MT) [DecidableEq M.K] (P : Program)
    (hK : ∀ a' w' g, IsAss M P w' g [] → Kept [] w w' → w.heap.size ≤ g → Fr n a' ((d, .map (some g)) :: l) → wpList P ops Q rest a' w') : wpList P ops Q (⟨some d, .makeMap t none, ty, ps, af, gd⟩ :: rest) a w :=
  L.val f hw rfl hn (E.makeMap f) fun a' f' => hK a' _ _ (IsAss.made M w P) ⟨rfl, rfl, rfl, by simp, fun i hi _ => (Go.MapKept.heap_alloc w _).2 i hi⟩ (Nat.le_refl _) f'
end
theorem sum_le : ∀ {E : List ((Int × Int) × Int)} {n : Nat}, (∀ p ∈ E, 0 ≤ p.2 ∧ p.2 ≤ (n : Int)) → E.length ≤ n → n ≤ 1000000 → 0 ≤ (E.map (·.2)).sum ∧ (E.map (·.2)).sum ≤ 1000000000000 := by
  have key : ∀ (E : List ((Int × Int) × Int)) (n : Nat), n ≤ 1000000 → (∀ p ∈ E, 0 ≤ p.2 ∧ p.2 ≤ (n : Int)) → 0 ≤ (E.map (·.2)).sum ∧ (E.map (·.2)).sum ≤ 1000000 * (E.length : Int) := by
    intro E n hn
    induction E with
    | nil => intro _; simp
    | cons p r ih =>
      intro h
      have h1 := ih fun q hq => h q (List.mem_cons_of_mem _ hq)
      have h2 := h p List.mem_cons_self
      rw [List.map_cons, List.sum_cons, List.length_cons]
      omega
  intro E n h hl hn
  have := key E n hn h
  omega
theorem sum_in {E : List ((Int × Int) × Int)} {k : Int × Int} {u : Int} (hd : (E.map (·.1)).Nodup) (hm : (k, u) ∈ E) (h0 : ∀ p ∈ E, 0 ≤ p.2) : 0 ≤ u ∧ 0 ≤ ((Go.Hub.strike E k).map (·.2)).sum ∧ (E.map (·.2)).sum = u + ((Go.Hub.strike E k).map (·.2)).sum := by
  have hs : ∀ (r : List ((Int × Int) × Int)), (∀ p ∈ r, 0 ≤ p.2) → 0 ≤ (r.map (·.2)).sum := by
    intro r
    induction r with
    | nil => intro _; simp
    | cons p r ih =>
      intro h
      have h1 := ih fun q hq => h q (List.mem_cons_of_mem _ hq)
      have h2 := h p List.mem_cons_self
      rw [List.map_cons, List.sum_cons]
      omega
  refine ⟨h0 _ hm, hs _ fun p hp => h0 p (List.mem_filter.1 hp).1, ?_⟩
  clear h0
  induction E with
  | nil => cases hm
  | cons p r ih =>
    rw [List.map_cons, List.nodup_cons] at hd
    unfold Go.Hub.strike
    rw [List.filter_cons]
    by_cases e : p.1 = k
    · rw [if_neg (by simp [e])]
      have hr : Go.Hub.strike r k = r := by
        unfold Go.Hub.strike
        rw [List.filter_eq_self]
        intro q hq
        have : q.1 ≠ k := fun c => hd.1 (List.mem_map.2 ⟨q, hq, c.trans e.symm⟩)
        simpa using this
      have hpu : p = (k, u) := by
        rcases List.mem_cons.1 hm with h | h
        · exact h.symm
        exact absurd (List.mem_map.2 ⟨_, h, e.symm⟩) hd.1
      have hr2 : (r.filter fun p => !decide (p.1 = k)) = r := hr
      rw [hr2, hpu, List.map_cons, List.sum_cons]
    rw [if_pos (by simp [e])]
    have hm2 : (k, u) ∈ r := by
      rcases List.mem_cons.1 hm with h | h
      · rw [← h] at e; exact absurd rfl e
      exact h
    have := ih hd.2 hm2
    unfold Go.Hub.strike at this
    rw [List.map_cons, List.sum_cons, List.map_cons, List.sum_cons, this]
    omega
theorem hcr_strike {E : List ((Int × Int) × Int)} (h : ∀ p ∈ E, 0 ≤ p.2) (k : Int × Int) : ∀ p ∈ Go.Hub.strike E k, 0 ≤ p.2 := fun p hp => h p (List.mem_filter.1 hp).1
set_option maxHeartbeats 1000000 in
theorem new_any (B : Nat) (c : Bool) (w : World) (hB : B ≤ w.heap.size) : Calls Try.prog 7 #[.bool c] w (NewPost B c w) := by
 have HK : Kept [] w w := Kept.refl [] w
 refine C.enter Try.func7 rfl Try.ntmps7 rfl ?_
 intro a0 f0
 have f1 : Fr 8 a0 [(0, .bool c)] := f0
 refine C.sk fun K0 hK0 => ?_
 refine L.ag f1 fun a2 f2 => ?_
 refine wpList_nil (hK0 _ _ ?_)
 have f3 := f2.sub (sc 0 sn)
 refine C.sk fun K1 hK1 => ?_
 refine L.mv f3 fun a4 f4 => ?_
 refine L.makeMapA f4 wantedN (by decide) ansM Try.prog fun a5 w1 gI1 I1 ks logI1 f5 => ?_
 have szw1 := ks.size
 have frgI1 : w.heap.size ≤ gI1 := Nat.le_trans HK.size logI1
 replace HK := HK.trans ks (by simp)
 clear f0 f1 a0 f2 f3 a2 ks f4 a4
 refine L.makeMapA f5 wantedN (by decide) outM Try.prog fun a6 w2 gI2 I2 ks logI2 f6 => ?_
 have szw2 := ks.size
 have frgI2 : w.heap.size ≤ gI2 := Nat.le_trans HK.size logI2
 have neI2 : gI1 ≠ gI2 := by have := IsAss.lt I1; omega
 replace HK := HK.trans ks (by simp)
 replace I1 := IsAss.kept I1 ks (by simp)
 clear ks f5 a5
 refine L.va f6 (E.build f6 (parts3 f6 rfl rfl rfl) (wbl53_0_7_8_tp _ _ _)) fun a7 f7 => ?_
 refine L.box f7 wantedN (by decide) rfl rfl fun a8 w3 g2 N2 f8 => ?_
 have Bg2 := N2.blk
 have kg2 := N2.kept
 have log2 := N2.lo
 have ltg2 := Bg2.lt
 have szw3 := kg2.size
 have frg2 : w.heap.size ≤ g2 := Nat.le_trans HK.size log2
 replace HK := HK.trans kg2 (by simp)
 replace I1 := IsAss.kept I1 kg2 (by simp)
 replace I2 := IsAss.kept I2 kg2 (by simp)
 clear f6 a6 N2 kg2
 refine L.ag f8 fun a9 f9 => ?_
 refine wpList_nil (hK1 _ _ ?_)
 have f10 := f9.sub (sc 2 sn)
 refine wp_ret ?_
 try simp only [Exit.inBlock, Exit.then]
 refine C.ret (P := Try.prog) (fn := Try.f7) f10 rfl rfl ?_
 have ltb := Bg2.lt
 exact ⟨g2, TrM.new gI1 gI2, rfl, new_in hB frgI1 frgI2 frg2 neI2 Bg2 I1 I2, rfl, HK⟩
set_option maxHeartbeats 1000000 in
theorem owed_any (B g : Nat) (t : Tr) (m : TrM) (w : World) (T : TrIn B w g t m) (hn : m.n ≤ 1000000) : Calls Try.prog 16 #[.pointer (some ⟨g, 0, none⟩)] w (fun e w' => Kept [] w w' ∧ e = .returned (.int .i64 t.owedI)) := by
 have HK : Kept [] w w := Kept.refl [] w
 have hl1 := T.len.2.1
 have hl2 := T.len.2.2.1
 have hl3 := T.len.2.2.2.1
 have hcn := T.len.2.2.2.2.2
 have hS := sum_le hcn hl3 hn
 have hO : t.owedI ≤ 1000002000000 := by unfold Tr.owedI; rw [T.e2, T.e3, List.length_map, List.length_map]; omega
 have hcr0 : ∀ p ∈ t.owed, 0 ≤ p.2 := fun p hp => (hcn p hp).1
 refine C.enter Try.func16 rfl Try.ntmps16 rfl ?_
 intro a0 f0
 have f1 : Fr 30 a0 [(0, .pointer (some ⟨g, 0, none⟩))] := f0
 refine C.sk fun K0 hK0 => ?_
 refine L.ag f1 fun a2 f2 => ?_
 refine wpList_nil (hK0 _ _ ?_)
 have f3 := f2.sub (sc 0 sn)
 refine wp_seq_k fun K1 hK1 => ?_
 have hd1 : Kept [] w (w.drewN 1) := (Kept.refl _ _).drewN 1
 refine R.beginT (S := fun W => (Kept [] w W)) (by kernel_rfl) (by kernel_rfl) (HK.trans hd1 (by simp)) fun ht => ?_
 obtain ⟨w1, hww1⟩ : ∃ W, W = w.drewN 1 := ⟨_, rfl⟩
 rw [← hww1] at hd1 ⊢
 clear f0 f1 a0 f2 hww1
 have szw1 := hd1.size
 replace HK := HK.trans hd1 (by simp)
 clear hd1
 refine R.u 0 f3 rfl ht HK (fun W hW => (E.move f3 rfl)) fun a4 f4 => ?_
 refine R.u 1 f4 rfl ht HK (fun W hW => (E.nilCheck f4 rfl)) fun a5 f5 => ?_
 refine R.u 2 f5 rfl ht HK (fun W hW => (E.fa 28 f5 Try.underlying53 rfl wsz51_tp)) fun a6 f6 => ?_
 refine R.u 3 f6 rfl ht HK (fun W hW => (by exact E.load f6 Try.underlying51 rfl rfl ((T.kept0 hW).bt.cl rfl))) fun a7 f7 => ?_
 refine R.u 4 f7 rfl ht HK (fun W hW => (E.lenL f7 Try.underlying51 rfl)) fun a8 f8 => ?_
 refine R.u 5 f8 rfl ht HK (fun W hW => (E.move f8 rfl)) fun a9 f9 => ?_
 refine R.u 6 f9 rfl ht HK (fun W hW => (E.nilCheck f9 rfl)) fun a10 f10 => ?_
 clear f3 a2 f4 a4 f5 a5 f6 a6 f7 a7 f8 a8 f9 a9
 refine R.u 7 f10 rfl ht HK (fun W hW => (E.fa 29 f10 Try.underlying53 rfl wsz51_tp)) fun a11 f11 => ?_
 refine R.u 8 f11 rfl ht HK (fun W hW => (by exact E.load f11 Try.underlying51 rfl rfl ((T.kept0 hW).bt.cl rfl))) fun a12 f12 => ?_
 refine R.u 9 f12 rfl ht HK (fun W hW => (E.lenL f12 Try.underlying51 rfl)) fun a13 f13 => ?_
 refine R.u 10 f13 rfl ht HK (fun W hW => (E.add f13 rfl rfl (IntWalk.i64_in _ (by omega)))) fun a14 f14 => ?_
 refine R.u 11 f14 rfl ht HK (fun W hW => (E.assign f14 rfl)) fun a15 f15 => ?_
 refine R.done (by kernel_rfl) (hK1 _ _ ?_)
 have f16 := f15.sub (sc 0 (sc 3 sn))
 refine wp_seq_k fun K2 hK2 => ?_
 refine C.sk fun K3 hK3 => ?_
 refine L.mv f16 fun a17 f17 => ?_
 refine L.va f17 (E.nilCheck f17 rfl) fun a18 f18 => ?_
 clear f10 a10 f11 a11 f12 a12 f13 a13 f14 a14 f15 f16 a15 f17 a17
 refine L.va f18 (E.fa 30 f18 Try.underlying53 rfl wsz49_tp) fun a19 f19 => ?_
 refine L.va f19 (by exact E.load f19 Try.underlying49 rfl rfl ((T.kept0 HK).bt.cl rfl)) fun a20 f20 => ?_
 refine L.rangeA f20 wantedN (by decide) (T.kept0 HK).mo ansOk Try.underlying49 rfl fun a21 w2 r IN ks lor f21 => ?_
 have szw2 := ks.size
 have frr : w.heap.size ≤ r := Nat.le_trans HK.size lor
 replace HK := HK.trans ks (by simp)
 clear f18 a18 f19 a19 ks f20 a20
 refine wpList_nil (hK3 _ _ ?_)
 have f22 := f21.sub (sc 3 (sc 21 sn))
 refine wp_block ?_
 clear f21
 refine C.loop (fun gk a W => ∃ (Rm : List ((Int × Int) × Int)) (c : Nat) (acc : Int), c ≤ gk ∧ Kept [] w W ∧ InRange ansM Try.prog W m.mo r t.owed Rm c ∧ (∀ p ∈ Rm, 0 ≤ p.2) ∧ 0 ≤ acc ∧ acc + (Rm.map (·.2)).sum = t.owedI ∧ Fr 30 a [(3, .int .i64 acc), (21, .pointer (some ⟨r, 0, none⟩))]) (t.owed.length) ?_ ?_
 ·exact ⟨t.owed, t.owed.length, _, Nat.le_refl _, HK, IN, hcr0, by omega, by unfold Tr.owedI; rw [T.e2, T.e3, List.length_map, List.length_map], f22.sub (sub_cons rfl (sub_cons rfl sn))⟩
 intro gk5 a23 w3 hI KL4 hKL4
 obtain ⟨Rm, c, acc, hcg, HK, IN, hcr, ha0, hsum, f23⟩ := hI
 try clear f22
 refine C.sk fun K5 hK5 => ?_
 refine L.nextA f23 wantedN (by decide) IN ansOk ansKv rfl ?_ ?_
 ·skip
  intro hR a24 f24
  subst hR
  refine L.va f24 (E.extract f24 rfl rfl) fun a25 f25 => ?_
  refine wpList_nil (hK5 _ _ ?_)
  have f26 := f25.sub (sc 3 (sc 21 (sc 23 sn)))
  refine wp_seq_k fun K6 hK6 => ?_
  refine C.condF f26 rfl ?_
  refine wp_exit (hK2 _ _ ?_)
  have f27 := f26.sub (sc 3 sn)
  refine C.sk fun K7 hK7 => ?_
  refine L.mv f27 fun a28 f28 => ?_
  refine L.ag f28 fun a29 f29 => ?_
  refine wpList_nil (hK7 _ _ ?_)
  have f30 := f29.sub (sc 2 sn)
  refine wp_ret ?_
  try simp only [Exit.inBlock, Exit.then]
  refine C.ret (P := Try.prog) (fn := Try.f16) f30 rfl rfl ?_
  have e0 : acc = t.owedI := by rw [← hsum]; exact (Int.add_zero acc).symm
  exact ⟨HK, by rw [e0]⟩
 skip
 intro key u a24 w4 c2 hm IN2 hc2 kn hent f24
 have hb := sum_in IN.2.1 hm hcr
 have hcr2 := hcr_strike hcr key
 have HK2 := HK.trans kn (fun x hx hlt => by obtain rfl := List.mem_singleton.1 hx; exfalso; omega)
 clear IN HK
 have HK := HK2
 have IN : InRange ansM Try.prog w4 m.mo r t.owed (Go.Hub.strike Rm key : List ((Int × Int) × Int)) c2 := IN2
 clear HK2 IN2 kn
 have hent2 : (Instr.entry (.pointer (some ⟨r, 0, none⟩))).run Try.prog w4 = .ok (.tuple #[.agg #[.int .i64 key.1, .int .i64 key.2], .int .i64 u]) w4 := hent
 clear hent
 refine L.va f24 (E.extract f24 rfl rfl) fun a25 f25 => ?_
 refine wpList_nil (hK5 _ _ ?_)
 have f26 := f25.sub (sc 3 (sc 21 (sc 23 sn)))
 refine wp_seq_k fun K8 hK8 => ?_
 refine C.condT f26 rfl ?_
 refine wp_skip (hK8 _ _ ?_)
 have f27 := f26.sub (sc 3 (sc 21 sn))
 refine wp_block ?_
 refine C.sk fun K9 hK9 => ?_
 refine L.va f27 (E.entryA f27 hent2 rfl) fun a28 f28 => ?_
 refine L.va f28 (E.extract f28 rfl rfl) fun a29 f29 => ?_
 refine L.ag f29 fun a30 f30 => ?_
 refine wpList_nil (hK9 _ _ ?_)
 have f31 := f30.sub (sc 3 (sc 5 (sc 21 sn)))
 refine C.region ?_
 refine L.mv f31 fun a32 f32 => ?_
 refine L.mv f32 fun a33 f33 => ?_
 clear f23 f24 f25 f26 f27 a25 f28 a28 f29 a29 f30 f31 a30 f32 a32
 refine L.va f33 (E.add f33 rfl rfl (IntWalk.i64_in _ (by omega))) fun a34 f34 => ?_
 refine L.ag f34 fun a35 f35 => ?_
 clear f33 a33 f34 a34
 refine wpList_nil (hKL4 _ _ (c2) ?_ ?_)
 ·omega
 exact ⟨(Go.Hub.strike Rm key : List ((Int × Int) × Int)), c2, _, Nat.le_refl _, HK, IN, hcr2, by omega, by rw [hb.2.2] at hsum; omega, f35.sub (sub_cons rfl (sub_cons rfl sn))⟩
end Go.Proofs.Ytkdeedhjkjffpaa
namespace Go.Proofs.Ytkdeedhjkjffpaa
open Go.RowKit Go.Hub Go.Lib Go.WideShapes Go.ChangeMaps
theorem wbl34_0_tq (x0 : Int) : Try.prog.built 34 [(0, .int .i64 x0)] = some #[.int .i64 x0, (.bool false), (.bool false), (.int .i64 0), (.int .i64 0), (.string ⟨#[]⟩), (.slice none 0 0), (.int .i64 0), (.string ⟨#[]⟩), (.bool false), (.int .i64 0), (.bool false), (.string ⟨#[]⟩), (.slice none 0 0), (.int .i64 0), (.bool false), (.bool false), (.bool false), (.string ⟨#[]⟩), (.slice none 0 0), (.bool false), (.int .i64 0), (.slice none 0 0), (.slice none 0 0)] := by kernel_rfl
theorem wbl34_0_7_8_9_tq (x0 : Int) (x1 : Int) (x2 : ByteArray) (x3 : Bool) : Try.prog.built 34 [(0, .int .i64 x0), (7, .int .i64 x1), (8, .string x2), (9, .bool x3)] = some #[.int .i64 x0, (.bool false), (.bool false), (.int .i64 0), (.int .i64 0), (.string ⟨#[]⟩), (.slice none 0 0), .int .i64 x1, .string x2, .bool x3, (.int .i64 0), (.bool false), (.string ⟨#[]⟩), (.slice none 0 0), (.int .i64 0), (.bool false), (.bool false), (.bool false), (.string ⟨#[]⟩), (.slice none 0 0), (.bool false), (.int .i64 0), (.slice none 0 0), (.slice none 0 0)] := by kernel_rfl
theorem flat_o (W : World) (p : Pk) (h : p.pay = [] ∧ p.wp = [] ∧ p.pass = [] ∧ p.subs.length = 0 ∧ p.codes = []) : PkO W p s0 := by
  obtain ⟨h1, h2, h3, h4, h5⟩ := h
  have h4 := List.eq_nil_of_length_eq_zero h4
  exact ⟨by rw [h1]; exact Bs.nil _ _ _ _, by rw [h2]; exact Bs.nil _ _ _ _, by rw [h3]; exact Bs.nil _ _ _ _, by rw [h4]; exact Own.nil _ _ _, by rw [h5]; exact Own.nil _ _ _⟩
def trG : Tr := (((Tr.new true).inT { kind := 1, level := 4, client := ⟨#[107]⟩, clean := true }).outT { kind := 2 }).2
set_option maxHeartbeats 1000000 in
theorem greeted_any (w : World) : Calls Try.prog 18 #[] w (fun e w' => ∃ g m, e = .returned (.pointer (some ⟨g, 0, none⟩)) ∧ TrIn w.heap.size w' g trG m ∧ m.n ≤ 2 ∧ Kept [] w w') := by
 have HK : Kept [] w w := Kept.refl [] w
 refine C.enter Try.func18 rfl Try.ntmps18 rfl ?_
 intro a0 f0
 have f1 : Fr 10 a0 [] := f0
 refine C.sk fun K0 hK0 => ?_
 refine L.ag f1 fun a2 f2 => ?_
 refine wpList_nil (hK0 _ _ ?_)
 have f3 := f2.sub sn
 refine C.sk fun K1 hK1 => ?_
 refine L.cl f3 (run_call Try.call7 (args1 f3 rfl)) (new_any w.heap.size true _ HK.size) ?_
 clear f0 f1 a0 f2
 rintro e w1 ⟨g, m0, rfl, T, up0, kc1⟩
 refine ⟨_, rfl, fun a4 f4 => ?_⟩
 have szw1 := kc1.size
 replace HK := HK.trans kc1 (by simp)
 clear f3 a2 kc1
 refine L.ag f4 fun a5 f5 => ?_
 refine wpList_nil (hK1 _ _ ?_)
 have f6 := f5.sub (sc 1 sn)
 refine C.sk fun K2 hK2 => ?_
 refine L.mv f6 fun a7 f7 => ?_
 refine L.va f7 (E.build f7 (parts4 f7 rfl rfl rfl rfl) (wbl34_0_7_8_9_tq _ _ _ _)) fun a8 f8 => ?_
 refine L.cl f8 (run_call Try.call12 (args2 f8 rfl rfl)) (in_any ({ kind := 1, level := 4, client := ⟨#[107]⟩, clean := true } : Pk) s0 (by decide) w.heap.size g (Tr.new true) m0 _ T (by omega) (flat_o _ _ (by decide)) (by constructor <;> decide)) ?_
 clear f4 a4 f5 f6 a5 f7 a7
 rintro e w2 ⟨rfl, m1, T1, up1, kc2, nw1⟩
 have lo0 := T.lo
 refine ⟨_, rfl, fun a9 f9 => ?_⟩
 have szw2 := kc2.size
 replace HK := HK.trans kc2 (fun x hx hlt => by have := lo0 x hx; omega)
 clear f8 a8 kc2
 have T := T1
 clear T1
 refine wpList_nil (hK2 _ _ ?_)
 have f10 := f9.sub (sc 1 sn)
 refine C.sk fun K3 hK3 => ?_
 refine L.mv f10 fun a11 f11 => ?_
 refine L.va f11 (E.build f11 (parts1 f11 rfl) (wbl34_0_tq _)) fun a12 f12 => ?_
 refine L.cl f12 (run_call Try.call14 (args2 f12 rfl rfl)) (out_any ({ kind := 2 } : Pk) s0 (by decide) w.heap.size g ((Tr.new true).inT ({ kind := 1, level := 4, client := ⟨#[107]⟩, clean := true } : Pk)) m1 _ T (by omega) (flat_o _ _ (by decide)) (by constructor <;> decide)) ?_
 clear f9 f10 a9 f11 a11
 rintro e w3 ⟨rfl, m2, T2, up2, kc3, nw2⟩
 have lo0 := T.lo
 refine ⟨_, rfl, fun a13 f13 => ?_⟩
 have szw3 := kc3.size
 replace HK := HK.trans kc3 (fun x hx hlt => by have := lo0 x hx; omega)
 clear f12 a12 kc3
 have T := T2
 clear T2
 refine wpList_nil (hK3 _ _ ?_)
 have f14 := f13.sub (sc 1 sn)
 refine C.sk fun K4 hK4 => ?_
 refine L.mv f14 fun a15 f15 => ?_
 refine L.ag f15 fun a16 f16 => ?_
 refine wpList_nil (hK4 _ _ ?_)
 have f17 := f16.sub (sc 0 sn)
 refine wp_ret ?_
 try simp only [Exit.inBlock, Exit.then]
 refine C.ret (P := Try.prog) (fn := Try.f18) f17 rfl rfl ?_
 exact ⟨g, m2, rfl, T, by omega, HK⟩
set_option maxHeartbeats 1000000 in
theorem known_any (w : World) : Calls Try.prog 6 #[] w (fun e w' => Kept [] w w' ∧ e = .returned (.bool true)) := by
 have HK : Kept [] w w := Kept.refl [] w
 refine C.enter Try.func6 rfl Try.ntmps6 rfl ?_
 intro a0 f0
 have f1 : Fr 44 a0 [] := f0
 refine C.sk fun K0 hK0 => ?_
 refine L.ag f1 fun a2 f2 => ?_
 refine wpList_nil (hK0 _ _ ?_)
 have f3 := f2.sub sn
 refine C.sk fun K1 hK1 => ?_
 refine L.cl f3 (run_call Try.call7 (args1 f3 rfl)) (new_any w.heap.size false _ HK.size) ?_
 clear f0 f1 a0 f2
 rintro e w1 ⟨g, m0, rfl, T, up0, kc1⟩
 refine ⟨_, rfl, fun a4 f4 => ?_⟩
 have szw1 := kc1.size
 replace HK := HK.trans kc1 (by simp)
 clear f3 a2 kc1
 refine L.ag f4 fun a5 f5 => ?_
 refine wpList_nil (hK1 _ _ ?_)
 have f6 := f5.sub (sc 1 sn)
 refine wp_seq_k fun K2 hK2 => ?_
 refine C.sk fun K3 hK3 => ?_
 refine L.mv f6 fun a7 f7 => ?_
 refine L.va f7 (E.eqlP f7 Try.underlying24 rfl rfl) fun a8 f8 => ?_
 have f9 := f8.as (i := 6) (v' := .bool false) rfl (by rfl)
 refine L.mv f9 fun a10 f10 => ?_
 refine L.mv f10 (hw := (f10.yes rfl rfl)) fun a11 f11 => ?_
 refine L.va f11 (E.build f11 (parts1 f11 rfl) (wbl34_0_tq _)) (hw := (f11.yes rfl rfl)) fun a12 f12 => ?_
 clear f4 a4 f5 f6 a5 f7 a7 f8 f9 a8 f10 a10 f11 a11
 refine L.cl f12 (run_call Try.call14 (args2 f12 rfl rfl)) (out_any ({ kind := 2 } : Pk) s0 (by decide) w.heap.size g (Tr.new false) m0 _ T (by omega) (flat_o _ _ (by decide)) (by constructor <;> decide)) ?_ (hw := (f12.yes rfl rfl))
 rintro e w2 ⟨rfl, m1, T1, up1, kc2, nw1⟩
 have lo0 := T.lo
 refine ⟨_, rfl, fun a13 f13 => ?_⟩
 have szw2 := kc2.size
 replace HK := HK.trans kc2 (fun x hx hlt => by have := lo0 x hx; omega)
 clear f12 a12 kc2
 have T := T1
 clear T1
 have f14 := f13.as (i := 10) (v' := .bool false) rfl (by kernel_rfl)
 refine L.va f14 (E.pickF f14 rfl rfl) fun a15 f15 => ?_
 refine wpList_nil (hK3 _ _ ?_)
 have f16 := f15.sub (sc 1 (sc 11 sn))
 refine C.condF f16 rfl ?_
 refine wp_skip (hK2 _ _ ?_)
 have f17 := f16.sub (sc 1 sn)
 refine C.sk fun K4 hK4 => ?_
 refine L.mv f17 fun a18 f18 => ?_
 refine L.va f18 (E.build f18 (parts4 f18 rfl rfl rfl rfl) (wbl34_0_7_8_9_tq _ _ _ _)) fun a19 f19 => ?_
 refine L.cl f19 (run_call Try.call12 (args2 f19 rfl rfl)) (in_any ({ kind := 1, level := 4, client := ⟨#[107]⟩, clean := true } : Pk) s0 (by decide) w.heap.size g (((Tr.new false).outT ({ kind := 2 } : Pk)).2) m1 _ T (by omega) (flat_o _ _ (by decide)) (by constructor <;> decide)) ?_
 clear f13 f14 a13 f15 f16 f17 a15 f18 a18
 rintro e w3 ⟨rfl, m2, T2, up2, kc3, nw2⟩
 have lo0 := T.lo
 refine ⟨_, rfl, fun a20 f20 => ?_⟩
 have szw3 := kc3.size
 replace HK := HK.trans kc3 (fun x hx hlt => by have := lo0 x hx; omega)
 clear f19 a19 kc3
 have T := T2
 clear T2
 refine wpList_nil (hK4 _ _ ?_)
 have f21 := f20.sub (sc 1 sn)
 refine C.sk fun K5 hK5 => ?_
 refine L.mv f21 fun a22 f22 => ?_
 refine L.va f22 (E.build f22 (parts1 f22 rfl) (wbl34_0_tq _)) fun a23 f23 => ?_
 refine L.cl f23 (run_call Try.call14 (args2 f23 rfl rfl)) (out_any ({ kind := 2 } : Pk) s0 (by decide) w.heap.size g ((((Tr.new false).outT ({ kind := 2 } : Pk)).2).inT ({ kind := 1, level := 4, client := ⟨#[107]⟩, clean := true } : Pk)) m2 _ T (by omega) (flat_o _ _ (by decide)) (by constructor <;> decide)) ?_
 clear f20 f21 a20 f22 a22
 rintro e w4 ⟨rfl, m3, T3, up3, kc4, nw3⟩
 have lo0 := T.lo
 refine ⟨_, rfl, fun a24 f24 => ?_⟩
 have szw4 := kc4.size
 replace HK := HK.trans kc4 (fun x hx hlt => by have := lo0 x hx; omega)
 clear f23 a23 kc4
 have T := T3
 clear T3
 have f25 := f24.as (i := 17) (v' := .bool true) rfl (by kernel_rfl)
 refine L.ag f25 fun a26 f26 => ?_
 refine wpList_nil (hK5 _ _ ?_)
 have f27 := f26.sub (sc 1 (sc 2 sn))
 refine C.sk fun K6 hK6 => ?_
 refine L.mv f27 fun a28 f28 => ?_
 refine L.va f28 (E.build f28 (parts1 f28 rfl) (wbl34_0_tq _)) fun a29 f29 => ?_
 refine L.cl f29 (run_call Try.call12 (args2 f29 rfl rfl)) (in_any ({ kind := 12 } : Pk) s0 (by decide) w.heap.size g ((((((Tr.new false).outT ({ kind := 2 } : Pk)).2).inT ({ kind := 1, level := 4, client := ⟨#[107]⟩, clean := true } : Pk)).outT ({ kind := 2 } : Pk)).2) m3 _ T (by omega) (flat_o _ _ (by decide)) (by constructor <;> decide)) ?_
 clear f24 f25 a24 f26 f27 a26 f28 a28
 rintro e w5 ⟨rfl, m4, T4, up4, kc5, nw4⟩
 have lo0 := T.lo
 refine ⟨_, rfl, fun a30 f30 => ?_⟩
 have szw5 := kc5.size
 replace HK := HK.trans kc5 (fun x hx hlt => by have := lo0 x hx; omega)
 clear f29 a29 kc5
 have T := T4
 clear T4
 refine wpList_nil (hK6 _ _ ?_)
 have f31 := f30.sub (sc 1 (sc 2 sn))
 refine C.sk fun K7 hK7 => ?_
 refine L.mv f31 fun a32 f32 => ?_
 refine L.cl f32 (run_call Try.call16 (args1 f32 rfl)) (owed_any _ g (((((((Tr.new false).outT ({ kind := 2 } : Pk)).2).inT ({ kind := 1, level := 4, client := ⟨#[107]⟩, clean := true } : Pk)).outT ({ kind := 2 } : Pk)).2).inT ({ kind := 12 } : Pk)) m4 _ T (by omega)) ?_
 clear f30 f31 a30
 rintro e w6 ⟨kc6, rfl⟩
 refine ⟨_, rfl, fun a33 f33 => ?_⟩
 have szw6 := kc6.size
 replace HK := HK.trans kc6 (by simp)
 replace T := T.kept0 kc6
 clear f32 a32 kc6
 refine L.ag f33 fun a34 f34 => ?_
 refine wpList_nil (hK7 _ _ ?_)
 have f35 := f34.sub (sc 1 (sc 2 (sc 3 sn)))
 refine C.sk fun K8 hK8 => ?_
 refine L.mv f35 fun a36 f36 => ?_
 refine L.mv f36 fun a37 f37 => ?_
 refine L.mv f37 (hw := (f37.yes rfl rfl)) fun a38 f38 => ?_
 refine L.va f38 (E.eq f38) (hw := (f38.yes rfl rfl)) fun a39 f39 => ?_
 have f40 := f39.as (i := 26) (v' := .bool true) rfl (by kernel_rfl)
 refine L.va f40 (E.pickT f40 rfl rfl) fun a41 f41 => ?_
 clear f33 a33 f34 f35 a34 f36 a36 f37 a37 f38 a38 f39 f40 a39
 refine L.mv f41 fun a42 f42 => ?_
 refine L.mv f42 (hw := (f42.yes rfl rfl)) fun a43 f43 => ?_
 refine L.va f43 (E.build f43 (parts1 f43 rfl) (wbl34_0_tq _)) (hw := (f43.yes rfl rfl)) fun a44 f44 => ?_
 refine L.cl f44 (run_call Try.call14 (args2 f44 rfl rfl)) (out_any ({ kind := 13 } : Pk) s0 (by decide) w.heap.size g (((((((Tr.new false).outT ({ kind := 2 } : Pk)).2).inT ({ kind := 1, level := 4, client := ⟨#[107]⟩, clean := true } : Pk)).outT ({ kind := 2 } : Pk)).2).inT ({ kind := 12 } : Pk)) m4 _ T (by omega) (flat_o _ _ (by decide)) (by constructor <;> decide)) ?_ (hw := (f44.yes rfl rfl))
 clear f41 a41 f42 a42 f43 a43
 rintro e w7 ⟨rfl, m5, T5, up5, kc7, nw5⟩
 have lo0 := T.lo
 refine ⟨_, rfl, fun a45 f45 => ?_⟩
 have szw7 := kc7.size
 replace HK := HK.trans kc7 (fun x hx hlt => by have := lo0 x hx; omega)
 clear f44 a44 kc7
 have T := T5
 clear T5
 have f46 := f45.as (i := 31) (v' := .bool true) rfl (by kernel_rfl)
 refine L.va f46 (E.pickT f46 rfl rfl) fun a47 f47 => ?_
 refine L.mv f47 fun a48 f48 => ?_
 refine L.mv f48 (hw := (f48.yes rfl rfl)) fun a49 f49 => ?_
 refine L.va f49 (E.build f49 (parts1 f49 rfl) (wbl34_0_tq _)) (hw := (f49.yes rfl rfl)) fun a50 f50 => ?_
 refine L.cl f50 (run_call Try.call14 (args2 f50 rfl rfl)) (out_any ({ kind := 13 } : Pk) s0 (by decide) w.heap.size g (((((((((Tr.new false).outT ({ kind := 2 } : Pk)).2).inT ({ kind := 1, level := 4, client := ⟨#[107]⟩, clean := true } : Pk)).outT ({ kind := 2 } : Pk)).2).inT ({ kind := 12 } : Pk)).outT ({ kind := 13 } : Pk)).2) m5 _ T (by omega) (flat_o _ _ (by decide)) (by constructor <;> decide)) ?_ (hw := (f50.yes rfl rfl))
 clear f45 f46 a45 f47 a47 f48 a48 f49 a49
 rintro e w8 ⟨rfl, m6, T6, up6, kc8, nw6⟩
 have lo0 := T.lo
 refine ⟨_, rfl, fun a51 f51 => ?_⟩
 have szw8 := kc8.size
 replace HK := HK.trans kc8 (fun x hx hlt => by have := lo0 x hx; omega)
 clear f50 a50 kc8
 have T := T6
 clear T6
 have f52 := f51.as (i := 36) (v' := .bool false) rfl (by kernel_rfl)
 refine L.va f52 (E.not f52 rfl) (hw := (f52.yes rfl rfl)) fun a53 f53 => ?_
 refine L.va f53 (E.pickT f53 rfl rfl) fun a54 f54 => ?_
 refine L.mv f54 fun a55 f55 => ?_
 refine L.mv f55 (hw := (f55.yes rfl rfl)) fun a56 f56 => ?_
 refine L.cl f56 (run_call Try.call16 (args1 f56 rfl)) (owed_any _ g (((((((((((Tr.new false).outT ({ kind := 2 } : Pk)).2).inT ({ kind := 1, level := 4, client := ⟨#[107]⟩, clean := true } : Pk)).outT ({ kind := 2 } : Pk)).2).inT ({ kind := 12 } : Pk)).outT ({ kind := 13 } : Pk)).2).outT ({ kind := 13 } : Pk)).2) m6 _ T (by omega)) ?_ (hw := (f56.yes rfl rfl))
 clear f51 f52 a51 f53 a53 f54 a54 f55 a55
 rintro e w9 ⟨kc9, rfl⟩
 refine ⟨_, rfl, fun a57 f57 => ?_⟩
 have szw9 := kc9.size
 replace HK := HK.trans kc9 (by simp)
 replace T := T.kept0 kc9
 clear f56 a56 kc9
 refine L.va f57 (E.eq f57) (hw := (f57.yes rfl rfl)) fun a58 f58 => ?_
 have f59 := f58.as (i := 42) (v' := .bool true) rfl (by kernel_rfl)
 refine L.va f59 (E.pickT f59 rfl rfl) fun a60 f60 => ?_
 refine L.ag f60 fun a61 f61 => ?_
 refine wpList_nil (hK8 _ _ ?_)
 have f62 := f61.sub (sc 0 sn)
 refine wp_ret ?_
 try simp only [Exit.inBlock, Exit.then]
 refine C.ret (P := Try.prog) (fn := Try.f6) f62 rfl rfl ?_
 exact ⟨HK, rfl⟩
end Go.Proofs.Ytkdeedhjkjffpaa
namespace Go.Proofs.Ytkdeedhjkjffpaa
open Go.RowKit Go.Hub Go.Lib Go.WideShapes Go.ChangeMaps
theorem TrIn.base {B B' g : Nat} {t : Tr} {m : TrM} {w : World} (h : TrIn B w g t m) (hB : B' ≤ B) : TrIn B' w g t m := { h with lo := fun x hx => Nat.le_trans hB (h.lo x hx) }
theorem TrIn.keptX {B g x : Nat} {t : Tr} {m : TrM} {w w' : World} (h : TrIn B w g t m) (hk : Kept [x] w w') (hx : x ∉ m.fp g) (hn : NoPk w [x]) : TrIn B w' g t m := by
  have ne : ∀ y, y ∈ m.fp g → y ∉ [x] := fun y hy hm => by
    obtain rfl := List.mem_singleton.1 hm
    exact hx hy
  exact ⟨h.e1, h.e2, h.e3, h.e4, h.bt.kept hk (ne _ (fp_mem.2 (.inl rfl))), Own.kept h.rt hk (fun b hb => ne _ (fp_mem.2 (.inr (.inr (.inr (.inl ((own_block _ _ _ _).1 hb))))))), Own.kept h.rs hk (fun b hb => ne _ (fp_mem.2 (.inr (.inr (.inr (.inr (.inl ((own_block _ _ _ _).1 hb)))))))), Own.kept h.ru hk (fun b hb => ne _ (fp_mem.2 (.inr (.inr (.inr (.inr (.inr ((own_block _ _ _ _).1 hb)))))))), IsAss.kept h.mo hk (ne _ (fp_mem.2 (.inr (.inl rfl)))), IsAss.kept h.mf hk (ne _ (fp_mem.2 (.inr (.inr (.inl rfl))))), h.nof, h.tu, h.tn, h.un, h.lo, h.ps.keptT hk hn, h.pf.keptT hk hn, h.len⟩
theorem TrIn.noPk {B g : Nat} {t : Tr} {m : TrM} {w : World} (h : TrIn B w g t m) : NoPk w (m.fp g) := fun y hy hlt ht => by
  rcases fp_mem.1 hy with rfl | rfl | rfl | e | e | e
  · exact h.bt.not_typ (by decide) ht
  · exact ht.not_map (IsAss.mapB h.mo)
  · exact ht.not_map (IsAss.mapB h.mf)
  · exact NoPk.own h.rt y (by simpa using (own_block _ _ _ _).2 e) hlt ht
  · exact NoPk.own h.rs y (by simpa using (own_block _ _ _ _).2 e) hlt ht
  exact NoPk.own h.ru y (by simpa using (own_block _ _ _ _).2 e) hlt ht
theorem TrIn.fp_lt {B g : Nat} {t : Tr} {m : TrM} {w : World} (h : TrIn B w g t m) : ∀ x ∈ m.fp g, x < w.heap.size := fun x hx => by
  rcases fp_mem.1 hx with rfl | rfl | rfl | e | e | e
  · exact h.bt.lt
  · exact IsAss.lt h.mo
  · exact IsAss.lt h.mf
  · exact own_lt h.rt _ e
  · exact own_lt h.rs _ e
  exact own_lt h.ru _ e
theorem len_id (k i : Int) : Pk.Len { kind := k, id := i } := by constructor <;> first | exact Nat.zero_le _ | exact fun x hx => absurd hx (by simp) | decide
end Go.Proofs.Ytkdeedhjkjffpaa
namespace Go.Proofs.Ytkdeedhjkjffpaa
open Go.RowKit Go.Hub Go.Lib Go.WideShapes Go.ChangeMaps
theorem wzib3_ts : (Try.prog.info? 3).map (fun i => (i.zero, i.size, i.bytes)) = some (some (.int .i64 0), 1, 8) := by kernel_rfl
theorem wzi3_ts : (Try.prog.info? 3).map (fun i => (i.zero, i.size)) = some (some (.int .i64 0), 1) := by kernel_rfl
theorem wzi46_ts : (Try.prog.info? 46).map (fun i => (i.zero, i.size)) = some (some (.agg #[(.string ⟨#[]⟩), (.int .i64 0)]), 2) := by kernel_rfl
theorem wbs31_1_ts (x0_0 x0_1 : Value) : Instr.fill (fun i => some (i * 2, 2)) ((Array.range (1 * 2)).map fun j => (Value.cells (.agg #[(.string ⟨#[]⟩), (.int .i64 0)]))[j % (Value.cells (.agg #[(.string ⟨#[]⟩), (.int .i64 0)])).size]!) [(0, .agg #[x0_0, x0_1])] = some #[x0_0, x0_1] := by kernel_rfl
theorem wbs32_1_ts (x0 : Int) : Instr.fill (fun i => some (i * 1, 1)) ((Array.range (1 * 1)).map fun j => (Value.cells (.int .i64 0))[j % (Value.cells (.int .i64 0)).size]!) [(0, .int .i64 x0)] = some #[.int .i64 x0] := by kernel_rfl
theorem wbs32_3_ts (x0 : Int) (x1 : Int) (x2 : Int) : Instr.fill (fun i => some (i * 1, 1)) ((Array.range (3 * 1)).map fun j => (Value.cells (.int .i64 0))[j % (Value.cells (.int .i64 0)).size]!) [(0, .int .i64 x0), (1, .int .i64 x1), (2, .int .i64 x2)] = some #[.int .i64 x0, .int .i64 x1, .int .i64 x2] := by kernel_rfl
theorem wsz3_ts : (Try.prog.info? 3).map (·.size) = some 1 := by kernel_rfl
theorem wsz5_ts : (Try.prog.info? 5).map (·.size) = some 1 := by kernel_rfl
theorem wsz43_ts : (Try.prog.info? 43).map (·.size) = some 4 := by kernel_rfl
theorem wbl34_0_4_ts (x0 : Int) (x1 : Int) : Try.prog.built 34 [(0, .int .i64 x0), (4, .int .i64 x1)] = some #[.int .i64 x0, (.bool false), (.bool false), (.int .i64 0), .int .i64 x1, (.string ⟨#[]⟩), (.slice none 0 0), (.int .i64 0), (.string ⟨#[]⟩), (.bool false), (.int .i64 0), (.bool false), (.string ⟨#[]⟩), (.slice none 0 0), (.int .i64 0), (.bool false), (.bool false), (.bool false), (.string ⟨#[]⟩), (.slice none 0 0), (.bool false), (.int .i64 0), (.slice none 0 0), (.slice none 0 0)] := by kernel_rfl
theorem wbl34_0_4_19_ts (x0 : Int) (x1 : Int) (x2 : Option Addr) (y2 z2 : Nat) : Try.prog.built 34 [(0, .int .i64 x0), (4, .int .i64 x1), (19, .slice x2 y2 z2)] = some #[.int .i64 x0, (.bool false), (.bool false), (.int .i64 0), .int .i64 x1, (.string ⟨#[]⟩), (.slice none 0 0), (.int .i64 0), (.string ⟨#[]⟩), (.bool false), (.int .i64 0), (.bool false), (.string ⟨#[]⟩), (.slice none 0 0), (.int .i64 0), (.bool false), (.bool false), (.bool false), (.string ⟨#[]⟩), (.slice none 0 0), (.bool false), (.int .i64 0), .slice x2 y2 z2, (.slice none 0 0)] := by kernel_rfl
theorem wbl34_0_4_20_ts (x0 : Int) (x1 : Int) (x2 : Option Addr) (y2 z2 : Nat) : Try.prog.built 34 [(0, .int .i64 x0), (4, .int .i64 x1), (20, .slice x2 y2 z2)] = some #[.int .i64 x0, (.bool false), (.bool false), (.int .i64 0), .int .i64 x1, (.string ⟨#[]⟩), (.slice none 0 0), (.int .i64 0), (.string ⟨#[]⟩), (.bool false), (.int .i64 0), (.bool false), (.string ⟨#[]⟩), (.slice none 0 0), (.int .i64 0), (.bool false), (.bool false), (.bool false), (.string ⟨#[]⟩), (.slice none 0 0), (.bool false), (.int .i64 0), (.slice none 0 0), .slice x2 y2 z2] := by kernel_rfl
theorem wbl34_0_5_3_4_ts (x0 : Int) (x1 : ByteArray) (x2 : Int) (x3 : Int) : Try.prog.built 34 [(0, .int .i64 x0), (5, .string x1), (3, .int .i64 x2), (4, .int .i64 x3)] = some #[.int .i64 x0, (.bool false), (.bool false), .int .i64 x2, .int .i64 x3, .string x1, (.slice none 0 0), (.int .i64 0), (.string ⟨#[]⟩), (.bool false), (.int .i64 0), (.bool false), (.string ⟨#[]⟩), (.slice none 0 0), (.int .i64 0), (.bool false), (.bool false), (.bool false), (.string ⟨#[]⟩), (.slice none 0 0), (.bool false), (.int .i64 0), (.slice none 0 0), (.slice none 0 0)] := by kernel_rfl
theorem wbl46_0_1_ts (x0 : ByteArray) (x1 : Int) : Try.prog.built 46 [(0, .string x0), (1, .int .i64 x1)] = some #[.string x0, .int .i64 x1] := by kernel_rfl
section
variable {w w' W : World} {A sA : Option Addr} {b off gar : Nat} {l : List Int} {x i k v : Int} {t : Tr} {sb r : List Int} {M : List Int} {a : Int} {m m2 : TrM} {B g n c e : Nat}
theorem ys_cell (h : Sl w A l.length 1 (l.map (Value.int .u8))) (hA : A = some ⟨b, off, none⟩) (hx : l[i.toNat]? = some x) : w.cell? ⟨b, off + i.toNat * 1, none⟩ = some (.int .u8 x) := by
  have := (List.getElem?_eq_some_iff.1 hx).1
  rw [Nat.mul_one]
  exact Sl.cell h (j := i.toNat) (by omega) hA (by simp [hx])
theorem own_blk1 {cs : Array Value} {n size : Nat} (h : Blk W g e cs) (hs : cs.size = n * size) (hn : n ≤ maxLen) : Own W e size (.slice (some ⟨g, 0, none⟩) n n) n cs.toList :=
  ⟨by simpa using hs, .inr ⟨g, 0, n, cs, rfl, h, Nat.le_refl _, hn, by omega, fun j u hu => by rw [Nat.zero_add]; simpa using hu⟩⟩
theorem sub_o {i : Int} (h : Blk W g 46 #[.string ⟨#[97]⟩, .int .i64 1]) : PkO W { kind := 8, id := i, subs := [(⟨#[97]⟩, 1)] } { s0 with ua := some ⟨g, 0, none⟩, uc := 1 } :=
  ⟨Bs.nil _ _ _ _, Bs.nil _ _ _ _, Bs.nil _ _ _ _, own_blk1 (n := 1) (size := 2) h rfl (by decide), Own.nil _ _ _⟩
theorem sba_o {i : Int} (h : Blk W g 3 #[.int .i64 1]) : PkO W { kind := 9, id := i, codes := [1] } { s0 with ca := some ⟨g, 0, none⟩, cc := 1 } :=
  ⟨Bs.nil _ _ _ _, Bs.nil _ _ _ _, Bs.nil _ _ _ _, Own.nil _ _ _, own_blk1 (n := 1) (size := 1) h rfl (by decide)⟩
theorem len_sub (i : Int) : Pk.Len { kind := 8, id := i, subs := [(⟨#[97]⟩, 1)] } := by constructor <;> first | exact Nat.zero_le _ | exact (by decide : (1 : Nat) ≤ 1000000) | exact fun x hx => by obtain rfl := List.mem_singleton.1 hx; decide | exact fun x hx => absurd hx (by simp)
theorem len_sba (i : Int) : Pk.Len { kind := 9, id := i, codes := [1] } := by constructor <;> first | exact Nat.zero_le _ | exact (by decide : (1 : Nat) ≤ 1000000) | exact fun x hx => by obtain rfl := List.mem_singleton.1 hx; decide | exact fun x hx => absurd hx (by simp)
theorem len_pb (q i : Int) : Pk.Len { kind := 3, qos := q, id := i, topic := ⟨#[97]⟩ } := by constructor <;> first | exact Nat.zero_le _ | exact (by decide : (1 : Nat) ≤ 1000000) | exact fun x hx => by obtain rfl := List.mem_singleton.1 hx; decide | exact fun x hx => absurd hx (by simp)
theorem PkO.keptC {p : Pk} {s : Ad} {k : Nat} {xs : List Value} (h : PkO w p s) (o : Own w 3 1 (.slice A k c) k xs) (hk : Kept (Value.slice A k c).ownBlock.toList w w') (hc : ∀ b, s.ca.map (·.block) = some b → A.map (·.block) ≠ some b) : PkO w' p s := by
  have ht : ∀ y ∈ (Value.slice A k c).ownBlock.toList, ∀ T : List TypeId, 3 ∉ T → ¬ Typ w y T := fun y hy T hT ⟨cs', e', f', h', he⟩ => by
    have hb : (Value.slice A k c).ownBlock = some y := by simpa using hy
    obtain ⟨_, cs, e1⟩ := o.blk y hb
    rw [e1] at h'
    injection h' with h'
    injection h' with _ h2
    subst h2
    exact hT he
  have hs : Same [5] 0 w w' := Same.of_kept hk fun y hy hlt => ⟨Nat.zero_le _, ht y hy _ (by decide)⟩
  exact ⟨h.pay.same hs, h.wp.same hs, h.pass.same hs, own_blkL h.subs hk fun y hy hlt => ht y hy _ (by decide), h.codes.kept hk fun b hb hx => by
    have hb2 : (Value.slice A k c).ownBlock = some b := by simpa using hx
    exact hc b ((own_block _ _ _ _).1 hb) ((own_block _ _ _ _).1 hb2)⟩
theorem TrIn.keptS {k : Nat} {xs : List Value} (h : TrIn B w g t m) (o : Own w 3 1 (.slice A k c) k xs) (hk : Kept (Value.slice A k c).ownBlock.toList w w') (hc : ∀ y ∈ m.subs, ∀ b, y.2.ca.map (·.block) = some b → A.map (·.block) ≠ some b) (ho : t.out = []) : TrIn B w' g t m := by
  have hne : ∀ {e size n c2 : Nat} {A2 : Option Addr} {ys : List Value}, e ≠ 3 → Own w e size (.slice A2 n c2) n ys → ∀ b, (Value.slice A2 n c2).ownBlock = some b → b ∉ (Value.slice A k c).ownBlock.toList := fun he o2 b hb hx => by
    have hb2 : (Value.slice A k c).ownBlock = some b := by simpa using hx
    obtain ⟨_, cs, e1⟩ := o.blk b hb2
    obtain ⟨_, cs2, e2⟩ := o2.blk b hb
    rw [e1] at e2
    injection e2 with e2
    injection e2 with _ h2
    exact he h2.symm
  have hm : m.out = [] := by
    have := h.e4
    rw [ho] at this
    exact List.map_eq_nil_iff.1 this.symm
  exact ⟨h.e1, h.e2, h.e3, h.e4, h.bt.kept hk (own_ne o h.bt (by decide)), Own.kept h.rt hk (hne (by decide) h.rt), Own.kept h.rs hk (hne (by decide) h.rs), Own.kept h.ru hk (hne (by decide) h.ru), IsAss.kept h.mo hk (own_ne_map h.mo o), IsAss.kept h.mf hk (own_ne_map h.mf o), h.nof, h.tu, h.tn, h.un, h.lo, fun y hy => ⟨(h.ps y hy).1.keptC o hk (hc y hy), (h.ps y hy).2⟩, fun y hy => absurd hy (by rw [hm]; simp), h.len⟩
theorem ca_step (CA : ∀ y ∈ m.subs, ∀ b, y.2.ca.map (·.block) = some b → sA.map (·.block) ≠ some b) (su : ∀ y ∈ m2.subs, y ∈ m.subs ∨ ∀ b, y.2.ca.map (·.block) = some b → n ≤ b) (lt : ∀ b, sA.map (·.block) = some b → b < n) : ∀ y ∈ m2.subs, ∀ b, y.2.ca.map (·.block) = some b → sA.map (·.block) ≠ some b := fun y hy b hb h => by
  rcases su y hy with h1 | h1
  · exact CA y h1 b hb h
  have := h1 b hb
  have := lt b h
  omega
theorem ca_grow {A2 : Option Addr} (T : TrIn B w g t m2) (CA : ∀ y ∈ m2.subs, ∀ b, y.2.ca.map (·.block) = some b → sA.map (·.block) ≠ some b) (hw : ∀ b, A2.map (·.block) = some b → sA.map (·.block) = some b ∨ w.heap.size ≤ b) : ∀ y ∈ m2.subs, ∀ b, y.2.ca.map (·.block) = some b → A2.map (·.block) ≠ some b := fun y hy b hb h => by
  rcases hw b h with h1 | h1
  · exact CA y hy b hb h1
  have := own_lt (T.ps y hy).1.codes b hb
  omega
theorem cut_blk {p : Prop} [Decidable p] {k : Nat} : (if p then A else A.map (·.add k)).map (·.block) = A.map (·.block) := by
  split
  · rfl
  cases A with
  | none => rfl
  | some z => simp only [Option.map_some, Addr.add]; split <;> rfl
theorem own_tail (h : Own w 3 1 (.slice A (a :: r).length c) (a :: r).length ((a :: r).map (Value.int .i64))) : Own w 3 1 (.slice (if c = 1 then A else A.map (·.add (1 * 1))) r.length (c - 1)) r.length (r.map (Value.int .i64)) := h.cut (k := 1) (by simp)
theorem head_cell (h : Own w 3 1 (.slice A (a :: r).length c) (a :: r).length ((a :: r).map (Value.int .i64))) (hA : A = some ⟨b, off, none⟩) : w.cell? ⟨b, off + (0 : Int).toNat * 1, none⟩ = some (.int .i64 a) := Sl.cell (Sl.of_own h) (j := 0) (by simp) hA rfl
def kdI (k : Int) : Int := if k = 1 then 4 else if k = 2 then 5 else 7
def vA (t : Tr) (k i : Int) : Int := (lk t.owed (kdI k, i)).getD 0
def rowA (t : Tr) (k : Int) : Int := vA t k 1 + vA t k 2 + vA t k 3
def partA (t : Tr) (j : Int) : Int := (if 1 ≤ j then rowA t 1 else 0) + (if 2 ≤ j then rowA t 2 else 0) + (if 3 ≤ j then rowA t 3 else 0)
theorem part_step (t : Tr) {j : Int} (h0 : 0 ≤ j) (h3 : j < 3) : partA t (j + 1) = partA t j + (vA t (j + 1) 1 + vA t (j + 1) 2 + vA t (j + 1) 3) := by
  have : j = 0 ∨ j = 1 ∨ j = 2 := by omega
  rcases this with rfl | rfl | rfl <;> simp [partA, rowA]
theorem vA_le {N : Nat} (h : ∀ p ∈ t.owed, 0 ≤ p.2 ∧ p.2 ≤ (N : Int)) (k i : Int) : 0 ≤ vA t k i ∧ vA t k i ≤ N := cnt_ok h _
theorem part_le {N : Nat} (h : ∀ p ∈ t.owed, 0 ≤ p.2 ∧ p.2 ≤ (N : Int)) (j : Int) : 0 ≤ partA t j ∧ partA t j ≤ 9 * N := by
  have h11 := vA_le h 1 1; have h12 := vA_le h 1 2; have h13 := vA_le h 1 3
  have h21 := vA_le h 2 1; have h22 := vA_le h 2 2; have h23 := vA_le h 2 3
  have h31 := vA_le h 3 1; have h32 := vA_le h 3 2; have h33 := vA_le h 3 3
  unfold partA rowA
  constructor <;> split <;> split <;> split <;> omega
structure Ow (t : Tr) (sb : List Int) (M : List Int) : Prop where
  rd : t.readyB = true
  lf : t.left = false
  gr : t.greeted = true
  su : t.subs = sb.map fun i => ({ kind := 8, id := i, subs := [(⟨#[97]⟩, 1)] } : Pk)
  un : t.unsubs = []
  ou : t.out = []
  len : M.length = 12
  at_ : ∀ k i : Int, 1 ≤ k ∧ k ≤ 3 → 1 ≤ i ∧ i ≤ 3 → M[(k - 1).toNat * 4 + i.toNat]? = some (vA t k i)
  ks : ∀ p ∈ t.owed, ∃ k i : Int, (1 ≤ k ∧ k ≤ 3) ∧ (1 ≤ i ∧ i ≤ 3) ∧ p.1 = (kdI k, i)
theorem ow_start : Ow trG [] (List.replicate 12 0) := ⟨rfl, rfl, rfl, rfl, rfl, rfl, rfl, fun k i hk hi => by
    rw [List.getElem?_replicate, if_pos (by omega)]
    rfl, fun p hp => absurd hp (by have : trG.owed = [] := rfl; rw [this]; simp)⟩
theorem Ow.cell (h : Ow t sb M) (hk : 1 ≤ k ∧ k ≤ 3) (hi : 1 ≤ i ∧ i ≤ 3) : (M.map (Value.int .i64)).toArray.toList[0 + (k - 1).toNat * 4 + i.toNat * 1]? = some (.int .i64 (vA t k i)) := by
  rw [Nat.zero_add, Nat.mul_one, List.getElem?_map, h.at_ k i hk hi]
  rfl
theorem Ow.cellj (h : Ow t sb M) {j : Int} (hj : 0 ≤ j ∧ j < 3) (hi : 1 ≤ i ∧ i ≤ 3) : (M.map (Value.int .i64)).toArray.toList[0 + j.toNat * 4 + i.toNat * 1]? = some (.int .i64 (vA t (j + 1) i)) := by
  have := h.cell (k := j + 1) (i := i) (by omega) hi
  rwa [show j + 1 - 1 = j by omega] at this
theorem ow_in (h : Ow t sb M) (hk : 1 ≤ k ∧ k ≤ 3) (hi : 1 ≤ i ∧ i ≤ 3) : 0 + (k - 1).toNat * 4 + i.toNat * 1 < (M.map (Value.int .i64)).toArray.size := by
  rw [List.size_toArray, List.length_map, h.len]
  omega
theorem ow_set (h : Blk w gar 44 ((M.map (Value.int .i64)).toArray.setIfInBounds (0 + (k - 1).toNat * 4 + i.toNat * 1) (.int .i64 v))) : Blk w gar 44 ((M.set ((k - 1).toNat * 4 + i.toNat) v).map (Value.int .i64)).toArray := by
  rw [Nat.zero_add, Nat.mul_one] at h
  simpa using h
theorem getD_put (E : List ((Int × Int) × Int)) (k k' : Int × Int) (v : Int) : (lk ((k, v) :: strike E k) k').getD 0 = if k = k' then v else (lk E k').getD 0 := by
  rw [lk_cons]
  by_cases e : k = k'
  · rw [if_pos e, if_pos e]; rfl
  rw [if_neg e, if_neg e, lk_strike_other E (fun c => e c.symm)]
theorem kdI_inj {k k' : Int} (h : 1 ≤ k ∧ k ≤ 3) (h' : 1 ≤ k' ∧ k' ≤ 3) (e : kdI k = kdI k') : k = k' := by
  have a : k = 1 ∨ k = 2 ∨ k = 3 := by omega
  have b : k' = 1 ∨ k' = 2 ∨ k' = 3 := by omega
  rcases a with rfl | rfl | rfl <;> rcases b with rfl | rfl | rfl <;> first | rfl | exact absurd e (by decide)
theorem ow_put (h : Ow t sb M) (hk : 1 ≤ k ∧ k ≤ 3) (hi : 1 ≤ i ∧ i ≤ 3) (v : Int) : Ow { t with owed := ((kdI k, i), v) :: strike t.owed (kdI k, i) } sb (M.set ((k - 1).toNat * 4 + i.toNat) v) := by
  refine ⟨h.rd, h.lf, h.gr, h.su, h.un, h.ou, by rw [List.length_set, h.len], fun k' i' hk' hi' => ?_, fun p hp => ?_⟩
  · unfold vA
    rw [getD_put, List.getElem?_set]
    by_cases e : (kdI k, i) = (kdI k', i')
    · obtain ⟨e1, e2⟩ := Prod.mk.injEq _ _ _ _ ▸ e
      have e1 := kdI_inj hk hk' e1
      subst e1 e2
      rw [if_pos rfl, if_pos rfl, if_pos (by rw [h.len]; omega)]
    rw [if_neg e, if_neg, h.at_ k' i' hk' hi']
    · rfl
    intro c
    apply e
    have : k = k' ∧ i = i' := by omega
    rw [this.1, this.2]
  rcases List.mem_cons.1 hp with rfl | hp
  · exact ⟨k, i, hk, hi, rfl⟩
  exact h.ks p (List.mem_filter.1 hp).1
theorem ow_hg (h : Ow t sb M) {p : Pk} (hp : p.kind ≠ 1) : ¬ (t.left = true ∨ t.greeted = decide (p.kind = 1)) := in_hg h.lf (by rw [h.gr, decide_eq_false hp]; decide)
theorem ow_sub (h : Ow t sb M) : Ow (t.inT { kind := 8, id := i, subs := [(⟨#[97]⟩, 1)] }) (sb ++ [i]) M := by
  rw [in_8 (ow_hg h (by decide : (8 : Int) ≠ 1)) rfl]
  exact ⟨h.rd, h.lf, h.gr, by show t.subs ++ _ = _; rw [h.su, List.map_append]; rfl, h.un, h.ou, h.len, h.at_, h.ks⟩
theorem ow_pub (h : Ow t sb M) (hk : k = 1 ∨ k = 2) (hi : 1 ≤ i ∧ i ≤ 3) : Ow (t.inT { kind := 3, qos := k, id := i, topic := ⟨#[97]⟩ }) sb (M.set ((k - 1).toNat * 4 + i.toNat) (vA t k i + 1)) := by
  rw [in_3 (ow_hg h (by decide : (3 : Int) ≠ 1)) rfl]
  have e : t.msgT { kind := 3, qos := k, id := i, topic := ⟨#[97]⟩ } = t.owe (kdI k, i) := by
    unfold Tr.msgT
    rcases hk with rfl | rfl <;> rfl
  rw [e]
  exact ow_put h (by omega) hi _
theorem ow_rel (h : Ow t sb M) (hk : k = 3) (hi : 1 ≤ i ∧ i ≤ 3) : Ow (t.inT { kind := 6, id := i }) sb (M.set ((k - 1).toNat * 4 + i.toNat) (vA t k i + 1)) := by
  subst hk
  rw [in_ack (ow_hg h (by decide : (6 : Int) ≠ 1)) (.inl ⟨(by decide : (4 : Int) ≤ 6), (by decide : (6 : Int) ≤ 7)⟩)]
  exact ow_put (k := 3) h (by omega) hi _
theorem ow_9 (h : Ow t sb M) (p : Pk) (hp : p.kind = 9) : t.outT p = t.subT p := by
  unfold Tr.outT
  rw [if_neg (by omega), h.rd, if_neg (by decide), if_neg (by omega), if_neg (by omega), if_pos hp]
theorem o_nil (h : Ow t sb M) (hn : sb = []) : t.outT { kind := 9, id := i, codes := [1] } = (false, t) := by
  rw [ow_9 h _ rfl]
  unfold Tr.subT
  rw [h.su, hn]
  rfl
theorem o_cons (h : Ow t (a :: r) M) : (t.outT { kind := 9, id := i, codes := [1] }).1 = decide (a = i) := by
  rw [ow_9 h _ rfl]
  unfold Tr.subT
  rw [h.su]
  by_cases e : a = i <;> simp [e, codesB]
theorem o_hit (h : Ow t (a :: r) M) (e : a = i) : Ow (t.outT { kind := 9, id := i, codes := [1] }).2 r M := by
  have : t.outT { kind := 9, id := i, codes := [1] } = (true, { t with subs := r.map fun i => ({ kind := 8, id := i, subs := [(⟨#[97]⟩, 1)] } : Pk) }) := by
    rw [ow_9 h _ rfl]
    unfold Tr.subT
    rw [h.su]
    simp [e, codesB]
  rw [this]
  exact ⟨h.rd, h.lf, h.gr, rfl, h.un, h.ou, h.len, h.at_, h.ks⟩
theorem o_miss (h : Ow t (a :: r) M) (e : ¬ a = i) : Ow (t.outT { kind := 9, id := i, codes := [1] }).2 (a :: r) M := by
  have : t.outT { kind := 9, id := i, codes := [1] } = (false, t) := by
    rw [ow_9 h _ rfl]
    unfold Tr.subT
    rw [h.su]
    simp [e]
  rw [this]
  exact h
theorem out_ak (h : Ow t sb M) (hk : 1 ≤ k ∧ k ≤ 3) : t.outT { kind := kdI k, id := i } = t.payT (kdI k, i) := by
  have a : k = 1 ∨ k = 2 ∨ k = 3 := by omega
  unfold Tr.outT
  rw [h.rd]
  rcases a with rfl | rfl | rfl <;> rfl
theorem ak_one (h : Ow t sb M) (hk : 1 ≤ k ∧ k ≤ 3) (hi : 1 ≤ i ∧ i ≤ 3) (h0 : 0 ≤ vA t k i) : (t.outT { kind := kdI k, id := i }).1 = decide (0 < vA t k i) := by
  rw [out_ak h hk]
  unfold Tr.payT
  by_cases e : vA t k i = 0
  · rw [if_pos (show (lk t.owed (kdI k, i)).getD 0 = 0 from e), e]; rfl
  rw [if_neg (show ¬ (lk t.owed (kdI k, i)).getD 0 = 0 from e), decide_eq_true (by omega)]
theorem ak_hit (h : Ow t sb M) (hk : 1 ≤ k ∧ k ≤ 3) (hi : 1 ≤ i ∧ i ≤ 3) (h0 : 0 < vA t k i) : Ow (t.outT { kind := kdI k, id := i }).2 sb (M.set ((k - 1).toNat * 4 + i.toNat) (vA t k i - 1)) := by
  rw [out_ak h hk]
  unfold Tr.payT
  rw [if_neg (show ¬ (lk t.owed (kdI k, i)).getD 0 = 0 from fun c => by have : vA t k i = 0 := c; omega)]
  exact ow_put h hk hi _
theorem ak_miss (h : Ow t sb M) (hk : 1 ≤ k ∧ k ≤ 3) (hi : 1 ≤ i ∧ i ≤ 3) (h0 : vA t k i = 0) : Ow (t.outT { kind := kdI k, id := i }).2 sb M := by
  rw [out_ak h hk]
  unfold Tr.payT
  rw [if_pos (show (lk t.owed (kdI k, i)).getD 0 = 0 from h0)]
  exact h
theorem kd_cell3 (Bg : Blk W g 3 #[.int .i64 4, .int .i64 5, .int .i64 7]) (h : 1 ≤ k ∧ k ≤ 3) : W.cell? ⟨g, 0 + (k - 1).toNat * 1, none⟩ = some (.int .i64 (kdI k)) := by
  have a : k = 1 ∨ k = 2 ∨ k = 3 := by omega
  rcases a with rfl | rfl | rfl <;> exact Bg.cl rfl
theorem sum_strike {E : List ((Int × Int) × Int)} (hd : (E.map (·.1)).Nodup) (k : Int × Int) : (E.map (·.2)).sum = (lk E k).getD 0 + ((strike E k).map (·.2)).sum := by
  cases h : lk E k with
  | none => rw [strike_none h]; simp
  | some u =>
    have := lk_some h
    clear h
    induction E with
    | nil => cases this
    | cons p q ih =>
      rw [List.map_cons, List.nodup_cons] at hd
      unfold strike
      rw [List.filter_cons]
      by_cases e : p.1 = k
      · have hr : (q.filter fun p => !decide (p.1 = k)) = q := by
          rw [List.filter_eq_self]
          intro z hz
          have : z.1 ≠ k := fun c => hd.1 (List.mem_map.2 ⟨z, hz, c.trans e.symm⟩)
          simpa using this
        have hpu : p = (k, u) := by
          rcases List.mem_cons.1 this with h | h
          · exact h.symm
          exact absurd (List.mem_map.2 ⟨_, h, e.symm⟩) hd.1
        rw [if_neg (by simp [e]), hr, hpu]
        simp
      have hm : (k, u) ∈ q := by
        rcases List.mem_cons.1 this with h | h
        · rw [← h] at e; exact absurd rfl e
        exact h
      rw [if_pos (by simp [e]), List.map_cons, List.sum_cons, List.map_cons, List.sum_cons, ih hd.2 hm]
      unfold strike
      simp only [Option.getD_some]
      omega
theorem sum_keys : ∀ (KL : List (Int × Int)) (E : List ((Int × Int) × Int)), KL.Nodup → (E.map (·.1)).Nodup → (∀ p ∈ E, p.1 ∈ KL) → (E.map (·.2)).sum = (KL.map fun k => (lk E k).getD 0).sum := by
  intro KL
  induction KL with
  | nil =>
    intro E _ _ h
    cases E with
    | nil => rfl
    | cons p q => exact absurd (h p List.mem_cons_self) (by simp)
  | cons k q ih =>
    intro E hn hd h
    rw [List.nodup_cons] at hn
    rw [sum_strike hd k, ih (strike E k) hn.2 (strike_nodup hd k) (fun p hp => by
      have h1 := List.mem_filter.1 hp
      rcases List.mem_cons.1 (h p h1.1) with e | e
      · simp [e] at h1
      exact e), List.map_cons, List.sum_cons]
    congr 2
    apply List.map_congr_left
    intro z hz
    rw [lk_strike_other E (fun c : z = k => hn.1 (by rw [← c]; exact hz))]
theorem ow_end (h : Ow t sb M) (hd : (t.owed.map (·.1)).Nodup) : t.owedI = sb.length + partA t 3 := by
  have hs := sum_keys [(4, 1), (4, 2), (4, 3), (5, 1), (5, 2), (5, 3), (7, 1), (7, 2), (7, 3)] t.owed (by decide) hd fun p hp => by
    obtain ⟨k, i, hk, hi, e⟩ := h.ks p hp
    have a : k = 1 ∨ k = 2 ∨ k = 3 := by omega
    have b : i = 1 ∨ i = 2 ∨ i = 3 := by omega
    rw [e]
    rcases a with rfl | rfl | rfl <;> rcases b with rfl | rfl | rfl <;> decide
  unfold Tr.owedI
  rw [hs, h.su, h.un]
  simp [partA, rowA, vA, kdI]
  omega
end
set_option maxRecDepth 100000 in
set_option maxHeartbeats 4000000 in
theorem owes_any (l : List Int) (Al : Option Addr) (cl : Nat) (w : World) (SLl : Sl w Al l.length 1 (l.map (Value.int .u8))) (hbl : ∀ x ∈ l, 0 ≤ x ∧ x ≤ 255) (hll : l.length ≤ maxLen) : Calls Try.prog 4 #[.slice Al l.length cl] w (fun e w' => Kept [] w w' ∧ e = .returned (.bool true)) := by
 have HK : Kept [] w w := Kept.refl [] w
 unfold maxLen at hll
 refine C.enter Try.func4 rfl Try.ntmps4 rfl ?_
 intro a0 f0
 have f1 : Fr 154 a0 [(0, .slice Al l.length cl)] := f0
 refine C.sk fun K0 hK0 => ?_
 refine L.ag f1 fun a2 f2 => ?_
 refine wpList_nil (hK0 _ _ ?_)
 have f3 := f2.sub (sc 0 sn)
 refine wp_seq_k fun K1 hK1 => ?_
 refine C.sk fun K2 hK2 => ?_
 refine L.cl f3 (run_call Try.call6 (args0 f3)) (known_any _) ?_
 clear f0 f1 a0 f2
 rintro e w1 ⟨kc1, rfl⟩
 refine ⟨_, rfl, fun a4 f4 => ?_⟩
 have szw1 := kc1.size
 replace HK := HK.trans kc1 (by simp)
 clear f3 a2 kc1
 have f5 := f4.as (i := 13) (v' := .bool true) rfl (by rfl)
 refine L.va f5 (E.not f5 rfl) fun a6 f6 => ?_
 refine wpList_nil (hK2 _ _ ?_)
 have f7 := f6.sub (sc 0 (sc 14 sn))
 refine C.condF f7 rfl ?_
 refine wp_skip (hK1 _ _ ?_)
 have f8 := f7.sub (sc 0 sn)
 refine wp_seq_k fun K3 hK3 => ?_
 refine C.sk fun K4 hK4 => ?_
 refine L.mv f8 fun a9 f9 => ?_
 refine L.va f9 (E.lenL f9 Try.underlying28 rfl) fun a10 f10 => ?_
 refine L.va f10 (E.gtr f10 rfl rfl) fun a11 f11 => ?_
 refine wpList_nil (hK4 _ _ ?_)
 have f12 := f11.sub (sc 0 (sc 17 sn))
 clear f4 f5 a4 f6 f7 f8 a6 f9 a9 f10 a10 f11
 refine f12.splitD 17 rfl (fun h0 f13 => ?_) (fun h0 f13 => ?_)
 ·refine C.condT f13 rfl ?_
  refine C.sk fun K5 hK5 => ?_
  refine L.ag f13 fun a14 f14 => ?_
  refine wpList_nil (hK5 _ _ ?_)
  have f15 := f14.sub (sc 2 sn)
  refine wp_ret ?_
  try simp only [Exit.inBlock, Exit.then]
  refine C.ret (P := Try.prog) (fn := Try.f4) f15 rfl rfl ?_
  exact ⟨HK, rfl⟩
 refine C.condF f13 rfl ?_
 refine wp_skip (hK3 _ _ ?_)
 have f14 := f13.sub (sc 0 sn)
 refine C.sk fun K6 hK6 => ?_
 refine L.cl f14 (run_call Try.call18 (args0 f14)) (greeted_any _) ?_
 clear f12 f13
 rintro e w2 ⟨g, m0, rfl, T, hn2, kc2⟩
 replace T := T.base HK.size
 refine ⟨_, rfl, fun a15 f15 => ?_⟩
 have szw2 := kc2.size
 replace HK := HK.trans kc2 (by simp)
 clear f14 a11 kc2
 refine L.ag f15 fun a16 f16 => ?_
 refine wpList_nil (hK6 _ _ ?_)
 have f17 := f16.sub (sc 0 (sc 3 sn))
 refine C.sk fun K7 hK7 => ?_
 refine L.ag f17 fun a18 f18 => ?_
 refine wpList_nil (hK7 _ _ ?_)
 have f19 := f18.sub (sc 0 (sc 3 (sc 4 sn)))
 refine C.sk fun K8 hK8 => ?_
 refine L.alloc f19 wantedN (by decide) (z := (.agg #[(.int .i64 0), (.int .i64 0), (.int .i64 0), (.int .i64 0), (.int .i64 0), (.int .i64 0), (.int .i64 0), (.int .i64 0), (.int .i64 0), (.int .i64 0), (.int .i64 0), (.int .i64 0)])) (fun _ => by kernel_rfl) rfl fun a20 w3 g2 N2 f20 => ?_
 have Bg2 := N2.blk
 have kg2 := N2.kept
 have log2 := N2.lo
 have ltg2 := Bg2.lt
 have szw3 := kg2.size
 have frg2 : w.heap.size ≤ g2 := Nat.le_trans HK.size log2
 have NF0 : g2 ∉ m0.fp g := fun h => by have := T.fp_lt _ h; omega
 replace HK := HK.trans kg2 (by simp)
 replace T := T.kept0 kg2
 clear f15 a15 f16 f17 a16 f18 N2 kg2
 refine wpList_nil (hK8 _ _ ?_)
 have f21 := f20.sub (sc 0 (sc 3 (sc 4 (sc 5 sn))))
 refine wp_seq_k fun K9 hK9 => ?_
 refine C.sk fun K10 hK10 => ?_
 refine L.ag f21 fun a22 f22 => ?_
 refine wpList_nil (hK10 _ _ ?_)
 have f23 := f22.sub (sc 0 (sc 3 (sc 4 (sc 5 (sc 6 sn)))))
 refine wp_block ?_
 obtain ⟨gar, hgar⟩ : ∃ gar, gar = g2 := ⟨_, rfl⟩
 clear f19 a18 f20 f21 a20 f22
 subst hgar
 have BA : Blk w3 gar 44 ((List.replicate 12 (0 : Int)).map (Value.int .i64)).toArray := Bg2
 refine C.loop (fun gk a W => ∃ (i : Int) (t : Tr) (m : TrM) (sb : List Int) (A : List Int) (sA : Option Addr) (scp : Nat), 0 ≤ i ∧ i + gk = l.length ∧ m.n ≤ i + 2 ∧ sb.length ≤ i ∧ Kept [] w W ∧ TrIn w.heap.size W g t m ∧ gar ∉ m.fp g ∧ Blk W gar 44 (A.map (Value.int .i64)).toArray ∧ Own W 3 1 (.slice sA sb.length scp) sb.length (sb.map (Value.int .i64)) ∧ (∀ b, sA.map (·.block) = some b → w.heap.size ≤ b) ∧ (∀ y ∈ m.subs, ∀ b, y.2.ca.map (·.block) = some b → sA.map (·.block) ≠ some b) ∧ Ow t sb A ∧ Fr 154 a [(0, .slice Al l.length cl), (3, .pointer (some ⟨g, 0, none⟩)), (4, .slice sA sb.length scp), (5, .pointer (some ⟨gar, 0, none⟩)), (6, .int .i64 i)]) (l.length) ?_ ?_
 ·exact ⟨0, trG, m0, [], List.replicate 12 0, none, 0, by omega, by omega, by omega, by simp, HK, T, NF0, BA, Own.nil _ _ _, fun b hb => by simp at hb, fun y _ b _ h => by simp at h, ow_start, f23.sub (sub_cons rfl (sub_cons rfl (sub_cons rfl (sub_cons rfl (sub_cons rfl sn)))))⟩
 intro gk12 a24 w4 hI KL11 hKL11
 obtain ⟨i, t, m, sb, A, sA, scp, hi0, hik, hmn, hsl, HK, T, NF, BA, OS, lo3, CA, hO, f24⟩ := hI
 try clear f23
 have szl := HK.size
 refine wp_seq_k fun K12 hK12 => ?_
 refine C.sk fun K13 hK13 => ?_
 refine L.mv f24 fun a25 f25 => ?_
 refine L.mv f25 fun a26 f26 => ?_
 refine L.va f26 (E.lenL f26 Try.underlying28 rfl) fun a27 f27 => ?_
 refine L.va f27 (E.lss f27 rfl rfl) fun a28 f28 => ?_
 refine wpList_nil (hK13 _ _ ?_)
 have f29 := f28.sub (sc 0 (sc 3 (sc 4 (sc 5 (sc 6 (sc 22 sn))))))
 clear f24 a24 f25 a25 f26 a26 f27 a27 f28
 refine f29.splitD 22 rfl (fun h1 f30 => ?_) (fun h1 f30 => ?_)
 ·have hs22 := h1
  refine C.condT f30 rfl ?_
  refine wp_skip (hK12 _ _ ?_)
  have f31 := f30.sub (sc 0 (sc 3 (sc 4 (sc 5 (sc 6 sn)))))
  refine wp_seq_k fun K14 hK14 => ?_
  refine wp_block ?_
  refine wp_seq_k fun K15 hK15 => ?_
  obtain ⟨x, hx⟩ : ∃ x, l[i.toNat]? = some x := ⟨l[i.toNat]'(by omega), List.getElem?_eq_getElem _⟩
  have hbx := hbl x (List.mem_of_getElem? hx)
  obtain ⟨bk, off, hB⟩ := Sl.addr SLl (by omega)
  have hd11 : Kept [] w4 (w4.drewN 1) := (Kept.refl _ _).drewN 1
  refine R.beginT (S := fun W => (Kept [] w W) ∧ (Blk W gar 44 (A.map (Value.int .i64)).toArray)) (by kernel_rfl) (by kernel_rfl) ⟨HK.trans hd11 (by simp), BA.kept hd11 (by simp)⟩ fun ht => ?_
  obtain ⟨w5, hww5⟩ : ∃ W, W = w4.drewN 1 := ⟨_, rfl⟩
  rw [← hww5] at hd11 ⊢
  clear f29 f30 hww5
  have szw5 := hd11.size
  replace HK := HK.trans hd11 (by simp)
  replace T := T.kept0 hd11
  replace BA := BA.kept hd11 (by simp)
  replace OS := Own.kept OS hd11 (by simp)
  clear hd11
  refine R.u 0 f31 rfl ht ⟨HK, BA⟩ (fun W hW => (E.move f31 rfl)) fun a32 f32 => ?_
  refine R.u 1 f32 rfl ht ⟨HK, BA⟩ (fun W hW => (E.move f32 rfl)) fun a33 f33 => ?_
  refine R.u 2 f33 rfl ht ⟨HK, BA⟩ (fun W hW => (E.indexA f33 (by assumption) Try.underlying28 wsz5_ts rfl rfl (by omega) (by omega))) fun a34 f34 => ?_
  refine R.u 3 f34 rfl ht ⟨HK, BA⟩ (fun W hW => (by exact E.load f34 Try.underlying5 rfl rfl (ys_cell (SLl.kept hW.1) hB hx))) fun a35 f35 => ?_
  refine R.u 4 f35 rfl ht ⟨HK, BA⟩ (fun W hW => (E.rem f35 rfl rfl (by omega) (Int.tmod_eq_emod_of_nonneg (by omega)))) fun a36 f36 => ?_
  refine R.u 5 f36 rfl ht ⟨HK, BA⟩ (fun W hW => (E.conv f36 Try.underlying5 Try.underlying3 rfl (IntWalk.i64_in _ (by omega)))) fun a37 f37 => ?_
  refine R.u 6 f37 rfl ht ⟨HK, BA⟩ (fun W hW => (E.add f37 rfl rfl (IntWalk.i64_in _ (by omega)))) fun a38 f38 => ?_
  clear f31 a28 f32 a32 f33 a33 f34 a34 f35 a35 f36 a36 f37 a37
  refine R.u 7 f38 rfl ht ⟨HK, BA⟩ (fun W hW => (E.move f38 rfl)) fun a39 f39 => ?_
  refine R.u 8 f39 rfl ht ⟨HK, BA⟩ (fun W hW => (E.move f39 rfl)) fun a40 f40 => ?_
  refine R.u 9 f40 rfl ht ⟨HK, BA⟩ (fun W hW => (E.indexA f40 (by assumption) Try.underlying28 wsz5_ts rfl rfl (by omega) (by omega))) fun a41 f41 => ?_
  refine R.u 10 f41 rfl ht ⟨HK, BA⟩ (fun W hW => (by exact E.load f41 Try.underlying5 rfl rfl (ys_cell (SLl.kept hW.1) hB hx))) fun a42 f42 => ?_
  refine R.u 11 f42 rfl ht ⟨HK, BA⟩ (fun W hW => (E.quo f42 rfl rfl (by omega) (IntWalk.u8_quo _ _ ⟨by omega, by omega, by omega⟩))) fun a43 f43 => ?_
  refine R.u 12 f43 rfl ht ⟨HK, BA⟩ (fun W hW => (E.rem f43 rfl rfl (by omega) (Int.tmod_eq_emod_of_nonneg (by omega)))) fun a44 f44 => ?_
  refine R.u 13 f44 rfl ht ⟨HK, BA⟩ (fun W hW => (E.conv f44 Try.underlying5 Try.underlying3 rfl (IntWalk.i64_in _ (by omega)))) fun a45 f45 => ?_
  clear f38 a38 f39 a39 f40 a40 f41 a41 f42 a42 f43 a43 f44 a44
  refine R.u 14 f45 rfl ht ⟨HK, BA⟩ (fun W hW => (E.assign f45 rfl)) fun a46 f46 => ?_
  refine R.u 15 f46 rfl ht ⟨HK, BA⟩ (fun W hW => (E.assign f46 rfl)) fun a47 f47 => ?_
  refine R.done (by kernel_rfl) (hK15 _ _ ?_)
  have f48 := f47.sub (sc 0 (sc 3 (sc 4 (sc 5 (sc 6 (sc 7 (sc 8 sn)))))))
  refine wp_seq_k fun K16 hK16 => ?_
  refine wp_seq_k fun K17 hK17 => ?_
  have hv := vA_le T.len.2.2.2.2.2 (x / 3 % 4) (x % 3 + 1)
  refine C.region ?_
  refine L.mv f48 fun a49 f49 => ?_
  refine L.mv f49 fun a50 f50 => ?_
  refine L.va f50 (E.indexA f50 (by assumption) Try.underlying28 wsz5_ts rfl rfl (by omega) (by omega)) fun a51 f51 => ?_
  refine L.va f51 (by exact E.load f51 Try.underlying5 rfl rfl (ys_cell (SLl.kept HK) hB hx)) fun a52 f52 => ?_
  refine L.va f52 (E.lss f52 rfl rfl) fun a53 f53 => ?_
  clear f45 a45 f46 a46 f47 f48 a47 f49 a49 f50 a50 f51 a51 f52 a52
  refine wpList_nil (hK17 _ _ ?_)
  have f54 := f53.sub (sc 0 (sc 3 (sc 4 (sc 5 (sc 6 (sc 7 (sc 8 (sc 43 sn))))))))
  clear f53
  refine f54.splitD 43 rfl (fun h2 f55 => ?_) (fun h2 f55 => ?_)
  ·have hs43 := h2
   refine C.condT f55 rfl ?_
   refine wp_seq_k fun K18 hK18 => ?_
   refine C.sk fun K19 hK19 => ?_
   refine L.mv f55 fun a56 f56 => ?_
   refine wpList_nil (hK19 _ _ ?_)
   have f57 := f56.sub (sc 0 (sc 3 (sc 4 (sc 5 (sc 6 (sc 7 (sc 8 (sc 44 sn))))))))
   refine wp_block ?_
   refine C.sk fun K20 hK20 => ?_
   refine L.va f57 (E.eq f57) fun a58 f58 => ?_
   refine L.ag f58 fun a59 f59 => ?_
   refine wpList_nil (hK20 _ _ ?_)
   have f60 := f59.sub (sc 0 (sc 3 (sc 4 (sc 5 (sc 6 (sc 7 (sc 8 (sc 44 (sc 49 sn)))))))))
   clear f54 f55 a53 f56 f57 a56 f58 a58 f59
   refine f60.splitD 49 rfl (fun h3 f61 => ?_) (fun h3 f61 => ?_)
   ·have hs49 := h3
    refine C.condT f61 rfl ?_
    refine C.sk fun K21 hK21 => ?_
    refine L.mv f61 fun a62 f62 => ?_
    refine L.mv f62 fun a63 f63 => ?_
    refine L.va f63 (E.build f63 (parts2 f63 rfl rfl) (wbl46_0_1_ts _ _)) fun a64 f64 => ?_
    refine L.buildSlice f64 wantedN (by decide) (parts1 f64 rfl) Try.underlying31 wzi46_ts rfl rfl (wbs31_1_ts _ _) fun a65 w6 g5 N5 f65 => ?_
    have Bg5 := N5.blk
    have kg5 := N5.kept
    have log5 := N5.lo
    have ltg5 := Bg5.lt
    have szw6 := kg5.size
    have frg5 : w.heap.size ≤ g5 := Nat.le_trans HK.size log5
    have negar_g5 : gar ≠ g5 := by have := BA.lt; omega
    replace HK := HK.trans kg5 (by simp)
    replace T := T.kept0 kg5
    replace BA := BA.kept kg5 (by simp)
    replace OS := Own.kept OS kg5 (by simp)
    clear f60 f61 a59 f62 a62 f63 a63 N5 kg5
    refine L.va f65 (E.build f65 (parts3 f65 rfl rfl rfl) (wbl34_0_4_19_ts _ _ _ _ _)) fun a66 f66 => ?_
    have lo0 := T.lo
    have npk0 := T.noPk
    have ltp := BA.lt
    have lt3 := own_lt OS
    have hid : (Lit.int .i64 (x % 3 + 1)).wf = true := wf_small (by omega) (by omega)
    refine L.cl f66 (run_call Try.call12 (args2 f66 rfl rfl)) (in_any ({ kind := 8, id := x % 3 + 1, subs := [(⟨#[97]⟩, 1)] } : Pk) ({ s0 with ua := some ⟨g5, 0, none⟩, uc := 1 } : Ad) hid w.heap.size g t m _ T (by omega) (sub_o Bg5) (len_sub _)) ?_
    clear f64 a64 f65 a65
    rintro e w7 ⟨rfl, m2, T2, up2, kc7, nw2, su2⟩
    refine ⟨_, rfl, fun a67 f67 => ?_⟩
    have szw7 := kc7.size
    replace HK := HK.trans kc7 (fun x hx hlt => by have := lo0 x hx; omega)
    replace BA := BA.kept kc7 NF
    replace OS := own_blkL OS kc7 (fun y hy hlt ht => npk0 y hy hlt (ht.mono (by simp)))
    clear f66 a66 kc7
    have NF2 : gar ∉ m2.fp g := fun h => (nw2 _ h).elim NF (fun h => by omega)
    have CA2 : ∀ y ∈ m2.subs, ∀ b, y.2.ca.map (·.block) = some b → sA.map (·.block) ≠ some b := ca_step CA su2 lt3
    refine wpList_nil (hK21 _ _ ?_)
    have f68 := f67.sub (sc 0 (sc 3 (sc 4 (sc 5 (sc 6 (sc 7 sn))))))
    refine wp_seq_k fun K22 hK22 => ?_
    have hO2 : Ow (t.inT ({ kind := 8, id := x % 3 + 1, subs := [(⟨#[97]⟩, 1)] } : Pk)) (sb ++ [x % 3 + 1]) A := ow_sub hO
    refine C.region ?_
    refine L.mv f68 fun a69 f69 => ?_
    refine L.mv f69 fun a70 f70 => ?_
    refine L.buildSlice f70 wantedN (by decide) (parts1 f70 rfl) Try.underlying32 wzi3_ts rfl rfl (wbs32_1_ts _) fun a71 w8 g7 N7 f71 => ?_
    have Bg7 := N7.blk
    have kg7 := N7.kept
    have log7 := N7.lo
    have ltg7 := Bg7.lt
    have szw8 := kg7.size
    have frg7 : w.heap.size ≤ g7 := Nat.le_trans HK.size log7
    have negar_g7 : gar ≠ g7 := by have := BA.lt; omega
    replace HK := HK.trans kg7 (by simp)
    replace BA := BA.kept kg7 (by simp)
    replace OS := Own.kept OS kg7 (by simp)
    replace T2 := T2.kept0 kg7
    clear f67 f68 a67 f69 a69 N7 kg7
    refine L.append f71 wantedN (by decide) Try.underlying32 wzib3_ts rfl rfl rfl rfl (OS) (Bg7.slN (n := 1) (size := 1) rfl) (fun u hu => by simp at hu; subst hu; rfl) (by unfold maxLen; omega) (by omega) fun a72 w9 A9 c9 AP9 f72 => ?_
    have kap9 := AP9.kept
    have OS2 : Own w9 3 1 (.slice A9 (sb ++ [x % 3 + 1]).length c9) (sb ++ [x % 3 + 1]).length ((sb ++ [x % 3 + 1]).map (Value.int .i64)) := by simpa using AP9.own
    have hwh := AP9.where_
    have lo3n : ∀ b, A9.map (·.block) = some b → w.heap.size ≤ b := fun b hb => (hwh b hb).elim (fun h => lo3 b h) (fun h => Nat.le_trans HK.size h)
    have CA3 : ∀ y ∈ m2.subs, ∀ b, y.2.ca.map (·.block) = some b → A9.map (·.block) ≠ some b := ca_grow T2 CA2 hwh
    replace lo3 : ∀ x ∈ (Value.slice sA sb.length scp).ownBlock.toList, w.heap.size ≤ x := fun x hx => lo3 x ((own_block _ _ _ _).1 (by simpa using hx))
    have szw9 := kap9.size
    replace HK := HK.trans kap9 (fun x hx hlt => by have := lo3 x hx; omega)
    replace BA := BA.kept kap9 (own_ne OS BA (by decide))
    replace T2 := T2.keptS OS kap9 CA2 hO2.ou
    clear f70 a70 f71 a71 kap9
    refine L.ag f72 fun a73 f73 => ?_
    refine wpList_nil (hK22 _ _ ?_)
    have f74 := f73.sub (sc 0 (sc 3 (sc 4 (sc 5 (sc 6 sn)))))
    refine wp_exit (hK14 _ _ ?_)
    have f75 := f74.sub (sc 0 (sc 3 (sc 4 (sc 5 (sc 6 sn)))))
    refine C.region ?_
    refine L.mv f75 fun a76 f76 => ?_
    refine L.va f76 (E.add f76 rfl rfl (IntWalk.i64_in _ (by omega))) fun a77 f77 => ?_
    refine L.ag f77 fun a78 f78 => ?_
    clear f72 a72 f73 f74 f75 a73 f76 a76 f77 a77
    refine wpList_nil (hKL11 _ _ (gk12 - 1) ?_ ?_)
    ·omega
    exact ⟨i + 1, _, m2, sb ++ [x % 3 + 1], A, A9, c9, by omega, by omega, by omega, by rw [List.length_append, List.length_singleton]; omega, HK, T2, NF2, BA, OS2, lo3n, CA3, hO2, by simpa using f78.sub (sub_cons rfl (sub_cons rfl (sub_cons rfl (sub_cons rfl (sub_cons rfl sn)))))⟩
   have hs49 := h3
   refine C.condF f61 rfl ?_
   refine wp_seq_k fun K23 hK23 => ?_
   refine C.sk fun K24 hK24 => ?_
   refine L.va f61 (E.eq f61) fun a62 f62 => ?_
   refine L.ag f62 fun a63 f63 => ?_
   refine wpList_nil (hK24 _ _ ?_)
   have f64 := f63.sub (sc 0 (sc 3 (sc 4 (sc 5 (sc 6 (sc 7 (sc 8 (sc 44 (sc 61 sn)))))))))
   clear f60 f61 a59 f62 a62 f63
   refine f64.splitD 61 rfl (fun h4 f65 => ?_) (fun h4 f65 => ?_)
   ·have hs61 := h4
    refine C.condT f65 rfl ?_
    refine wp_skip (hK23 _ _ ?_)
    have f66 := f65.sub (sc 0 (sc 3 (sc 4 (sc 5 (sc 6 (sc 7 (sc 8 (sc 61 sn))))))))
    refine C.condT f66 rfl ?_
    have hk12 : x / 3 % 4 = 1 ∨ x / 3 % 4 = 2 := by omega
    refine C.region ?_
    refine L.mv f66 fun a67 f67 => ?_
    refine L.mv f67 fun a68 f68 => ?_
    refine L.mv f68 fun a69 f69 => ?_
    refine L.va f69 (E.build f69 (parts4 f69 rfl rfl rfl rfl) (wbl34_0_5_3_4_ts _ _ _ _)) fun a70 f70 => ?_
    have lo0 := T.lo
    have npk0 := T.noPk
    have ltp := BA.lt
    have lt3 := own_lt OS
    have hid : (Lit.int .i64 (x % 3 + 1)).wf = true := wf_small (by omega) (by omega)
    refine L.cl f70 (run_call Try.call12 (args2 f70 rfl rfl)) (in_any ({ kind := 3, qos := x / 3 % 4, id := x % 3 + 1, topic := ⟨#[97]⟩ } : Pk) s0 hid w.heap.size g t m _ T (by omega) (flat_o _ _ ⟨rfl, rfl, rfl, rfl, rfl⟩) (len_pb _ _)) ?_
    clear f64 f65 f66 a63 f67 a67 f68 a68 f69 a69
    rintro e w6 ⟨rfl, m2, T2, up2, kc6, nw2, su2⟩
    refine ⟨_, rfl, fun a71 f71 => ?_⟩
    have szw6 := kc6.size
    replace HK := HK.trans kc6 (fun x hx hlt => by have := lo0 x hx; omega)
    replace BA := BA.kept kc6 NF
    replace OS := own_blkL OS kc6 (fun y hy hlt ht => npk0 y hy hlt (ht.mono (by simp)))
    clear f70 a70 kc6
    have NF2 : gar ∉ m2.fp g := fun h => (nw2 _ h).elim NF (fun h => by omega)
    have CA2 : ∀ y ∈ m2.subs, ∀ b, y.2.ca.map (·.block) = some b → sA.map (·.block) ≠ some b := ca_step CA su2 lt3
    refine wpList_nil (hK18 _ _ ?_)
    have f72 := f71.sub (sc 0 (sc 3 (sc 4 (sc 5 (sc 6 (sc 7 (sc 8 sn)))))))
    refine wp_seq_k fun K25 hK25 => ?_
    have hO2 : Ow (t.inT ({ kind := 3, qos := x / 3 % 4, id := x % 3 + 1, topic := ⟨#[97]⟩ } : Pk)) sb (A.set ((x / 3 % 4 - 1).toNat * 4 + (x % 3 + 1).toNat) (vA t (x / 3 % 4) (x % 3 + 1) + 1)) := ow_pub hO hk12 ⟨by omega, by omega⟩
    have hd21 : Kept [] w6 (w6.drewN 1) := (Kept.refl _ _).drewN 1
    refine R.beginT (S := fun _ => True) (by kernel_rfl) (by kernel_rfl) trivial fun ht => ?_
    obtain ⟨w7, hww7⟩ : ∃ W, W = w6.drewN 1 := ⟨_, rfl⟩
    rw [← hww7] at hd21 ⊢
    clear f71 hww7
    have szw7 := hd21.size
    replace HK := HK.trans hd21 (by simp)
    replace BA := BA.kept hd21 (by simp)
    replace OS := Own.kept OS hd21 (by simp)
    replace T2 := T2.kept0 hd21
    clear hd21
    refine R.u 0 f72 rfl ht trivial (fun W hW => (E.move f72 rfl)) fun a73 f73 => ?_
    refine R.u 1 f73 rfl ht trivial (fun W hW => (E.sub f73 rfl rfl (IntWalk.i64_in _ (by omega)))) fun a74 f74 => ?_
    refine R.u 2 f74 rfl ht trivial (fun W hW => (E.move f74 rfl)) fun a75 f75 => ?_
    refine R.u 3 f75 rfl ht trivial (fun W hW => (E.indexArr f75 Try.underlying44 wsz43_ts rfl rfl (by omega) (by omega))) fun a76 f76 => ?_
    refine R.u 4 f76 rfl ht trivial (fun W hW => (E.indexArr f76 Try.underlying43 wsz3_ts rfl rfl (by omega) (by omega))) fun a77 f77 => ?_
    refine R.u 7 f77 rfl ht trivial (fun W hW => (E.indexArr f77 Try.underlying44 wsz43_ts rfl rfl (by omega) (by omega))) fun a78 f78 => ?_
    refine R.one 5 (by kernel_rfl) ?_
    refine O.val f78 rfl rfl (by decide) wantedN (E.load f78 Try.underlying3 rfl rfl (BA.cl (hO.cell ⟨by omega, by omega⟩ ⟨by omega, by omega⟩))) trivial fun a79 f79 => ?_
    clear f72 a71 f73 a73 f74 a74 f75 a75 f76 a76 f77 a77 f78 a78
    refine R.u 6 f79 rfl ht trivial (fun W hW => (E.add f79 rfl rfl (IntWalk.i64_in _ (by omega)))) fun a80 f80 => ?_
    refine R.u 8 f80 rfl ht trivial (fun W hW => (E.indexArr f80 Try.underlying43 wsz3_ts rfl rfl (by omega) (by omega))) fun a81 f81 => ?_
    refine R.one 9 (by kernel_rfl) ?_
    refine OT.store f81 rfl wantedN wsz3_ts rfl rfl rfl BA (ow_in hO ⟨by omega, by omega⟩ ⟨by omega, by omega⟩) fun a82 w8 f82 NB ks => ?_
    have szw8 := ks.size
    have BA2 := ow_set NB
    replace HK := HK.trans ks (fun x hx hlt => by obtain rfl := List.mem_singleton.1 hx; exfalso; omega)
    replace OS := own_kept1 OS ks BA (by decide)
    replace T2 := T2.keptX ks NF2 (NoPk.blk BA (by decide))
    clear f79 a79 f80 a80 f81 a81 ks NB BA
    refine R.done (by kernel_rfl) (hK25 _ _ ?_)
    have f83 := f82.sub (sc 0 (sc 3 (sc 4 (sc 5 (sc 6 sn)))))
    refine wp_exit (hK14 _ _ ?_)
    have f84 := f83.sub (sc 0 (sc 3 (sc 4 (sc 5 (sc 6 sn)))))
    refine C.region ?_
    refine L.mv f84 fun a85 f85 => ?_
    refine L.va f85 (E.add f85 rfl rfl (IntWalk.i64_in _ (by omega))) fun a86 f86 => ?_
    refine L.ag f86 fun a87 f87 => ?_
    clear f82 f83 f84 a82 f85 a85 f86 a86
    refine wpList_nil (hKL11 _ _ (gk12 - 1) ?_ ?_)
    ·omega
    exact ⟨i + 1, _, m2, sb, A.set ((x / 3 % 4 - 1).toNat * 4 + (x % 3 + 1).toNat) _, sA, scp, by omega, by omega, by omega, by omega, HK, T2, NF2, BA2, OS, lo3, CA2, hO2, f87.sub (sub_cons rfl (sub_cons rfl (sub_cons rfl (sub_cons rfl (sub_cons rfl sn)))))⟩
   have hs61 := h4
   refine C.condF f65 rfl ?_
   refine C.region ?_
   refine L.va f65 (E.eq f65) fun a66 f66 => ?_
   refine L.ag f66 fun a67 f67 => ?_
   refine wpList_nil (hK23 _ _ ?_)
   have f68 := f67.sub (sc 0 (sc 3 (sc 4 (sc 5 (sc 6 (sc 7 (sc 8 (sc 61 sn))))))))
   clear f64 f65 a63 f66 a66 f67
   refine f68.splitD 61 rfl (fun h5 f69 => ?_) (fun h5 f69 => ?_)
   ·have hs61 := h5
    refine C.condT f69 rfl ?_
    have hk12 : x / 3 % 4 = 1 ∨ x / 3 % 4 = 2 := by omega
    refine C.region ?_
    refine L.mv f69 fun a70 f70 => ?_
    refine L.mv f70 fun a71 f71 => ?_
    refine L.mv f71 fun a72 f72 => ?_
    refine L.va f72 (E.build f72 (parts4 f72 rfl rfl rfl rfl) (wbl34_0_5_3_4_ts _ _ _ _)) fun a73 f73 => ?_
    have lo0 := T.lo
    have npk0 := T.noPk
    have ltp := BA.lt
    have lt3 := own_lt OS
    have hid : (Lit.int .i64 (x % 3 + 1)).wf = true := wf_small (by omega) (by omega)
    refine L.cl f73 (run_call Try.call12 (args2 f73 rfl rfl)) (in_any ({ kind := 3, qos := x / 3 % 4, id := x % 3 + 1, topic := ⟨#[97]⟩ } : Pk) s0 hid w.heap.size g t m _ T (by omega) (flat_o _ _ ⟨rfl, rfl, rfl, rfl, rfl⟩) (len_pb _ _)) ?_
    clear f68 f69 a67 f70 a70 f71 a71 f72 a72
    rintro e w6 ⟨rfl, m2, T2, up2, kc6, nw2, su2⟩
    refine ⟨_, rfl, fun a74 f74 => ?_⟩
    have szw6 := kc6.size
    replace HK := HK.trans kc6 (fun x hx hlt => by have := lo0 x hx; omega)
    replace BA := BA.kept kc6 NF
    replace OS := own_blkL OS kc6 (fun y hy hlt ht => npk0 y hy hlt (ht.mono (by simp)))
    clear f73 a73 kc6
    have NF2 : gar ∉ m2.fp g := fun h => (nw2 _ h).elim NF (fun h => by omega)
    have CA2 : ∀ y ∈ m2.subs, ∀ b, y.2.ca.map (·.block) = some b → sA.map (·.block) ≠ some b := ca_step CA su2 lt3
    refine wpList_nil (hK18 _ _ ?_)
    have f75 := f74.sub (sc 0 (sc 3 (sc 4 (sc 5 (sc 6 (sc 7 (sc 8 sn)))))))
    refine wp_seq_k fun K26 hK26 => ?_
    have hO2 : Ow (t.inT ({ kind := 3, qos := x / 3 % 4, id := x % 3 + 1, topic := ⟨#[97]⟩ } : Pk)) sb (A.set ((x / 3 % 4 - 1).toNat * 4 + (x % 3 + 1).toNat) (vA t (x / 3 % 4) (x % 3 + 1) + 1)) := ow_pub hO hk12 ⟨by omega, by omega⟩
    have hd21 : Kept [] w6 (w6.drewN 1) := (Kept.refl _ _).drewN 1
    refine R.beginT (S := fun _ => True) (by kernel_rfl) (by kernel_rfl) trivial fun ht => ?_
    obtain ⟨w7, hww7⟩ : ∃ W, W = w6.drewN 1 := ⟨_, rfl⟩
    rw [← hww7] at hd21 ⊢
    clear f74 hww7
    have szw7 := hd21.size
    replace HK := HK.trans hd21 (by simp)
    replace BA := BA.kept hd21 (by simp)
    replace OS := Own.kept OS hd21 (by simp)
    replace T2 := T2.kept0 hd21
    clear hd21
    refine R.u 0 f75 rfl ht trivial (fun W hW => (E.move f75 rfl)) fun a76 f76 => ?_
    refine R.u 1 f76 rfl ht trivial (fun W hW => (E.sub f76 rfl rfl (IntWalk.i64_in _ (by omega)))) fun a77 f77 => ?_
    refine R.u 2 f77 rfl ht trivial (fun W hW => (E.move f77 rfl)) fun a78 f78 => ?_
    refine R.u 3 f78 rfl ht trivial (fun W hW => (E.indexArr f78 Try.underlying44 wsz43_ts rfl rfl (by omega) (by omega))) fun a79 f79 => ?_
    refine R.u 4 f79 rfl ht trivial (fun W hW => (E.indexArr f79 Try.underlying43 wsz3_ts rfl rfl (by omega) (by omega))) fun a80 f80 => ?_
    refine R.u 7 f80 rfl ht trivial (fun W hW => (E.indexArr f80 Try.underlying44 wsz43_ts rfl rfl (by omega) (by omega))) fun a81 f81 => ?_
    refine R.one 5 (by kernel_rfl) ?_
    refine O.val f81 rfl rfl (by decide) wantedN (E.load f81 Try.underlying3 rfl rfl (BA.cl (hO.cell ⟨by omega, by omega⟩ ⟨by omega, by omega⟩))) trivial fun a82 f82 => ?_
    clear f75 a74 f76 a76 f77 a77 f78 a78 f79 a79 f80 a80 f81 a81
    refine R.u 6 f82 rfl ht trivial (fun W hW => (E.add f82 rfl rfl (IntWalk.i64_in _ (by omega)))) fun a83 f83 => ?_
    refine R.u 8 f83 rfl ht trivial (fun W hW => (E.indexArr f83 Try.underlying43 wsz3_ts rfl rfl (by omega) (by omega))) fun a84 f84 => ?_
    refine R.one 9 (by kernel_rfl) ?_
    refine OT.store f84 rfl wantedN wsz3_ts rfl rfl rfl BA (ow_in hO ⟨by omega, by omega⟩ ⟨by omega, by omega⟩) fun a85 w8 f85 NB ks => ?_
    have szw8 := ks.size
    have BA2 := ow_set NB
    replace HK := HK.trans ks (fun x hx hlt => by obtain rfl := List.mem_singleton.1 hx; exfalso; omega)
    replace OS := own_kept1 OS ks BA (by decide)
    replace T2 := T2.keptX ks NF2 (NoPk.blk BA (by decide))
    clear f82 a82 f83 a83 f84 a84 ks NB BA
    refine R.done (by kernel_rfl) (hK26 _ _ ?_)
    have f86 := f85.sub (sc 0 (sc 3 (sc 4 (sc 5 (sc 6 sn)))))
    refine wp_exit (hK14 _ _ ?_)
    have f87 := f86.sub (sc 0 (sc 3 (sc 4 (sc 5 (sc 6 sn)))))
    refine C.region ?_
    refine L.mv f87 fun a88 f88 => ?_
    refine L.va f88 (E.add f88 rfl rfl (IntWalk.i64_in _ (by omega))) fun a89 f89 => ?_
    refine L.ag f89 fun a90 f90 => ?_
    clear f85 f86 f87 a85 f88 a88 f89 a89
    refine wpList_nil (hKL11 _ _ (gk12 - 1) ?_ ?_)
    ·omega
    exact ⟨i + 1, _, m2, sb, A.set ((x / 3 % 4 - 1).toNat * 4 + (x % 3 + 1).toNat) _, sA, scp, by omega, by omega, by omega, by omega, HK, T2, NF2, BA2, OS, lo3, CA2, hO2, f90.sub (sub_cons rfl (sub_cons rfl (sub_cons rfl (sub_cons rfl (sub_cons rfl sn)))))⟩
   have hs61 := h5
   refine C.condF f69 rfl ?_
   have hk3 : x / 3 % 4 = 3 := by omega
   refine C.region ?_
   refine L.mv f69 fun a70 f70 => ?_
   refine L.mv f70 fun a71 f71 => ?_
   refine L.va f71 (E.build f71 (parts2 f71 rfl rfl) (wbl34_0_4_ts _ _)) fun a72 f72 => ?_
   have lo0 := T.lo
   have npk0 := T.noPk
   have ltp := BA.lt
   have lt3 := own_lt OS
   have hid : (Lit.int .i64 (x % 3 + 1)).wf = true := wf_small (by omega) (by omega)
   refine L.cl f72 (run_call Try.call12 (args2 f72 rfl rfl)) (in_any ({ kind := 6, id := x % 3 + 1 } : Pk) s0 hid w.heap.size g t m _ T (by omega) (flat_o _ _ ⟨rfl, rfl, rfl, rfl, rfl⟩) (len_id _ _)) ?_
   clear f68 f69 a67 f70 a70 f71 a71
   rintro e w6 ⟨rfl, m2, T2, up2, kc6, nw2, su2⟩
   refine ⟨_, rfl, fun a73 f73 => ?_⟩
   have szw6 := kc6.size
   replace HK := HK.trans kc6 (fun x hx hlt => by have := lo0 x hx; omega)
   replace BA := BA.kept kc6 NF
   replace OS := own_blkL OS kc6 (fun y hy hlt ht => npk0 y hy hlt (ht.mono (by simp)))
   clear f72 a72 kc6
   have NF2 : gar ∉ m2.fp g := fun h => (nw2 _ h).elim NF (fun h => by omega)
   have CA2 : ∀ y ∈ m2.subs, ∀ b, y.2.ca.map (·.block) = some b → sA.map (·.block) ≠ some b := ca_step CA su2 lt3
   refine wpList_nil (hK18 _ _ ?_)
   have f74 := f73.sub (sc 0 (sc 3 (sc 4 (sc 5 (sc 6 (sc 7 (sc 8 sn)))))))
   refine wp_seq_k fun K27 hK27 => ?_
   have hO2 : Ow (t.inT ({ kind := 6, id := x % 3 + 1 } : Pk)) sb (A.set ((x / 3 % 4 - 1).toNat * 4 + (x % 3 + 1).toNat) (vA t (x / 3 % 4) (x % 3 + 1) + 1)) := ow_rel hO hk3 ⟨by omega, by omega⟩
   have hd21 : Kept [] w6 (w6.drewN 1) := (Kept.refl _ _).drewN 1
   refine R.beginT (S := fun _ => True) (by kernel_rfl) (by kernel_rfl) trivial fun ht => ?_
   obtain ⟨w7, hww7⟩ : ∃ W, W = w6.drewN 1 := ⟨_, rfl⟩
   rw [← hww7] at hd21 ⊢
   clear f73 hww7
   have szw7 := hd21.size
   replace HK := HK.trans hd21 (by simp)
   replace BA := BA.kept hd21 (by simp)
   replace OS := Own.kept OS hd21 (by simp)
   replace T2 := T2.kept0 hd21
   clear hd21
   refine R.u 0 f74 rfl ht trivial (fun W hW => (E.move f74 rfl)) fun a75 f75 => ?_
   refine R.u 1 f75 rfl ht trivial (fun W hW => (E.sub f75 rfl rfl (IntWalk.i64_in _ (by omega)))) fun a76 f76 => ?_
   refine R.u 2 f76 rfl ht trivial (fun W hW => (E.move f76 rfl)) fun a77 f77 => ?_
   refine R.u 3 f77 rfl ht trivial (fun W hW => (E.indexArr f77 Try.underlying44 wsz43_ts rfl rfl (by omega) (by omega))) fun a78 f78 => ?_
   refine R.u 4 f78 rfl ht trivial (fun W hW => (E.indexArr f78 Try.underlying43 wsz3_ts rfl rfl (by omega) (by omega))) fun a79 f79 => ?_
   refine R.u 7 f79 rfl ht trivial (fun W hW => (E.indexArr f79 Try.underlying44 wsz43_ts rfl rfl (by omega) (by omega))) fun a80 f80 => ?_
   refine R.one 5 (by kernel_rfl) ?_
   refine O.val f80 rfl rfl (by decide) wantedN (E.load f80 Try.underlying3 rfl rfl (BA.cl (hO.cell ⟨by omega, by omega⟩ ⟨by omega, by omega⟩))) trivial fun a81 f81 => ?_
   clear f74 a73 f75 a75 f76 a76 f77 a77 f78 a78 f79 a79 f80 a80
   refine R.u 6 f81 rfl ht trivial (fun W hW => (E.add f81 rfl rfl (IntWalk.i64_in _ (by omega)))) fun a82 f82 => ?_
   refine R.u 8 f82 rfl ht trivial (fun W hW => (E.indexArr f82 Try.underlying43 wsz3_ts rfl rfl (by omega) (by omega))) fun a83 f83 => ?_
   refine R.one 9 (by kernel_rfl) ?_
   refine OT.store f83 rfl wantedN wsz3_ts rfl rfl rfl BA (ow_in hO ⟨by omega, by omega⟩ ⟨by omega, by omega⟩) fun a84 w8 f84 NB ks => ?_
   have szw8 := ks.size
   have BA2 := ow_set NB
   replace HK := HK.trans ks (fun x hx hlt => by obtain rfl := List.mem_singleton.1 hx; exfalso; omega)
   replace OS := own_kept1 OS ks BA (by decide)
   replace T2 := T2.keptX ks NF2 (NoPk.blk BA (by decide))
   clear f81 a81 f82 a82 f83 a83 ks NB BA
   refine R.done (by kernel_rfl) (hK27 _ _ ?_)
   have f85 := f84.sub (sc 0 (sc 3 (sc 4 (sc 5 (sc 6 sn)))))
   refine wp_exit (hK14 _ _ ?_)
   have f86 := f85.sub (sc 0 (sc 3 (sc 4 (sc 5 (sc 6 sn)))))
   refine C.region ?_
   refine L.mv f86 fun a87 f87 => ?_
   refine L.va f87 (E.add f87 rfl rfl (IntWalk.i64_in _ (by omega))) fun a88 f88 => ?_
   refine L.ag f88 fun a89 f89 => ?_
   clear f84 f85 f86 a84 f87 a87 f88 a88
   refine wpList_nil (hKL11 _ _ (gk12 - 1) ?_ ?_)
   ·omega
   exact ⟨i + 1, _, m2, sb, A.set ((x / 3 % 4 - 1).toNat * 4 + (x % 3 + 1).toNat) _, sA, scp, by omega, by omega, by omega, by omega, HK, T2, NF2, BA2, OS, lo3, CA2, hO2, f89.sub (sub_cons rfl (sub_cons rfl (sub_cons rfl (sub_cons rfl (sub_cons rfl sn)))))⟩
  have hs43 := h2
  refine C.condF f55 rfl ?_
  refine wp_skip (hK16 _ _ ?_)
  have f56 := f55.sub (sc 0 (sc 3 (sc 4 (sc 5 (sc 6 (sc 7 (sc 8 sn)))))))
  refine wp_seq_k fun K28 hK28 => ?_
  refine C.sk fun K29 hK29 => ?_
  refine L.mv f56 fun a57 f57 => ?_
  refine L.va f57 (E.eq f57) fun a58 f58 => ?_
  refine wpList_nil (hK29 _ _ ?_)
  have f59 := f58.sub (sc 0 (sc 3 (sc 4 (sc 5 (sc 6 (sc 7 (sc 8 (sc 79 sn))))))))
  clear f54 f55 f56 a53 f57 a57 f58
  refine f59.splitD 79 rfl (fun h6 f60 => ?_) (fun h6 f60 => ?_)
  ·have hs79 := h6
   refine C.condT f60 rfl ?_
   refine C.sk fun K30 hK30 => ?_
   refine L.mv f60 fun a61 f61 => ?_
   refine L.va f61 (E.lenL f61 Try.underlying32 rfl) fun a62 f62 => ?_
   refine L.va f62 (E.gtr f62 rfl rfl) fun a63 f63 => ?_
   refine L.mv f63 fun a64 f64 => ?_
   clear f59 f60 a58 f61 a61 f62 a62 f63 a63
   refine f64.splitD 83 rfl (fun h7 f65 => ?_) (fun h7 f65 => ?_)
   ·obtain ⟨a, r, hsb⟩ := List.exists_cons_of_length_pos (show 0 < sb.length by omega)
    clear f64
    subst hsb
    obtain ⟨b3, off3, hA3⟩ := Sl.addr (Sl.of_own OS) (by simp)
    refine L.mv f65 (hw := (f65.yes rfl rfl)) fun a66 f66 => ?_
    refine L.va f66 (E.indexA f66 hA3 Try.underlying32 wsz3_ts rfl rfl (by decide) (by simp)) (hw := (f66.yes rfl rfl)) fun a67 f67 => ?_
    refine L.va f67 (E.load f67 Try.underlying3 rfl rfl (head_cell OS hA3)) (hw := (f67.yes rfl rfl)) fun a68 f68 => ?_
    refine L.mv f68 (hw := (f68.yes rfl rfl)) fun a69 f69 => ?_
    refine L.va f69 (E.eq f69) (hw := (f69.yes rfl rfl)) fun a70 f70 => ?_
    refine L.va f70 (E.pickT f70 rfl rfl) fun a71 f71 => ?_
    refine L.ag f71 fun a72 f72 => ?_
    clear f65 a64 f66 a66 f67 a67 f68 a68 f69 a69 f70 a70 f71 a71
    refine wpList_nil (hK30 _ _ ?_)
    have f73 := f72.sub (sc 0 (sc 3 (sc 4 (sc 5 (sc 6 (sc 7 (sc 9 sn)))))))
    refine wp_seq_k fun K31 hK31 => ?_
    refine C.sk fun K32 hK32 => ?_
    refine L.mv f73 fun a74 f74 => ?_
    refine L.mv f74 fun a75 f75 => ?_
    refine L.buildSlice f75 wantedN (by decide) (parts1 f75 rfl) Try.underlying32 wzi3_ts rfl rfl (wbs32_1_ts _) fun a76 w6 g5 N5 f76 => ?_
    have Bg5 := N5.blk
    have kg5 := N5.kept
    have log5 := N5.lo
    have ltg5 := Bg5.lt
    have szw6 := kg5.size
    have frg5 : w.heap.size ≤ g5 := Nat.le_trans HK.size log5
    have negar_g5 : gar ≠ g5 := by have := BA.lt; omega
    replace HK := HK.trans kg5 (by simp)
    replace T := T.kept0 kg5
    replace BA := BA.kept kg5 (by simp)
    replace OS := Own.kept OS kg5 (by simp)
    clear f72 f73 a72 f74 a74 N5 kg5
    refine L.va f76 (E.build f76 (parts3 f76 rfl rfl rfl) (wbl34_0_4_20_ts _ _ _ _ _)) fun a77 f77 => ?_
    have lo0 := T.lo
    have npk0 := T.noPk
    have ltp := BA.lt
    have lt3 := own_lt OS
    have hid : (Lit.int .i64 (x % 3 + 1)).wf = true := wf_small (by omega) (by omega)
    refine L.cl f77 (run_call Try.call14 (args2 f77 rfl rfl)) (out_any ({ kind := 9, id := x % 3 + 1, codes := [1] } : Pk) ({ s0 with ca := some ⟨g5, 0, none⟩, cc := 1 } : Ad) hid w.heap.size g t m _ T (by omega) (sba_o Bg5) (len_sba _)) ?_
    clear f75 a75 f76 a76
    rintro e w7 ⟨rfl, m2, T2, up2, kc7, nw2, su2⟩
    refine ⟨_, rfl, fun a78 f78 => ?_⟩
    have szw7 := kc7.size
    replace HK := HK.trans kc7 (fun x hx hlt => by have := lo0 x hx; omega)
    replace BA := BA.kept kc7 NF
    replace OS := own_blkL OS kc7 (fun y hy hlt ht => npk0 y hy hlt (ht.mono (by simp)))
    clear f77 a77 kc7
    have NF2 : gar ∉ m2.fp g := fun h => (nw2 _ h).elim NF (fun h => by omega)
    have CA2 : ∀ y ∈ m2.subs, ∀ b, y.2.ca.map (·.block) = some b → sA.map (·.block) ≠ some b := ca_step CA su2 lt3
    refine L.mv f78 fun a79 f79 => ?_
    refine L.va f79 (E.neqB f79 Try.underlying4 rfl rfl) fun a80 f80 => ?_
    have f81 := f80.as (i := 96) (v' := .bool false) rfl (by rw [o_cons hO]; simp)
    refine wpList_nil (hK32 _ _ ?_)
    have f82 := f81.sub (sc 0 (sc 3 (sc 4 (sc 5 (sc 6 (sc 9 (sc 96 sn)))))))
    refine C.condF f82 rfl ?_
    refine wp_skip (hK31 _ _ ?_)
    have f83 := f82.sub (sc 0 (sc 3 (sc 4 (sc 5 (sc 6 (sc 9 sn))))))
    refine wp_seq_k fun K33 hK33 => ?_
    refine C.sk fun K34 hK34 => ?_
    refine L.mv f83 fun a84 f84 => ?_
    refine wpList_nil (hK34 _ _ ?_)
    have f85 := f84.sub (sc 0 (sc 3 (sc 4 (sc 5 (sc 6 (sc 97 sn))))))
    clear f78 a78 f79 a79 f80 f81 f82 f83 a80 f84
    refine f85.splitD 97 rfl (fun h8 f86 => ?_) (fun h8 f86 => ?_)
    ·have hai := h8
     have hO2 : Ow ((t.outT ({ kind := 9, id := x % 3 + 1, codes := [1] } : Pk)).2) r A := o_hit hO hai
     refine C.condT f86 rfl ?_
     refine C.region ?_
     refine L.mv f86 fun a87 f87 => ?_
     refine L.va f87 (E.slLlo f87 Try.underlying32 wsz3_ts rfl rfl (by decide) (by simp; omega)) fun a88 f88 => ?_
     have OS2 : Own w7 3 1 (.slice (if scp = 1 then sA else sA.map (·.add (1 * 1))) r.length (scp - 1)) r.length (r.map (Value.int .i64)) := own_tail OS
     have lo3n : ∀ b, (if scp = 1 then sA else sA.map (·.add (1 * 1))).map (·.block) = some b → w.heap.size ≤ b := fun b hb => lo3 b (by rwa [cut_blk] at hb)
     have CA3 : ∀ y ∈ m2.subs, ∀ b, y.2.ca.map (·.block) = some b → (if scp = 1 then sA else sA.map (·.add (1 * 1))).map (·.block) ≠ some b := fun y hy b hb => by rw [cut_blk]; exact CA2 y hy b hb
     refine L.ag f88 fun a89 f89 => ?_
     refine wpList_nil (hK33 _ _ ?_)
     have f90 := f89.sub (sc 0 (sc 3 (sc 4 (sc 5 (sc 6 sn)))))
     refine wp_exit (hK14 _ _ ?_)
     have f91 := f90.sub (sc 0 (sc 3 (sc 4 (sc 5 (sc 6 sn)))))
     refine C.region ?_
     refine L.mv f91 fun a92 f92 => ?_
     refine L.va f92 (E.add f92 rfl rfl (IntWalk.i64_in _ (by omega))) fun a93 f93 => ?_
     refine L.ag f93 fun a94 f94 => ?_
     clear f85 f86 a84 f87 a87 f88 a88 f89 f90 f91 a89 f92 a92 f93 a93
     refine wpList_nil (hKL11 _ _ (gk12 - 1) ?_ ?_)
     ·omega
     exact ⟨i + 1, _, m2, r, A, _, _, by omega, by omega, by omega, by simp at hsl; omega, HK, T2, NF2, BA, OS2, lo3n, CA3, hO2, f94.sub (sub_cons rfl (sub_cons rfl (sub_cons rfl (sub_cons rfl (sub_cons rfl sn)))))⟩
    have hai := h8
    have hO2 : Ow ((t.outT ({ kind := 9, id := x % 3 + 1, codes := [1] } : Pk)).2) (a :: r) A := o_miss hO hai
    refine C.condF f86 rfl ?_
    refine wp_skip (hK33 _ _ ?_)
    have f87 := f86.sub (sc 0 (sc 3 (sc 4 (sc 5 (sc 6 sn)))))
    refine wp_exit (hK14 _ _ ?_)
    have f88 := f87.sub (sc 0 (sc 3 (sc 4 (sc 5 (sc 6 sn)))))
    refine C.region ?_
    refine L.mv f88 fun a89 f89 => ?_
    refine L.va f89 (E.add f89 rfl rfl (IntWalk.i64_in _ (by omega))) fun a90 f90 => ?_
    refine L.ag f90 fun a91 f91 => ?_
    clear f85 f86 f87 f88 a84 f89 a89 f90 a90
    refine wpList_nil (hKL11 _ _ (gk12 - 1) ?_ ?_)
    ·omega
    exact ⟨i + 1, _, m2, _, A, sA, scp, by omega, by omega, by omega, by omega, HK, T2, NF2, BA, OS, lo3, CA2, hO2, f91.sub (sub_cons rfl (sub_cons rfl (sub_cons rfl (sub_cons rfl (sub_cons rfl sn)))))⟩
   have hnil : sb = [] := List.eq_nil_of_length_eq_zero (by omega)
   refine L.run f65 (rest' := []) (by kernel_rfl) fun a66 f66 => ?_
   clear f64
   skip
   refine wpList_nil (hK30 _ _ ?_)
   have f67 := f66.sub (sub_cons (i := 0) (Fr.kept f66 (by kernel_rfl) rfl) (sub_cons (i := 3) (Fr.kept f66 (by kernel_rfl) rfl) (sub_cons (i := 4) (Fr.kept f66 (by kernel_rfl) rfl) (sub_cons (i := 5) (Fr.kept f66 (by kernel_rfl) rfl) (sub_cons (i := 6) (Fr.kept f66 (by kernel_rfl) rfl) (sub_cons (i := 7) (Fr.kept f66 (by kernel_rfl) rfl) (sub_cons (i := 9) (v := .bool false) (by kernel_rfl) sn)))))))
   refine wp_seq_k fun K35 hK35 => ?_
   refine C.sk fun K36 hK36 => ?_
   refine L.mv f67 fun a68 f68 => ?_
   refine L.mv f68 fun a69 f69 => ?_
   refine L.buildSlice f69 wantedN (by decide) (parts1 f69 rfl) Try.underlying32 wzi3_ts rfl rfl (wbs32_1_ts _) fun a70 w6 g5 N5 f70 => ?_
   have Bg5 := N5.blk
   have kg5 := N5.kept
   have log5 := N5.lo
   have ltg5 := Bg5.lt
   have szw6 := kg5.size
   have frg5 : w.heap.size ≤ g5 := Nat.le_trans HK.size log5
   have negar_g5 : gar ≠ g5 := by have := BA.lt; omega
   replace HK := HK.trans kg5 (by simp)
   replace T := T.kept0 kg5
   replace BA := BA.kept kg5 (by simp)
   replace OS := Own.kept OS kg5 (by simp)
   clear f66 f65 f67 a66 f68 a68 N5 kg5
   refine L.va f70 (E.build f70 (parts3 f70 rfl rfl rfl) (wbl34_0_4_20_ts _ _ _ _ _)) fun a71 f71 => ?_
   have lo0 := T.lo
   have npk0 := T.noPk
   have ltp := BA.lt
   have lt3 := own_lt OS
   have hid : (Lit.int .i64 (x % 3 + 1)).wf = true := wf_small (by omega) (by omega)
   refine L.cl f71 (run_call Try.call14 (args2 f71 rfl rfl)) (out_any ({ kind := 9, id := x % 3 + 1, codes := [1] } : Pk) ({ s0 with ca := some ⟨g5, 0, none⟩, cc := 1 } : Ad) hid w.heap.size g t m _ T (by omega) (sba_o Bg5) (len_sba _)) ?_
   clear f69 a69 f70 a70
   rintro e w7 ⟨rfl, m2, T2, up2, kc7, nw2, su2⟩
   refine ⟨_, rfl, fun a72 f72 => ?_⟩
   have szw7 := kc7.size
   replace HK := HK.trans kc7 (fun x hx hlt => by have := lo0 x hx; omega)
   replace BA := BA.kept kc7 NF
   replace OS := own_blkL OS kc7 (fun y hy hlt ht => npk0 y hy hlt (ht.mono (by simp)))
   clear f71 a71 kc7
   have NF2 : gar ∉ m2.fp g := fun h => (nw2 _ h).elim NF (fun h => by omega)
   have CA2 : ∀ y ∈ m2.subs, ∀ b, y.2.ca.map (·.block) = some b → sA.map (·.block) ≠ some b := ca_step CA su2 lt3
   refine L.mv f72 fun a73 f73 => ?_
   refine L.va f73 (E.neqB f73 Try.underlying4 rfl rfl) fun a74 f74 => ?_
   have f75 := f74.as (i := 96) (v' := .bool false) rfl (by rw [o_nil hO hnil]; rfl)
   refine wpList_nil (hK36 _ _ ?_)
   have f76 := f75.sub (sc 0 (sc 3 (sc 4 (sc 5 (sc 6 (sc 9 (sc 96 sn)))))))
   refine C.condF f76 rfl ?_
   refine wp_skip (hK35 _ _ ?_)
   have f77 := f76.sub (sc 0 (sc 3 (sc 4 (sc 5 (sc 6 (sc 9 sn))))))
   refine wp_seq_k fun K37 hK37 => ?_
   refine wp_seq_k fun K38 hK38 => ?_
   have hO2 : Ow ((t.outT ({ kind := 9, id := x % 3 + 1, codes := [1] } : Pk)).2) sb A := by rw [o_nil hO hnil]; exact hO
   refine C.region ?_
   refine L.mv f77 fun a78 f78 => ?_
   refine wpList_nil (hK38 _ _ ?_)
   have f79 := f78.sub (sc 0 (sc 3 (sc 4 (sc 5 (sc 6 (sc 97 sn))))))
   refine C.condF f79 rfl ?_
   refine wp_skip (hK37 _ _ ?_)
   have f80 := f79.sub (sc 0 (sc 3 (sc 4 (sc 5 (sc 6 sn)))))
   refine wp_exit (hK14 _ _ ?_)
   have f81 := f80.sub (sc 0 (sc 3 (sc 4 (sc 5 (sc 6 sn)))))
   refine C.region ?_
   refine L.mv f81 fun a82 f82 => ?_
   clear f72 a72 f73 a73 f74 f75 f76 f77 a74 f78 f79 f80 f81 a78
   refine L.va f82 (E.add f82 rfl rfl (IntWalk.i64_in _ (by omega))) fun a83 f83 => ?_
   refine L.ag f83 fun a84 f84 => ?_
   clear f82 a82 f83 a83
   refine wpList_nil (hKL11 _ _ (gk12 - 1) ?_ ?_)
   ·omega
   exact ⟨i + 1, _, m2, _, A, sA, scp, by omega, by omega, by omega, by omega, HK, T2, NF2, BA, OS, lo3, CA2, hO2, f84.sub (sub_cons rfl (sub_cons rfl (sub_cons rfl (sub_cons rfl (sub_cons rfl sn)))))⟩
  have hs79 := h6
  refine C.condF f60 rfl ?_
  refine wp_skip (hK28 _ _ ?_)
  have f61 := f60.sub (sc 0 (sc 3 (sc 4 (sc 5 (sc 6 (sc 7 (sc 8 sn)))))))
  refine C.sk fun K39 hK39 => ?_
  refine L.mv f61 fun a62 f62 => ?_
  refine L.va f62 (E.sub f62 rfl rfl (IntWalk.i64_in _ (by omega))) fun a63 f63 => ?_
  refine L.mv f63 fun a64 f64 => ?_
  refine L.va f64 (E.indexArr f64 Try.underlying44 wsz43_ts rfl rfl (by omega) (by omega)) fun a65 f65 => ?_
  refine L.va f65 (E.indexArr f65 Try.underlying43 wsz3_ts rfl rfl (by omega) (by omega)) fun a66 f66 => ?_
  refine L.va f66 (E.load f66 Try.underlying3 rfl rfl (BA.cl (hO.cell ⟨by omega, by omega⟩ ⟨by omega, by omega⟩))) fun a67 f67 => ?_
  clear f59 f60 f61 a58 f62 a62 f63 a63 f64 a64 f65 a65 f66 a66
  refine L.va f67 (E.gtr f67 rfl rfl) fun a68 f68 => ?_
  refine L.ag f68 fun a69 f69 => ?_
  refine wpList_nil (hK39 _ _ ?_)
  have f70 := f69.sub (sc 0 (sc 3 (sc 4 (sc 5 (sc 6 (sc 7 (sc 8 (sc 10 sn))))))))
  refine wp_seq_k fun K40 hK40 => ?_
  refine C.sk fun K41 hK41 => ?_
  refine L.mv f70 fun a71 f71 => ?_
  refine L.buildSlice f71 wantedN (by decide) (parts3 f71 rfl rfl rfl) Try.underlying32 wzi3_ts rfl rfl (wbs32_3_ts _ _ _) fun a72 w6 g5 N5 f72 => ?_
  have Bg5 := N5.blk
  have kg5 := N5.kept
  have log5 := N5.lo
  have ltg5 := Bg5.lt
  have szw6 := kg5.size
  have frg5 : w.heap.size ≤ g5 := Nat.le_trans HK.size log5
  have negar_g5 : gar ≠ g5 := by have := BA.lt; omega
  replace HK := HK.trans kg5 (by simp)
  replace T := T.kept0 kg5
  replace BA := BA.kept kg5 (by simp)
  replace OS := Own.kept OS kg5 (by simp)
  clear f67 a67 f68 a68 f69 f70 a69 N5 kg5
  refine L.mv f72 fun a73 f73 => ?_
  refine L.va f73 (E.sub f73 rfl rfl (IntWalk.i64_in _ (by omega))) fun a74 f74 => ?_
  refine L.va f74 (E.indexA f74 (by rfl) Try.underlying32 wsz3_ts rfl rfl (by omega) (by omega)) fun a75 f75 => ?_
  refine L.va f75 (E.load f75 Try.underlying3 rfl rfl (kd_cell3 (by assumption) ⟨by omega, by omega⟩)) fun a76 f76 => ?_
  refine L.mv f76 fun a77 f77 => ?_
  refine L.va f77 (E.build f77 (parts2 f77 rfl rfl) (wbl34_0_4_ts _ _)) fun a78 f78 => ?_
  clear f71 a71 f72 a72 f73 a73 f74 a74 f75 a75 f76 a76 f77 a77
  have lo0 := T.lo
  have npk0 := T.noPk
  have ltp := BA.lt
  have lt3 := own_lt OS
  have hid : (Lit.int .i64 (x % 3 + 1)).wf = true := wf_small (by omega) (by omega)
  refine L.cl f78 (run_call Try.call14 (args2 f78 rfl rfl)) (out_any ({ kind := kdI (x / 3 % 4), id := x % 3 + 1 } : Pk) s0 hid w.heap.size g t m _ T (by omega) (flat_o _ _ ⟨rfl, rfl, rfl, rfl, rfl⟩) (len_id _ _)) ?_
  rintro e w7 ⟨rfl, m2, T2, up2, kc7, nw2, su2⟩
  refine ⟨_, rfl, fun a79 f79 => ?_⟩
  have szw7 := kc7.size
  replace HK := HK.trans kc7 (fun x hx hlt => by have := lo0 x hx; omega)
  replace BA := BA.kept kc7 NF
  replace OS := own_blkL OS kc7 (fun y hy hlt ht => npk0 y hy hlt (ht.mono (by simp)))
  clear f78 a78 kc7
  have NF2 : gar ∉ m2.fp g := fun h => (nw2 _ h).elim NF (fun h => by omega)
  have CA2 : ∀ y ∈ m2.subs, ∀ b, y.2.ca.map (·.block) = some b → sA.map (·.block) ≠ some b := ca_step CA su2 lt3
  refine L.mv f79 fun a80 f80 => ?_
  refine L.va f80 (E.neqB f80 Try.underlying4 rfl rfl) fun a81 f81 => ?_
  have f82 := f81.as (i := 117) (v' := .bool false) rfl (by rw [ak_one hO ⟨by omega, by omega⟩ ⟨by omega, by omega⟩ hv.1]; simp)
  refine wpList_nil (hK41 _ _ ?_)
  have f83 := f82.sub (sc 0 (sc 3 (sc 4 (sc 5 (sc 6 (sc 7 (sc 8 (sc 10 (sc 117 sn)))))))))
  refine C.condF f83 rfl ?_
  refine wp_skip (hK40 _ _ ?_)
  have f84 := f83.sub (sc 0 (sc 3 (sc 4 (sc 5 (sc 6 (sc 7 (sc 8 (sc 10 sn))))))))
  refine C.sk fun K42 hK42 => ?_
  refine L.mv f84 fun a85 f85 => ?_
  refine wpList_nil (hK42 _ _ ?_)
  have f86 := f85.sub (sc 0 (sc 3 (sc 4 (sc 5 (sc 6 (sc 7 (sc 8 (sc 118 sn))))))))
  clear f79 a79 f80 a80 f81 f82 f83 f84 a81 f85
  refine f86.splitD 118 rfl (fun h9 f87 => ?_) (fun h9 f87 => ?_)
  ·have hvp := h9
   have hO2 : Ow ((t.outT ({ kind := kdI (x / 3 % 4), id := x % 3 + 1 } : Pk)).2) sb (A.set ((x / 3 % 4 - 1).toNat * 4 + (x % 3 + 1).toNat) (vA t (x / 3 % 4) (x % 3 + 1) - 1)) := ak_hit hO ⟨by omega, by omega⟩ ⟨by omega, by omega⟩ (by omega)
   refine C.condT f87 rfl ?_
   have hd32 : Kept [] w7 (w7.drewN 1) := (Kept.refl _ _).drewN 1
   refine R.beginT (S := fun _ => True) (by kernel_rfl) (by kernel_rfl) trivial fun ht => ?_
   obtain ⟨w8, hww8⟩ : ∃ W, W = w7.drewN 1 := ⟨_, rfl⟩
   rw [← hww8] at hd32 ⊢
   clear f86 hww8
   have szw8 := hd32.size
   replace HK := HK.trans hd32 (by simp)
   replace BA := BA.kept hd32 (by simp)
   replace OS := Own.kept OS hd32 (by simp)
   replace T2 := T2.kept0 hd32
   clear hd32
   refine R.u 0 f87 rfl ht trivial (fun W hW => (E.move f87 rfl)) fun a88 f88 => ?_
   refine R.u 1 f88 rfl ht trivial (fun W hW => (E.sub f88 rfl rfl (IntWalk.i64_in _ (by omega)))) fun a89 f89 => ?_
   refine R.u 2 f89 rfl ht trivial (fun W hW => (E.move f89 rfl)) fun a90 f90 => ?_
   refine R.u 3 f90 rfl ht trivial (fun W hW => (E.indexArr f90 Try.underlying44 wsz43_ts rfl rfl (by omega) (by omega))) fun a91 f91 => ?_
   refine R.u 4 f91 rfl ht trivial (fun W hW => (E.indexArr f91 Try.underlying43 wsz3_ts rfl rfl (by omega) (by omega))) fun a92 f92 => ?_
   refine R.u 7 f92 rfl ht trivial (fun W hW => (E.indexArr f92 Try.underlying44 wsz43_ts rfl rfl (by omega) (by omega))) fun a93 f93 => ?_
   refine R.one 5 (by kernel_rfl) ?_
   refine O.val f93 rfl rfl (by decide) wantedN (E.load f93 Try.underlying3 rfl rfl (BA.cl (hO.cell ⟨by omega, by omega⟩ ⟨by omega, by omega⟩))) trivial fun a94 f94 => ?_
   clear f87 a85 f88 a88 f89 a89 f90 a90 f91 a91 f92 a92 f93 a93
   refine R.u 6 f94 rfl ht trivial (fun W hW => (E.sub f94 rfl rfl (IntWalk.i64_in _ (by omega)))) fun a95 f95 => ?_
   refine R.u 8 f95 rfl ht trivial (fun W hW => (E.indexArr f95 Try.underlying43 wsz3_ts rfl rfl (by omega) (by omega))) fun a96 f96 => ?_
   refine R.one 9 (by kernel_rfl) ?_
   refine OT.store f96 rfl wantedN wsz3_ts rfl rfl rfl BA (ow_in hO ⟨by omega, by omega⟩ ⟨by omega, by omega⟩) fun a97 w9 f97 NB ks => ?_
   have szw9 := ks.size
   have BA2 := ow_set NB
   replace HK := HK.trans ks (fun x hx hlt => by obtain rfl := List.mem_singleton.1 hx; exfalso; omega)
   replace OS := own_kept1 OS ks BA (by decide)
   replace T2 := T2.keptX ks NF2 (NoPk.blk BA (by decide))
   clear f94 a94 f95 a95 f96 a96 ks NB BA
   refine R.done (by kernel_rfl) (hK14 _ _ ?_)
   have f98 := f97.sub (sc 0 (sc 3 (sc 4 (sc 5 (sc 6 sn)))))
   refine C.region ?_
   refine L.mv f98 fun a99 f99 => ?_
   refine L.va f99 (E.add f99 rfl rfl (IntWalk.i64_in _ (by omega))) fun a100 f100 => ?_
   refine L.ag f100 fun a101 f101 => ?_
   clear f97 f98 a97 f99 a99 f100 a100
   refine wpList_nil (hKL11 _ _ (gk12 - 1) ?_ ?_)
   ·omega
   exact ⟨i + 1, _, m2, sb, A.set ((x / 3 % 4 - 1).toNat * 4 + (x % 3 + 1).toNat) _, sA, scp, by omega, by omega, by omega, by omega, HK, T2, NF2, BA2, OS, lo3, CA2, hO2, f101.sub (sub_cons rfl (sub_cons rfl (sub_cons rfl (sub_cons rfl (sub_cons rfl sn)))))⟩
  have hvp := h9
  have hO2 : Ow ((t.outT ({ kind := kdI (x / 3 % 4), id := x % 3 + 1 } : Pk)).2) sb A := ak_miss hO ⟨by omega, by omega⟩ ⟨by omega, by omega⟩ (by omega)
  refine C.condF f87 rfl ?_
  refine wp_skip (hK14 _ _ ?_)
  have f88 := f87.sub (sc 0 (sc 3 (sc 4 (sc 5 (sc 6 sn)))))
  refine C.region ?_
  refine L.mv f88 fun a89 f89 => ?_
  refine L.va f89 (E.add f89 rfl rfl (IntWalk.i64_in _ (by omega))) fun a90 f90 => ?_
  refine L.ag f90 fun a91 f91 => ?_
  clear f86 f87 f88 a85 f89 a89 f90 a90
  refine wpList_nil (hKL11 _ _ (gk12 - 1) ?_ ?_)
  ·omega
  exact ⟨i + 1, _, m2, _, A, sA, scp, by omega, by omega, by omega, by omega, HK, T2, NF2, BA, OS, lo3, CA2, hO2, f91.sub (sub_cons rfl (sub_cons rfl (sub_cons rfl (sub_cons rfl (sub_cons rfl sn)))))⟩
 have hs22 := h1
 refine C.condF f30 rfl ?_
 refine wp_exit (hK9 _ _ ?_)
 have f31 := f30.sub (sc 3 (sc 4 (sc 5 sn)))
 refine C.sk fun K43 hK43 => ?_
 refine L.mv f31 fun a32 f32 => ?_
 refine L.va f32 (E.lenL f32 Try.underlying32 rfl) fun a33 f33 => ?_
 refine L.ag f33 fun a34 f34 => ?_
 refine wpList_nil (hK43 _ _ ?_)
 have f35 := f34.sub (sc 3 (sc 5 (sc 11 sn)))
 refine wp_seq_k fun K44 hK44 => ?_
 refine C.sk fun K45 hK45 => ?_
 refine L.ag f35 fun a36 f36 => ?_
 refine wpList_nil (hK45 _ _ ?_)
 have f37 := f36.sub (sc 3 (sc 5 (sc 11 (sc 12 sn))))
 refine wp_block ?_
 have hbd := T.len.2.2.2.2.2
 clear f29 f30 f31 a28 f32 a32 f33 a33 f34 f35 a34 f36
 refine C.loop (fun gk a W => ∃ (j acc : Int), 0 ≤ j ∧ j + gk = 3 ∧ acc = sb.length + partA t j ∧ Kept [] w W ∧ TrIn w.heap.size W g t m ∧ Blk W gar 44 (A.map (Value.int .i64)).toArray ∧ Fr 154 a [(3, .pointer (some ⟨g, 0, none⟩)), (5, .pointer (some ⟨gar, 0, none⟩)), (11, .int .i64 acc), (12, .int .i64 j)]) (3) ?_ ?_
 ·exact ⟨0, sb.length, by omega, by omega, by simp [partA], HK, T, BA, f37.sub (sub_cons rfl (sub_cons rfl (sub_cons rfl (sub_cons rfl sn))))⟩
 intro gk47 a38 w5 hI KL46 hKL46
 obtain ⟨j, acc, hj0, hjk, hac, HK, T, BA, f38⟩ := hI
 try clear f37
 have szl2 := HK.size
 refine wp_seq_k fun K47 hK47 => ?_
 refine C.sk fun K48 hK48 => ?_
 refine L.mv f38 fun a39 f39 => ?_
 refine L.va f39 (E.lss f39 rfl rfl) fun a40 f40 => ?_
 refine wpList_nil (hK48 _ _ ?_)
 have f41 := f40.sub (sc 3 (sc 5 (sc 11 (sc 12 (sc 131 sn)))))
 clear f38 a38 f39 a39 f40
 refine f41.splitD 131 rfl (fun h10 f42 => ?_) (fun h10 f42 => ?_)
 ·refine C.condT f42 rfl ?_
  refine wp_skip (hK47 _ _ ?_)
  have f43 := f42.sub (sc 3 (sc 5 (sc 11 (sc 12 sn))))
  refine wp_seq_k fun K49 hK49 => ?_
  refine wp_block ?_
  have hj3 : j < 3 := by omega
  have hv1 := vA_le hbd (j + 1) 1
  have hv2 := vA_le hbd (j + 1) 2
  have hv3 := vA_le hbd (j + 1) 3
  have hpa := part_le hbd j
  have hd37 : Kept [] w5 (w5.drewN 1) := (Kept.refl _ _).drewN 1
  refine R.beginT (S := fun W => (Kept [] w W) ∧ (Blk W gar 44 (A.map (Value.int .i64)).toArray)) (by kernel_rfl) (by kernel_rfl) ⟨HK.trans hd37 (by simp), BA.kept hd37 (by simp)⟩ fun ht => ?_
  obtain ⟨w6, hww6⟩ : ∃ W, W = w5.drewN 1 := ⟨_, rfl⟩
  rw [← hww6] at hd37 ⊢
  clear f41 f42 hww6
  have szw6 := hd37.size
  replace HK := HK.trans hd37 (by simp)
  replace T := T.kept0 hd37
  replace BA := BA.kept hd37 (by simp)
  clear hd37
  refine R.u 0 f43 rfl ht ⟨HK, BA⟩ (fun W hW => (E.move f43 rfl)) fun a44 f44 => ?_
  refine R.u 1 f44 rfl ht ⟨HK, BA⟩ (fun W hW => (E.move f44 rfl)) fun a45 f45 => ?_
  refine R.u 2 f45 rfl ht ⟨HK, BA⟩ (fun W hW => (E.indexArr f45 Try.underlying44 wsz43_ts rfl rfl (by omega) (by omega))) fun a46 f46 => ?_
  refine R.u 3 f46 rfl ht ⟨HK, BA⟩ (fun W hW => (E.indexArr f46 Try.underlying43 wsz3_ts rfl rfl (by omega) (by omega))) fun a47 f47 => ?_
  refine R.u 4 f47 rfl ht ⟨HK, BA⟩ (fun W hW => (E.load f47 Try.underlying3 rfl rfl (hW.2.cl (hO.cellj (i := 1) ⟨by omega, by omega⟩ (by decide))))) fun a48 f48 => ?_
  refine R.u 5 f48 rfl ht ⟨HK, BA⟩ (fun W hW => (E.move f48 rfl)) fun a49 f49 => ?_
  refine R.u 6 f49 rfl ht ⟨HK, BA⟩ (fun W hW => (E.indexArr f49 Try.underlying44 wsz43_ts rfl rfl (by omega) (by omega))) fun a50 f50 => ?_
  clear f43 a40 f44 a44 f45 a45 f46 a46 f47 a47 f48 a48 f49 a49
  refine R.u 7 f50 rfl ht ⟨HK, BA⟩ (fun W hW => (E.indexArr f50 Try.underlying43 wsz3_ts rfl rfl (by omega) (by omega))) fun a51 f51 => ?_
  refine R.u 8 f51 rfl ht ⟨HK, BA⟩ (fun W hW => (E.load f51 Try.underlying3 rfl rfl (hW.2.cl (hO.cellj (i := 2) ⟨by omega, by omega⟩ (by decide))))) fun a52 f52 => ?_
  refine R.u 9 f52 rfl ht ⟨HK, BA⟩ (fun W hW => (E.add f52 rfl rfl (IntWalk.i64_in _ (by omega)))) fun a53 f53 => ?_
  refine R.u 10 f53 rfl ht ⟨HK, BA⟩ (fun W hW => (E.move f53 rfl)) fun a54 f54 => ?_
  refine R.u 11 f54 rfl ht ⟨HK, BA⟩ (fun W hW => (E.indexArr f54 Try.underlying44 wsz43_ts rfl rfl (by omega) (by omega))) fun a55 f55 => ?_
  refine R.u 12 f55 rfl ht ⟨HK, BA⟩ (fun W hW => (E.indexArr f55 Try.underlying43 wsz3_ts rfl rfl (by omega) (by omega))) fun a56 f56 => ?_
  refine R.u 13 f56 rfl ht ⟨HK, BA⟩ (fun W hW => (E.load f56 Try.underlying3 rfl rfl (hW.2.cl (hO.cellj (i := 3) ⟨by omega, by omega⟩ (by decide))))) fun a57 f57 => ?_
  clear f50 a50 f51 a51 f52 a52 f53 a53 f54 a54 f55 a55 f56 a56
  refine R.u 14 f57 rfl ht ⟨HK, BA⟩ (fun W hW => (E.add f57 rfl rfl (IntWalk.i64_in _ (by omega)))) fun a58 f58 => ?_
  refine R.u 15 f58 rfl ht ⟨HK, BA⟩ (fun W hW => (E.add f58 rfl rfl (IntWalk.i64_in _ (by omega)))) fun a59 f59 => ?_
  refine R.u 16 f59 rfl ht ⟨HK, BA⟩ (fun W hW => (E.assign f59 rfl)) fun a60 f60 => ?_
  refine R.done (by kernel_rfl) (hK49 _ _ ?_)
  have f61 := f60.sub (sc 3 (sc 5 (sc 11 (sc 12 sn))))
  refine C.region ?_
  refine L.mv f61 fun a62 f62 => ?_
  refine L.va f62 (E.add f62 rfl rfl (IntWalk.i64_in _ (by omega))) fun a63 f63 => ?_
  refine L.ag f63 fun a64 f64 => ?_
  clear f57 a57 f58 a58 f59 a59 f60 f61 a60 f62 a62 f63 a63
  refine wpList_nil (hKL46 _ _ (gk47 - 1) ?_ ?_)
  ·omega
  exact ⟨j + 1, _, by omega, by omega, by rw [hac, part_step t hj0 (by omega)]; omega, HK, T, BA, f64.sub (sub_cons rfl (sub_cons rfl (sub_cons rfl (sub_cons rfl sn))))⟩
 refine C.condF f42 rfl ?_
 refine wp_exit (hK44 _ _ ?_)
 have f43 := f42.sub (sc 3 (sc 11 sn))
 refine C.sk fun K50 hK50 => ?_
 refine L.mv f43 fun a44 f44 => ?_
 refine L.cl f44 (run_call Try.call16 (args1 f44 rfl)) (owed_any w.heap.size g t m _ T (by omega)) ?_
 clear f41 f42 f43 a40
 rintro e w6 ⟨kc6, rfl⟩
 refine ⟨_, rfl, fun a45 f45 => ?_⟩
 have szw6 := kc6.size
 replace HK := HK.trans kc6 (by simp)
 replace T := T.kept0 kc6
 replace BA := BA.kept kc6 (by simp)
 clear f44 a44 kc6
 refine L.mv f45 fun a46 f46 => ?_
 refine L.va f46 (E.eq f46) fun a47 f47 => ?_
 refine L.ag f47 fun a48 f48 => ?_
 refine wpList_nil (hK50 _ _ ?_)
 have f49 := f48.sub (sc 2 sn)
 refine wp_ret ?_
 try simp only [Exit.inBlock, Exit.then]
 refine C.ret (P := Try.prog) (fn := Try.f4) f49 rfl rfl ?_
 exact ⟨HK, by rw [decide_eq_true (by rw [hac, show j = 3 by omega]; exact ow_end hO (IsAss.nodup T.mo))]⟩
end Go.Proofs.Ytkdeedhjkjffpaa
namespace Go.Proofs.Ytkdeedhjkjffpaa
open Go.RowKit Go.Hub
theorem row_sl {k : IntKind} {w : World} {a : Option Addr} {len cap : Nat} {zs : List Int} (h : IsRow k w a len cap zs) : len ≤ maxLen ∧ ∃ l : List Int, l.length = len ∧ Sl w a l.length 1 (l.map (.int k)) ∧ ∀ x ∈ l, (Lit.int k x).wf = true := by
  obtain ⟨h1, h2, h3, h4⟩ := Ints.of_isRow h
  refine ⟨h2, zs.take len, h1, ⟨by simp, fun hn => ?_⟩, h3⟩
  obtain ⟨b, off, e, hb, hc⟩ := h4 (by omega)
  refine ⟨b, off, e, hb, fun j u hu => ?_⟩
  rw [List.getElem?_map, Option.map_eq_some_iff] at hu
  obtain ⟨x, hx, rfl⟩ := hu
  have hj := (List.getElem?_eq_some_iff.1 hx).1
  rw [hc j (by omega), List.getD_eq_getElem?_getD, hx]
  rfl
theorem owes_row {w : World} {a1 : Option Addr} {len1 cap1 : Nat} {z1 : List Int} (h1 : IsRow .u8 w a1 len1 cap1 z1) :
    Calls Try.prog 4 #[.slice a1 len1 cap1] w (fun e w' => e = .returned (.bool true) ∧ Below w.heap.size w w') := by
  obtain ⟨m1, l1, rfl, s1, b1⟩ := row_sl h1
  exact (owes_any l1 a1 cap1 w s1 (fun x hx => by simpa [Lit.wf, IntKind.min, IntKind.max, IntKind.signed, IntKind.bits] using b1 x hx) m1).mono fun e w' h => ⟨h.2, h.1.below0⟩
end Go.Proofs.Ytkdeedhjkjffpaa
