/- Merged by program (shrink.py): contracts and plain laws that the claim's statement uses, part 4. -/
import Derived.Test.YtdfllmiokgoekaaGreatDoorMa3
set_option linter.all false
set_option maxRecDepth 100000
set_option maxHeartbeats 8000000

namespace Go.Proofs.YtdfllmiokgoekaaGreatDoor
open Go.RowKit Go.Hub
theorem wsz3_re : (Tryz.prog.info? 3).map (·.size) = some 1 := by kernel_rfl
theorem wsz30_re : (Tryz.prog.info? 30).map (·.size) = some 4 := by kernel_rfl
theorem wsz60_re : (Tryz.prog.info? 60).map (·.size) = some 1 := by kernel_rfl
theorem wsz62_re : (Tryz.prog.info? 62).map (·.size) = some 1 := by kernel_rfl
theorem wsz74_re : (Tryz.prog.info? 74).map (·.size) = some 1 := by kernel_rfl
theorem qfarR_of {B q : Nat} {w w1 w2 : World} {A : Option Addr} {c : Nat} {l : List Mc} {lost : Int} {MM : List Nat} (hq : QuR B w q A c l lost) (h0 : Mod [] [] B w w1) (hMM : MM = q :: (Value.slice A l.length c).ownBlock.toList) (k : Kept MM w1 w2) : QFar w w2 A := fun x hx ht hne => by
  have h1 : w1.heap[x]? = w.heap[x]? := h0.block x hx (.inr ⟨(fun h => by obtain ⟨_, _, _, _, h3⟩ := h; cases h3), (fun hc => by cases hc.2)⟩)
  refine (k.block x (Nat.lt_of_lt_of_le hx h0.size) ?_).trans h1
  rw [hMM]
  intro hm
  rcases List.mem_cons.1 hm with e | hm
  · subst e
    obtain ⟨cs, e, fr, h2, h3⟩ := ht
    have h4 := hq.top
    unfold Blk at h4
    rw [h2] at h4
    injection h4 with h4
    injection h4 with _ he _
    rw [he] at h3
    exact absurd h3 (by decide)
  exact hne x ((own_block _ _ _ _).1 (by simpa using hm)) rfl
def OutPostR (T : List TypeId) (B p : Nat) (s : Rs) (r : SA × List Pa) (w : World) (e : Ending) (w' : World) : Prop :=
  ∃ s' A c pks, e = .returned (.slice A pks.length c) ∧ RefAt B w' p s' ∧ (s'.abs, pks.map (·.p)) = r ∧ Rs.Like w s s' ∧ Mod T [s.im, s.gm] B w w' ∧ PkAt B w w' A c pks ∧ pks.length ≤ 10
def SendPostR (B p : Nat) (s : Rs) (r : SA × List Pa) (w : World) (e : Ending) (w' : World) : Prop := OutPostR [64, 92, 97, 76, 30] B p s r w e w' ∧ QFar w w' s.QA
theorem RefAt.p_ne_q {B p : Nat} {w : World} {s : Rs} (h : RefAt B w p s) : p = s.q → False := fun e => by
  have h1 := h.top
  rw [e] at h1
  have h2 := h.qu.top
  unfold Blk at h1 h2
  rw [h1] at h2
  injection h2 with h2
  injection h2 with _ he _
  exact absurd he (by decide)
section
variable {s : Rs} {m : Ms} {on : Bool} {now : Int}
theorem sendR_rise (h0 : ¬ (m.qos = 0 ∧ on = true)) (h1 : ¬ m.qos < 1) (h2 : ¬ 2 < m.qos) (h3 : on = true) (h4 : (s.fly.length : Int) < 4) (h5 : (s.wait.length : Int) = 0) : sendS s.abs m on now = (riseS s.abs m now, [riseP s.abs m]) := by
  have h6 : s.abs.fly.length < 4 := by rw [absR_fly]; omega
  have h7 : s.abs.wait.length = 0 := by simp [Rs.abs]; simpa using h5
  rw [sendS, if_neg h0, if_neg (by omega), if_pos ⟨h3, h6, h7⟩]
theorem sendR_push (h0 : ¬ (m.qos = 0 ∧ on = true)) (h1 : ¬ m.qos < 1) (h2 : ¬ 2 < m.qos) (h : ¬ (on = true ∧ (s.fly.length : Int) < 4 ∧ (s.wait.length : Int) = 0)) : sendS s.abs m on now = (pushS s.abs m, []) := by
  rw [sendS, if_neg h0, if_neg (by omega), if_neg ?_]
  rintro ⟨h3, h4, h5⟩
  rw [absR_fly] at h4
  exact h ⟨h3, by omega, by simp [Rs.abs] at h5; simp [h5]⟩
theorem sendR_fin {B p : Nat} {w W : World} {A2 : Option Addr} {c2 : Nat} {l2 : List Mc} (hS : RefAt B w p s) (HK : Mod [64, 92, 97, 76, 30] [s.im, s.gm] B w W) (HK1 : Mod [76, 30] [] B w W) (BP : Blk W p 64 s.cells) (HQ : QuR B W s.q A2 c2 l2 (if s.wait.length < 8 then s.lost else s.lost + 1)) (hql : l2.map (·.m) = if s.wait.length < 8 then s.wait.map (·.m) ++ [m] else s.wait.map (·.m)) (hr : Row w s.QA A2)
    (h : sendS s.abs m on now = (pushS s.abs m, [])) : OutPostR [64, 92, 97, 76, 30] B p s (sendS s.abs m on now) w (.returned (.slice none 0 0)) W := by
  refine ⟨{ s with wait := l2, QA := A2, qc := c2, lost := if s.wait.length < 8 then s.lost else s.lost + 1 }, none, 0, [], rfl, ⟨BP, hS.ids.mod HK1 (by decide) (by simp), HQ, hS.fly.mod HK1 (by decide), hS.ls.mod HK1 (by decide), hS.got.mod HK1 (by simp), hS.ne, hS.lop, hS.loi, hS.lom, hS.log, hS.tk, hS.perm, hS.ats, hS.idb⟩, ?_, ⟨rfl, rfl, rfl, rfl, hr⟩, HK, PkAt.nil _ _ _, by simp⟩
  rw [h]
  unfold pushS Rs.abs
  simp only [List.length_map]
  split <;> simp_all
end
theorem sendR_any (B p : Nat) (s : Rs) (m : Ms) (Am : Option Addr) (cm : Nat) (on : Bool) (now : Int) (w : World) (hS : RefAt B w p s) (HP : Pay B w Am m.pay) (hB : B ≤ w.heap.size) (hl : 0 ≤ s.lost ∧ s.lost ≤ 1000000000) : Calls Tryz.prog 26 #[.pointer (some ⟨p, 0, none⟩), .agg #[.string m.tp, .slice Am m.pay.length cm, .int .i64 m.qos, .bool m.ret], .bool on, .int .i64 now] w (SendPostR B p s (sendS s.abs m on now) w) := by
 have HK : Mod [64, 92, 97, 76, 30] [s.im, s.gm] B w w := .refl _ _ _ _
 have HK0 : Mod [] [] B w w := .refl _ _ _ _
 have HK1 : Mod [76, 30] [] B w w := .refl _ _ _ _
 have BP := hS.top
 have BQ := hS.qu.top
 have hl4 := hS.fly.len
 have hw8 := hS.qu.len
 have HQF : QFar w w s.QA := QFar.refl _ _
 refine C.enter Tryz.func26 rfl Tryz.ntmps26 rfl ?_
 intro a0 f0
 have f1 : Fr 57 a0 [(0, .pointer (some ⟨p, 0, none⟩)), (1, .agg #[.string m.tp, .slice Am m.pay.length cm, .int .i64 m.qos, .bool m.ret]), (2, .bool on), (3, .int .i64 now)] := f0
 refine C.sk fun K0 hK0 => ?_
 refine L.box f1 wantedN (by decide) rfl rfl fun a2 w1 g0 N0 f2 => ?_
 have Bg0 := N0.blk
 have kg0 := N0.kept
 have log0 := N0.lo
 have ltg0 := Bg0.lt
 have szw1 := kg0.size
 have frg0 : w.heap.size ≤ g0 := Nat.le_trans HK.size log0
 have nep_g0 : p ≠ g0 := by have := BP.lt; omega
 have nes.q_g0 : s.q ≠ g0 := by have := BQ.lt; omega
 replace HK := HK.trans (.of_kept0 kg0)
 replace HK0 := HK0.trans (.of_kept0 kg0)
 replace HK1 := HK1.trans (.of_kept0 kg0)
 replace BP := BP.z kg0
 replace BQ := BQ.z kg0
 replace HP := HP.mod (Mod.of_kept0 (T := []) (M := []) (B := B) kg0) (by decide)
 replace HQF := HQF.mod (Mod.of_kept0 (T := []) (M := []) (B := B) kg0) (by decide)
 clear f0 N0 kg0
 refine L.ag f2 fun a3 f3 => ?_
 refine wn hK0 ?_
 have f4 := f3.pk [0, 2, 3, 5, 8]
 refine wp_seq_k fun K1 hK1 => ?_
 refine wp_block ?_
 refine C.sk fun K2 hK2 => ?_
 refine L.fa 2 f4 U30 rfl wsz3_re fun a5 f5 => ?_
 refine L.va f5 (E.load f5 U3 rfl rfl ((Bg0).cl rfl)) fun a6 f6 => ?_
 refine L.va f6 (E.eql f6 rfl rfl) fun a7 f7 => ?_
 refine L.ag f7 fun a8 f8 => ?_
 refine wn hK2 ?_
 have f9 := f8.pk [0, 2, 3, 5, 8, 9]
 clear f1 a0 f2 a2 f3 f4 a3 f5 a5 f6 a6 f7 a7 f8
 refine f9.splitD 9 rfl (fun h0 f10 => ?_) (fun h0 f10 => ?_)
 ·have hq0 := h0
  refine C.condT f10 rfl ?_
  refine C.sk fun K3 hK3 => ?_
  refine L.mv f10 fun a11 f11 => ?_
  refine wn hK3 ?_
  have f12 := f11.pk [5, 8, 13]
  clear f9 f10 a8 f11
  refine f12.split 13 rfl (fun h1 f13 => ?_) (fun h1 f13 => ?_)
  ·have hon := h1
   refine C.condT f13 rfl ?_
   refine C.sk fun K4 hK4 => ?_
   refine L.va f13 (E.loadB f13 U30 rfl wsz30_re rfl (Bg0) rfl) fun a14 f14 => ?_
   refine L.cl f14 (run_call Tryz.call50 (args3 f14 rfl rfl rfl)) (publishR_any m Am cm 0 false _) ?_
   clear f12 f13 a11
   rintro e w2 ⟨kc2, rfl⟩
   refine ⟨_, rfl, fun a15 f15 => ?_⟩
   have szw2 := kc2.size
   replace HK := HK.trans (.of_kept0 kc2)
   replace HK0 := HK0.trans (.of_kept0 kc2)
   replace HK1 := HK1.trans (.of_kept0 kc2)
   replace BP := BP.z kc2
   replace BQ := BQ.z kc2
   replace HP := HP.mod (Mod.of_kept0 (T := []) (M := []) (B := B) kc2) (by decide)
   replace HQF := HQF.mod (Mod.of_kept0 (T := []) (M := []) (B := B) kc2) (by decide)
   replace Bg0 := Bg0.z kc2
   clear f14 a14 kc2
   refine L.buildSlice f15 wantedN (by decide) (parts1 f15 rfl) U42 wzj35 rfl rfl (wpk1 ⟨pubP m 0 false, Am, cm⟩) fun a16 w3 g2 N2 f16 => ?_
   have OWR := N2.own (k := 1) (size := 24) rfl (by decide)
   have Bg2 := N2.blk
   have kg2 := N2.kept
   have log2 := N2.lo
   have ltg2 := Bg2.lt
   have szw3 := kg2.size
   have frg2 : w.heap.size ≤ g2 := Nat.le_trans HK.size log2
   have nep_g2 : p ≠ g2 := by have := BP.lt; omega
   have nes.q_g2 : s.q ≠ g2 := by have := BQ.lt; omega
   have neg0_g2 : g0 ≠ g2 := by have := Bg0.lt; omega
   replace HK := HK.trans (.of_kept0 kg2)
   replace HK0 := HK0.trans (.of_kept0 kg2)
   replace HK1 := HK1.trans (.of_kept0 kg2)
   replace BP := BP.z kg2
   replace BQ := BQ.z kg2
   replace HP := HP.mod (Mod.of_kept0 (T := []) (M := []) (B := B) kg2) (by decide)
   replace HQF := HQF.mod (Mod.of_kept0 (T := []) (M := []) (B := B) kg2) (by decide)
   replace Bg0 := Bg0.z kg2
   clear N2 kg2
   refine L.ag f16 fun a17 f17 => ?_
   have f18 := f17.pk [8]
   refine wn hK4 (wp_ret ?_); (try simp only [xt, xb]); refine C.ret f18 rfl rfl ?_
   exact ⟨⟨s, _, _, [⟨pubP m 0 false, Am, cm⟩], rfl, hS.mod HK0 (by simp), by rw [sendS, if_pos ⟨hq0, hon⟩]; rfl, Rs.Like.refl _ _, HK, pk_one OWR frg2 HP, by simp⟩, HQF⟩
  have hoff := h1
  refine C.condF f13 rfl ?_
  refine wp_skip (hK1 _ _ ?_)
  have f14 := f13.pk [8]
  refine C.sk fun K5 hK5 => ?_
  refine L.ag f14 fun a15 f15 => ?_
  have f16 := f15.pk [8]
  refine wn hK5 (wp_ret ?_); (try simp only [xt, xb]); refine C.ret f16 rfl rfl ?_
  exact ⟨⟨s, none, 0, [], rfl, hS.mod HK0 (by simp), by rw [send_none (fun h => by rw [hoff] at h; cases h.2) (by omega)]; rfl, Rs.Like.refl _ _, HK, PkAt.nil _ _ _, by simp⟩, HQF⟩
 have hq0 := h0
 refine C.condF f10 rfl ?_
 refine C.sk fun K6 hK6 => ?_
 refine L.fa 2 f10 U30 rfl wsz3_re fun a11 f11 => ?_
 refine L.va f11 (E.load f11 U3 rfl rfl ((Bg0).cl rfl)) fun a12 f12 => ?_
 refine L.va f12 (E.eql f12 rfl rfl) fun a13 f13 => ?_
 refine L.mv f13 fun a14 f14 => ?_
 clear f9 f10 a8 f11 a11 f12 a12 f13 a13
 refine f14.splitD 21 rfl (fun h2 f15 => ?_) (fun h2 f15 => ?_)
 ·have h20 := h2
  refine L.run f15 (rest' := []) (by kernel_rfl) fun a16 f16 => ?_
  clear f14
  refine wn hK6 ?_
  have f17 := f16.sub (sv 17 (.bool true) (pkR f16 [0, 2, 3, 5, 8]))
  refine C.condT f17 rfl ?_
  refine wp_seq_k fun K7 hK7 => C.sk fun K8 hK8 => ?_
  refine L.mv f17 fun a18 f18 => ?_
  refine L.mv f18 fun a19 f19 => ?_
  clear f16 f15 f17 a16 f18 a18
  refine f19.split 27 rfl (fun h3 f20 => ?_) (fun h3 f20 => ?_)
  ·have hon4 := h3
   refine L.mv f20 (hw := (f20.yes rfl rfl)) fun a21 f21 => ?_
   refine L.va f21 (E.nilCheck f21 rfl) (hw := (f21.yes rfl rfl)) fun a22 f22 => ?_
   refine L.fa 4 f22 U64 rfl wsz62_re (hw := (f22.yes rfl rfl)) fun a23 f23 => ?_
   refine L.va f23 (E.load f23 Tryz.underlying62 rfl rfl ((BP).cl rfl)) (hw := (f23.yes rfl rfl)) fun a24 f24 => ?_
   refine L.va f24 (E.lenL f24 Tryz.underlying62 rfl) (hw := (f24.yes rfl rfl)) fun a25 f25 => ?_
   refine L.va f25 (E.lss f25 rfl rfl) (hw := (f25.yes rfl rfl)) fun a26 f26 => ?_
   refine L.va f26 (E.pickT f26 rfl rfl) fun a27 f27 => ?_
   clear f19 f20 a19 f21 a21 f22 a22 f23 a23 f24 a24 f25 a25 f26 a26
   refine L.mv f27 fun a28 f28 => ?_
   clear f27 a27
   refine f28.splitD 35 rfl (fun h4 f29 => ?_) (fun h4 f29 => ?_)
   ·have hlt := h4
    refine L.mv f29 (hw := (f29.yes rfl rfl)) fun a30 f30 => ?_
    refine L.va f30 (E.nilCheck f30 rfl) (hw := (f30.yes rfl rfl)) fun a31 f31 => ?_
    refine L.fa 3 f31 U64 rfl wsz60_re (hw := (f31.yes rfl rfl)) fun a32 f32 => ?_
    refine L.va f32 (E.load f32 Tryz.underlying60 rfl rfl ((BP).cl rfl)) (hw := (f32.yes rfl rfl)) fun a33 f33 => ?_
    refine L.va f33 (E.nilCheck f33 rfl) (hw := (f33.yes rfl rfl)) fun a34 f34 => ?_
    refine L.fa 2 f34 U76 rfl wsz74_re (hw := (f34.yes rfl rfl)) fun a35 f35 => ?_
    refine L.va f35 (E.load f35 U74 rfl rfl ((BQ).cl rfl)) (hw := (f35.yes rfl rfl)) fun a36 f36 => ?_
    clear f28 f29 a28 f30 a30 f31 a31 f32 a32 f33 a33 f34 a34 f35 a35
    refine L.va f36 (E.lenL f36 U74 rfl) (hw := (f36.yes rfl rfl)) fun a37 f37 => ?_
    refine L.va f37 (E.eql f37 rfl rfl) (hw := (f37.yes rfl rfl)) fun a38 f38 => ?_
    refine L.va f38 (E.pickT f38 rfl rfl) fun a39 f39 => ?_
    refine wn hK8 ?_
    have f40 := f39.pk [0, 3, 5, 8, 45]
    clear f36 a36 f37 a37 f38 a38 f39
    refine f40.splitD 45 rfl (fun h5 f41 => ?_) (fun h5 f41 => ?_)
    ·have hz := h5
     refine C.condT f41 rfl ?_
     refine C.sk fun K9 hK9 => ?_
     refine L.mv f41 fun a42 f42 => ?_
     refine L.va f42 (E.loadB f42 U30 rfl wsz30_re rfl (Bg0) rfl) fun a43 f43 => ?_
     refine L.mv f43 fun a44 f44 => ?_
     refine L.cl f44 (run_call Tryz.call51 (args3 f44 rfl rfl rfl)) (start_any B p s m Am cm now _ (hS.mod HK0 (by simp)) HP (by omega) (by omega)) ?_
     clear f40 f41 a39 f42 a42 f43 a43
     rintro e w2 ⟨u2, Ap, cp, rfl, HS2, hab, hL2, kc2, HR⟩
     replace hL2 := (Rs.Like.refl w s).trans hL2 HK.size
     refine ⟨_, rfl, fun a45 f45 => ?_⟩
     have szw2 := kc2.size
     replace HK := HK.step kc2 (by decide) (by simp) (by omega)
     replace HQF := HQF.mod kc2 (by decide)
     replace Bg0 := Bg0.mod kc2 (by decide)
     clear f44 a44 kc2
     refine L.buildSlice f45 wantedN (by decide) (parts1 f45 rfl) U42 wzj35 rfl rfl (wpk1 ⟨riseP s.abs m, Ap, cp⟩) fun a46 w3 g2 N2 f46 => ?_
     have OWR := N2.own (k := 1) (size := 24) rfl (by decide)
     have Bg2 := N2.blk
     have kg2 := N2.kept
     have log2 := N2.lo
     have ltg2 := Bg2.lt
     have szw3 := kg2.size
     have frg2 : w.heap.size ≤ g2 := Nat.le_trans HK.size log2
     have neg0_g2 : g0 ≠ g2 := by have := Bg0.lt; omega
     replace HK := HK.trans (.of_kept0 kg2)
     replace HQF := HQF.mod (Mod.of_kept0 (T := []) (M := []) (B := B) kg2) (by decide)
     replace Bg0 := Bg0.z kg2
     replace HS2 := HS2.mod (Mod.of_kept0 (T := []) (M := []) (B := B) kg2) (by decide)
     replace HR := HR.mod (Mod.of_kept0 (T := []) (M := []) (B := B) kg2) (by decide)
     clear N2 kg2
     refine L.ag f46 fun a47 f47 => ?_
     have f48 := f47.pk [0, 5, 8]
     refine wn hK9 (wp_ret ?_); (try simp only [xt, xb]); refine C.ret f48 rfl rfl ?_
     exact ⟨⟨u2, _, _, [⟨riseP s.abs m, Ap, cp⟩], rfl, HS2, by rw [sendR_rise (fun h => hq0 h.1) (by omega) (by omega) hon4 hlt hz, hab]; rfl, hL2, HK, pk_one OWR frg2 HR, by simp⟩, HQF⟩
    have hnz := h5
    refine C.condF f41 rfl ?_
    refine wp_skip (hK7 _ _ ?_)
    have f42 := f41.pk [0, 5, 8]
    have hnot : on = true → (s.fly.length : Int) < 4 → (s.wait.length : Int) = 0 → False := by intro a1 a2 a3; omega
    obtain ⟨MM, hMM⟩ : ∃ MM, MM = s.q :: (Value.slice s.QA s.wait.length s.qc).ownBlock.toList := ⟨_, rfl⟩
    have hpM : p ∉ MM := by rw [hMM]; exact fun hx => (List.mem_cons.1 hx).elim hS.p_ne_q (own_ne hS.qu.own hS.top (by decide))
    have hg0M : g0 ∉ MM := by rw [hMM]; exact fun hx => (List.mem_cons.1 hx).elim (fun e => by have := hS.qu.top.lt; omega) (own_old hS.qu.own frg0)
    refine R.begin (S := fun W => Kept MM w1 W) (by kernel_rfl) (by exact (Kept.refl _ _).drewN 1) ?_
    have hS7 : Kept MM w1 (w1.drewN 1) := (Kept.refl _ _).drewN 1
    have hd7 : Kept [] w1 (w1.drewN 1) := (Kept.refl _ _).drewN 1
    obtain ⟨w2, hww2⟩ : ∃ W, W = w1.drewN 1 := ⟨_, rfl⟩
    rw [← hww2] at hS7 hd7 ⊢
    clear f40 f41 hww2
    have szw2 := hS7.size
    replace HK0 := HK0.trans (.of_kept0 hd7)
    replace HP := HP.kept0 hd7
    replace HQF := HQF.mod (T := []) (M := []) (Mod.of_kept0 (B := B) hd7) (by simp)
    refine R.mv 0 f42 rfl hS7 fun a43 f43 => ?_
    refine R.t 1 f43 rfl hS7 (fun W hW => (E.nilCheck f43 rfl)) fun a44 f44 => ?_
    refine R.t 2 f44 rfl hS7 (fun W hW => (E.fa 3 f44 U64 rfl wsz60_re)) fun a45 f45 => ?_
    refine R.t 3 f45 rfl hS7 (fun W hW => (E.load f45 Tryz.underlying60 rfl rfl ((BP.kept hW (by assumption)).cl rfl))) fun a46 f46 => ?_
    refine R.t 4 f46 rfl hS7 (fun W hW => (E.loadB f46 U30 rfl wsz30_re rfl (Bg0.kept hW (by assumption)) rfl)) fun a47 f47 => ?_
    refine R.call 5 f47 rfl rfl (by decide) (by kernel_rfl) wantedN (run_call Tryz.call52 (args2 f47 rfl rfl)) (pushR_any B s.q s.QA s.qc s.wait s.lost m Am cm _ (hS.qu.mod HK0 (by decide)) HP (by omega) hl) ?_
    clear f42 a39 f43 a43 f44 a44 f45 a45 f46 a46
    rintro e w3 ⟨km, kc3, rfl, A2, c2, l2, HQ, hql, hrow0⟩
    rw [← hMM] at kc3
    have hrow : Row w s.QA A2 := fun b hb => (hrow0 b hb).imp id (Nat.le_trans HK0.size)
    have HQG : QFar w w3 s.QA := qfarR_of hS.qu HK0 hMM kc3
    replace hS7 := hS7.trans kc3 (by exact fun x hx _ => hx)
    refine ⟨_, rfl, hS7, fun a48 f48 => ?_⟩
    have szw3 := kc3.size
    clear f47 a47 kc3
    have szw3r := hS7.size
    have KM := km.mono (B' := B) (T' := [76, 30]) (M' := []) (by decide) (by simp) (Nat.le_refl _)
    replace KM := (Mod.of_kept0 hd7).trans KM
    have HQF := HQG
    replace HK := HK.step KM (by decide) (by simp) (by omega)
    replace HK1 := HK1.step KM (by decide) (by simp) (by omega)
    replace BP := BP.kept hS7 (by assumption)
    replace Bg0 := Bg0.kept hS7 (by assumption)
    clear hS7
    refine R.done (by kernel_rfl) (hK1 _ _ ?_)
    have f49 := f48.pk [8]
    refine C.sk fun K10 hK10 => ?_
    refine L.ag f49 fun a50 f50 => ?_
    have f51 := f50.pk [8]
    refine wn hK10 (wp_ret ?_); (try simp only [xt, xb]); refine C.ret f51 rfl rfl ?_
    exact ⟨sendR_fin hS HK HK1 BP HQ hql hrow (sendR_push (fun h => hq0 h.1) (by omega) (by omega) (fun h => hnot h.1 h.2.1 h.2.2)), HQF⟩
   have hge := h4
   refine L.run f29 (rest' := []) (by kernel_rfl) fun a30 f30 => ?_
   clear f28
   refine wn hK8 ?_
   have f31 := f30.sub (sv 45 (.bool false) (pkR f30 [0, 3, 5, 8]))
   refine C.condF f31 rfl ?_
   refine wp_skip (hK7 _ _ ?_)
   have f32 := f31.pk [0, 5, 8]
   have hnot : on = true → (s.fly.length : Int) < 4 → (s.wait.length : Int) = 0 → False := by intro a1 a2 a3; omega
   obtain ⟨MM, hMM⟩ : ∃ MM, MM = s.q :: (Value.slice s.QA s.wait.length s.qc).ownBlock.toList := ⟨_, rfl⟩
   have hpM : p ∉ MM := by rw [hMM]; exact fun hx => (List.mem_cons.1 hx).elim hS.p_ne_q (own_ne hS.qu.own hS.top (by decide))
   have hg0M : g0 ∉ MM := by rw [hMM]; exact fun hx => (List.mem_cons.1 hx).elim (fun e => by have := hS.qu.top.lt; omega) (own_old hS.qu.own frg0)
   refine R.begin (S := fun W => Kept MM w1 W) (by kernel_rfl) (by exact (Kept.refl _ _).drewN 1) ?_
   have hS7 : Kept MM w1 (w1.drewN 1) := (Kept.refl _ _).drewN 1
   have hd7 : Kept [] w1 (w1.drewN 1) := (Kept.refl _ _).drewN 1
   obtain ⟨w2, hww2⟩ : ∃ W, W = w1.drewN 1 := ⟨_, rfl⟩
   rw [← hww2] at hS7 hd7 ⊢
   clear f30 f29 f31 hww2
   have szw2 := hS7.size
   replace HK0 := HK0.trans (.of_kept0 hd7)
   replace HP := HP.kept0 hd7
   replace HQF := HQF.mod (T := []) (M := []) (Mod.of_kept0 (B := B) hd7) (by simp)
   refine R.mv 0 f32 rfl hS7 fun a33 f33 => ?_
   refine R.t 1 f33 rfl hS7 (fun W hW => (E.nilCheck f33 rfl)) fun a34 f34 => ?_
   refine R.t 2 f34 rfl hS7 (fun W hW => (E.fa 3 f34 U64 rfl wsz60_re)) fun a35 f35 => ?_
   refine R.t 3 f35 rfl hS7 (fun W hW => (E.load f35 Tryz.underlying60 rfl rfl ((BP.kept hW (by assumption)).cl rfl))) fun a36 f36 => ?_
   refine R.t 4 f36 rfl hS7 (fun W hW => (E.loadB f36 U30 rfl wsz30_re rfl (Bg0.kept hW (by assumption)) rfl)) fun a37 f37 => ?_
   refine R.call 5 f37 rfl rfl (by decide) (by kernel_rfl) wantedN (run_call Tryz.call52 (args2 f37 rfl rfl)) (pushR_any B s.q s.QA s.qc s.wait s.lost m Am cm _ (hS.qu.mod HK0 (by decide)) HP (by omega) hl) ?_
   clear f32 a30 f33 a33 f34 a34 f35 a35 f36 a36
   rintro e w3 ⟨km, kc3, rfl, A2, c2, l2, HQ, hql, hrow0⟩
   rw [← hMM] at kc3
   have hrow : Row w s.QA A2 := fun b hb => (hrow0 b hb).imp id (Nat.le_trans HK0.size)
   have HQG : QFar w w3 s.QA := qfarR_of hS.qu HK0 hMM kc3
   replace hS7 := hS7.trans kc3 (by exact fun x hx _ => hx)
   refine ⟨_, rfl, hS7, fun a38 f38 => ?_⟩
   have szw3 := kc3.size
   clear f37 a37 kc3
   have szw3r := hS7.size
   have KM := km.mono (B' := B) (T' := [76, 30]) (M' := []) (by decide) (by simp) (Nat.le_refl _)
   replace KM := (Mod.of_kept0 hd7).trans KM
   have HQF := HQG
   replace HK := HK.step KM (by decide) (by simp) (by omega)
   replace HK1 := HK1.step KM (by decide) (by simp) (by omega)
   replace BP := BP.kept hS7 (by assumption)
   replace Bg0 := Bg0.kept hS7 (by assumption)
   clear hS7
   refine R.done (by kernel_rfl) (hK1 _ _ ?_)
   have f39 := f38.pk [8]
   refine C.sk fun K11 hK11 => ?_
   refine L.ag f39 fun a40 f40 => ?_
   have f41 := f40.pk [8]
   refine wn hK11 (wp_ret ?_); (try simp only [xt, xb]); refine C.ret f41 rfl rfl ?_
   exact ⟨sendR_fin hS HK HK1 BP HQ hql hrow (sendR_push (fun h => hq0 h.1) (by omega) (by omega) (fun h => hnot h.1 h.2.1 h.2.2)), HQF⟩
  have hoff := h3
  refine L.run f20 (rest' := []) (by kernel_rfl) fun a21 f21 => ?_
  clear f19
  refine wn hK8 ?_
  have f22 := f21.sub (sv 45 (.bool false) (pkR f21 [0, 3, 5, 8]))
  refine C.condF f22 rfl ?_
  refine wp_skip (hK7 _ _ ?_)
  have f23 := f22.pk [0, 5, 8]
  have hnot : on = true → (s.fly.length : Int) < 4 → (s.wait.length : Int) = 0 → False := by intro a1 a2 a3; (rw [hoff] at a1; cases a1)
  obtain ⟨MM, hMM⟩ : ∃ MM, MM = s.q :: (Value.slice s.QA s.wait.length s.qc).ownBlock.toList := ⟨_, rfl⟩
  have hpM : p ∉ MM := by rw [hMM]; exact fun hx => (List.mem_cons.1 hx).elim hS.p_ne_q (own_ne hS.qu.own hS.top (by decide))
  have hg0M : g0 ∉ MM := by rw [hMM]; exact fun hx => (List.mem_cons.1 hx).elim (fun e => by have := hS.qu.top.lt; omega) (own_old hS.qu.own frg0)
  refine R.begin (S := fun W => Kept MM w1 W) (by kernel_rfl) (by exact (Kept.refl _ _).drewN 1) ?_
  have hS7 : Kept MM w1 (w1.drewN 1) := (Kept.refl _ _).drewN 1
  have hd7 : Kept [] w1 (w1.drewN 1) := (Kept.refl _ _).drewN 1
  obtain ⟨w2, hww2⟩ : ∃ W, W = w1.drewN 1 := ⟨_, rfl⟩
  rw [← hww2] at hS7 hd7 ⊢
  clear f21 f20 f22 hww2
  have szw2 := hS7.size
  replace HK0 := HK0.trans (.of_kept0 hd7)
  replace HP := HP.kept0 hd7
  replace HQF := HQF.mod (T := []) (M := []) (Mod.of_kept0 (B := B) hd7) (by simp)
  refine R.mv 0 f23 rfl hS7 fun a24 f24 => ?_
  refine R.t 1 f24 rfl hS7 (fun W hW => (E.nilCheck f24 rfl)) fun a25 f25 => ?_
  refine R.t 2 f25 rfl hS7 (fun W hW => (E.fa 3 f25 U64 rfl wsz60_re)) fun a26 f26 => ?_
  refine R.t 3 f26 rfl hS7 (fun W hW => (E.load f26 Tryz.underlying60 rfl rfl ((BP.kept hW (by assumption)).cl rfl))) fun a27 f27 => ?_
  refine R.t 4 f27 rfl hS7 (fun W hW => (E.loadB f27 U30 rfl wsz30_re rfl (Bg0.kept hW (by assumption)) rfl)) fun a28 f28 => ?_
  refine R.call 5 f28 rfl rfl (by decide) (by kernel_rfl) wantedN (run_call Tryz.call52 (args2 f28 rfl rfl)) (pushR_any B s.q s.QA s.qc s.wait s.lost m Am cm _ (hS.qu.mod HK0 (by decide)) HP (by omega) hl) ?_
  clear f23 a21 f24 a24 f25 a25 f26 a26 f27 a27
  rintro e w3 ⟨km, kc3, rfl, A2, c2, l2, HQ, hql, hrow0⟩
  rw [← hMM] at kc3
  have hrow : Row w s.QA A2 := fun b hb => (hrow0 b hb).imp id (Nat.le_trans HK0.size)
  have HQG : QFar w w3 s.QA := qfarR_of hS.qu HK0 hMM kc3
  replace hS7 := hS7.trans kc3 (by exact fun x hx _ => hx)
  refine ⟨_, rfl, hS7, fun a29 f29 => ?_⟩
  have szw3 := kc3.size
  clear f28 a28 kc3
  have szw3r := hS7.size
  have KM := km.mono (B' := B) (T' := [76, 30]) (M' := []) (by decide) (by simp) (Nat.le_refl _)
  replace KM := (Mod.of_kept0 hd7).trans KM
  have HQF := HQG
  replace HK := HK.step KM (by decide) (by simp) (by omega)
  replace HK1 := HK1.step KM (by decide) (by simp) (by omega)
  replace BP := BP.kept hS7 (by assumption)
  replace Bg0 := Bg0.kept hS7 (by assumption)
  clear hS7
  refine R.done (by kernel_rfl) (hK1 _ _ ?_)
  have f30 := f29.pk [8]
  refine C.sk fun K12 hK12 => ?_
  refine L.ag f30 fun a31 f31 => ?_
  have f32 := f31.pk [8]
  refine wn hK12 (wp_ret ?_); (try simp only [xt, xb]); refine C.ret f32 rfl rfl ?_
  exact ⟨sendR_fin hS HK HK1 BP HQ hql hrow (sendR_push (fun h => hq0 h.1) (by omega) (by omega) (fun h => hnot h.1 h.2.1 h.2.2)), HQF⟩
 have h20 := h2
 refine L.fa 2 f15 U30 rfl wsz3_re (hw := (f15.yes rfl rfl)) fun a16 f16 => ?_
 refine L.va f16 (E.load f16 U3 rfl rfl ((Bg0).cl rfl)) (hw := (f16.yes rfl rfl)) fun a17 f17 => ?_
 refine L.va f17 (E.eql f17 rfl rfl) (hw := (f17.yes rfl rfl)) fun a18 f18 => ?_
 refine L.va f18 (E.pickF f18 rfl rfl) fun a19 f19 => ?_
 refine L.ag f19 fun a20 f20 => ?_
 refine wn hK6 ?_
 have f21 := f20.pk [0, 2, 3, 5, 8, 17]
 clear f14 f15 a14 f16 a16 f17 a17 f18 a18 f19 a19 f20
 refine f21.splitD 17 rfl (fun h6 f22 => ?_) (fun h6 f22 => ?_)
 ·have h24 := h6
  refine C.condT f22 rfl ?_
  refine wp_seq_k fun K13 hK13 => C.sk fun K14 hK14 => ?_
  refine L.mv f22 fun a23 f23 => ?_
  refine L.mv f23 fun a24 f24 => ?_
  clear f21 f22 a20 f23 a23
  refine f24.split 27 rfl (fun h7 f25 => ?_) (fun h7 f25 => ?_)
  ·have hon4 := h7
   refine L.mv f25 (hw := (f25.yes rfl rfl)) fun a26 f26 => ?_
   refine L.va f26 (E.nilCheck f26 rfl) (hw := (f26.yes rfl rfl)) fun a27 f27 => ?_
   refine L.fa 4 f27 U64 rfl wsz62_re (hw := (f27.yes rfl rfl)) fun a28 f28 => ?_
   refine L.va f28 (E.load f28 Tryz.underlying62 rfl rfl ((BP).cl rfl)) (hw := (f28.yes rfl rfl)) fun a29 f29 => ?_
   refine L.va f29 (E.lenL f29 Tryz.underlying62 rfl) (hw := (f29.yes rfl rfl)) fun a30 f30 => ?_
   refine L.va f30 (E.lss f30 rfl rfl) (hw := (f30.yes rfl rfl)) fun a31 f31 => ?_
   refine L.va f31 (E.pickT f31 rfl rfl) fun a32 f32 => ?_
   clear f24 f25 a24 f26 a26 f27 a27 f28 a28 f29 a29 f30 a30 f31 a31
   refine L.mv f32 fun a33 f33 => ?_
   clear f32 a32
   refine f33.splitD 35 rfl (fun h8 f34 => ?_) (fun h8 f34 => ?_)
   ·have hlt := h8
    refine L.mv f34 (hw := (f34.yes rfl rfl)) fun a35 f35 => ?_
    refine L.va f35 (E.nilCheck f35 rfl) (hw := (f35.yes rfl rfl)) fun a36 f36 => ?_
    refine L.fa 3 f36 U64 rfl wsz60_re (hw := (f36.yes rfl rfl)) fun a37 f37 => ?_
    refine L.va f37 (E.load f37 Tryz.underlying60 rfl rfl ((BP).cl rfl)) (hw := (f37.yes rfl rfl)) fun a38 f38 => ?_
    refine L.va f38 (E.nilCheck f38 rfl) (hw := (f38.yes rfl rfl)) fun a39 f39 => ?_
    refine L.fa 2 f39 U76 rfl wsz74_re (hw := (f39.yes rfl rfl)) fun a40 f40 => ?_
    refine L.va f40 (E.load f40 U74 rfl rfl ((BQ).cl rfl)) (hw := (f40.yes rfl rfl)) fun a41 f41 => ?_
    clear f33 f34 a33 f35 a35 f36 a36 f37 a37 f38 a38 f39 a39 f40 a40
    refine L.va f41 (E.lenL f41 U74 rfl) (hw := (f41.yes rfl rfl)) fun a42 f42 => ?_
    refine L.va f42 (E.eql f42 rfl rfl) (hw := (f42.yes rfl rfl)) fun a43 f43 => ?_
    refine L.va f43 (E.pickT f43 rfl rfl) fun a44 f44 => ?_
    refine wn hK14 ?_
    have f45 := f44.pk [0, 3, 5, 8, 45]
    clear f41 a41 f42 a42 f43 a43 f44
    refine f45.splitD 45 rfl (fun h9 f46 => ?_) (fun h9 f46 => ?_)
    ·have hz := h9
     refine C.condT f46 rfl ?_
     refine C.sk fun K15 hK15 => ?_
     refine L.mv f46 fun a47 f47 => ?_
     refine L.va f47 (E.loadB f47 U30 rfl wsz30_re rfl (Bg0) rfl) fun a48 f48 => ?_
     refine L.mv f48 fun a49 f49 => ?_
     refine L.cl f49 (run_call Tryz.call51 (args3 f49 rfl rfl rfl)) (start_any B p s m Am cm now _ (hS.mod HK0 (by simp)) HP (by omega) (by omega)) ?_
     clear f45 f46 a44 f47 a47 f48 a48
     rintro e w2 ⟨u2, Ap, cp, rfl, HS2, hab, hL2, kc2, HR⟩
     replace hL2 := (Rs.Like.refl w s).trans hL2 HK.size
     refine ⟨_, rfl, fun a50 f50 => ?_⟩
     have szw2 := kc2.size
     replace HK := HK.step kc2 (by decide) (by simp) (by omega)
     replace HQF := HQF.mod kc2 (by decide)
     replace Bg0 := Bg0.mod kc2 (by decide)
     clear f49 a49 kc2
     refine L.buildSlice f50 wantedN (by decide) (parts1 f50 rfl) U42 wzj35 rfl rfl (wpk1 ⟨riseP s.abs m, Ap, cp⟩) fun a51 w3 g2 N2 f51 => ?_
     have OWR := N2.own (k := 1) (size := 24) rfl (by decide)
     have Bg2 := N2.blk
     have kg2 := N2.kept
     have log2 := N2.lo
     have ltg2 := Bg2.lt
     have szw3 := kg2.size
     have frg2 : w.heap.size ≤ g2 := Nat.le_trans HK.size log2
     have neg0_g2 : g0 ≠ g2 := by have := Bg0.lt; omega
     replace HK := HK.trans (.of_kept0 kg2)
     replace HQF := HQF.mod (Mod.of_kept0 (T := []) (M := []) (B := B) kg2) (by decide)
     replace Bg0 := Bg0.z kg2
     replace HS2 := HS2.mod (Mod.of_kept0 (T := []) (M := []) (B := B) kg2) (by decide)
     replace HR := HR.mod (Mod.of_kept0 (T := []) (M := []) (B := B) kg2) (by decide)
     clear N2 kg2
     refine L.ag f51 fun a52 f52 => ?_
     have f53 := f52.pk [0, 5, 8]
     refine wn hK15 (wp_ret ?_); (try simp only [xt, xb]); refine C.ret f53 rfl rfl ?_
     exact ⟨⟨u2, _, _, [⟨riseP s.abs m, Ap, cp⟩], rfl, HS2, by rw [sendR_rise (fun h => hq0 h.1) (by omega) (by omega) hon4 hlt hz, hab]; rfl, hL2, HK, pk_one OWR frg2 HR, by simp⟩, HQF⟩
    have hnz := h9
    refine C.condF f46 rfl ?_
    refine wp_skip (hK13 _ _ ?_)
    have f47 := f46.pk [0, 5, 8]
    have hnot : on = true → (s.fly.length : Int) < 4 → (s.wait.length : Int) = 0 → False := by intro a1 a2 a3; omega
    obtain ⟨MM, hMM⟩ : ∃ MM, MM = s.q :: (Value.slice s.QA s.wait.length s.qc).ownBlock.toList := ⟨_, rfl⟩
    have hpM : p ∉ MM := by rw [hMM]; exact fun hx => (List.mem_cons.1 hx).elim hS.p_ne_q (own_ne hS.qu.own hS.top (by decide))
    have hg0M : g0 ∉ MM := by rw [hMM]; exact fun hx => (List.mem_cons.1 hx).elim (fun e => by have := hS.qu.top.lt; omega) (own_old hS.qu.own frg0)
    refine R.begin (S := fun W => Kept MM w1 W) (by kernel_rfl) (by exact (Kept.refl _ _).drewN 1) ?_
    have hS7 : Kept MM w1 (w1.drewN 1) := (Kept.refl _ _).drewN 1
    have hd7 : Kept [] w1 (w1.drewN 1) := (Kept.refl _ _).drewN 1
    obtain ⟨w2, hww2⟩ : ∃ W, W = w1.drewN 1 := ⟨_, rfl⟩
    rw [← hww2] at hS7 hd7 ⊢
    clear f45 f46 hww2
    have szw2 := hS7.size
    replace HK0 := HK0.trans (.of_kept0 hd7)
    replace HP := HP.kept0 hd7
    replace HQF := HQF.mod (T := []) (M := []) (Mod.of_kept0 (B := B) hd7) (by simp)
    refine R.mv 0 f47 rfl hS7 fun a48 f48 => ?_
    refine R.t 1 f48 rfl hS7 (fun W hW => (E.nilCheck f48 rfl)) fun a49 f49 => ?_
    refine R.t 2 f49 rfl hS7 (fun W hW => (E.fa 3 f49 U64 rfl wsz60_re)) fun a50 f50 => ?_
    refine R.t 3 f50 rfl hS7 (fun W hW => (E.load f50 Tryz.underlying60 rfl rfl ((BP.kept hW (by assumption)).cl rfl))) fun a51 f51 => ?_
    refine R.t 4 f51 rfl hS7 (fun W hW => (E.loadB f51 U30 rfl wsz30_re rfl (Bg0.kept hW (by assumption)) rfl)) fun a52 f52 => ?_
    refine R.call 5 f52 rfl rfl (by decide) (by kernel_rfl) wantedN (run_call Tryz.call52 (args2 f52 rfl rfl)) (pushR_any B s.q s.QA s.qc s.wait s.lost m Am cm _ (hS.qu.mod HK0 (by decide)) HP (by omega) hl) ?_
    clear f47 a44 f48 a48 f49 a49 f50 a50 f51 a51
    rintro e w3 ⟨km, kc3, rfl, A2, c2, l2, HQ, hql, hrow0⟩
    rw [← hMM] at kc3
    have hrow : Row w s.QA A2 := fun b hb => (hrow0 b hb).imp id (Nat.le_trans HK0.size)
    have HQG : QFar w w3 s.QA := qfarR_of hS.qu HK0 hMM kc3
    replace hS7 := hS7.trans kc3 (by exact fun x hx _ => hx)
    refine ⟨_, rfl, hS7, fun a53 f53 => ?_⟩
    have szw3 := kc3.size
    clear f52 a52 kc3
    have szw3r := hS7.size
    have KM := km.mono (B' := B) (T' := [76, 30]) (M' := []) (by decide) (by simp) (Nat.le_refl _)
    replace KM := (Mod.of_kept0 hd7).trans KM
    have HQF := HQG
    replace HK := HK.step KM (by decide) (by simp) (by omega)
    replace HK1 := HK1.step KM (by decide) (by simp) (by omega)
    replace BP := BP.kept hS7 (by assumption)
    replace Bg0 := Bg0.kept hS7 (by assumption)
    clear hS7
    refine R.done (by kernel_rfl) (hK1 _ _ ?_)
    have f54 := f53.pk [8]
    refine C.sk fun K16 hK16 => ?_
    refine L.ag f54 fun a55 f55 => ?_
    have f56 := f55.pk [8]
    refine wn hK16 (wp_ret ?_); (try simp only [xt, xb]); refine C.ret f56 rfl rfl ?_
    exact ⟨sendR_fin hS HK HK1 BP HQ hql hrow (sendR_push (fun h => hq0 h.1) (by omega) (by omega) (fun h => hnot h.1 h.2.1 h.2.2)), HQF⟩
   have hge := h8
   refine L.run f34 (rest' := []) (by kernel_rfl) fun a35 f35 => ?_
   clear f33
   refine wn hK14 ?_
   have f36 := f35.sub (sv 45 (.bool false) (pkR f35 [0, 3, 5, 8]))
   refine C.condF f36 rfl ?_
   refine wp_skip (hK13 _ _ ?_)
   have f37 := f36.pk [0, 5, 8]
   have hnot : on = true → (s.fly.length : Int) < 4 → (s.wait.length : Int) = 0 → False := by intro a1 a2 a3; omega
   obtain ⟨MM, hMM⟩ : ∃ MM, MM = s.q :: (Value.slice s.QA s.wait.length s.qc).ownBlock.toList := ⟨_, rfl⟩
   have hpM : p ∉ MM := by rw [hMM]; exact fun hx => (List.mem_cons.1 hx).elim hS.p_ne_q (own_ne hS.qu.own hS.top (by decide))
   have hg0M : g0 ∉ MM := by rw [hMM]; exact fun hx => (List.mem_cons.1 hx).elim (fun e => by have := hS.qu.top.lt; omega) (own_old hS.qu.own frg0)
   refine R.begin (S := fun W => Kept MM w1 W) (by kernel_rfl) (by exact (Kept.refl _ _).drewN 1) ?_
   have hS7 : Kept MM w1 (w1.drewN 1) := (Kept.refl _ _).drewN 1
   have hd7 : Kept [] w1 (w1.drewN 1) := (Kept.refl _ _).drewN 1
   obtain ⟨w2, hww2⟩ : ∃ W, W = w1.drewN 1 := ⟨_, rfl⟩
   rw [← hww2] at hS7 hd7 ⊢
   clear f35 f34 f36 hww2
   have szw2 := hS7.size
   replace HK0 := HK0.trans (.of_kept0 hd7)
   replace HP := HP.kept0 hd7
   replace HQF := HQF.mod (T := []) (M := []) (Mod.of_kept0 (B := B) hd7) (by simp)
   refine R.mv 0 f37 rfl hS7 fun a38 f38 => ?_
   refine R.t 1 f38 rfl hS7 (fun W hW => (E.nilCheck f38 rfl)) fun a39 f39 => ?_
   refine R.t 2 f39 rfl hS7 (fun W hW => (E.fa 3 f39 U64 rfl wsz60_re)) fun a40 f40 => ?_
   refine R.t 3 f40 rfl hS7 (fun W hW => (E.load f40 Tryz.underlying60 rfl rfl ((BP.kept hW (by assumption)).cl rfl))) fun a41 f41 => ?_
   refine R.t 4 f41 rfl hS7 (fun W hW => (E.loadB f41 U30 rfl wsz30_re rfl (Bg0.kept hW (by assumption)) rfl)) fun a42 f42 => ?_
   refine R.call 5 f42 rfl rfl (by decide) (by kernel_rfl) wantedN (run_call Tryz.call52 (args2 f42 rfl rfl)) (pushR_any B s.q s.QA s.qc s.wait s.lost m Am cm _ (hS.qu.mod HK0 (by decide)) HP (by omega) hl) ?_
   clear f37 a35 f38 a38 f39 a39 f40 a40 f41 a41
   rintro e w3 ⟨km, kc3, rfl, A2, c2, l2, HQ, hql, hrow0⟩
   rw [← hMM] at kc3
   have hrow : Row w s.QA A2 := fun b hb => (hrow0 b hb).imp id (Nat.le_trans HK0.size)
   have HQG : QFar w w3 s.QA := qfarR_of hS.qu HK0 hMM kc3
   replace hS7 := hS7.trans kc3 (by exact fun x hx _ => hx)
   refine ⟨_, rfl, hS7, fun a43 f43 => ?_⟩
   have szw3 := kc3.size
   clear f42 a42 kc3
   have szw3r := hS7.size
   have KM := km.mono (B' := B) (T' := [76, 30]) (M' := []) (by decide) (by simp) (Nat.le_refl _)
   replace KM := (Mod.of_kept0 hd7).trans KM
   have HQF := HQG
   replace HK := HK.step KM (by decide) (by simp) (by omega)
   replace HK1 := HK1.step KM (by decide) (by simp) (by omega)
   replace BP := BP.kept hS7 (by assumption)
   replace Bg0 := Bg0.kept hS7 (by assumption)
   clear hS7
   refine R.done (by kernel_rfl) (hK1 _ _ ?_)
   have f44 := f43.pk [8]
   refine C.sk fun K17 hK17 => ?_
   refine L.ag f44 fun a45 f45 => ?_
   have f46 := f45.pk [8]
   refine wn hK17 (wp_ret ?_); (try simp only [xt, xb]); refine C.ret f46 rfl rfl ?_
   exact ⟨sendR_fin hS HK HK1 BP HQ hql hrow (sendR_push (fun h => hq0 h.1) (by omega) (by omega) (fun h => hnot h.1 h.2.1 h.2.2)), HQF⟩
  have hoff := h7
  refine L.run f25 (rest' := []) (by kernel_rfl) fun a26 f26 => ?_
  clear f24
  refine wn hK14 ?_
  have f27 := f26.sub (sv 45 (.bool false) (pkR f26 [0, 3, 5, 8]))
  refine C.condF f27 rfl ?_
  refine wp_skip (hK13 _ _ ?_)
  have f28 := f27.pk [0, 5, 8]
  have hnot : on = true → (s.fly.length : Int) < 4 → (s.wait.length : Int) = 0 → False := by intro a1 a2 a3; (rw [hoff] at a1; cases a1)
  obtain ⟨MM, hMM⟩ : ∃ MM, MM = s.q :: (Value.slice s.QA s.wait.length s.qc).ownBlock.toList := ⟨_, rfl⟩
  have hpM : p ∉ MM := by rw [hMM]; exact fun hx => (List.mem_cons.1 hx).elim hS.p_ne_q (own_ne hS.qu.own hS.top (by decide))
  have hg0M : g0 ∉ MM := by rw [hMM]; exact fun hx => (List.mem_cons.1 hx).elim (fun e => by have := hS.qu.top.lt; omega) (own_old hS.qu.own frg0)
  refine R.begin (S := fun W => Kept MM w1 W) (by kernel_rfl) (by exact (Kept.refl _ _).drewN 1) ?_
  have hS7 : Kept MM w1 (w1.drewN 1) := (Kept.refl _ _).drewN 1
  have hd7 : Kept [] w1 (w1.drewN 1) := (Kept.refl _ _).drewN 1
  obtain ⟨w2, hww2⟩ : ∃ W, W = w1.drewN 1 := ⟨_, rfl⟩
  rw [← hww2] at hS7 hd7 ⊢
  clear f26 f25 f27 hww2
  have szw2 := hS7.size
  replace HK0 := HK0.trans (.of_kept0 hd7)
  replace HP := HP.kept0 hd7
  replace HQF := HQF.mod (T := []) (M := []) (Mod.of_kept0 (B := B) hd7) (by simp)
  refine R.mv 0 f28 rfl hS7 fun a29 f29 => ?_
  refine R.t 1 f29 rfl hS7 (fun W hW => (E.nilCheck f29 rfl)) fun a30 f30 => ?_
  refine R.t 2 f30 rfl hS7 (fun W hW => (E.fa 3 f30 U64 rfl wsz60_re)) fun a31 f31 => ?_
  refine R.t 3 f31 rfl hS7 (fun W hW => (E.load f31 Tryz.underlying60 rfl rfl ((BP.kept hW (by assumption)).cl rfl))) fun a32 f32 => ?_
  refine R.t 4 f32 rfl hS7 (fun W hW => (E.loadB f32 U30 rfl wsz30_re rfl (Bg0.kept hW (by assumption)) rfl)) fun a33 f33 => ?_
  refine R.call 5 f33 rfl rfl (by decide) (by kernel_rfl) wantedN (run_call Tryz.call52 (args2 f33 rfl rfl)) (pushR_any B s.q s.QA s.qc s.wait s.lost m Am cm _ (hS.qu.mod HK0 (by decide)) HP (by omega) hl) ?_
  clear f28 a26 f29 a29 f30 a30 f31 a31 f32 a32
  rintro e w3 ⟨km, kc3, rfl, A2, c2, l2, HQ, hql, hrow0⟩
  rw [← hMM] at kc3
  have hrow : Row w s.QA A2 := fun b hb => (hrow0 b hb).imp id (Nat.le_trans HK0.size)
  have HQG : QFar w w3 s.QA := qfarR_of hS.qu HK0 hMM kc3
  replace hS7 := hS7.trans kc3 (by exact fun x hx _ => hx)
  refine ⟨_, rfl, hS7, fun a34 f34 => ?_⟩
  have szw3 := kc3.size
  clear f33 a33 kc3
  have szw3r := hS7.size
  have KM := km.mono (B' := B) (T' := [76, 30]) (M' := []) (by decide) (by simp) (Nat.le_refl _)
  replace KM := (Mod.of_kept0 hd7).trans KM
  have HQF := HQG
  replace HK := HK.step KM (by decide) (by simp) (by omega)
  replace HK1 := HK1.step KM (by decide) (by simp) (by omega)
  replace BP := BP.kept hS7 (by assumption)
  replace Bg0 := Bg0.kept hS7 (by assumption)
  clear hS7
  refine R.done (by kernel_rfl) (hK1 _ _ ?_)
  have f35 := f34.pk [8]
  refine C.sk fun K18 hK18 => ?_
  refine L.ag f35 fun a36 f36 => ?_
  have f37 := f36.pk [8]
  refine wn hK18 (wp_ret ?_); (try simp only [xt, xb]); refine C.ret f37 rfl rfl ?_
  exact ⟨sendR_fin hS HK HK1 BP HQ hql hrow (sendR_push (fun h => hq0 h.1) (by omega) (by omega) (fun h => hnot h.1 h.2.1 h.2.2)), HQF⟩
 have h24 := h6
 refine C.condF f22 rfl ?_
 refine wp_skip (hK1 _ _ ?_)
 have f23 := f22.pk [8]
 refine C.sk fun K19 hK19 => ?_
 refine L.ag f23 fun a24 f24 => ?_
 have f25 := f24.pk [8]
 refine wn hK19 (wp_ret ?_); (try simp only [xt, xb]); refine C.ret f25 rfl rfl ?_
 exact ⟨⟨s, none, 0, [], rfl, hS.mod HK0 (by simp), by rw [send_none (fun h => hq0 h.1) (by omega)]; rfl, Rs.Like.refl _ _, HK, PkAt.nil _ _ _, by simp⟩, HQF⟩
end Go.Proofs.YtdfllmiokgoekaaGreatDoor
namespace Go.Proofs.YtdfllmiokgoekaaGreatDoor
open Go.RowKit Go.Hub
theorem wzib97_rf : (Tryz.prog.info? 97).map (fun i => (i.zero, i.size, i.bytes)) = some (some (.agg #[(.int .i64 0), (.int .i64 0), (.string ⟨#[]⟩), (.slice none 0 0), (.int .i64 0), (.bool false), (.bool false)]), 7, 80) := by kernel_rfl
theorem wsz3_rf : (Tryz.prog.info? 3).map (·.size) = some 1 := by kernel_rfl
theorem wsz58_rf : (Tryz.prog.info? 58).map (·.size) = some 1 := by kernel_rfl
theorem wsz62_rf : (Tryz.prog.info? 62).map (·.size) = some 1 := by kernel_rfl
theorem wsz97_rf : (Tryz.prog.info? 97).map (·.size) = some 7 := by kernel_rfl
theorem rcells_one (l : List Fc) : ∀ u ∈ l.flatMap rcell, u.oneCell' = true := fun u hu => by
  obtain ⟨f, _, hu⟩ := List.mem_flatMap.1 hu
  simp only [rcell, List.mem_cons, List.not_mem_nil, or_false] at hu
  rcases hu with rfl | rfl | rfl | rfl | rfl | rfl | rfl <;> rfl
def DonePostR (B p : Nat) (s : Rs) (i : Nat) (id now : Int) (w : World) (e : Ending) (w' : World) : Prop :=
  ∃ s' A c pks, e = .returned (.slice A pks.length c) ∧ RefAt B w' p s' ∧ s'.abs = (doneS s.abs i id now).1 ∧ pks.map (·.p) = (doneS s.abs i id now).2 ∧ Rs.Like w s s' ∧ Mod [64, 92, 97, 76] [s.im] B w w' ∧ PkAt B w w' A c pks
theorem doneR_abs {s : Rs} {i : Nat} {f : Fc} {now : Int} {A : Option Addr} {c : Nat} (hf : s.fly[i]? = some f) : drainS (Rs.abs { s with used := s.used.erase f.id, fly := s.fly.eraseIdx i, FA := A, fc := c }) now = doneS s.abs i f.id now := by
  unfold doneS Rs.abs
  simp [erase_map]
theorem doneR_ses {B p i : Nat} {s : Rs} {f : Fc} {w W : World} {Az : Option Addr} {cz L : Nat} (hS : RefAt B w p s) (hf : s.fly[i]? = some f) (HK : Mod [64, 92, 97] [s.im] B w W)
    (BP : Blk W p 64 #[.string s.cl, .slice s.LA s.ls.length s.lc, .pointer (some ⟨s.ip, 0, none⟩), .pointer (some ⟨s.q, 0, none⟩), .slice Az L cz, .map (some s.gm)]) (IDN : IdsR W s.ip s.im (s.used.erase f.id) 65535 s.taken)
    (FZ : Fresh w W 97 7 Az (0 + i + (s.fly.length - ((i : Int) + 1).toNat)) cz ([] ++ (s.fly.flatMap rcell).take (i * 7) ++ (s.fly.flatMap rcell).drop (((i : Int) + 1).toNat * 7))) (hB : B ≤ w.heap.size) (hL : L = 0 + i + (s.fly.length - ((i : Int) + 1).toNat) := by omega) : RefAt B W p { s with used := s.used.erase f.id, fly := s.fly.eraseIdx i, FA := Az, fc := cz } := by
  have hi := (List.getElem?_eq_some_iff.1 hf).1
  subst hL
  have hsub : ∀ g ∈ s.fly.eraseIdx i, g ∈ s.fly := fun g hg => List.mem_of_mem_eraseIdx hg
  have hl : 0 + i + (s.fly.length - ((i : Int) + 1).toNat) = (s.fly.eraseIdx i).length := by rw [List.length_eraseIdx_of_lt hi]; omega
  have hx : [] ++ (s.fly.flatMap rcell).take (i * 7) ++ (s.fly.flatMap rcell).drop (((i : Int) + 1).toNat * 7) = (s.fly.eraseIdx i).flatMap rcell := by
    rw [List.eraseIdx_eq_take_drop_succ, List.flatMap_append, flat_take rcell 7 (fun _ => rfl) s.fly i, flat_drop rcell 7 (fun _ => rfl) s.fly (i + 1), show ((i : Int) + 1).toNat = i + 1 by omega]
    rfl
  rw [hl] at BP FZ
  rw [hx] at FZ
  refine ⟨BP, IDN, hS.qu.mod HK (by decide), ⟨FZ.own, fun g hg => (hS.fly.pay g (hsub g hg)).mod HK (by decide), fun a ha => Nat.le_trans hB (FZ.from a ha), ?_⟩, hS.ls.mod HK (by decide), hS.got.mod HK (by simpa using Ne.symm hS.ne), hS.ne, hS.lop, hS.loi, hS.lom, hS.log, hS.tk, ?_, fun g hg => hS.ats g (hsub g hg), fun g hg => hS.idb g (hsub g hg)⟩
  · have := hS.fly.len
    show (s.fly.eraseIdx i).length ≤ 4
    rw [List.length_eraseIdx_of_lt hi]
    omega
  show (s.used.erase f.id).Perm ((s.fly.eraseIdx i).map (·.id))
  have h1 : (s.fly.map (·.id)).Perm (f.id :: (s.fly.eraseIdx i).map (·.id)) := by
    obtain ⟨h2, h3⟩ := List.getElem?_eq_some_iff.1 hf
    have h4 : s.fly.Perm (s.fly[i] :: s.fly.eraseIdx i) := erase_perm h2
    rw [h3] at h4
    exact h4.map (·.id)
  have h5 := ((hS.perm.trans h1).erase f.id)
  simpa using h5
theorem doneR_any (B p : Nat) (s : Rs) (i : Nat) (f : Fc) (now : Int) (w : World) (hS : RefAt B w p s) (hf : s.fly[i]? = some f) (hB : B ≤ w.heap.size) : Calls Tryz.prog 54 #[.pointer (some ⟨p, 0, none⟩), .int .i64 i, .int .i64 now] w (DonePostR B p s i f.id now w) := by
 have HK : Mod [64, 92, 97, 76] [s.im] B w w := .refl _ _ _ _
 have HK1 : Mod [64, 92, 97] [s.im] B w w := .refl _ _ _ _
 have BP := hS.top
 have OWN := hS.fly.own
 have ID := hS.ids
 have SLF := Sl.of_own hS.fly.own
 have hi4 : i < s.fly.length := (List.getElem?_eq_some_iff.1 hf).1
 have hl4 := hS.fly.len
 have hfc := own_capR hS.fly.own
 obtain ⟨b, off, hA⟩ := SLF.addr (by omega)
 have hmap := hS.ids.set.map
 have hpim : p ≠ s.im := fun h => hS.top.not_map (h ▸ hmap)
 have hfar : Far s.FA [s.im] := far_map hS.fly.own hmap
 have hidb := hS.idb f (List.mem_of_getElem? hf)
 refine C.enter Tryz.func54 rfl Tryz.ntmps54 rfl ?_
 intro a0 f0
 have f1 : Fr 41 a0 [(0, .pointer (some ⟨p, 0, none⟩)), (1, .int .i64 i), (2, .int .i64 now)] := f0
 refine C.sk fun K0 hK0 => ?_
 refine L.ag f1 fun a2 f2 => ?_
 refine wn hK0 ?_
 have f3 := f2.pk [0, 1, 2, 6]
 refine wp_seq_k fun K1 hK1 => ?_
 refine R.begin (S := fun W => Kept [s.im] w W) (by kernel_rfl) (by exact (Kept.refl _ _).drewN 1) ?_
 have hS1 : Kept [s.im] w (w.drewN 1) := (Kept.refl _ _).drewN 1
 have hd1 : Kept [] w (w.drewN 1) := (Kept.refl _ _).drewN 1
 obtain ⟨w1, hww1⟩ : ∃ W, W = w.drewN 1 := ⟨_, rfl⟩
 rw [← hww1] at hS1 hd1 ⊢
 clear f0 f1 a0 f2 hww1
 have szw1 := hS1.size
 replace ID := ID.kept hd1 (by simp) (by simp)
 refine R.mv 0 f3 rfl hS1 fun a4 f4 => ?_
 refine R.t 1 f4 rfl hS1 (fun W hW => (E.nilCheck f4 rfl)) fun a5 f5 => ?_
 refine R.t 2 f5 rfl hS1 (fun W hW => (E.fa 2 f5 U64 rfl wsz58_rf)) fun a6 f6 => ?_
 refine R.t 3 f6 rfl hS1 (fun W hW => (E.load f6 Tryz.underlying58 rfl rfl ((BP.kept hW (by simpa using hpim)).cl rfl))) fun a7 f7 => ?_
 refine R.mv 4 f7 rfl hS1 fun a8 f8 => ?_
 refine R.t 5 f8 rfl hS1 (fun W hW => (E.nilCheck f8 rfl)) fun a9 f9 => ?_
 refine R.t 6 f9 rfl hS1 (fun W hW => (E.fa 4 f9 U64 rfl wsz62_rf)) fun a10 f10 => ?_
 clear f3 a2 f4 a4 f5 a5 f6 a6 f7 a7 f8 a8 f9 a9
 refine R.t 7 f10 rfl hS1 (fun W hW => (E.load f10 Tryz.underlying62 rfl rfl ((BP.kept hW (by simpa using hpim)).cl rfl))) fun a11 f11 => ?_
 refine R.mv 8 f11 rfl hS1 fun a12 f12 => ?_
 refine R.t 9 f12 rfl hS1 (fun W hW => (E.indexA f12 (by assumption) Tryz.underlying62 wsz97_rf rfl rfl (by omega) (by omega))) fun a13 f13 => ?_
 refine R.t 10 f13 rfl hS1 (fun W hW => (E.fa 0 f13 U97 rfl wsz3_rf)) fun a14 f14 => ?_
 refine R.t 11 f14 rfl hS1 (fun W hW => (E.load f14 U3 rfl rfl (fly_rcj (SLF.keptF hW hfar) hA hf 0 rfl))) fun a15 f15 => ?_
 refine R.call 12 f15 rfl rfl (by decide) (by kernel_rfl) wantedN (run_call Tryz.call78 (args2 f15 rfl rfl)) (idsFreeR_any s.ip s.im s.used 65535 s.taken f.id _ ID (wf64 (by omega))) ?_
 clear f10 a10 f11 a11 f12 a12 f13 a13 f14 a14
 rintro e w2 ⟨rfl, kc2, IDN⟩
 replace hS1 := hS1.trans kc2 (by simp)
 refine ⟨_, rfl, hS1, fun a16 f16 => ?_⟩
 have szw2 := kc2.size
 clear f15 a15 kc2
 have szw2r := hS1.size
 have KM : Mod [] [s.im] B w w2 := Mod.of_kept hS1 (fun x hx _ => by obtain rfl := List.mem_singleton.1 hx; exact ⟨hS.lom, .inr ⟨hmap, by simp⟩⟩)
 replace HK := HK.step KM (by decide) (by simp) (by omega)
 replace HK1 := HK1.step KM (by decide) (by simp) (by omega)
 replace BP := BP.kept hS1 (by simpa using hpim)
 replace OWN := OWN.mod KM (by decide)
 clear hS1
 refine R.done (by kernel_rfl) (hK1 _ _ ?_)
 have f17 := f16.pk [0, 1, 2, 6]
 refine wp_seq_k fun K2 hK2 => ?_
 refine RB.begin (S := fun W => Kept [] w2 W) 16 (by kernel_rfl) (by exact (Kept.refl _ _).drewN 1) ?_
 have hS2 : Kept [] w2 (w2.drewN 1) := (Kept.refl _ _).drewN 1
 have hd2 : Kept [] w2 (w2.drewN 1) := (Kept.refl _ _).drewN 1
 obtain ⟨w3, hww3⟩ : ∃ W, W = w2.drewN 1 := ⟨_, rfl⟩
 rw [← hww3] at hS2 hd2 ⊢
 clear f16 hww3
 have szw3 := hS2.size
 replace OWN := OWN.mod (T := []) (M := []) (Mod.of_kept0 (B := B) hd2) (by simp)
 refine RB.tk 0 f17 rfl hS2 (fun W hW => (E.move f17 rfl)) fun a18 f18 => ?_
 refine RB.tk 1 f18 rfl hS2 (fun W hW => (E.move f18 rfl)) fun a19 f19 => ?_
 refine RB.tk 2 f19 rfl hS2 (fun W hW => (E.nilCheck f19 rfl)) fun a20 f20 => ?_
 refine RB.tk 3 f20 rfl hS2 (fun W hW => (E.fa 4 f20 U64 rfl wsz62_rf)) fun a21 f21 => ?_
 refine RB.tk 4 f21 rfl hS2 (fun W hW => (E.load f21 Tryz.underlying62 rfl rfl ((BP.z hW).cl rfl))) fun a22 f22 => ?_
 refine RB.tk 5 f22 rfl hS2 (fun W hW => (E.move f22 rfl)) fun a23 f23 => ?_
 refine RB.tk 6 f23 rfl hS2 (fun W hW => (E.slLhi f23 Tryz.underlying62 wsz97_rf rfl rfl (by omega) (by omega) )) fun a24 f24 => ?_
 clear f17 a16 f18 a18 f19 a19 f20 a20 f21 a21 f22 a22 f23 a23
 refine RB.tk 8 f24 rfl hS2 (fun W hW => (E.move f24 rfl)) fun a25 f25 => ?_
 refine RB.tk 9 f25 rfl hS2 (fun W hW => (E.nilCheck f25 rfl)) fun a26 f26 => ?_
 refine RB.tk 10 f26 rfl hS2 (fun W hW => (E.fa 4 f26 U64 rfl wsz62_rf)) fun a27 f27 => ?_
 refine RB.tk 11 f27 rfl hS2 (fun W hW => (E.load f27 Tryz.underlying62 rfl rfl ((BP.z hW).cl rfl))) fun a28 f28 => ?_
 refine RB.tk 12 f28 rfl hS2 (fun W hW => (E.move f28 rfl)) fun a29 f29 => ?_
 refine RB.tk 13 f29 rfl hS2 (fun W hW => (E.add f29 rfl rfl (IntWalk.i64_in _ (by omega)))) fun a30 f30 => ?_
 refine RB.tk 14 f30 rfl hS2 (fun W hW => (E.slLlo f30 Tryz.underlying62 wsz97_rf rfl rfl (by omega) (by omega) )) fun a31 f31 => ?_
 clear f24 a24 f25 a25 f26 a26 f27 a27 f28 a28 f29 a29 f30 a30
 refine RB.one 7 (by kernel_rfl) (by kernel_rfl) ?_
 refine O.append f31 rfl wantedN (by decide) Tryz.underlying62 wzib97_rf rfl rfl rfl rfl (Own.nil _ _ _) (Sl.of_own (OWN.head (k := i) (by omega))) (fun u hu => rcells_one _ u (List.mem_of_mem_take hu)) (by unfold maxLen; omega) (by omega) fun a32 w4 Ax cx AP4 => ?_
 have kap4 : Kept [] w3 w4 := by simpa [Value.ownBlock] using AP4.kept
 have FX : Fresh w w4 97 7 Ax (0 + i) cx ([] ++ (s.fly.flatMap rcell).take (i * 7)) := AP4.next (Fresh.nil w w3 97 7) (Nat.le_trans HK.size hS2.size)
 have FXr : Fresh w2 w4 97 7 Ax (0 + i) cx ([] ++ (s.fly.flatMap rcell).take (i * 7)) := AP4.next (Fresh.nil w2 w3 97 7) hS2.size
 have hSn := hS2.trans kap4 (by simp)
 refine ⟨hSn, fun f32 => ?_⟩
 have szw4 := kap4.size
 replace OWN := OWN.mod (T := []) (M := []) (Mod.of_kept0 (B := B) kap4) (by simp)
 clear f31 kap4
 replace hS2 := hSn
 clear hSn
 refine RB.one 15 (by kernel_rfl) (by kernel_rfl) ?_
 refine O.append f32 rfl wantedN (by decide) Tryz.underlying62 wzib97_rf rfl rfl rfl rfl (FX.own) (Sl.ct (Sl.of_own OWN) (k := ((i : Int) + 1).toNat) (by omega) (own_capR OWN)) (fun u hu => rcells_one _ u (List.mem_of_mem_drop hu)) (by unfold maxLen; omega) (by omega) fun a33 w5 Az cz AP5 => ?_
 have hSn := AP5.grow FXr hS2
 have FZ := AP5.next FX (Nat.le_trans HK.size hS2.size)
 refine ⟨hSn, fun f33 => ?_⟩
 have szw5 := AP5.kept.size
 replace hS2 := hSn
 clear f32 hSn
 refine RB.stop (by kernel_rfl) ?_
 have szw5r := hS2.size
 replace HK := HK.trans (.of_kept0 hS2)
 replace HK1 := HK1.trans (.of_kept0 hS2)
 replace BP := BP.z hS2
 replace IDN := IDN.mod (Mod.of_kept0 (T := []) (M := []) (B := B) hS2) (by decide) (by simp)
 clear hS2
 refine R.t 16 f33 rfl trivial (fun W hW => (E.nilCheck f33 rfl)) fun a34 f34 => ?_
 refine R.t 17 f34 rfl trivial (fun W hW => (E.fa 4 f34 U64 rfl wsz62_rf)) fun a35 f35 => ?_
 refine R.one 18 (by kernel_rfl) ?_
 refine OT.store f35 rfl wantedN wsz62_rf rfl rfl rfl BP (by (simp [Value.cells]; done)) fun a36 w6 f36 NB6 ks6 => ?_
 have szw6 := ks6.size
 have KM := (Mod.of_blk (T := [64]) (M := []) (B := B) ks6 BP hS.lop (by simp))
 replace HK := HK.step KM (by decide) (by simp) (by omega)
 replace HK1 := HK1.step KM (by decide) (by simp) (by omega)
 replace IDN := IDN.mod KM (by decide) (by simp)
 replace FZ := FZ.mod KM (by decide)
 replace BP := NB6
 simp only [Value.cells, List.setIfInBounds_toArray, List.set_cons_zero, List.set_cons_succ, Nat.reduceAdd, Nat.zero_add] at BP
 clear f33 a33 f34 a34 ks6 f35 a35
 refine R.done (by kernel_rfl) (hK2 _ _ ?_)
 have f37 := f36.pk [0, 2, 6]
 refine C.sk fun K3 hK3 => ?_
 refine L.mv f37 fun a38 f38 => ?_
 refine L.mv f38 fun a39 f39 => ?_
 have HD := doneR_ses hS hf HK1 BP IDN FZ hB
 refine L.cl f39 (run_call Tryz.call59 (args2 f39 rfl rfl)) (drainR_any B p _ now _ HD (by omega)) ?_
 clear f36 f37 a36 f38 a38
 rintro e w7 ⟨s2, A2, c2, pks, rfl, HS2, hab, hpp, hL2, kc7, PK⟩
 replace kc7 : Mod [64, 92, 97, 76] [s.im] B _ _ := kc7
 refine ⟨_, rfl, fun a40 f40 => ?_⟩
 have szw7 := kc7.size
 replace HK := HK.step kc7 (by decide) (by simp) (by omega)
 clear f39 a39 kc7
 refine L.ag f40 fun a41 f41 => ?_
 have f42 := f41.pk [6]
 refine wn hK3 (wp_ret ?_); (try simp only [xt, xb]); refine C.ret f42 rfl rfl ?_
 exact ⟨s2, A2, c2, pks, rfl, HS2, by rw [hab, doneR_abs hf], by rw [hpp, doneR_abs hf], (⟨hL2.im, hL2.gm, hL2.cl, hL2.ls, fun b hb => (hL2.qa b hb).imp id (fun h => by omega)⟩), HK, PK.lower (by omega)⟩
end Go.Proofs.YtdfllmiokgoekaaGreatDoor
namespace Go.Proofs.YtdfllmiokgoekaaGreatDoor
open Go.RowKit Go.Hub
theorem wsz3_l : (Tryz.prog.info? 3).map (·.size) = some 1 := by kernel_rfl
theorem wsz4_l : (Tryz.prog.info? 4).map (·.size) = some 1 := by kernel_rfl
theorem wsz30_l : (Tryz.prog.info? 30).map (·.size) = some 4 := by kernel_rfl
theorem wsz55_l : (Tryz.prog.info? 55).map (·.size) = some 1 := by kernel_rfl
theorem wsz82_l : (Tryz.prog.info? 82).map (·.size) = some 7 := by kernel_rfl
theorem wsz54_l : (Tryz.prog.info? 54).map (·.size) = some 1 := by kernel_rfl
theorem idx_spec' : ∀ {l : List Fc} {id k : Int}, ¬ idxI (l.map (·.id)) id k = -1 → ∃ (i : Nat) (x : Fc), idxI (l.map (·.id)) id k = k + i ∧ l[i]? = some x ∧ x.id = id
  | [], _, _, h => absurd rfl h
  | y :: r, id, k, h => by
    simp only [List.map_cons, idxI] at h ⊢
    by_cases hy : y.id = id
    · exact ⟨0, y, by rw [if_pos hy]; simp, rfl, hy⟩
    rw [if_neg hy] at h ⊢
    obtain ⟨i, x, h1, h2, h3⟩ := idx_spec' h
    exact ⟨i + 1, x, by rw [h1]; omega, by simpa using h2, h3⟩
theorem idx_spec {l : List Fc} {id : Int} (h : ¬ idxI (l.map (·.id)) id 0 < 0) : ∃ (i : Nat) (x : Fc), idxI (l.map (·.id)) id 0 = i ∧ l[i]? = some x ∧ x.id = id := by
  obtain ⟨i, x, h1, h2⟩ := idx_spec' (l := l) (id := id) (k := 0) (by omega)
  exact ⟨i, x, by omega, h2⟩
theorem set_at {l : List Fc} {i : Nat} {f' : Fc} (h : i < l.length) : (l.set i f')[i]? = some f' := by simp [h]
theorem set_cell : ∀ {l : List Fc} {i j : Nat} {f : Fc}, l[i]? = some f → j < 7 → ∀ v, (l.flatMap fcell).set (i * 7 + j) v = setSeg (l.flatMap fcell) (i * 7) ((fcell f).set j v)
  | l, i, j, f, hf, hj, v => by
    have hi := (List.getElem?_eq_some_iff.1 hf).1
    have hn : i * 7 + 7 ≤ l.length * 7 := by omega
    apply List.ext_getElem?
    intro q
    rw [setSeg_at _ _ _ _ (by rw [List.length_set, fcell_len]; exact hn), List.getElem?_set, List.length_set]
    simp only [fcell, List.length_cons, List.length_nil]
    rw [fcell_len]
    by_cases hq : i * 7 ≤ q ∧ q < i * 7 + (0 + 1 + 1 + 1 + 1 + 1 + 1 + 1)
    · rw [if_pos hq, List.getElem?_set]
      by_cases hqj : i * 7 + j = q
      · rw [if_pos hqj, if_pos (by omega), if_pos (by omega), if_pos (by simp; omega)]
      rw [if_neg hqj, if_neg (by omega)]
      obtain ⟨d, rfl⟩ : ∃ d, q = i * 7 + d := ⟨q - i * 7, by omega⟩
      have hd : d < (fcell f).length := by simp only [fcell, List.length_cons, List.length_nil]; omega
      rw [show i * 7 + d - i * 7 = d by omega]
      have := flat_at fcell 7 (fun _ => rfl) l i f hf d (fcell f)[d] (List.getElem?_eq_getElem hd)
      rw [this]
      exact (List.getElem?_eq_getElem hd).symm
    rw [if_neg hq, if_neg (by omega)]
theorem FlyAt.set {B : Nat} {w w' : World} {A : Option Addr} {c i j : Nat} {l : List Fc} {f f' : Fc} {v : Value} (h : FlyAt B w A c l) (hf : l[i]? = some f) (hm : Mod [82] [] B w w') (O : Own w' 82 7 (.slice A l.length c) l.length ((l.flatMap fcell).set (i * 7 + j) v)) (hv : fcell f' = (fcell f).set j v) (hp : f'.x = f.x) (hj : j < 7 := by decide) : FlyAt B w' A c (l.set i f') := by
  have hi := (List.getElem?_eq_some_iff.1 hf).1
  have hx : (l.flatMap fcell).set (i * 7 + j) v = (l.set i f').flatMap fcell := by
    have h1 := set_cell (l := l) (i := i) (f := f) hf hj v
    rw [h1, ← hv, flat_seg fcell 7 (fun _ => rfl) (by decide) l i f' hi]
  have hl : l.length = (l.set i f').length := by simp
  rw [hx, hl] at O
  refine ⟨O, fun g hg => ?_, h.loA, by rw [← hl]; exact h.len⟩
  rcases List.mem_or_eq_of_mem_set hg with hg | rfl
  · exact (h.pay g hg).mod hm (by decide)
  rw [hp]; exact (h.pay f (List.mem_of_getElem? hf)).mod hm (by decide)
section
variable {s : Ses} {kind id now : Int} {i : Nat} {x : Fc}
theorem abs_ids (s : Ses) : s.abs.fly.map (·.id) = s.fly.map (·.id) := by simp [Ses.abs, Fc.abs]
theorem ack_no (h : idxI (s.fly.map (·.id)) id 0 < 0) : ackS s.abs kind id now = (s.abs, []) := by
  unfold ackS
  simp only
  rw [abs_ids]
  split
  · rfl
  rw [if_pos h]
theorem ack_at (h : idxI (s.fly.map (·.id)) id 0 = i) (hf : s.fly[i]? = some x) : ackS s.abs kind id now = if (kind = 4 ∧ x.x.m.qos = 1) ∨ (kind = 7 ∧ x.rc = true) then doneS s.abs i x.id now
    else if kind = 5 ∧ x.x.m.qos = 2 then ({ s.abs with fly := s.abs.fly.set i { x.abs with rc := true, at_ := nearI now } }, [ackP 6 x.id]) else (s.abs, []) := by
  have h1 : s.abs.fly[(i : Int).toNat]? = some x.abs := by simp [Ses.abs, hf]
  unfold ackS
  simp only
  rw [abs_ids, h, h1]
  simp only
  rw [if_neg (by omega)]
  rfl
end
theorem done_len {s : SA} {i : Nat} {id now : Int} {pks : List Pc} (h : pks.map (·.p) = (doneS s i id now).2) : pks.length ≤ 10 := by
  have h1 := congrArg List.length h
  rw [List.length_map] at h1
  have := drainS_len { s with used := s.used.erase id, fly := s.fly.eraseIdx i } now
  unfold doneS at h1
  omega
theorem one_ack {B g : Nat} {w W : World} {k id : Int} (B9 : Blk W g 35 (ackCells k id)) (hg : w.heap.size ≤ g) : PkAt B w W (some ⟨g, 0, none⟩) 1 [⟨ackP k id, none, 0⟩] :=
  pk_one (x := ⟨ackP k id, none, 0⟩) ⟨rfl, .inr ⟨g, 0, 1, _, rfl, B9, Nat.le_refl _, by decide, Nat.le_refl 24, fun j u hu => by rw [Nat.zero_add, ← Array.getElem?_toList]; exact hu⟩⟩ hg (Pay.nil _ _ _)
theorem set_same {α : Type} {l : List α} {i : Nat} {v : α} (h : l[i]? = some v) : l.set i v = l := by
  apply List.ext_getElem?
  intro j
  rw [List.getElem?_set]
  by_cases hj : i = j
  · subst hj
    rw [if_pos rfl, if_pos (List.getElem?_eq_some_iff.1 h).1, h]
  rw [if_neg hj]
theorem ack_fin {B p i g : Nat} {s : Ses} {x : Fc} {w W : World} {r : SA × List Pa} {now : Int} (hS : SesAt B w p s) (hf : s.fly[i]? = some x) (HK : Mod [57, 88, 82, 90] [s.im, s.gm] B w W) (HK1 : Mod [82] [] B w W) (BP : Blk W p 57 s.cells) (FL : FlyAt B W s.FA s.fc ((s.fly.set i { x with rc := true }).set i { x with rc := true, at_ := nearI now }))
    (h : r = ({ s.abs with fly := s.abs.fly.set i { x.abs with rc := true, at_ := nearI now } }, [ackP 6 x.id])) (B9 : Blk W g 35 (ackCells 6 x.id)) (hg : w.heap.size ≤ g) (hB : B ≤ w.heap.size) : OutPost [57, 88, 82, 90] B p s r w (.returned (.slice (some ⟨g, 0, none⟩) 1 1)) W := by
  have hi := (List.getElem?_eq_some_iff.1 hf).1
  have hx := (List.getElem?_eq_some_iff.1 hf).2
  rw [List.set_set] at FL
  refine ⟨{ s with fly := s.fly.set i { x with rc := true, at_ := nearI now } }, some ⟨g, 0, none⟩, 1, [⟨ackP 6 x.id, none, 0⟩], rfl, ⟨?_, hS.one, hS.ids.mod HK1 (by decide) (by simp), hS.qu.mod HK1 (by decide), FL, hS.got.mod HK1 (by simp), hS.ne, hS.lop, hS.loi, hS.lom, hS.log, hS.tk, ?_, ?_, ?_⟩, ?_, ⟨rfl, rfl, rfl, rfl, fun b hb => .inl hb⟩, HK, one_ack B9 hg, by simp⟩
  · simpa [Ses.cells] using BP
  · show s.used.Perm ((s.fly.set i { x with rc := true, at_ := nearI now }).map (·.id))
    have h1 : (s.fly.set i { x with rc := true, at_ := nearI now }).map (·.id) = s.fly.map (·.id) := by
      rw [List.map_set]
      exact set_same (by simp [hf])
    rw [h1]
    exact hS.perm
  · intro y hy
    rcases List.mem_or_eq_of_mem_set hy with hy | rfl
    · exact hS.ats y hy
    exact near_bd now
  · intro y hy
    rcases List.mem_or_eq_of_mem_set hy with hy | rfl
    · exact hS.idb y hy
    exact hS.idb x (List.mem_of_getElem? hf)
  rw [h]
  simp [Ses.abs, List.map_set, Fc.abs]
def GotPost (B p : Nat) (s : Ses) (r : SA × Bool × List Pa) (w : World) (e : Ending) (w' : World) : Prop :=
  ∃ s' A c pks, e = .returned (.tuple #[.bool r.2.1, .slice A pks.length c]) ∧ SesAt B w' p s' ∧ s'.abs = r.1 ∧ pks.map (·.p) = r.2.2 ∧ Ses.Like w s s' ∧ Mod [] [s.im, s.gm] B w w' ∧ PkAt B w w' A c pks ∧ pks.length ≤ 1
section
variable {B p g : Nat} {s : Ses} {w W : World} {r : SA × Bool × List Pa} {b : Bool} {k id : Int} {S : List Int}
theorem got_nil (hS : SesAt B w p s) (HK : Mod [] [s.im, s.gm] B w W) (HK0 : Mod [] [] B w W) (h : r = (s.abs, b, [])) : GotPost B p s r w (.returned (.tuple #[.bool b, .slice none 0 0])) W := by
  subst h
  exact ⟨s, none, 0, [], rfl, hS.mod HK0 (by simp), rfl, rfl, ⟨rfl, rfl, rfl, rfl, fun b hb => .inl hb⟩, HK, PkAt.nil _ _ _, by simp⟩
theorem got_one (hS : SesAt B w p s) (HK : Mod [] [s.im, s.gm] B w W) (HK0 : Mod [] [] B w W) (h : r = (s.abs, b, [ackP k id])) (B9 : Blk W g 35 (ackCells k id)) (hg : w.heap.size ≤ g) : GotPost B p s r w (.returned (.tuple #[.bool b, .slice (some ⟨g, 0, none⟩) 1 1])) W := by
  subst h
  exact ⟨s, _, _, [⟨ackP k id, none, 0⟩], rfl, hS.mod HK0 (by simp), rfl, rfl, ⟨rfl, rfl, rfl, rfl, fun b hb => .inl hb⟩, HK, one_ack B9 hg, by simp⟩
theorem got_fin (hS : SesAt B w p s) (HK : Mod [] [s.im, s.gm] B w W) (HK2 : Mod [] [s.gm] B w W) (IN : IsSet Tryz.prog 3 4 W s.gm S) (h : r = ({ s.abs with got := S }, b, [ackP k id])) (B9 : Blk W g 35 (ackCells k id)) (hg : w.heap.size ≤ g) : GotPost B p s r w (.returned (.tuple #[.bool b, .slice (some ⟨g, 0, none⟩) 1 1])) W := by
  subst h
  exact ⟨{ s with got := S }, _, _, [⟨ackP k id, none, 0⟩], rfl, ⟨hS.top.mod HK2 (by simp), hS.one, hS.ids.mod HK2 (by simp) (by simpa using hS.ne), hS.qu.mod HK2 (by simp), hS.fly.mod HK2 (by simp), IN, hS.ne, hS.lop, hS.loi, hS.lom, hS.log, hS.tk, hS.perm, hS.ats, hS.idb⟩, rfl, rfl, ⟨rfl, rfl, rfl, rfl, fun b hb => .inl hb⟩, HK, one_ack B9 hg, by simp⟩
end
theorem ack_any (B p : Nat) (s : Ses) (kind id now : Int) (pcs : Array Value) (hp0 : pcs.toList[0]? = some (.int .i64 kind)) (hp4 : pcs.toList[4]? = some (.int .i64 id)) (w : World) (hS : SesAt B w p s) (hB : B ≤ w.heap.size) : Calls Tryz.prog 12 #[.pointer (some ⟨p, 0, none⟩), .agg pcs, .int .i64 now] w (OutPost [57, 88, 82, 90] B p s (ackS s.abs kind id now) w) := by
 have HK : Mod [57, 88, 82, 90] [s.im, s.gm] B w w := .refl _ _ _ _
 have HK0 : Mod [] [] B w w := .refl _ _ _ _
 have HK1 : Mod [82] [] B w w := .refl _ _ _ _
 have BP := hS.top
 have FL := hS.fly
 have hl4 := hS.fly.len
 refine C.enter Tryz.func12 rfl Tryz.ntmps12 rfl ?_
 intro a0 f0
 have f1 : Fr 73 a0 [(0, .pointer (some ⟨p, 0, none⟩)), (1, .agg pcs), (2, .int .i64 now)] := f0
 refine C.sk fun K0 hK0 => ?_
 refine L.box f1 wantedN (by decide) rfl rfl fun a2 w1 g0 N0 f2 => ?_
 have Bg0 := N0.blk
 have kg0 := N0.kept
 have log0 := N0.lo
 have ltg0 := Bg0.lt
 have szw1 := kg0.size
 have frg0 : w.heap.size ≤ g0 := Nat.le_trans HK.size log0
 have nep_g0 : p ≠ g0 := by have := BP.lt; omega
 replace HK := HK.trans (.of_kept0 kg0)
 replace HK0 := HK0.trans (.of_kept0 kg0)
 replace HK1 := HK1.trans (.of_kept0 kg0)
 replace BP := BP.z kg0
 replace FL := FL.mod (Mod.of_kept0 (T := []) (M := []) (B := B) kg0) (by decide)
 clear f0 N0 kg0
 refine L.ag f2 fun a3 f3 => ?_
 have f4 := f3.pk [0, 2, 4, 6]
 refine wn hK0 (C.sk fun K1 hK1 => ?_)
 refine L.mv f4 fun a5 f5 => ?_
 refine L.va f5 (E.nilCheck f5 rfl) fun a6 f6 => ?_
 refine L.fa 3 f6 U57 rfl wsz55_l fun a7 f7 => ?_
 refine L.va f7 (E.load f7 Tryz.underlying55 rfl rfl ((BP).cl rfl)) fun a8 f8 => ?_
 refine L.va f8 (E.makeFunc1 f8 rfl) fun a9 f9 => ?_
 clear f1 a0 f2 a2 f3 f4 a3 f5 a5 f6 a6 f7 a7 f8 a8
 refine L.cl f9 (run_call Tryz.call42 (args2 f9 rfl rfl)) (idxS_any s.FA s.fc s.fly g0 pcs id _ FL.own Bg0 hp4 hS.fly.len) ?_
 rintro e w2 ⟨rfl, kc2⟩
 refine ⟨_, rfl, fun a10 f10 => ?_⟩
 have szw2 := kc2.size
 replace HK := HK.trans (.of_kept0 kc2)
 replace HK0 := HK0.trans (.of_kept0 kc2)
 replace HK1 := HK1.trans (.of_kept0 kc2)
 replace BP := BP.z kc2
 replace FL := FL.mod (Mod.of_kept0 (T := []) (M := []) (B := B) kc2) (by decide)
 replace Bg0 := Bg0.z kc2
 clear f9 a9 kc2
 refine L.ag f10 fun a11 f11 => ?_
 refine wn hK1 ?_
 have f12 := f11.pk [0, 2, 4, 6, 7]
 refine wp_seq_k fun K2 hK2 => C.sk fun K3 hK3 => ?_
 refine L.mv f12 fun a13 f13 => ?_
 refine L.va f13 (E.lss f13 rfl rfl) fun a14 f14 => ?_
 refine wn hK3 ?_
 have f15 := f14.pk [0, 2, 4, 6, 7, 16]
 clear f10 a10 f11 f12 a11 f13 a13 f14
 refine f15.splitD 16 rfl (fun h0 f16 => ?_) (fun h0 f16 => ?_)
 ·have hneg := h0
  refine C.condT f16 rfl ?_
  refine C.sk fun K4 hK4 => ?_
  refine L.ag f16 fun a17 f17 => ?_
  have f18 := f17.pk [0, 2, 4, 6, 7]
  refine wn hK4 (wp_ret ?_); (try simp only [xt, xb]); refine C.ret f18 rfl rfl ?_
  exact ⟨s, none, 0, [], rfl, hS.mod HK0 (by simp), by rw [ack_no hneg]; rfl, ⟨rfl, rfl, rfl, rfl, fun b hb => .inl hb⟩, HK, PkAt.nil _ _ _, by simp⟩
 have hpos := h0
 obtain ⟨i, x, hri, hf, hid⟩ := idx_spec (l := s.fly) (id := id) hpos
 rw [hri] at f16
 have hi4 := (List.getElem?_eq_some_iff.1 hf).1
 obtain ⟨b, off, hA⟩ := (Sl.of_own hS.fly.own).addr (by omega)
 refine C.condF f16 rfl ?_
 refine wp_skip (hK2 _ _ ?_)
 have f17 := f16.pk [0, 2, 4, 6, 7]
 refine wp_seq_k fun K5 hK5 => C.sk fun K6 hK6 => ?_
 refine L.mv f17 fun a18 f18 => ?_
 refine L.va f18 (E.nilCheck f18 rfl) fun a19 f19 => ?_
 refine L.fa 3 f19 U57 rfl wsz55_l fun a20 f20 => ?_
 refine L.va f20 (E.load f20 Tryz.underlying55 rfl rfl ((BP).cl rfl)) fun a21 f21 => ?_
 refine L.mv f21 fun a22 f22 => ?_
 refine L.va f22 (E.indexA f22 (by assumption) Tryz.underlying55 wsz82_l rfl rfl (by omega) (by omega)) fun a23 f23 => ?_
 clear f15 f16 f17 a14 f18 a18 f19 a19 f20 a20 f21 a21 f22 a22
 refine L.ag f23 fun a24 f24 => ?_
 refine wn hK6 ?_
 have f25 := f24.pk [0, 2, 4, 6, 7, 8]
 refine wp_block ?_
 refine wp_seq_k fun K7 hK7 => C.sk fun K8 hK8 => ?_
 refine L.fa 0 f25 U35 rfl wsz3_l fun a26 f26 => ?_
 refine L.va f26 (E.load f26 U3 rfl rfl (Bg0.cl hp0)) fun a27 f27 => ?_
 refine L.va f27 (E.eql f27 rfl rfl) fun a28 f28 => ?_
 refine L.mv f28 fun a29 f29 => ?_
 clear f23 a23 f24 f25 a24 f26 a26 f27 a27 f28 a28
 refine f29.splitD 27 rfl (fun h1 f30 => ?_) (fun h1 f30 => ?_)
 ·refine L.mv f30 (hw := (f30.yes rfl rfl)) fun a31 f31 => ?_
  refine L.va f31 (E.nilCheck f31 rfl) (hw := (f31.yes rfl rfl)) fun a32 f32 => ?_
  refine L.fa 0 f32 U82 rfl wsz30_l (hw := (f32.yes rfl rfl)) fun a33 f33 => ?_
  refine L.fa 2 f33 U30 rfl wsz3_l (hw := (f33.yes rfl rfl)) fun a34 f34 => ?_
  refine L.va f34 (E.load f34 U3 rfl rfl (fly_cell (Sl.of_own FL.own) hA hf 2 rfl (show off + i * 7 + 0 + 2 = _ by omega))) (hw := (f34.yes rfl rfl)) fun a35 f35 => ?_
  refine L.va f35 (E.eql f35 rfl rfl) (hw := (f35.yes rfl rfl)) fun a36 f36 => ?_
  refine L.va f36 (E.pickT f36 rfl rfl) fun a37 f37 => ?_
  clear f29 f30 a29 f31 a31 f32 a32 f33 a33 f34 a34 f35 a35 f36 a36
  refine L.ag f37 fun a38 f38 => ?_
  refine wn hK8 ?_
  have f39 := f38.pk [0, 2, 4, 6, 7, 8, 23]
  clear f37 a37 f38
  refine f39.splitD 23 rfl (fun h2 f40 => ?_) (fun h2 f40 => ?_)
  ·refine C.condT f40 rfl ?_
   refine wp_skip (hK7 _ _ ?_)
   have f41 := f40.pk [0, 2, 4, 6, 7, 8, 23]
   refine C.condT f41 rfl ?_
   refine C.sk fun K9 hK9 => ?_
   refine L.mv f41 fun a42 f42 => ?_
   refine L.mv f42 fun a43 f43 => ?_
   refine L.mv f43 fun a44 f44 => ?_
   refine L.cl f44 (run_call Tryz.call44 (args3 f44 rfl rfl rfl)) (done_any B p s i x now _ (hS.mod HK0 (by simp)) hf (by omega)) ?_
   clear f39 f40 f41 a38 f42 a42 f43 a43
   rintro e w3 ⟨s2, A2, c2, pks, rfl, HS2, hab, hpp, hL2, kc3, PK⟩
   have hl10 := done_len hpp
   have szz := HK.size
   replace PK := PK.lower (w1 := w) szz
   replace hL2 := (Ses.Like.refl w s).trans hL2 szz
   refine ⟨_, rfl, fun a45 f45 => ?_⟩
   have szw3 := kc3.size
   replace HK := HK.step kc3 (by decide) (by simp) (by omega)
   clear f44 a44 kc3
   refine L.ag f45 fun a46 f46 => ?_
   have f47 := f46.pk [6]
   refine wn hK9 (wp_ret ?_); (try simp only [xt, xb]); refine C.ret f47 rfl rfl ?_
   exact ⟨s2, A2, c2, pks, rfl, HS2, by rw [ack_at hri hf, if_pos (by simp_all), hab, hpp], hL2, HK, PK, hl10⟩
  refine C.condF f40 rfl ?_
  refine C.region ?_
  refine L.fa 0 f40 U35 rfl wsz3_l fun a41 f41 => ?_
  refine L.va f41 (E.load f41 U3 rfl rfl (Bg0.cl hp0)) fun a42 f42 => ?_
  refine L.va f42 (E.eql f42 rfl rfl) fun a43 f43 => ?_
  refine L.mv f43 fun a44 f44 => ?_
  clear f39 f40 a38 f41 a41 f42 a42 f43 a43
  refine f44.splitD 38 rfl (fun h3 f45 => ?_) (fun h3 f45 => ?_)
  ·refine L.mv f45 (hw := (f45.yes rfl rfl)) fun a46 f46 => ?_
   refine L.va f46 (E.nilCheck f46 rfl) (hw := (f46.yes rfl rfl)) fun a47 f47 => ?_
   refine L.fa 6 f47 U82 rfl wsz4_l (hw := (f47.yes rfl rfl)) fun a48 f48 => ?_
   refine L.va f48 (E.load f48 U4 rfl rfl (fly_cell (Sl.of_own FL.own) hA hf 6 rfl (show off + i * 7 + 6 = _ by omega))) (hw := (f48.yes rfl rfl)) fun a49 f49 => ?_
   refine L.va f49 (E.pickT f49 rfl rfl) fun a50 f50 => ?_
   refine L.ag f50 fun a51 f51 => ?_
   refine wn hK7 ?_
   have f52 := f51.pk [0, 2, 4, 6, 7, 8, 23]
   clear f44 f45 a44 f46 a46 f47 a47 f48 a48 f49 a49 f50 a50 f51
   refine f52.split 23 rfl (fun h4 f53 => ?_) (fun h4 f53 => ?_)
   ·refine C.condT f53 rfl ?_
    refine C.sk fun K10 hK10 => ?_
    refine L.mv f53 fun a54 f54 => ?_
    refine L.mv f54 fun a55 f55 => ?_
    refine L.mv f55 fun a56 f56 => ?_
    refine L.cl f56 (run_call Tryz.call44 (args3 f56 rfl rfl rfl)) (done_any B p s i x now _ (hS.mod HK0 (by simp)) hf (by omega)) ?_
    clear f52 f53 a51 f54 a54 f55 a55
    rintro e w3 ⟨s2, A2, c2, pks, rfl, HS2, hab, hpp, hL2, kc3, PK⟩
    have hl10 := done_len hpp
    have szz := HK.size
    replace PK := PK.lower (w1 := w) szz
    replace hL2 := (Ses.Like.refl w s).trans hL2 szz
    refine ⟨_, rfl, fun a57 f57 => ?_⟩
    have szw3 := kc3.size
    replace HK := HK.step kc3 (by decide) (by simp) (by omega)
    clear f56 a56 kc3
    refine L.ag f57 fun a58 f58 => ?_
    have f59 := f58.pk [6]
    refine wn hK10 (wp_ret ?_); (try simp only [xt, xb]); refine C.ret f59 rfl rfl ?_
    exact ⟨s2, A2, c2, pks, rfl, HS2, by rw [ack_at hri hf, if_pos (by simp_all), hab, hpp], hL2, HK, PK, hl10⟩
   refine C.condF f53 rfl ?_
   refine C.sk fun K11 hK11 => ?_
   refine L.fa 0 f53 U35 rfl wsz3_l fun a54 f54 => ?_
   refine L.va f54 (E.load f54 U3 rfl rfl (Bg0.cl hp0)) fun a55 f55 => ?_
   refine L.va f55 (E.eql f55 rfl rfl) fun a56 f56 => ?_
   refine L.mv f56 fun a57 f57 => ?_
   clear f52 f53 a51 f54 a54 f55 a55 f56 a56
   refine f57.splitD 52 rfl (fun h5 f58 => ?_) (fun h5 f58 => ?_)
   ·refine L.mv f58 (hw := (f58.yes rfl rfl)) fun a59 f59 => ?_
    refine L.va f59 (E.nilCheck f59 rfl) (hw := (f59.yes rfl rfl)) fun a60 f60 => ?_
    refine L.fa 0 f60 U82 rfl wsz30_l (hw := (f60.yes rfl rfl)) fun a61 f61 => ?_
    refine L.fa 2 f61 U30 rfl wsz3_l (hw := (f61.yes rfl rfl)) fun a62 f62 => ?_
    refine L.va f62 (E.load f62 U3 rfl rfl (fly_cell (Sl.of_own FL.own) hA hf 2 rfl (show off + i * 7 + 0 + 2 = _ by omega))) (hw := (f62.yes rfl rfl)) fun a63 f63 => ?_
    refine L.va f63 (E.eql f63 rfl rfl) (hw := (f63.yes rfl rfl)) fun a64 f64 => ?_
    refine L.va f64 (E.pickT f64 rfl rfl) fun a65 f65 => ?_
    clear f57 f58 a57 f59 a59 f60 a60 f61 a61 f62 a62 f63 a63 f64 a64
    refine L.ag f65 fun a66 f66 => ?_
    refine wn hK11 ?_
    have f67 := f66.pk [2, 6, 8, 48]
    clear f65 a65 f66
    refine f67.splitD 48 rfl (fun h6 f68 => ?_) (fun h6 f68 => ?_)
    ·refine C.condT f68 rfl ?_
     refine C.sk fun K12 hK12 => ?_
     refine L.mv f68 fun a69 f69 => ?_
     refine L.mv f69 fun a70 f70 => ?_
     refine L.mv f70 fun a71 f71 => ?_
     refine L.cl f71 (run_call Tryz.call45 (args1 f71 rfl)) (near_any now _) ?_
     clear f67 f68 a66 f69 a69 f70 a70
     rintro e w2x ⟨rfl, rfl⟩
     refine ⟨_, rfl, fun a72 f72 => ?_⟩
     refine L.va f72 (E.nilCheck f72 rfl) fun a73 f73 => ?_
     refine L.fa 6 f73 U82 rfl wsz4_l fun a74 f74 => ?_
     refine L.storeO f74 wantedN wsz4_l (j := i * 7 + 6) hA FL.own rfl (show off + i * 7 + 6 = _ by omega) (by rw [fcell_len]; omega) rfl rfl fun a75 w3 f75 OW2 ks => ?_
     have szw3 := ks.size
     have KM : Mod [82] [] B _ w3 := .of_own1 hA ks FL.own hS.fly.loA (by simp)
     have FL1 := FL.set hf (f' := { x with rc := true }) KM OW2 rfl rfl
     replace HK := HK.step KM (by decide) (by simp) (by omega)
     replace HK1 := HK1.step KM (by decide) (by simp) (by omega)
     replace BP := BP.mod KM (by decide)
     replace Bg0 := Bg0.mod KM (by decide)
     clear f71 a71 f72 a72 f73 a73 f74 a74 ks KM OW2
     refine L.va f75 (E.nilCheck f75 rfl) fun a76 f76 => ?_
     refine L.fa 5 f76 U82 rfl wsz3_l fun a77 f77 => ?_
     refine L.storeO f77 wantedN wsz3_l (j := i * 7 + 5) hA FL1.own rfl (show off + i * 7 + 5 = _ by omega) (by rw [fcell_len]; omega) rfl rfl fun a78 w4 f78 OW2 ks => ?_
     have szw4 := ks.size
     have KM : Mod [82] [] B _ w4 := .of_own1 hA ks FL1.own hS.fly.loA (by simp)
     have FL2 := FL1.set (set_at hi4 (f' := { x with rc := true })) (f' := { x with rc := true, at_ := nearI now }) KM OW2 rfl rfl
     replace HK := HK.step KM (by decide) (by simp) (by omega)
     replace HK1 := HK1.step KM (by decide) (by simp) (by omega)
     replace BP := BP.mod KM (by decide)
     replace Bg0 := Bg0.mod KM (by decide)
     clear f75 a75 f76 a76 f77 a77 ks KM OW2
     have f79 := f78.pk [6, 8]
     refine wn hK12 (C.sk fun K13 hK13 => ?_)
     refine L.mv f79 fun a80 f80 => ?_
     refine L.va f80 (E.nilCheck f80 rfl) fun a81 f81 => ?_
     refine L.fa 4 f81 U82 rfl wsz3_l fun a82 f82 => ?_
     refine L.va f82 (E.load f82 U3 rfl rfl (fly_cell (Sl.of_own FL2.own) hA (set_at (l := s.fly.set i { x with rc := true }) (by simp; omega) (f' := { x with rc := true, at_ := nearI now })) 4 rfl (show off + i * 7 + 4 = _ by omega))) fun a83 f83 => ?_
     refine L.cl f83 (run_call Tryz.call46 (args2 f83 rfl rfl)) (reply_any 6 x.id _) ?_
     clear f78 f79 a78 f80 a80 f81 a81 f82 a82
     rintro e w5 ⟨g9, rfl, kc5, B9, lo9⟩
     have lo9' : w.heap.size ≤ g9 := by have := HK.size; omega
     refine ⟨_, rfl, fun a84 f84 => ?_⟩
     have szw5 := kc5.size
     replace HK := HK.trans (.of_kept0 kc5)
     replace HK1 := HK1.trans (.of_kept0 kc5)
     replace BP := BP.z kc5
     replace Bg0 := Bg0.z kc5
     replace FL2 := FL2.mod (Mod.of_kept0 (T := []) (M := []) (B := B) kc5) (by decide)
     clear f83 a83 kc5
     refine L.ag f84 fun a85 f85 => ?_
     have f86 := f85.pk [6]
     refine wn hK13 (wp_ret ?_); (try simp only [xt, xb]); refine C.ret f86 rfl rfl ?_
     exact ack_fin hS hf HK HK1 BP FL2 (by rw [ack_at hri hf, if_neg (by simp_all), if_pos (by simp_all)]) B9 lo9' (by omega)
    refine C.condF f68 rfl ?_
    refine wp_skip (hK5 _ _ ?_)
    have f69 := f68.pk [6]
    refine C.sk fun K14 hK14 => ?_
    refine L.ag f69 fun a70 f70 => ?_
    have f71 := f70.pk [6]
    refine wn hK14 (wp_ret ?_); (try simp only [xt, xb]); refine C.ret f71 rfl rfl ?_
    exact ⟨s, none, 0, [], rfl, hS.mod HK0 (by simp), by rw [ack_at hri hf, if_neg (by simp_all), if_neg (by simp_all)]; rfl, ⟨rfl, rfl, rfl, rfl, fun b hb => .inl hb⟩, HK, PkAt.nil _ _ _, by simp⟩
   refine L.run f58 (rest' := []) (by kernel_rfl) fun a59 f59 => ?_
   clear f57
   refine wn hK11 ?_
   have f60 := f59.sub (sv 48 (.bool false) (pkR f59 [2, 6, 8]))
   refine C.condF f60 rfl ?_
   refine wp_skip (hK5 _ _ ?_)
   have f61 := f60.pk [6]
   refine C.sk fun K15 hK15 => ?_
   refine L.ag f61 fun a62 f62 => ?_
   have f63 := f62.pk [6]
   refine wn hK15 (wp_ret ?_); (try simp only [xt, xb]); refine C.ret f63 rfl rfl ?_
   exact ⟨s, none, 0, [], rfl, hS.mod HK0 (by simp), by rw [ack_at hri hf, if_neg (by simp_all), if_neg (by simp_all)]; rfl, ⟨rfl, rfl, rfl, rfl, fun b hb => .inl hb⟩, HK, PkAt.nil _ _ _, by simp⟩
  refine L.run f45 (rest' := []) (by kernel_rfl) fun a46 f46 => ?_
  clear f44
  refine wn hK7 ?_
  have f47 := f46.sub (sv 23 (.bool false) (pkR f46 [0, 2, 4, 6, 7, 8]))
  refine C.condF f47 rfl ?_
  refine C.sk fun K16 hK16 => ?_
  refine L.fa 0 f47 U35 rfl wsz3_l fun a48 f48 => ?_
  refine L.va f48 (E.load f48 U3 rfl rfl (Bg0.cl hp0)) fun a49 f49 => ?_
  refine L.va f49 (E.eql f49 rfl rfl) fun a50 f50 => ?_
  refine L.mv f50 fun a51 f51 => ?_
  clear f46 f45 f47 a46 f48 a48 f49 a49 f50 a50
  refine f51.splitD 52 rfl (fun h7 f52 => ?_) (fun h7 f52 => ?_)
  ·refine L.mv f52 (hw := (f52.yes rfl rfl)) fun a53 f53 => ?_
   refine L.va f53 (E.nilCheck f53 rfl) (hw := (f53.yes rfl rfl)) fun a54 f54 => ?_
   refine L.fa 0 f54 U82 rfl wsz30_l (hw := (f54.yes rfl rfl)) fun a55 f55 => ?_
   refine L.fa 2 f55 U30 rfl wsz3_l (hw := (f55.yes rfl rfl)) fun a56 f56 => ?_
   refine L.va f56 (E.load f56 U3 rfl rfl (fly_cell (Sl.of_own FL.own) hA hf 2 rfl (show off + i * 7 + 0 + 2 = _ by omega))) (hw := (f56.yes rfl rfl)) fun a57 f57 => ?_
   refine L.va f57 (E.eql f57 rfl rfl) (hw := (f57.yes rfl rfl)) fun a58 f58 => ?_
   refine L.va f58 (E.pickT f58 rfl rfl) fun a59 f59 => ?_
   clear f51 f52 a51 f53 a53 f54 a54 f55 a55 f56 a56 f57 a57 f58 a58
   refine L.ag f59 fun a60 f60 => ?_
   refine wn hK16 ?_
   have f61 := f60.pk [2, 6, 8, 48]
   clear f59 a59 f60
   refine f61.splitD 48 rfl (fun h8 f62 => ?_) (fun h8 f62 => ?_)
   ·refine C.condT f62 rfl ?_
    refine C.sk fun K17 hK17 => ?_
    refine L.mv f62 fun a63 f63 => ?_
    refine L.mv f63 fun a64 f64 => ?_
    refine L.mv f64 fun a65 f65 => ?_
    refine L.cl f65 (run_call Tryz.call45 (args1 f65 rfl)) (near_any now _) ?_
    clear f61 f62 a60 f63 a63 f64 a64
    rintro e w2x ⟨rfl, rfl⟩
    refine ⟨_, rfl, fun a66 f66 => ?_⟩
    refine L.va f66 (E.nilCheck f66 rfl) fun a67 f67 => ?_
    refine L.fa 6 f67 U82 rfl wsz4_l fun a68 f68 => ?_
    refine L.storeO f68 wantedN wsz4_l (j := i * 7 + 6) hA FL.own rfl (show off + i * 7 + 6 = _ by omega) (by rw [fcell_len]; omega) rfl rfl fun a69 w3 f69 OW2 ks => ?_
    have szw3 := ks.size
    have KM : Mod [82] [] B _ w3 := .of_own1 hA ks FL.own hS.fly.loA (by simp)
    have FL1 := FL.set hf (f' := { x with rc := true }) KM OW2 rfl rfl
    replace HK := HK.step KM (by decide) (by simp) (by omega)
    replace HK1 := HK1.step KM (by decide) (by simp) (by omega)
    replace BP := BP.mod KM (by decide)
    replace Bg0 := Bg0.mod KM (by decide)
    clear f65 a65 f66 a66 f67 a67 f68 a68 ks KM OW2
    refine L.va f69 (E.nilCheck f69 rfl) fun a70 f70 => ?_
    refine L.fa 5 f70 U82 rfl wsz3_l fun a71 f71 => ?_
    refine L.storeO f71 wantedN wsz3_l (j := i * 7 + 5) hA FL1.own rfl (show off + i * 7 + 5 = _ by omega) (by rw [fcell_len]; omega) rfl rfl fun a72 w4 f72 OW2 ks => ?_
    have szw4 := ks.size
    have KM : Mod [82] [] B _ w4 := .of_own1 hA ks FL1.own hS.fly.loA (by simp)
    have FL2 := FL1.set (set_at hi4 (f' := { x with rc := true })) (f' := { x with rc := true, at_ := nearI now }) KM OW2 rfl rfl
    replace HK := HK.step KM (by decide) (by simp) (by omega)
    replace HK1 := HK1.step KM (by decide) (by simp) (by omega)
    replace BP := BP.mod KM (by decide)
    replace Bg0 := Bg0.mod KM (by decide)
    clear f69 a69 f70 a70 f71 a71 ks KM OW2
    have f73 := f72.pk [6, 8]
    refine wn hK17 (C.sk fun K18 hK18 => ?_)
    refine L.mv f73 fun a74 f74 => ?_
    refine L.va f74 (E.nilCheck f74 rfl) fun a75 f75 => ?_
    refine L.fa 4 f75 U82 rfl wsz3_l fun a76 f76 => ?_
    refine L.va f76 (E.load f76 U3 rfl rfl (fly_cell (Sl.of_own FL2.own) hA (set_at (l := s.fly.set i { x with rc := true }) (by simp; omega) (f' := { x with rc := true, at_ := nearI now })) 4 rfl (show off + i * 7 + 4 = _ by omega))) fun a77 f77 => ?_
    refine L.cl f77 (run_call Tryz.call46 (args2 f77 rfl rfl)) (reply_any 6 x.id _) ?_
    clear f72 f73 a72 f74 a74 f75 a75 f76 a76
    rintro e w5 ⟨g9, rfl, kc5, B9, lo9⟩
    have lo9' : w.heap.size ≤ g9 := by have := HK.size; omega
    refine ⟨_, rfl, fun a78 f78 => ?_⟩
    have szw5 := kc5.size
    replace HK := HK.trans (.of_kept0 kc5)
    replace HK1 := HK1.trans (.of_kept0 kc5)
    replace BP := BP.z kc5
    replace Bg0 := Bg0.z kc5
    replace FL2 := FL2.mod (Mod.of_kept0 (T := []) (M := []) (B := B) kc5) (by decide)
    clear f77 a77 kc5
    refine L.ag f78 fun a79 f79 => ?_
    have f80 := f79.pk [6]
    refine wn hK18 (wp_ret ?_); (try simp only [xt, xb]); refine C.ret f80 rfl rfl ?_
    exact ack_fin hS hf HK HK1 BP FL2 (by rw [ack_at hri hf, if_neg (by simp_all), if_pos (by simp_all)]) B9 lo9' (by omega)
   refine C.condF f62 rfl ?_
   refine wp_skip (hK5 _ _ ?_)
   have f63 := f62.pk [6]
   refine C.sk fun K19 hK19 => ?_
   refine L.ag f63 fun a64 f64 => ?_
   have f65 := f64.pk [6]
   refine wn hK19 (wp_ret ?_); (try simp only [xt, xb]); refine C.ret f65 rfl rfl ?_
   exact ⟨s, none, 0, [], rfl, hS.mod HK0 (by simp), by rw [ack_at hri hf, if_neg (by simp_all), if_neg (by simp_all)]; rfl, ⟨rfl, rfl, rfl, rfl, fun b hb => .inl hb⟩, HK, PkAt.nil _ _ _, by simp⟩
  refine L.run f52 (rest' := []) (by kernel_rfl) fun a53 f53 => ?_
  clear f51
  refine wn hK16 ?_
  have f54 := f53.sub (sv 48 (.bool false) (pkR f53 [2, 6, 8]))
  refine C.condF f54 rfl ?_
  refine wp_skip (hK5 _ _ ?_)
  have f55 := f54.pk [6]
  refine C.sk fun K20 hK20 => ?_
  refine L.ag f55 fun a56 f56 => ?_
  have f57 := f56.pk [6]
  refine wn hK20 (wp_ret ?_); (try simp only [xt, xb]); refine C.ret f57 rfl rfl ?_
  exact ⟨s, none, 0, [], rfl, hS.mod HK0 (by simp), by rw [ack_at hri hf, if_neg (by simp_all), if_neg (by simp_all)]; rfl, ⟨rfl, rfl, rfl, rfl, fun b hb => .inl hb⟩, HK, PkAt.nil _ _ _, by simp⟩
 refine L.run f30 (rest' := []) (by kernel_rfl) fun a31 f31 => ?_
 clear f29
 refine wn hK8 ?_
 have f32 := f31.sub (sv 23 (.bool false) (pkR f31 [0, 2, 4, 6, 7, 8]))
 refine C.condF f32 rfl ?_
 refine C.region ?_
 refine L.fa 0 f32 U35 rfl wsz3_l fun a33 f33 => ?_
 refine L.va f33 (E.load f33 U3 rfl rfl (Bg0.cl hp0)) fun a34 f34 => ?_
 refine L.va f34 (E.eql f34 rfl rfl) fun a35 f35 => ?_
 refine L.mv f35 fun a36 f36 => ?_
 clear f31 f30 f32 a31 f33 a33 f34 a34 f35 a35
 refine f36.splitD 38 rfl (fun h9 f37 => ?_) (fun h9 f37 => ?_)
 ·refine L.mv f37 (hw := (f37.yes rfl rfl)) fun a38 f38 => ?_
  refine L.va f38 (E.nilCheck f38 rfl) (hw := (f38.yes rfl rfl)) fun a39 f39 => ?_
  refine L.fa 6 f39 U82 rfl wsz4_l (hw := (f39.yes rfl rfl)) fun a40 f40 => ?_
  refine L.va f40 (E.load f40 U4 rfl rfl (fly_cell (Sl.of_own FL.own) hA hf 6 rfl (show off + i * 7 + 6 = _ by omega))) (hw := (f40.yes rfl rfl)) fun a41 f41 => ?_
  refine L.va f41 (E.pickT f41 rfl rfl) fun a42 f42 => ?_
  refine L.ag f42 fun a43 f43 => ?_
  refine wn hK7 ?_
  have f44 := f43.pk [0, 2, 4, 6, 7, 8, 23]
  clear f36 f37 a36 f38 a38 f39 a39 f40 a40 f41 a41 f42 a42 f43
  refine f44.split 23 rfl (fun h10 f45 => ?_) (fun h10 f45 => ?_)
  ·refine C.condT f45 rfl ?_
   refine C.sk fun K21 hK21 => ?_
   refine L.mv f45 fun a46 f46 => ?_
   refine L.mv f46 fun a47 f47 => ?_
   refine L.mv f47 fun a48 f48 => ?_
   refine L.cl f48 (run_call Tryz.call44 (args3 f48 rfl rfl rfl)) (done_any B p s i x now _ (hS.mod HK0 (by simp)) hf (by omega)) ?_
   clear f44 f45 a43 f46 a46 f47 a47
   rintro e w3 ⟨s2, A2, c2, pks, rfl, HS2, hab, hpp, hL2, kc3, PK⟩
   have hl10 := done_len hpp
   have szz := HK.size
   replace PK := PK.lower (w1 := w) szz
   replace hL2 := (Ses.Like.refl w s).trans hL2 szz
   refine ⟨_, rfl, fun a49 f49 => ?_⟩
   have szw3 := kc3.size
   replace HK := HK.step kc3 (by decide) (by simp) (by omega)
   clear f48 a48 kc3
   refine L.ag f49 fun a50 f50 => ?_
   have f51 := f50.pk [6]
   refine wn hK21 (wp_ret ?_); (try simp only [xt, xb]); refine C.ret f51 rfl rfl ?_
   exact ⟨s2, A2, c2, pks, rfl, HS2, by rw [ack_at hri hf, if_pos (by simp_all), hab, hpp], hL2, HK, PK, hl10⟩
  refine C.condF f45 rfl ?_
  refine C.sk fun K22 hK22 => ?_
  refine L.fa 0 f45 U35 rfl wsz3_l fun a46 f46 => ?_
  refine L.va f46 (E.load f46 U3 rfl rfl (Bg0.cl hp0)) fun a47 f47 => ?_
  refine L.va f47 (E.eql f47 rfl rfl) fun a48 f48 => ?_
  refine L.mv f48 fun a49 f49 => ?_
  clear f44 f45 a43 f46 a46 f47 a47 f48 a48
  refine f49.splitD 52 rfl (fun h11 f50 => ?_) (fun h11 f50 => ?_)
  ·refine L.mv f50 (hw := (f50.yes rfl rfl)) fun a51 f51 => ?_
   refine L.va f51 (E.nilCheck f51 rfl) (hw := (f51.yes rfl rfl)) fun a52 f52 => ?_
   refine L.fa 0 f52 U82 rfl wsz30_l (hw := (f52.yes rfl rfl)) fun a53 f53 => ?_
   refine L.fa 2 f53 U30 rfl wsz3_l (hw := (f53.yes rfl rfl)) fun a54 f54 => ?_
   refine L.va f54 (E.load f54 U3 rfl rfl (fly_cell (Sl.of_own FL.own) hA hf 2 rfl (show off + i * 7 + 0 + 2 = _ by omega))) (hw := (f54.yes rfl rfl)) fun a55 f55 => ?_
   refine L.va f55 (E.eql f55 rfl rfl) (hw := (f55.yes rfl rfl)) fun a56 f56 => ?_
   refine L.va f56 (E.pickT f56 rfl rfl) fun a57 f57 => ?_
   clear f49 f50 a49 f51 a51 f52 a52 f53 a53 f54 a54 f55 a55 f56 a56
   refine L.ag f57 fun a58 f58 => ?_
   refine wn hK22 ?_
   have f59 := f58.pk [2, 6, 8, 48]
   clear f57 a57 f58
   refine f59.splitD 48 rfl (fun h12 f60 => ?_) (fun h12 f60 => ?_)
   ·refine C.condT f60 rfl ?_
    refine C.sk fun K23 hK23 => ?_
    refine L.mv f60 fun a61 f61 => ?_
    refine L.mv f61 fun a62 f62 => ?_
    refine L.mv f62 fun a63 f63 => ?_
    refine L.cl f63 (run_call Tryz.call45 (args1 f63 rfl)) (near_any now _) ?_
    clear f59 f60 a58 f61 a61 f62 a62
    rintro e w2x ⟨rfl, rfl⟩
    refine ⟨_, rfl, fun a64 f64 => ?_⟩
    refine L.va f64 (E.nilCheck f64 rfl) fun a65 f65 => ?_
    refine L.fa 6 f65 U82 rfl wsz4_l fun a66 f66 => ?_
    refine L.storeO f66 wantedN wsz4_l (j := i * 7 + 6) hA FL.own rfl (show off + i * 7 + 6 = _ by omega) (by rw [fcell_len]; omega) rfl rfl fun a67 w3 f67 OW2 ks => ?_
    have szw3 := ks.size
    have KM : Mod [82] [] B _ w3 := .of_own1 hA ks FL.own hS.fly.loA (by simp)
    have FL1 := FL.set hf (f' := { x with rc := true }) KM OW2 rfl rfl
    replace HK := HK.step KM (by decide) (by simp) (by omega)
    replace HK1 := HK1.step KM (by decide) (by simp) (by omega)
    replace BP := BP.mod KM (by decide)
    replace Bg0 := Bg0.mod KM (by decide)
    clear f63 a63 f64 a64 f65 a65 f66 a66 ks KM OW2
    refine L.va f67 (E.nilCheck f67 rfl) fun a68 f68 => ?_
    refine L.fa 5 f68 U82 rfl wsz3_l fun a69 f69 => ?_
    refine L.storeO f69 wantedN wsz3_l (j := i * 7 + 5) hA FL1.own rfl (show off + i * 7 + 5 = _ by omega) (by rw [fcell_len]; omega) rfl rfl fun a70 w4 f70 OW2 ks => ?_
    have szw4 := ks.size
    have KM : Mod [82] [] B _ w4 := .of_own1 hA ks FL1.own hS.fly.loA (by simp)
    have FL2 := FL1.set (set_at hi4 (f' := { x with rc := true })) (f' := { x with rc := true, at_ := nearI now }) KM OW2 rfl rfl
    replace HK := HK.step KM (by decide) (by simp) (by omega)
    replace HK1 := HK1.step KM (by decide) (by simp) (by omega)
    replace BP := BP.mod KM (by decide)
    replace Bg0 := Bg0.mod KM (by decide)
    clear f67 a67 f68 a68 f69 a69 ks KM OW2
    have f71 := f70.pk [6, 8]
    refine wn hK23 (C.sk fun K24 hK24 => ?_)
    refine L.mv f71 fun a72 f72 => ?_
    refine L.va f72 (E.nilCheck f72 rfl) fun a73 f73 => ?_
    refine L.fa 4 f73 U82 rfl wsz3_l fun a74 f74 => ?_
    refine L.va f74 (E.load f74 U3 rfl rfl (fly_cell (Sl.of_own FL2.own) hA (set_at (l := s.fly.set i { x with rc := true }) (by simp; omega) (f' := { x with rc := true, at_ := nearI now })) 4 rfl (show off + i * 7 + 4 = _ by omega))) fun a75 f75 => ?_
    refine L.cl f75 (run_call Tryz.call46 (args2 f75 rfl rfl)) (reply_any 6 x.id _) ?_
    clear f70 f71 a70 f72 a72 f73 a73 f74 a74
    rintro e w5 ⟨g9, rfl, kc5, B9, lo9⟩
    have lo9' : w.heap.size ≤ g9 := by have := HK.size; omega
    refine ⟨_, rfl, fun a76 f76 => ?_⟩
    have szw5 := kc5.size
    replace HK := HK.trans (.of_kept0 kc5)
    replace HK1 := HK1.trans (.of_kept0 kc5)
    replace BP := BP.z kc5
    replace Bg0 := Bg0.z kc5
    replace FL2 := FL2.mod (Mod.of_kept0 (T := []) (M := []) (B := B) kc5) (by decide)
    clear f75 a75 kc5
    refine L.ag f76 fun a77 f77 => ?_
    have f78 := f77.pk [6]
    refine wn hK24 (wp_ret ?_); (try simp only [xt, xb]); refine C.ret f78 rfl rfl ?_
    exact ack_fin hS hf HK HK1 BP FL2 (by rw [ack_at hri hf, if_neg (by simp_all), if_pos (by simp_all)]) B9 lo9' (by omega)
   refine C.condF f60 rfl ?_
   refine wp_skip (hK5 _ _ ?_)
   have f61 := f60.pk [6]
   refine C.sk fun K25 hK25 => ?_
   refine L.ag f61 fun a62 f62 => ?_
   have f63 := f62.pk [6]
   refine wn hK25 (wp_ret ?_); (try simp only [xt, xb]); refine C.ret f63 rfl rfl ?_
   exact ⟨s, none, 0, [], rfl, hS.mod HK0 (by simp), by rw [ack_at hri hf, if_neg (by simp_all), if_neg (by simp_all)]; rfl, ⟨rfl, rfl, rfl, rfl, fun b hb => .inl hb⟩, HK, PkAt.nil _ _ _, by simp⟩
  refine L.run f50 (rest' := []) (by kernel_rfl) fun a51 f51 => ?_
  clear f49
  refine wn hK22 ?_
  have f52 := f51.sub (sv 48 (.bool false) (pkR f51 [2, 6, 8]))
  refine C.condF f52 rfl ?_
  refine wp_skip (hK5 _ _ ?_)
  have f53 := f52.pk [6]
  refine C.sk fun K26 hK26 => ?_
  refine L.ag f53 fun a54 f54 => ?_
  have f55 := f54.pk [6]
  refine wn hK26 (wp_ret ?_); (try simp only [xt, xb]); refine C.ret f55 rfl rfl ?_
  exact ⟨s, none, 0, [], rfl, hS.mod HK0 (by simp), by rw [ack_at hri hf, if_neg (by simp_all), if_neg (by simp_all)]; rfl, ⟨rfl, rfl, rfl, rfl, fun b hb => .inl hb⟩, HK, PkAt.nil _ _ _, by simp⟩
 refine L.run f37 (rest' := []) (by kernel_rfl) fun a38 f38 => ?_
 clear f36
 refine wn hK7 ?_
 have f39 := f38.sub (sv 23 (.bool false) (pkR f38 [0, 2, 4, 6, 7, 8]))
 refine C.condF f39 rfl ?_
 refine C.sk fun K27 hK27 => ?_
 refine L.fa 0 f39 U35 rfl wsz3_l fun a40 f40 => ?_
 refine L.va f40 (E.load f40 U3 rfl rfl (Bg0.cl hp0)) fun a41 f41 => ?_
 refine L.va f41 (E.eql f41 rfl rfl) fun a42 f42 => ?_
 refine L.mv f42 fun a43 f43 => ?_
 clear f38 f37 f39 a38 f40 a40 f41 a41 f42 a42
 refine f43.splitD 52 rfl (fun h13 f44 => ?_) (fun h13 f44 => ?_)
 ·refine L.mv f44 (hw := (f44.yes rfl rfl)) fun a45 f45 => ?_
  refine L.va f45 (E.nilCheck f45 rfl) (hw := (f45.yes rfl rfl)) fun a46 f46 => ?_
  refine L.fa 0 f46 U82 rfl wsz30_l (hw := (f46.yes rfl rfl)) fun a47 f47 => ?_
  refine L.fa 2 f47 U30 rfl wsz3_l (hw := (f47.yes rfl rfl)) fun a48 f48 => ?_
  refine L.va f48 (E.load f48 U3 rfl rfl (fly_cell (Sl.of_own FL.own) hA hf 2 rfl (show off + i * 7 + 0 + 2 = _ by omega))) (hw := (f48.yes rfl rfl)) fun a49 f49 => ?_
  refine L.va f49 (E.eql f49 rfl rfl) (hw := (f49.yes rfl rfl)) fun a50 f50 => ?_
  refine L.va f50 (E.pickT f50 rfl rfl) fun a51 f51 => ?_
  clear f43 f44 a43 f45 a45 f46 a46 f47 a47 f48 a48 f49 a49 f50 a50
  refine L.ag f51 fun a52 f52 => ?_
  refine wn hK27 ?_
  have f53 := f52.pk [2, 6, 8, 48]
  clear f51 a51 f52
  refine f53.splitD 48 rfl (fun h14 f54 => ?_) (fun h14 f54 => ?_)
  ·refine C.condT f54 rfl ?_
   refine C.sk fun K28 hK28 => ?_
   refine L.mv f54 fun a55 f55 => ?_
   refine L.mv f55 fun a56 f56 => ?_
   refine L.mv f56 fun a57 f57 => ?_
   refine L.cl f57 (run_call Tryz.call45 (args1 f57 rfl)) (near_any now _) ?_
   clear f53 f54 a52 f55 a55 f56 a56
   rintro e w2x ⟨rfl, rfl⟩
   refine ⟨_, rfl, fun a58 f58 => ?_⟩
   refine L.va f58 (E.nilCheck f58 rfl) fun a59 f59 => ?_
   refine L.fa 6 f59 U82 rfl wsz4_l fun a60 f60 => ?_
   refine L.storeO f60 wantedN wsz4_l (j := i * 7 + 6) hA FL.own rfl (show off + i * 7 + 6 = _ by omega) (by rw [fcell_len]; omega) rfl rfl fun a61 w3 f61 OW2 ks => ?_
   have szw3 := ks.size
   have KM : Mod [82] [] B _ w3 := .of_own1 hA ks FL.own hS.fly.loA (by simp)
   have FL1 := FL.set hf (f' := { x with rc := true }) KM OW2 rfl rfl
   replace HK := HK.step KM (by decide) (by simp) (by omega)
   replace HK1 := HK1.step KM (by decide) (by simp) (by omega)
   replace BP := BP.mod KM (by decide)
   replace Bg0 := Bg0.mod KM (by decide)
   clear f57 a57 f58 a58 f59 a59 f60 a60 ks KM OW2
   refine L.va f61 (E.nilCheck f61 rfl) fun a62 f62 => ?_
   refine L.fa 5 f62 U82 rfl wsz3_l fun a63 f63 => ?_
   refine L.storeO f63 wantedN wsz3_l (j := i * 7 + 5) hA FL1.own rfl (show off + i * 7 + 5 = _ by omega) (by rw [fcell_len]; (simp; omega)) rfl rfl fun a64 w4 f64 OW2 ks => ?_
   have szw4 := ks.size
   have KM : Mod [82] [] B _ w4 := .of_own1 hA ks FL1.own hS.fly.loA (by simp)
   have FL2 := FL1.set (set_at hi4 (f' := { x with rc := true })) (f' := { x with rc := true, at_ := nearI now }) KM OW2 rfl rfl
   replace HK := HK.step KM (by decide) (by simp) (by omega)
   replace HK1 := HK1.step KM (by decide) (by simp) (by omega)
   replace BP := BP.mod KM (by decide)
   replace Bg0 := Bg0.mod KM (by decide)
   clear f61 a61 f62 a62 f63 a63 ks KM OW2
   have f65 := f64.pk [6, 8]
   refine wn hK28 (C.sk fun K29 hK29 => ?_)
   refine L.mv f65 fun a66 f66 => ?_
   refine L.va f66 (E.nilCheck f66 rfl) fun a67 f67 => ?_
   refine L.fa 4 f67 U82 rfl wsz3_l fun a68 f68 => ?_
   refine L.va f68 (E.load f68 U3 rfl rfl (fly_cell (Sl.of_own FL2.own) hA (set_at (l := s.fly.set i { x with rc := true }) (by simp; omega) (f' := { x with rc := true, at_ := nearI now })) 4 rfl (show off + i * 7 + 4 = _ by omega))) fun a69 f69 => ?_
   refine L.cl f69 (run_call Tryz.call46 (args2 f69 rfl rfl)) (reply_any 6 x.id _) ?_
   clear f64 f65 a64 f66 a66 f67 a67 f68 a68
   rintro e w5 ⟨g9, rfl, kc5, B9, lo9⟩
   have lo9' : w.heap.size ≤ g9 := by have := HK.size; omega
   refine ⟨_, rfl, fun a70 f70 => ?_⟩
   have szw5 := kc5.size
   replace HK := HK.trans (.of_kept0 kc5)
   replace HK1 := HK1.trans (.of_kept0 kc5)
   replace BP := BP.z kc5
   replace Bg0 := Bg0.z kc5
   replace FL2 := FL2.mod (Mod.of_kept0 (T := []) (M := []) (B := B) kc5) (by decide)
   clear f69 a69 kc5
   refine L.ag f70 fun a71 f71 => ?_
   have f72 := f71.pk [6]
   refine wn hK29 (wp_ret ?_); (try simp only [xt, xb]); refine C.ret f72 rfl rfl ?_
   exact ack_fin hS hf HK HK1 BP FL2 (by rw [ack_at hri hf, if_neg (by simp_all), if_pos (by simp_all)]) B9 lo9' (by omega)
  refine C.condF f54 rfl ?_
  refine wp_skip (hK5 _ _ ?_)
  have f55 := f54.pk [6]
  refine C.sk fun K30 hK30 => ?_
  refine L.ag f55 fun a56 f56 => ?_
  have f57 := f56.pk [6]
  refine wn hK30 (wp_ret ?_); (try simp only [xt, xb]); refine C.ret f57 rfl rfl ?_
  exact ⟨s, none, 0, [], rfl, hS.mod HK0 (by simp), by rw [ack_at hri hf, if_neg (by simp_all), if_neg (by simp_all)]; rfl, ⟨rfl, rfl, rfl, rfl, fun b hb => .inl hb⟩, HK, PkAt.nil _ _ _, by simp⟩
 refine L.run f44 (rest' := []) (by kernel_rfl) fun a45 f45 => ?_
 clear f43
 refine wn hK27 ?_
 have f46 := f45.sub (sv 48 (.bool false) (pkR f45 [2, 6, 8]))
 refine C.condF f46 rfl ?_
 refine wp_skip (hK5 _ _ ?_)
 have f47 := f46.pk [6]
 refine C.sk fun K31 hK31 => ?_
 refine L.ag f47 fun a48 f48 => ?_
 have f49 := f48.pk [6]
 refine wn hK31 (wp_ret ?_); (try simp only [xt, xb]); refine C.ret f49 rfl rfl ?_
 exact ⟨s, none, 0, [], rfl, hS.mod HK0 (by simp), by rw [ack_at hri hf, if_neg (by simp_all), if_neg (by simp_all)]; rfl, ⟨rfl, rfl, rfl, rfl, fun b hb => .inl hb⟩, HK, PkAt.nil _ _ _, by simp⟩
theorem got_any (B p : Nat) (s : Ses) (kind qos id : Int) (pcs : Array Value) (hp0 : pcs.toList[0]? = some (.int .i64 kind)) (hp4 : pcs.toList[4]? = some (.int .i64 id)) (hp3 : pcs.toList[3]? = some (.int .i64 qos)) (w : World) (hS : SesAt B w p s) (hB : B ≤ w.heap.size) (hwf : (Lit.int .i64 id).wf = true) (hgl : s.got.length < maxLen) : Calls Tryz.prog 13 #[.pointer (some ⟨p, 0, none⟩), .agg pcs] w (GotPost B p s (gotS s.abs kind qos id) w) := by
 have HK : Mod [] [s.im, s.gm] B w w := .refl _ _ _ _
 have HK2 : Mod [] [s.gm] B w w := .refl _ _ _ _
 have HK0 : Mod [] [] B w w := .refl _ _ _ _
 have BP := hS.top
 have IG := hS.got
 have hmap := hS.got.map
 have hpg : p ≠ s.gm := fun h => hS.top.not_map (h ▸ hmap)
 refine C.enter Tryz.func13 rfl Tryz.ntmps13 rfl ?_
 intro a0 f0
 have f1 : Fr 63 a0 [(0, .pointer (some ⟨p, 0, none⟩)), (1, .agg pcs)] := f0
 refine C.sk fun K0 hK0 => ?_
 refine L.box f1 wantedN (by decide) rfl rfl fun a2 w1 g0 N0 f2 => ?_
 have Bg0 := N0.blk
 have kg0 := N0.kept
 have log0 := N0.lo
 have ltg0 := Bg0.lt
 have szw1 := kg0.size
 have frg0 : w.heap.size ≤ g0 := Nat.le_trans HK.size log0
 have nep_g0 : p ≠ g0 := by have := BP.lt; omega
 replace HK := HK.trans (.of_kept0 kg0)
 replace HK2 := HK2.trans (.of_kept0 kg0)
 replace HK0 := HK0.trans (.of_kept0 kg0)
 replace BP := BP.z kg0
 replace IG := IG.mod (Mod.of_kept0 (T := []) (M := []) (B := B) kg0) (by simp)
 clear f0 N0 kg0
 refine L.ag f2 fun a3 f3 => ?_
 refine L.ag f3 fun a4 f4 => ?_
 refine wn hK0 ?_
 have f5 := f4.pk [0, 3, 4, 5]
 refine wp_seq_k fun K1 hK1 => ?_
 refine wp_block ?_
 refine C.sk fun K2 hK2 => ?_
 refine L.fa 0 f5 U35 rfl wsz3_l fun a6 f6 => ?_
 refine L.va f6 (E.load f6 U3 rfl rfl (Bg0.cl hp0)) fun a7 f7 => ?_
 refine L.va f7 (E.eql f7 rfl rfl) fun a8 f8 => ?_
 refine L.ag f8 fun a9 f9 => ?_
 clear f1 a0 f2 a2 f3 a3 f4 f5 a4 f6 a6 f7 a7 f8 a8
 refine wn hK2 ?_
 have f10 := f9.pk [0, 3, 4, 5, 7]
 clear f9
 refine f10.splitD 7 rfl (fun h0 f11 => ?_) (fun h0 f11 => ?_)
 ·have hk6 := h0
  refine C.condT f11 rfl ?_
  refine wp_seq_k fun K3 hK3 => ?_
  have KN := Kept.refl [] w1
  have hg0g : g0 ≠ s.gm := by have := hS.got.lt; omega
  refine R.begin (S := fun W => Kept [s.gm] w1 W) (by kernel_rfl) (by exact (Kept.refl _ _).drewN 1) ?_
  have hS2 : Kept [s.gm] w1 (w1.drewN 1) := (Kept.refl _ _).drewN 1
  have hd2 : Kept [] w1 (w1.drewN 1) := (Kept.refl _ _).drewN 1
  obtain ⟨w2, hww2⟩ : ∃ W, W = w1.drewN 1 := ⟨_, rfl⟩
  rw [← hww2] at hS2 hd2 ⊢
  clear f10 hww2
  have szw2 := hS2.size
  replace KN := KN.trans hd2 (by simp)
  refine R.mv 0 f11 rfl hS2 fun a12 f12 => ?_
  refine R.t 1 f12 rfl hS2 (fun W hW => (E.nilCheck f12 rfl)) fun a13 f13 => ?_
  refine R.t 2 f13 rfl hS2 (fun W hW => (E.fa 5 f13 U57 rfl wsz54_l)) fun a14 f14 => ?_
  refine R.t 3 f14 rfl hS2 (fun W hW => (E.load f14 Tryz.underlying54 rfl rfl ((BP.kept hW (by first | simpa using hpg | simpa using hg0g)).cl rfl))) fun a15 f15 => ?_
  refine R.t 4 f15 rfl hS2 (fun W hW => (E.fa 4 f15 U35 rfl wsz3_l)) fun a16 f16 => ?_
  refine R.t 5 f16 rfl hS2 (fun W hW => (E.load f16 U3 rfl rfl ((Bg0.kept hW (by simpa using hg0g)).cl hp4))) fun a17 f17 => ?_
  refine R.one 6 (by kernel_rfl) ?_
  refine O.mapDrop f17 rfl wantedN (IG.kept KN (by simp)) U3 Tryz.underlying54 rfl rfl hwf (fun _ hk => hS2.trans hk (by simp)) fun a18 w3 IN ks f18 => ?_
  replace hS2 := hS2.trans ks (by simp)
  have szw3 := ks.size
  clear f11 a9 f12 a12 f13 a13 f14 a14 f15 a15 f16 a16 f17 a17 ks
  have szw3r := hS2.size
  have KM : Mod [] [s.gm] B _ w3 := Mod.of_kept hS2 (fun x hx _ => by obtain rfl := List.mem_singleton.1 hx; exact ⟨hS.log, .inr ⟨IG.map, by simp⟩⟩)
  replace HK := HK.step KM (by decide) (by simp) (by omega)
  replace HK2 := HK2.step KM (by decide) (by simp) (by omega)
  replace BP := BP.kept hS2 (by simpa using hpg)
  replace Bg0 := Bg0.kept hS2 (by simpa using hg0g)
  clear hS2
  refine R.done (by kernel_rfl) (hK3 _ _ ?_)
  have f19 := f18.pk [0, 3, 4, 5]
  refine C.sk fun K4 hK4 => ?_
  refine L.fa 4 f19 U35 rfl wsz3_l fun a20 f20 => ?_
  refine L.va f20 (E.load f20 U3 rfl rfl (Bg0.cl hp4)) fun a21 f21 => ?_
  refine L.cl f21 (run_call Tryz.call46 (args2 f21 rfl rfl)) (reply_any 7 id _) ?_
  clear f18 f19 a18 f20 a20
  rintro e w4 ⟨g9, rfl, kc4, B9, lo9⟩
  have lo9' : w.heap.size ≤ g9 := by have := HK.size; omega
  refine ⟨_, rfl, fun a22 f22 => ?_⟩
  have szw4 := kc4.size
  replace HK := HK.trans (.of_kept0 kc4)
  replace HK2 := HK2.trans (.of_kept0 kc4)
  replace BP := BP.z kc4
  replace Bg0 := Bg0.z kc4
  replace IN := IN.mod (Mod.of_kept0 (T := []) (M := []) (B := B) kc4) (by simp)
  clear f21 a21 kc4
  refine L.ag f22 fun a23 f23 => ?_
  refine L.ag f23 fun a24 f24 => ?_
  have f25 := f24.pk [0, 3, 4, 5]
  refine wn hK4 (wp_ret ?_); (try simp only [xt, xb]); refine C.ret2 f25 rfl rfl rfl ?_
  exact got_fin hS HK HK2 IN (k := 7) (b := false) (by rw [gotS, if_pos hk6]; rfl) B9 (by omega)
 have hk6 := h0
 refine C.condF f11 rfl ?_
 refine C.sk fun K5 hK5 => ?_
 refine L.fa 0 f11 U35 rfl wsz3_l fun a12 f12 => ?_
 refine L.va f12 (E.load f12 U3 rfl rfl (Bg0.cl hp0)) fun a13 f13 => ?_
 refine L.va f13 (E.neq f13 rfl rfl) fun a14 f14 => ?_
 refine L.mv f14 fun a15 f15 => ?_
 clear f10 f11 a9 f12 a12 f13 a13 f14 a14
 refine f15.splitN 24 rfl (fun h1 f16 => ?_) (fun h1 f16 => ?_)
 ·refine L.run f16 (rest' := []) (by kernel_rfl) fun a17 f17 => ?_
  clear f15
  refine wn hK5 ?_
  have f18 := f17.sub (sv 20 (.bool true) (pkR f17 [0, 3, 4, 5]))
  refine C.condT f18 rfl ?_
  refine C.sk fun K6 hK6 => ?_
  refine L.ag f18 fun a19 f19 => ?_
  refine L.ag f19 fun a20 f20 => ?_
  have f21 := f20.pk [0, 3, 4, 5]
  refine wn hK6 (wp_ret ?_); (try simp only [xt, xb]); refine C.ret2 f21 rfl rfl rfl ?_
  exact got_nil hS HK HK0 (b := false) (by rw [gotS, if_neg hk6, if_pos (by omega)])
 refine L.fa 3 f16 U35 rfl wsz3_l (hw := (f16.yes rfl rfl)) fun a17 f17 => ?_
 refine L.va f17 (E.load f17 U3 rfl rfl (Bg0.cl hp3)) (hw := (f17.yes rfl rfl)) fun a18 f18 => ?_
 refine L.va f18 (E.lss f18 rfl rfl) (hw := (f18.yes rfl rfl)) fun a19 f19 => ?_
 refine L.va f19 (E.pickF f19 rfl rfl) fun a20 f20 => ?_
 refine L.mv f20 fun a21 f21 => ?_
 clear f15 f16 a15 f17 a17 f18 a18 f19 a19 f20 a20
 refine f21.splitD 29 rfl (fun h2 f22 => ?_) (fun h2 f22 => ?_)
 ·refine L.run f22 (rest' := []) (by kernel_rfl) fun a23 f23 => ?_
  clear f21
  refine wn hK5 ?_
  have f24 := f23.sub (sv 20 (.bool true) (pkR f23 [0, 3, 4, 5]))
  refine C.condT f24 rfl ?_
  refine C.sk fun K7 hK7 => ?_
  refine L.ag f24 fun a25 f25 => ?_
  refine L.ag f25 fun a26 f26 => ?_
  have f27 := f26.pk [0, 3, 4, 5]
  refine wn hK7 (wp_ret ?_); (try simp only [xt, xb]); refine C.ret2 f27 rfl rfl rfl ?_
  exact got_nil hS HK HK0 (b := false) (by rw [gotS, if_neg hk6, if_pos (by omega)])
 refine L.fa 3 f22 U35 rfl wsz3_l (hw := (f22.yes rfl rfl)) fun a23 f23 => ?_
 refine L.va f23 (E.load f23 U3 rfl rfl (Bg0.cl hp3)) (hw := (f23.yes rfl rfl)) fun a24 f24 => ?_
 refine L.va f24 (E.gtr f24 rfl rfl) (hw := (f24.yes rfl rfl)) fun a25 f25 => ?_
 refine L.va f25 (E.pickF f25 rfl rfl) fun a26 f26 => ?_
 refine L.ag f26 fun a27 f27 => ?_
 refine wn hK5 ?_
 have f28 := f27.pk [0, 3, 4, 5, 20]
 clear f21 f22 a21 f23 a23 f24 a24 f25 a25 f26 a26 f27
 refine f28.splitD 20 rfl (fun h3 f29 => ?_) (fun h3 f29 => ?_)
 ·refine C.condT f29 rfl ?_
  refine C.sk fun K8 hK8 => ?_
  refine L.ag f29 fun a30 f30 => ?_
  refine L.ag f30 fun a31 f31 => ?_
  have f32 := f31.pk [0, 3, 4, 5]
  refine wn hK8 (wp_ret ?_); (try simp only [xt, xb]); refine C.ret2 f32 rfl rfl rfl ?_
  exact got_nil hS HK HK0 (b := false) (by rw [gotS, if_neg hk6, if_pos (by omega)])
 refine C.condF f29 rfl ?_
 refine C.sk fun K9 hK9 => ?_
 refine L.fa 3 f29 U35 rfl wsz3_l fun a30 f30 => ?_
 refine L.va f30 (E.load f30 U3 rfl rfl (Bg0.cl hp3)) fun a31 f31 => ?_
 refine L.va f31 (E.eql f31 rfl rfl) fun a32 f32 => ?_
 refine L.ag f32 fun a33 f33 => ?_
 refine wn hK9 ?_
 have f34 := f33.pk [0, 3, 4, 5, 34]
 clear f28 f29 a27 f30 a30 f31 a31 f32 a32 f33
 refine f34.splitD 34 rfl (fun h4 f35 => ?_) (fun h4 f35 => ?_)
 ·have hq0 := h4
  refine C.condT f35 rfl ?_
  refine C.sk fun K10 hK10 => ?_
  refine L.ag f35 fun a36 f36 => ?_
  refine L.ag f36 fun a37 f37 => ?_
  have f38 := f37.pk [0, 3, 4, 5]
  refine wn hK10 (wp_ret ?_); (try simp only [xt, xb]); refine C.ret2 f38 rfl rfl rfl ?_
  exact got_nil hS HK HK0 (b := true) (by rw [gotS, if_neg hk6, if_neg (by omega), if_pos hq0])
 have hq0 := h4
 refine C.condF f35 rfl ?_
 refine C.sk fun K11 hK11 => ?_
 refine L.fa 3 f35 U35 rfl wsz3_l fun a36 f36 => ?_
 refine L.va f36 (E.load f36 U3 rfl rfl (Bg0.cl hp3)) fun a37 f37 => ?_
 refine L.va f37 (E.eql f37 rfl rfl) fun a38 f38 => ?_
 refine L.ag f38 fun a39 f39 => ?_
 refine wn hK11 ?_
 have f40 := f39.pk [0, 3, 4, 5, 38]
 clear f34 f35 a33 f36 a36 f37 a37 f38 a38 f39
 refine f40.splitD 38 rfl (fun h5 f41 => ?_) (fun h5 f41 => ?_)
 ·have hq1 := h5
  refine C.condT f41 rfl ?_
  refine C.sk fun K12 hK12 => ?_
  refine L.fa 4 f41 U35 rfl wsz3_l fun a42 f42 => ?_
  refine L.va f42 (E.load f42 U3 rfl rfl (Bg0.cl hp4)) fun a43 f43 => ?_
  refine L.cl f43 (run_call Tryz.call46 (args2 f43 rfl rfl)) (reply_any 4 id _) ?_
  clear f40 f41 a39 f42 a42
  rintro e w2 ⟨g9, rfl, kc2, B9, lo9⟩
  have lo9' : w.heap.size ≤ g9 := by have := HK.size; omega
  refine ⟨_, rfl, fun a44 f44 => ?_⟩
  have szw2 := kc2.size
  replace HK := HK.trans (.of_kept0 kc2)
  replace HK2 := HK2.trans (.of_kept0 kc2)
  replace HK0 := HK0.trans (.of_kept0 kc2)
  replace BP := BP.z kc2
  replace IG := IG.mod (Mod.of_kept0 (T := []) (M := []) (B := B) kc2) (by simp)
  replace Bg0 := Bg0.z kc2
  clear f43 a43 kc2
  refine L.ag f44 fun a45 f45 => ?_
  refine L.ag f45 fun a46 f46 => ?_
  have f47 := f46.pk [0, 3, 4, 5]
  refine wn hK12 (wp_ret ?_); (try simp only [xt, xb]); refine C.ret2 f47 rfl rfl rfl ?_
  exact got_one hS HK HK0 (k := 4) (b := true) (by rw [gotS, if_neg hk6, if_neg (by omega), if_neg hq0, if_pos hq1]) B9 (by omega)
 have hq1 := h5
 refine C.condF f41 rfl ?_
 refine wp_skip (hK1 _ _ ?_)
 have f42 := f41.pk [0, 3, 4, 5]
 refine wp_seq_k fun K13 hK13 => ?_
 have hg0g : g0 ≠ s.gm := by have := hS.got.lt; omega
 refine R.begin (S := fun W => Kept [] w1 W) (by kernel_rfl) (by exact (Kept.refl _ _).drewN 1) ?_
 have hS10 : Kept [] w1 (w1.drewN 1) := (Kept.refl _ _).drewN 1
 have hd10 : Kept [] w1 (w1.drewN 1) := (Kept.refl _ _).drewN 1
 obtain ⟨w2, hww2⟩ : ∃ W, W = w1.drewN 1 := ⟨_, rfl⟩
 rw [← hww2] at hS10 hd10 ⊢
 clear f40 f41 hww2
 have szw2 := hS10.size
 refine R.mv 0 f42 rfl hS10 fun a43 f43 => ?_
 refine R.t 1 f43 rfl hS10 (fun W hW => (E.nilCheck f43 rfl)) fun a44 f44 => ?_
 refine R.t 2 f44 rfl hS10 (fun W hW => (E.fa 5 f44 U57 rfl wsz54_l)) fun a45 f45 => ?_
 refine R.t 3 f45 rfl hS10 (fun W hW => (E.load f45 Tryz.underlying54 rfl rfl ((BP.z hW).cl rfl))) fun a46 f46 => ?_
 refine R.t 4 f46 rfl hS10 (fun W hW => (E.fa 4 f46 U35 rfl wsz3_l)) fun a47 f47 => ?_
 refine R.t 5 f47 rfl hS10 (fun W hW => (E.load f47 U3 rfl rfl ((Bg0.z hW).cl hp4))) fun a48 f48 => ?_
 refine R.t 6 f48 rfl hS10 (fun W hW => (E.look f48 (IG.kept hW (by simp)) U3 U4 Tryz.underlying54 (fun _ => by kernel_rfl) rfl rfl hwf)) fun a49 f49 => ?_
 clear f42 a39 f43 a43 f44 a44 f45 a45 f46 a46 f47 a47 f48 a48
 refine R.t 7 f49 rfl hS10 (fun W hW => (E.assign f49 rfl)) fun a50 f50 => ?_
 have szw2r := hS10.size
 replace HK := HK.trans (.of_kept0 hS10)
 replace HK2 := HK2.trans (.of_kept0 hS10)
 replace HK0 := HK0.trans (.of_kept0 hS10)
 replace BP := BP.z hS10
 replace IG := IG.mod (Mod.of_kept0 (T := []) (M := []) (B := B) hS10) (by simp)
 replace Bg0 := Bg0.z hS10
 clear f49 a49 hS10
 refine R.done (by kernel_rfl) (hK13 _ _ ?_)
 have f51 := f50.pk [0, 3, 4, 5, 6]
 refine wp_seq_k fun K14 hK14 => ?_
 have KN := Kept.refl [] w2
 refine R.begin (S := fun W => Kept [s.gm] w2 W) (by kernel_rfl) (by exact (Kept.refl _ _).drewN 1) ?_
 have hS11 : Kept [s.gm] w2 (w2.drewN 1) := (Kept.refl _ _).drewN 1
 have hd11 : Kept [] w2 (w2.drewN 1) := (Kept.refl _ _).drewN 1
 obtain ⟨w3, hww3⟩ : ∃ W, W = w2.drewN 1 := ⟨_, rfl⟩
 rw [← hww3] at hS11 hd11 ⊢
 clear f50 hww3
 have szw3 := hS11.size
 replace KN := KN.trans hd11 (by simp)
 refine R.mv 0 f51 rfl hS11 fun a52 f52 => ?_
 refine R.t 1 f52 rfl hS11 (fun W hW => (E.nilCheck f52 rfl)) fun a53 f53 => ?_
 refine R.t 2 f53 rfl hS11 (fun W hW => (E.fa 5 f53 U57 rfl wsz54_l)) fun a54 f54 => ?_
 refine R.t 3 f54 rfl hS11 (fun W hW => (E.load f54 Tryz.underlying54 rfl rfl ((BP.kept hW (by first | simpa using hpg | simpa using hg0g)).cl rfl))) fun a55 f55 => ?_
 refine R.t 4 f55 rfl hS11 (fun W hW => (E.fa 4 f55 U35 rfl wsz3_l)) fun a56 f56 => ?_
 refine R.t 5 f56 rfl hS11 (fun W hW => (E.load f56 U3 rfl rfl ((Bg0.kept hW (by simpa using hg0g)).cl hp4))) fun a57 f57 => ?_
 refine R.one 6 (by kernel_rfl) ?_
 refine O.mapPut f57 rfl wantedN (IG.kept KN (by simp)) U3 U4 Tryz.underlying54 rfl rfl rfl hwf hgl (fun _ hk => hS11.trans hk (by simp)) fun a58 w4 IN ks f58 => ?_
 replace hS11 := hS11.trans ks (by simp)
 have szw4 := ks.size
 clear f51 a50 f52 a52 f53 a53 f54 a54 f55 a55 f56 a56 f57 a57 ks
 have szw4r := hS11.size
 have KM : Mod [] [s.gm] B _ w4 := Mod.of_kept hS11 (fun x hx _ => by obtain rfl := List.mem_singleton.1 hx; exact ⟨hS.log, .inr ⟨IG.map, by simp⟩⟩)
 replace HK := HK.step KM (by decide) (by simp) (by omega)
 replace HK2 := HK2.step KM (by decide) (by simp) (by omega)
 replace BP := BP.kept hS11 (by simpa using hpg)
 replace Bg0 := Bg0.kept hS11 (by simpa using hg0g)
 clear hS11
 refine R.done (by kernel_rfl) (hK14 _ _ ?_)
 have f59 := f58.pk [3, 4, 5, 6]
 refine C.sk fun K15 hK15 => ?_
 refine L.mv f59 fun a60 f60 => ?_
 refine L.va f60 (E.not f60 rfl) fun a61 f61 => ?_
 refine L.fa 4 f61 U35 rfl wsz3_l fun a62 f62 => ?_
 refine L.va f62 (E.load f62 U3 rfl rfl (Bg0.cl hp4)) fun a63 f63 => ?_
 refine L.cl f63 (run_call Tryz.call46 (args2 f63 rfl rfl)) (reply_any 5 id _) ?_
 clear f58 f59 a58 f60 a60 f61 a61 f62 a62
 rintro e w5 ⟨g9, rfl, kc5, B9, lo9⟩
 have lo9' : w.heap.size ≤ g9 := by have := HK.size; omega
 refine ⟨_, rfl, fun a64 f64 => ?_⟩
 have szw5 := kc5.size
 replace HK := HK.trans (.of_kept0 kc5)
 replace HK2 := HK2.trans (.of_kept0 kc5)
 replace BP := BP.z kc5
 replace Bg0 := Bg0.z kc5
 replace IN := IN.mod (Mod.of_kept0 (T := []) (M := []) (B := B) kc5) (by simp)
 clear f63 a63 kc5
 refine L.ag f64 fun a65 f65 => ?_
 refine L.ag f65 fun a66 f66 => ?_
 have f67 := f66.pk [4, 5]
 refine wn hK15 (wp_ret ?_); (try simp only [xt, xb]); refine C.ret2 f67 rfl rfl rfl ?_
 exact got_fin hS HK HK2 IN (k := 5) (b := !decide (id ∈ s.got)) (by rw [gotS, if_neg hk6, if_neg (by omega), if_neg hq0, if_neg hq1]; rfl) B9 (by omega)
end Go.Proofs.YtdfllmiokgoekaaGreatDoor
namespace Go.Proofs.YtdfllmiokgoekaaGreatDoor
open Go.RowKit Go.Hub
theorem wsz3_rh : (Tryz.prog.info? 3).map (·.size) = some 1 := by kernel_rfl
theorem wsz4_rh : (Tryz.prog.info? 4).map (·.size) = some 1 := by kernel_rfl
theorem wsz30_rh : (Tryz.prog.info? 30).map (·.size) = some 4 := by kernel_rfl
theorem wsz62_rh : (Tryz.prog.info? 62).map (·.size) = some 1 := by kernel_rfl
theorem wsz97_rh : (Tryz.prog.info? 97).map (·.size) = some 7 := by kernel_rfl
theorem wbl35_0_4_rh (x0 : Int) (x1 : Int) : Tryz.prog.built 35 [(0, .int .i64 x0), (4, .int .i64 x1)] = some #[.int .i64 x0, (.bool false), (.bool false), (.int .i64 0), .int .i64 x1, (.string ⟨#[]⟩), (.slice none 0 0), (.int .i64 0), (.string ⟨#[]⟩), (.bool false), (.int .i64 0), (.bool false), (.string ⟨#[]⟩), (.slice none 0 0), (.int .i64 0), (.bool false), (.bool false), (.bool false), (.string ⟨#[]⟩), (.slice none 0 0), (.bool false), (.int .i64 0), (.slice none 0 0), (.slice none 0 0)] := by kernel_rfl
section
variable {P : Program} {ops : Array Oper} {a : Act} {w : World} {Q : Exit → Act → World → Prop} {K : Act → World → Prop} {n d i : Nat} {l : FL} {v : Value} {ty : TypeId} {ps : String} {af : Array Edge} {gd : Option (Nat × Bool)} {x y : Operand} {t : TypeId}
theorem _root_.Go.Hub.O.storeO {S : World → Prop} (f : Fr n a l) (hio : ops[i]? = some ⟨none, .store t x y, ty, ps, af, gd⟩) (hw : Region.wanted ⟨none, .store t x y, ty, ps, af, gd⟩ (yielded ops a.tmps) = true) (hi : (P.info? t).map (·.size) = some 1) {b off o j : Nat} {e : TypeId} {size k c : Nat} {A : Option Addr} {xs : List Value} (hA : A = some ⟨b, off, none⟩) (OW : Own w e size (.slice A k c) k xs) (hx : evl l x = some (.pointer (some ⟨b, o, none⟩))) (ho : o = off + j) (hj : j < xs.length) (hy : evl l y = some v) (h1 : v.oneCell' = true)
    (hK : ∀ a' w', Own w' e size (.slice A k c) k (xs.set j v) → Kept [b] w w' → S w' ∧ (Fr n a' l → K a' w')) : wpOp P ops Q i (fun a w => S w ∧ K a w) a w := by
  subst ho
  obtain ⟨⟨old, h2⟩, h3, h4⟩ := OW.set_ hA hj v
  exact O.act (S := S) f hio rfl hw (E.store f hi hx hy h1 h2 h3) (hK a _ h4 (setCell_kept w b _ v)).1 fun a' f' => (hK a' _ h4 (setCell_kept w b _ v)).2 f'
theorem _root_.Go.Hub.OT.storeO (f : Fr n a l) (hio : ops[i]? = some ⟨none, .store t x y, ty, ps, af, gd⟩) (hw : Region.wanted ⟨none, .store t x y, ty, ps, af, gd⟩ (yielded ops a.tmps) = true) (hi : (P.info? t).map (·.size) = some 1) {b off o j : Nat} {e : TypeId} {size k c : Nat} {A : Option Addr} {xs : List Value} (hA : A = some ⟨b, off, none⟩) (OW : Own w e size (.slice A k c) k xs) (hx : evl l x = some (.pointer (some ⟨b, o, none⟩))) (ho : o = off + j) (hj : j < xs.length) (hy : evl l y = some v) (h1 : v.oneCell' = true)
    (hK : ∀ a' w', Fr n a' l → Own w' e size (.slice A k c) k (xs.set j v) → Kept [b] w w' → K a' w') : wpOp P ops Q i (fun a w => True ∧ K a w) a w := by
  subst ho
  obtain ⟨⟨old, h2⟩, h3, h4⟩ := OW.set_ hA hj v
  exact O.act (S := fun _ => True) f hio rfl hw (E.store f hi hx hy h1 h2 h3) trivial fun a' f' => hK a' _ f' h4 (setCell_kept w b _ v)
end
theorem FlyR.knew {B : Nat} {w w' : World} {A : Option Addr} {c g : Nat} {l : List Fc} {cs : Array Value} (h : FlyR B w A c l) (hk : Kept [g] w w') (hg : Blk w g 97 cs) (hB : B ≤ g) (hn : ∀ b, (Value.slice A l.length c).ownBlock = some b → b ≠ g) : FlyR B w' A c l :=
  ⟨h.own.kept hk (fun b hb hx => hn b hb (List.mem_singleton.1 hx)), fun m hm => (h.pay m hm).mod (Mod.of_blk1 (M := []) hk hg hB) (by decide), h.loA, h.len⟩
theorem setR_cell : ∀ {l : List Fc} {i j : Nat} {f : Fc}, l[i]? = some f → j < 7 → ∀ v, (l.flatMap rcell).set (i * 7 + j) v = setSeg (l.flatMap rcell) (i * 7) ((rcell f).set j v)
  | l, i, j, f, hf, hj, v => by
    have hi := (List.getElem?_eq_some_iff.1 hf).1
    have hn : i * 7 + 7 ≤ l.length * 7 := by omega
    apply List.ext_getElem?
    intro q
    rw [setSeg_at _ _ _ _ (by rw [List.length_set, rcell_len]; exact hn), List.getElem?_set, List.length_set]
    simp only [rcell, List.length_cons, List.length_nil]
    rw [rcell_len]
    by_cases hq : i * 7 ≤ q ∧ q < i * 7 + (0 + 1 + 1 + 1 + 1 + 1 + 1 + 1)
    · rw [if_pos hq, List.getElem?_set]
      by_cases hqj : i * 7 + j = q
      · rw [if_pos hqj, if_pos (by omega), if_pos (by omega), if_pos (by simp; omega)]
      rw [if_neg hqj, if_neg (by omega)]
      obtain ⟨d, rfl⟩ : ∃ d, q = i * 7 + d := ⟨q - i * 7, by omega⟩
      have hd : d < (rcell f).length := by simp only [rcell, List.length_cons, List.length_nil]; omega
      rw [show i * 7 + d - i * 7 = d by omega]
      have := flat_at rcell 7 (fun _ => rfl) l i f hf d (rcell f)[d] (List.getElem?_eq_getElem hd)
      rw [this]
      exact (List.getElem?_eq_getElem hd).symm
    rw [if_neg hq, if_neg (by omega)]
theorem FlyR.set {B : Nat} {w w' : World} {A : Option Addr} {c i j : Nat} {l : List Fc} {f f' : Fc} {v : Value} (h : FlyR B w A c l) (hf : l[i]? = some f) (hm : Mod [97] [] B w w') (O : Own w' 97 7 (.slice A l.length c) l.length ((l.flatMap rcell).set (i * 7 + j) v)) (hv : rcell f' = (rcell f).set j v) (hp : f'.x = f.x) (hj : j < 7 := by decide) : FlyR B w' A c (l.set i f') := by
  have hi := (List.getElem?_eq_some_iff.1 hf).1
  have hx : (l.flatMap rcell).set (i * 7 + j) v = (l.set i f').flatMap rcell := by
    have h1 := setR_cell (l := l) (i := i) (f := f) hf hj v
    rw [h1, ← hv, flat_seg rcell 7 (fun _ => rfl) (by decide) l i f' hi]
  have hl : l.length = (l.set i f').length := by simp
  rw [hx, hl] at O
  refine ⟨O, fun g hg => ?_, h.loA, by rw [← hl]; exact h.len⟩
  rcases List.mem_or_eq_of_mem_set hg with hg | rfl
  · exact (h.pay g hg).mod hm (by decide)
  rw [hp]; exact (h.pay f (List.mem_of_getElem? hf)).mod hm (by decide)
section
variable {s : Rs} {kind id now : Int} {i : Nat} {x : Fc}
theorem absR_ids (s : Rs) : s.abs.fly.map (·.id) = s.fly.map (·.id) := by simp [Rs.abs, Fc.abs]
theorem ackR_no (h : idxI (s.fly.map (·.id)) id 0 < 0) : ackS s.abs kind id now = (s.abs, []) := by
  unfold ackS
  simp only
  rw [absR_ids]
  split
  · rfl
  rw [if_pos h]
theorem ackR_at (h : idxI (s.fly.map (·.id)) id 0 = i) (hf : s.fly[i]? = some x) : ackS s.abs kind id now = if (kind = 4 ∧ x.x.m.qos = 1) ∨ (kind = 7 ∧ x.rc = true) then doneS s.abs i x.id now
    else if kind = 5 ∧ x.x.m.qos = 2 then ({ s.abs with fly := s.abs.fly.set i { x.abs with rc := true, at_ := nearI now } }, [ackP 6 x.id]) else (s.abs, []) := by
  have h1 : s.abs.fly[(i : Int).toNat]? = some x.abs := by simp [Rs.abs, hf]
  unfold ackS
  simp only
  rw [absR_ids, h, h1]
  simp only
  rw [if_neg (by omega)]
  rfl
end
theorem doneR_len {s : SA} {i : Nat} {id now : Int} {pks : List Pc} (h : pks.map (·.p) = (doneS s i id now).2) : pks.length ≤ 10 := by
  have h1 := congrArg List.length h
  rw [List.length_map] at h1
  have := drainS_len { s with used := s.used.erase id, fly := s.fly.eraseIdx i } now
  unfold doneS at h1
  omega
theorem ackR_fin {B p i : Nat} {A : Option Addr} {c : Nat} {s : Rs} {x : Fc} {w W : World} {r : SA × List Pa} {now : Int} (hS : RefAt B w p s) (hf : s.fly[i]? = some x) (HK : Mod [64, 92, 97, 76] [s.im, s.gm] B w W) (HK1 : Mod [97] [] B w W) (BP : Blk W p 64 s.cells) (FL : FlyR B W s.FA s.fc ((s.fly.set i { x with rc := true }).set i { x with rc := true, at_ := nearI now }))
    (h : r = ({ s.abs with fly := s.abs.fly.set i { x.abs with rc := true, at_ := nearI now } }, [ackP 6 x.id])) (PK : PkAt B w W A c [⟨ackP 6 x.id, none, 0⟩]) : OutPostR [64, 92, 97, 76] B p s r w (.returned (.slice A 1 c)) W := by
  have hi := (List.getElem?_eq_some_iff.1 hf).1
  have hx := (List.getElem?_eq_some_iff.1 hf).2
  rw [List.set_set] at FL
  refine ⟨{ s with fly := s.fly.set i { x with rc := true, at_ := nearI now } }, A, c, [⟨ackP 6 x.id, none, 0⟩], rfl, ⟨?_, hS.ids.mod HK1 (by decide) (by simp), hS.qu.mod HK1 (by decide), FL, hS.ls.mod HK1 (by decide), hS.got.mod HK1 (by simp), hS.ne, hS.lop, hS.loi, hS.lom, hS.log, hS.tk, ?_, ?_, ?_⟩, ?_, ⟨rfl, rfl, rfl, rfl, fun b hb => .inl hb⟩, HK, PK, by simp⟩
  · simpa [Rs.cells] using BP
  · show s.used.Perm ((s.fly.set i _).map (·.id))
    have : (s.fly.set i { x with rc := true, at_ := nearI now }).map (·.id) = s.fly.map (·.id) := by
      rw [List.map_set]
      exact set_same (by rw [List.getElem?_map, hf]; rfl)
    rw [this]
    exact hS.perm
  · intro y hy
    rcases List.mem_or_eq_of_mem_set hy with hy | rfl
    · exact hS.ats y hy
    exact near_bd now
  · intro y hy
    rcases List.mem_or_eq_of_mem_set hy with hy | rfl
    · exact hS.idb y hy
    exact hS.idb x (List.mem_of_getElem? hf)
  rw [h]
  simp [Rs.abs, List.map_set, Fc.abs]
theorem ackR_any (B p : Nat) (s : Rs) (kind id now : Int) (pcs : Array Value) (hp0 : pcs.toList[0]? = some (.int .i64 kind)) (hp4 : pcs.toList[4]? = some (.int .i64 id)) (w : World) (hS : RefAt B w p s) (hB : B ≤ w.heap.size) : Calls Tryz.prog 27 #[.pointer (some ⟨p, 0, none⟩), .agg pcs, .int .i64 now] w (OutPostR [64, 92, 97, 76] B p s (ackS s.abs kind id now) w) := by
 have HK : Mod [64, 92, 97, 76] [s.im, s.gm] B w w := .refl _ _ _ _
 have HK0 : Mod [] [] B w w := .refl _ _ _ _
 have HK1 : Mod [97] [] B w w := .refl _ _ _ _
 have BP := hS.top
 have FL := hS.fly
 have hl4 := hS.fly.len
 refine C.enter Tryz.func27 rfl Tryz.ntmps27 rfl ?_
 intro a0 f0
 have f1 : Fr 78 a0 [(0, .pointer (some ⟨p, 0, none⟩)), (1, .agg pcs), (2, .int .i64 now)] := f0
 refine C.sk fun K0 hK0 => ?_
 refine L.box f1 wantedN (by decide) rfl rfl fun a2 w1 g0 N0 f2 => ?_
 have Bg0 := N0.blk
 have kg0 := N0.kept
 have log0 := N0.lo
 have ltg0 := Bg0.lt
 have szw1 := kg0.size
 have frg0 : w.heap.size ≤ g0 := Nat.le_trans HK.size log0
 have nep_g0 : p ≠ g0 := by have := BP.lt; omega
 replace HK := HK.trans (.of_kept0 kg0)
 replace HK0 := HK0.trans (.of_kept0 kg0)
 replace HK1 := HK1.trans (.of_kept0 kg0)
 replace BP := BP.z kg0
 replace FL := FL.mod (Mod.of_kept0 (T := []) (M := []) (B := B) kg0) (by decide)
 clear f0 N0 kg0
 refine L.ag f2 fun a3 f3 => ?_
 have f4 := f3.pk [0, 2, 4, 6]
 refine wn hK0 (C.sk fun K1 hK1 => ?_)
 refine L.mv f4 fun a5 f5 => ?_
 refine L.fa 4 f5 U35 rfl wsz3_rh fun a6 f6 => ?_
 refine L.va f6 (E.load f6 U3 rfl rfl (Bg0.cl hp4)) fun a7 f7 => ?_
 refine L.cl f7 (run_call Tryz.call53 (args2 f7 rfl rfl)) (atR_any B p s id _ (hS.mod HK0 (by simp))) ?_
 clear f1 a0 f2 a2 f3 f4 a3 f5 a5 f6 a6
 rintro e w1x ⟨rfl, rfl⟩
 refine ⟨_, rfl, fun a8 f8 => ?_⟩
 refine L.ag f8 fun a9 f9 => ?_
 refine wn hK1 ?_
 have f10 := f9.pk [0, 2, 4, 6, 7]
 refine wp_seq_k fun K2 hK2 => C.sk fun K3 hK3 => ?_
 refine L.mv f10 fun a11 f11 => ?_
 refine L.va f11 (E.lss f11 rfl rfl) fun a12 f12 => ?_
 refine wn hK3 ?_
 have f13 := f12.pk [0, 2, 4, 6, 7, 14]
 clear f7 a7 f8 a8 f9 f10 a9 f11 a11 f12
 refine f13.splitD 14 rfl (fun h0 f14 => ?_) (fun h0 f14 => ?_)
 ·have hneg := h0
  refine C.condT f14 rfl ?_
  refine C.sk fun K4 hK4 => ?_
  refine L.ag f14 fun a15 f15 => ?_
  have f16 := f15.pk [0, 2, 4, 6, 7]
  refine wn hK4 (wp_ret ?_); (try simp only [xt, xb]); refine C.ret f16 rfl rfl ?_
  exact ⟨s, none, 0, [], rfl, hS.mod HK0 (by simp), by rw [ackR_no hneg]; rfl, Rs.Like.refl _ _, HK, PkAt.nil _ _ _, by simp⟩
 have hpos := h0
 obtain ⟨i, x, hri, hf, hid⟩ := idx_spec (l := s.fly) (id := id) hpos
 rw [hri] at f14
 have hi4 := (List.getElem?_eq_some_iff.1 hf).1
 obtain ⟨b, off, hA⟩ := (Sl.of_own hS.fly.own).addr (by omega)
 refine C.condF f14 rfl ?_
 refine wp_skip (hK2 _ _ ?_)
 have f15 := f14.pk [0, 2, 4, 6, 7]
 refine C.sk fun K5 hK5 => ?_
 refine L.mv f15 fun a16 f16 => ?_
 refine L.va f16 (E.nilCheck f16 rfl) fun a17 f17 => ?_
 refine L.fa 4 f17 U64 rfl wsz62_rh fun a18 f18 => ?_
 refine L.va f18 (E.load f18 Tryz.underlying62 rfl rfl ((BP).cl rfl)) fun a19 f19 => ?_
 refine L.mv f19 fun a20 f20 => ?_
 refine L.va f20 (E.indexA f20 (by assumption) Tryz.underlying62 wsz97_rh rfl rfl (by omega) (by omega)) fun a21 f21 => ?_
 clear f13 f14 f15 a12 f16 a16 f17 a17 f18 a18 f19 a19 f20 a20
 refine L.va f21 (E.loadR f21 U97 rfl wsz97_rh rfl (Sl.row (i := i) (cs := rcell x) (Sl.of_own FL.own) (by omega) hA (flat_at rcell 7 (fun _ => rfl) s.fly i x hf)) rfl) fun a22 f22 => ?_
 refine L.alloc f22 wantedN (by decide) (z := (.agg #[(.int .i64 0), (.int .i64 0), (.string ⟨#[]⟩), (.slice none 0 0), (.int .i64 0), (.bool false), (.bool false)])) (fun _ => by kernel_rfl) rfl fun a23 w2 g1 N1 f23 => ?_
 have Bg1 := N1.blk
 have kg1 := N1.kept
 have log1 := N1.lo
 have ltg1 := Bg1.lt
 have szw2 := kg1.size
 have frg1 : w.heap.size ≤ g1 := Nat.le_trans HK.size log1
 have nep_g1 : p ≠ g1 := by have := BP.lt; omega
 have neg0_g1 : g0 ≠ g1 := by have := Bg0.lt; omega
 replace HK := HK.trans (.of_kept0 kg1)
 replace HK0 := HK0.trans (.of_kept0 kg1)
 replace HK1 := HK1.trans (.of_kept0 kg1)
 replace BP := BP.z kg1
 replace FL := FL.mod (Mod.of_kept0 (T := []) (M := []) (B := B) kg1) (by decide)
 replace Bg0 := Bg0.z kg1
 clear f21 a21 N1 kg1
 refine L.storeR f23 wantedN wsz97_rh rfl rfl rfl Bg1 rfl rfl fun a24 w3 f24 NB3 ks3 => ?_
 have szw3 := ks3.size
 replace HK := HK.kept_new ks3 (by simp; omega)
 replace HK0 := HK0.kept_new ks3 (by simp; omega)
 replace HK1 := HK1.kept_new ks3 (by simp; omega)
 replace BP := BP.kept ks3 (by simp; omega)
 replace FL := FL.knew ks3 Bg1 (by omega) (fun b hb e => by have := (hS.fly.own.blk b hb).1; omega)
 replace Bg0 := Bg0.kept ks3 (by simp; omega)
 replace Bg1 := NB3
 clear f22 a22 ks3 f23 a23
 refine wn hK5 ?_
 have f25 := f24.pk [0, 2, 4, 6, 7, 8]
 refine wp_seq_k fun K6 hK6 => ?_
 refine wp_block ?_
 refine C.sk fun K7 hK7 => ?_
 refine L.fa 0 f25 U35 rfl wsz3_rh fun a26 f26 => ?_
 refine L.va f26 (E.load f26 U3 rfl rfl (Bg0.cl hp0)) fun a27 f27 => ?_
 refine L.va f27 (E.eql f27 rfl rfl) fun a28 f28 => ?_
 refine L.mv f28 fun a29 f29 => ?_
 clear f24 f25 a24 f26 a26 f27 a27 f28 a28
 refine f29.splitD 26 rfl (fun h1 f30 => ?_) (fun h1 f30 => ?_)
 ·have k26 := h1
  refine L.fa 2 f30 U97 rfl wsz30_rh (hw := (f30.yes rfl rfl)) fun a31 f31 => ?_
  refine L.fa 2 f31 U30 rfl wsz3_rh (hw := (f31.yes rfl rfl)) fun a32 f32 => ?_
  refine L.va f32 (E.load f32 U3 rfl rfl ((Bg1).cl rfl)) (hw := (f32.yes rfl rfl)) fun a33 f33 => ?_
  refine L.va f33 (E.eql f33 rfl rfl) (hw := (f33.yes rfl rfl)) fun a34 f34 => ?_
  refine L.va f34 (E.pickT f34 rfl rfl) fun a35 f35 => ?_
  refine L.ag f35 fun a36 f36 => ?_
  refine wn hK7 ?_
  have f37 := f36.pk [0, 2, 4, 6, 7, 8, 22]
  clear f29 f30 a29 f31 a31 f32 a32 f33 a33 f34 a34 f35 a35 f36
  refine f37.splitD 22 rfl (fun h2 f38 => ?_) (fun h2 f38 => ?_)
  ·have k22 := h2
   refine C.condT f38 rfl ?_
   refine C.sk fun K8 hK8 => ?_
   refine L.mv f38 fun a39 f39 => ?_
   refine L.mv f39 fun a40 f40 => ?_
   refine L.mv f40 fun a41 f41 => ?_
   refine L.cl f41 (run_call Tryz.call54 (args3 f41 rfl rfl rfl)) (doneR_any B p s i x now _ (hS.mod HK0 (by simp)) hf (by omega)) ?_
   clear f37 f38 a36 f39 a39 f40 a40
   rintro e w4 ⟨s2, A2, c2, pks, rfl, HS2, hab, hpp, hL2, kc4, PK⟩
   have hl10 := doneR_len hpp
   have szz := HK.size
   replace PK := PK.lower (w1 := w) szz
   replace hL2 := (Rs.Like.refl w s).trans hL2 szz
   refine ⟨_, rfl, fun a42 f42 => ?_⟩
   have szw4 := kc4.size
   replace HK := HK.step kc4 (by decide) (by simp) (by omega)
   clear f41 a41 kc4
   refine L.ag f42 fun a43 f43 => ?_
   have f44 := f43.pk [6]
   refine wn hK8 (wp_ret ?_); (try simp only [xt, xb]); refine C.ret f44 rfl rfl ?_
   exact ⟨s2, A2, c2, pks, rfl, HS2, by rw [ackR_at hri hf, if_pos (by simp_all), hab, hpp], hL2, HK, PK, hl10⟩
  have k22 := h2
  refine C.condF f38 rfl ?_
  refine C.sk fun K9 hK9 => ?_
  refine L.fa 0 f38 U35 rfl wsz3_rh fun a39 f39 => ?_
  refine L.va f39 (E.load f39 U3 rfl rfl (Bg0.cl hp0)) fun a40 f40 => ?_
  refine L.va f40 (E.eql f40 rfl rfl) fun a41 f41 => ?_
  refine L.mv f41 fun a42 f42 => ?_
  clear f37 f38 a36 f39 a39 f40 a40 f41 a41
  refine f42.splitD 40 rfl (fun h3 f43 => ?_) (fun h3 f43 => ?_)
  ·have k40 := h3
   refine L.fa 2 f43 U97 rfl wsz30_rh (hw := (f43.yes rfl rfl)) fun a44 f44 => ?_
   refine L.fa 2 f44 U30 rfl wsz3_rh (hw := (f44.yes rfl rfl)) fun a45 f45 => ?_
   refine L.va f45 (E.load f45 U3 rfl rfl ((Bg1).cl rfl)) (hw := (f45.yes rfl rfl)) fun a46 f46 => ?_
   refine L.va f46 (E.eql f46 rfl rfl) (hw := (f46.yes rfl rfl)) fun a47 f47 => ?_
   refine L.va f47 (E.pickT f47 rfl rfl) fun a48 f48 => ?_
   refine L.ag f48 fun a49 f49 => ?_
   refine wn hK9 ?_
   have f50 := f49.pk [0, 2, 4, 6, 7, 8, 36]
   clear f42 f43 a42 f44 a44 f45 a45 f46 a46 f47 a47 f48 a48 f49
   refine f50.splitD 36 rfl (fun h4 f51 => ?_) (fun h4 f51 => ?_)
   ·have k36 := h4
    refine C.condT f51 rfl ?_
    refine wp_seq_k fun K10 hK10 => ?_
    obtain ⟨MM, hMM⟩ : ∃ MM, MM = (Value.slice s.FA s.fly.length s.fc).ownBlock.toList := ⟨_, rfl⟩
    have hpM : p ∉ MM := by rw [hMM]; exact own_ne hS.fly.own hS.top (by decide)
    have hg0M : g0 ∉ MM := by rw [hMM]; exact own_old hS.fly.own frg0
    have OWN1 := FL.own
    refine RB.begin (S := fun W => Kept MM w3 W) 15 (by kernel_rfl) (by exact (Kept.refl _ _).drewN 1) ?_
    have hS8 : Kept MM w3 (w3.drewN 1) := (Kept.refl _ _).drewN 1
    have hd8 : Kept [] w3 (w3.drewN 1) := (Kept.refl _ _).drewN 1
    obtain ⟨w4, hww4⟩ : ∃ W, W = w3.drewN 1 := ⟨_, rfl⟩
    rw [← hww4] at hS8 hd8 ⊢
    clear f50 hww4
    have szw4 := hS8.size
    replace FL := FL.mod (T := []) (M := []) (Mod.of_kept0 (B := B) hd8) (by simp)
    refine RB.tk 0 f51 rfl hS8 (fun W hW => (E.move f51 rfl)) fun a52 f52 => ?_
    refine RB.tk 1 f52 rfl hS8 (fun W hW => (E.nilCheck f52 rfl)) fun a53 f53 => ?_
    refine RB.tk 2 f53 rfl hS8 (fun W hW => (E.fa 4 f53 U64 rfl wsz62_rh)) fun a54 f54 => ?_
    refine RB.tk 3 f54 rfl hS8 (fun W hW => (E.load f54 Tryz.underlying62 rfl rfl ((BP.kept hW (by assumption)).cl rfl))) fun a55 f55 => ?_
    refine RB.tk 4 f55 rfl hS8 (fun W hW => (E.move f55 rfl)) fun a56 f56 => ?_
    refine RB.tk 5 f56 rfl hS8 (fun W hW => (E.move f56 rfl)) fun a57 f57 => ?_
    refine RB.tk 6 f57 rfl hS8 (fun W hW => (E.nilCheck f57 rfl)) fun a58 f58 => ?_
    clear f51 a49 f52 a52 f53 a53 f54 a54 f55 a55 f56 a56 f57 a57
    refine RB.tk 7 f58 rfl hS8 (fun W hW => (E.fa 4 f58 U64 rfl wsz62_rh)) fun a59 f59 => ?_
    refine RB.tk 8 f59 rfl hS8 (fun W hW => (E.load f59 Tryz.underlying62 rfl rfl ((BP.kept hW (by assumption)).cl rfl))) fun a60 f60 => ?_
    refine RB.tk 9 f60 rfl hS8 (fun W hW => (E.move f60 rfl)) fun a61 f61 => ?_
    refine RB.tk 10 f61 rfl hS8 (fun W hW => (E.move f61 rfl)) fun a62 f62 => ?_
    refine RB.call 11 f62 rfl rfl (by decide) (by kernel_rfl) (by kernel_rfl) wantedN (run_call Tryz.call55 (args1 f62 rfl)) (timeR_any now _) ?_
    clear f58 a58 f59 a59 f60 a60 f61 a61
    rintro e w4x ⟨rfl, rfl⟩
    refine ⟨_, rfl, hS8, fun a63 f63 => ?_⟩
    refine RB.tk 12 f63 rfl hS8 (fun W hW => (E.indexA f63 (by assumption) Tryz.underlying62 wsz97_rh rfl rfl (by omega) (by omega))) fun a64 f64 => ?_
    refine RB.tk 13 f64 rfl hS8 (fun W hW => (E.fa 6 f64 U97 rfl wsz4_rh)) fun a65 f65 => ?_
    refine RB.one 14 (by kernel_rfl) (by kernel_rfl) ?_
    refine O.storeO f65 rfl wantedN wsz4_rh (j := i * 7 + 6) hA FL.own rfl (show off + (i : Int).toNat * 7 + 6 = _ by omega) (by rw [rcell_len]; omega) rfl rfl fun a66 w5 OW2 ks => ?_
    have hSn := hS8.trans ks (fun y hy _ => by obtain rfl := List.mem_singleton.1 hy; rw [hMM, hA]; simp [Value.ownBlock])
    refine ⟨hSn, fun f66 => ?_⟩
    have szw5 := ks.size
    have FL1 := FL.set hf (f' := { x with rc := true }) (.of_own1 hA ks FL.own hS.fly.loA (by simp)) OW2 rfl rfl
    replace hS8 := hSn
    clear f62 a62 f63 a63 f64 a64 hSn ks OW2 f65 a65
    refine RB.stop (by kernel_rfl) ?_
    have szw5r := hS8.size
    have KM := Mod.of_own (T := [97]) (M := []) (B := B) (hMM ▸ hS8) OWN1 hS.fly.loA (by simp)
    replace HK := HK.step KM (by decide) (by simp) (by omega)
    replace HK1 := HK1.step KM (by decide) (by simp) (by omega)
    replace BP := BP.kept hS8 (by assumption)
    replace Bg0 := Bg0.kept hS8 (by assumption)
    clear hS8
    refine R.t 15 f66 rfl trivial (fun W hW => (E.indexA f66 (by assumption) Tryz.underlying62 wsz97_rh rfl rfl (by omega) (by omega))) fun a67 f67 => ?_
    refine R.t 16 f67 rfl trivial (fun W hW => (E.fa 1 f67 U97 rfl wsz3_rh)) fun a68 f68 => ?_
    refine R.one 17 (by kernel_rfl) ?_
    refine OT.storeO f68 rfl wantedN wsz3_rh (j := i * 7 + 1) hA FL1.own rfl (show off + (i : Int).toNat * 7 + 1 = _ by omega) (by rw [rcell_len]; omega) rfl rfl fun a69 w6 f69 OW2 ks => ?_
    have szw6 := ks.size
    have KM : Mod [97] [] B _ w6 := .of_own1 hA ks FL1.own hS.fly.loA (by simp)
    have FL2 := FL1.set (set_at hi4 (f' := { x with rc := true })) (f' := { x with rc := true, at_ := nearI now }) KM OW2 rfl rfl
    replace HK := HK.step KM (by decide) (by simp) (by omega)
    replace HK1 := HK1.step KM (by decide) (by simp) (by omega)
    replace BP := BP.mod KM (by decide)
    replace Bg0 := Bg0.mod KM (by decide)
    clear f66 a66 f67 a67 f68 a68 ks KM OW2
    refine R.done (by kernel_rfl) (hK10 _ _ ?_)
    have f70 := f69.pk [4, 6]
    refine C.sk fun K11 hK11 => ?_
    refine L.fa 4 f70 U35 rfl wsz3_rh fun a71 f71 => ?_
    refine L.va f71 (E.load f71 U3 rfl rfl (Bg0.cl hp4)) fun a72 f72 => ?_
    refine L.va f72 (E.build f72 (parts2 f72 rfl rfl) (wbl35_0_4_rh _ _)) fun a73 f73 => ?_
    refine L.buildSlice f73 wantedN (by decide) (parts1 f73 rfl) U42 wzj35 rfl rfl (wpk1 ⟨ackP 6 id, none, 0⟩) fun a74 w7 g6 N6 f74 => ?_
    have OWR := N6.own (k := 1) (size := 24) rfl (by decide)
    have Bg6 := N6.blk
    have kg6 := N6.kept
    have log6 := N6.lo
    have ltg6 := Bg6.lt
    have szw7 := kg6.size
    have frg6 : w.heap.size ≤ g6 := Nat.le_trans HK.size log6
    have nep_g6 : p ≠ g6 := by have := BP.lt; omega
    have neg0_g6 : g0 ≠ g6 := by have := Bg0.lt; omega
    replace HK := HK.trans (.of_kept0 kg6)
    replace HK1 := HK1.trans (.of_kept0 kg6)
    replace BP := BP.z kg6
    replace Bg0 := Bg0.z kg6
    replace FL2 := FL2.mod (Mod.of_kept0 (T := []) (M := []) (B := B) kg6) (by decide)
    clear f69 f70 a69 f71 a71 f72 a72 N6 kg6
    refine L.ag f74 fun a75 f75 => ?_
    have f76 := f75.pk [6]
    refine wn hK11 (wp_ret ?_); (try simp only [xt, xb]); refine C.ret f76 rfl rfl ?_
    exact ackR_fin hS hf HK HK1 BP FL2 (by rw [ackR_at hri hf, if_neg (by simp_all), if_pos (by simp_all)]) (pk_one (x := ⟨ackP 6 x.id, none, 0⟩) (hid ▸ OWR) frg6 (Pay.nil _ _ _))
   have k36 := h4
   refine C.condF f51 rfl ?_
   refine C.sk fun K12 hK12 => ?_
   refine L.fa 0 f51 U35 rfl wsz3_rh fun a52 f52 => ?_
   refine L.va f52 (E.load f52 U3 rfl rfl (Bg0.cl hp0)) fun a53 f53 => ?_
   refine L.va f53 (E.eql f53 rfl rfl) fun a54 f54 => ?_
   refine L.mv f54 fun a55 f55 => ?_
   clear f50 f51 a49 f52 a52 f53 a53 f54 a54
   refine f55.splitD 70 rfl (fun h5 f56 => ?_) (fun h5 f56 => ?_)
   ·have k70 := h5
    refine L.fa 6 f56 U97 rfl wsz4_rh (hw := (f56.yes rfl rfl)) fun a57 f57 => ?_
    refine L.va f57 (E.load f57 U4 rfl rfl ((Bg1).cl rfl)) (hw := (f57.yes rfl rfl)) fun a58 f58 => ?_
    refine L.va f58 (E.pickT f58 rfl rfl) fun a59 f59 => ?_
    refine L.ag f59 fun a60 f60 => ?_
    refine wn hK12 ?_
    have f61 := f60.pk [0, 2, 6, 7, 66]
    clear f55 f56 a55 f57 a57 f58 a58 f59 a59 f60
    refine f61.split 66 rfl (fun h6 f62 => ?_) (fun h6 f62 => ?_)
    ·have k66 := h6
     refine C.condT f62 rfl ?_
     refine C.sk fun K13 hK13 => ?_
     refine L.mv f62 fun a63 f63 => ?_
     refine L.mv f63 fun a64 f64 => ?_
     refine L.mv f64 fun a65 f65 => ?_
     refine L.cl f65 (run_call Tryz.call54 (args3 f65 rfl rfl rfl)) (doneR_any B p s i x now _ (hS.mod HK0 (by simp)) hf (by omega)) ?_
     clear f61 f62 a60 f63 a63 f64 a64
     rintro e w4 ⟨s2, A2, c2, pks, rfl, HS2, hab, hpp, hL2, kc4, PK⟩
     have hl10 := doneR_len hpp
     have szz := HK.size
     replace PK := PK.lower (w1 := w) szz
     replace hL2 := (Rs.Like.refl w s).trans hL2 szz
     refine ⟨_, rfl, fun a66 f66 => ?_⟩
     have szw4 := kc4.size
     replace HK := HK.step kc4 (by decide) (by simp) (by omega)
     clear f65 a65 kc4
     refine L.ag f66 fun a67 f67 => ?_
     have f68 := f67.pk [6]
     refine wn hK13 (wp_ret ?_); (try simp only [xt, xb]); refine C.ret f68 rfl rfl ?_
     exact ⟨s2, A2, c2, pks, rfl, HS2, by rw [ackR_at hri hf, if_pos (by simp_all), hab, hpp], hL2, HK, PK, hl10⟩
    have k66 := h6
    refine C.condF f62 rfl ?_
    refine wp_skip (hK6 _ _ ?_)
    have f63 := f62.pk [6]
    refine C.sk fun K14 hK14 => ?_
    refine L.ag f63 fun a64 f64 => ?_
    have f65 := f64.pk [6]
    refine wn hK14 (wp_ret ?_); (try simp only [xt, xb]); refine C.ret f65 rfl rfl ?_
    exact ⟨s, none, 0, [], rfl, hS.mod HK0 (by simp), by rw [ackR_at hri hf, if_neg (by simp_all), if_neg (by simp_all)]; rfl, Rs.Like.refl _ _, HK, PkAt.nil _ _ _, by simp⟩
   have k70 := h5
   refine L.run f56 (rest' := []) (by kernel_rfl) fun a57 f57 => ?_
   clear f55
   refine wn hK12 ?_
   have f58 := f57.sub (sv 66 (.bool false) (pkR f57 [0, 2, 6, 7]))
   refine C.condF f58 rfl ?_
   refine wp_skip (hK6 _ _ ?_)
   have f59 := f58.pk [6]
   refine C.sk fun K15 hK15 => ?_
   refine L.ag f59 fun a60 f60 => ?_
   have f61 := f60.pk [6]
   refine wn hK15 (wp_ret ?_); (try simp only [xt, xb]); refine C.ret f61 rfl rfl ?_
   exact ⟨s, none, 0, [], rfl, hS.mod HK0 (by simp), by rw [ackR_at hri hf, if_neg (by simp_all), if_neg (by simp_all)]; rfl, Rs.Like.refl _ _, HK, PkAt.nil _ _ _, by simp⟩
  have k40 := h3
  refine L.run f43 (rest' := []) (by kernel_rfl) fun a44 f44 => ?_
  clear f42
  refine wn hK9 ?_
  have f45 := f44.sub (sv 36 (.bool false) (pkR f44 [0, 2, 4, 6, 7, 8]))
  refine C.condF f45 rfl ?_
  refine C.sk fun K16 hK16 => ?_
  refine L.fa 0 f45 U35 rfl wsz3_rh fun a46 f46 => ?_
  refine L.va f46 (E.load f46 U3 rfl rfl (Bg0.cl hp0)) fun a47 f47 => ?_
  refine L.va f47 (E.eql f47 rfl rfl) fun a48 f48 => ?_
  refine L.mv f48 fun a49 f49 => ?_
  clear f44 f43 f45 a44 f46 a46 f47 a47 f48 a48
  refine f49.splitD 70 rfl (fun h7 f50 => ?_) (fun h7 f50 => ?_)
  ·have k70 := h7
   refine L.fa 6 f50 U97 rfl wsz4_rh (hw := (f50.yes rfl rfl)) fun a51 f51 => ?_
   refine L.va f51 (E.load f51 U4 rfl rfl ((Bg1).cl rfl)) (hw := (f51.yes rfl rfl)) fun a52 f52 => ?_
   refine L.va f52 (E.pickT f52 rfl rfl) fun a53 f53 => ?_
   refine L.ag f53 fun a54 f54 => ?_
   refine wn hK16 ?_
   have f55 := f54.pk [0, 2, 6, 7, 66]
   clear f49 f50 a49 f51 a51 f52 a52 f53 a53 f54
   refine f55.split 66 rfl (fun h8 f56 => ?_) (fun h8 f56 => ?_)
   ·have k66 := h8
    refine C.condT f56 rfl ?_
    refine C.sk fun K17 hK17 => ?_
    refine L.mv f56 fun a57 f57 => ?_
    refine L.mv f57 fun a58 f58 => ?_
    refine L.mv f58 fun a59 f59 => ?_
    refine L.cl f59 (run_call Tryz.call54 (args3 f59 rfl rfl rfl)) (doneR_any B p s i x now _ (hS.mod HK0 (by simp)) hf (by omega)) ?_
    clear f55 f56 a54 f57 a57 f58 a58
    rintro e w4 ⟨s2, A2, c2, pks, rfl, HS2, hab, hpp, hL2, kc4, PK⟩
    have hl10 := doneR_len hpp
    have szz := HK.size
    replace PK := PK.lower (w1 := w) szz
    replace hL2 := (Rs.Like.refl w s).trans hL2 szz
    refine ⟨_, rfl, fun a60 f60 => ?_⟩
    have szw4 := kc4.size
    replace HK := HK.step kc4 (by decide) (by simp) (by omega)
    clear f59 a59 kc4
    refine L.ag f60 fun a61 f61 => ?_
    have f62 := f61.pk [6]
    refine wn hK17 (wp_ret ?_); (try simp only [xt, xb]); refine C.ret f62 rfl rfl ?_
    exact ⟨s2, A2, c2, pks, rfl, HS2, by rw [ackR_at hri hf, if_pos (by simp_all), hab, hpp], hL2, HK, PK, hl10⟩
   have k66 := h8
   refine C.condF f56 rfl ?_
   refine wp_skip (hK6 _ _ ?_)
   have f57 := f56.pk [6]
   refine C.sk fun K18 hK18 => ?_
   refine L.ag f57 fun a58 f58 => ?_
   have f59 := f58.pk [6]
   refine wn hK18 (wp_ret ?_); (try simp only [xt, xb]); refine C.ret f59 rfl rfl ?_
   exact ⟨s, none, 0, [], rfl, hS.mod HK0 (by simp), by rw [ackR_at hri hf, if_neg (by simp_all), if_neg (by simp_all)]; rfl, Rs.Like.refl _ _, HK, PkAt.nil _ _ _, by simp⟩
  have k70 := h7
  refine L.run f50 (rest' := []) (by kernel_rfl) fun a51 f51 => ?_
  clear f49
  refine wn hK16 ?_
  have f52 := f51.sub (sv 66 (.bool false) (pkR f51 [0, 2, 6, 7]))
  refine C.condF f52 rfl ?_
  refine wp_skip (hK6 _ _ ?_)
  have f53 := f52.pk [6]
  refine C.sk fun K19 hK19 => ?_
  refine L.ag f53 fun a54 f54 => ?_
  have f55 := f54.pk [6]
  refine wn hK19 (wp_ret ?_); (try simp only [xt, xb]); refine C.ret f55 rfl rfl ?_
  exact ⟨s, none, 0, [], rfl, hS.mod HK0 (by simp), by rw [ackR_at hri hf, if_neg (by simp_all), if_neg (by simp_all)]; rfl, Rs.Like.refl _ _, HK, PkAt.nil _ _ _, by simp⟩
 have k26 := h1
 refine L.run f30 (rest' := []) (by kernel_rfl) fun a31 f31 => ?_
 clear f29
 refine wn hK7 ?_
 have f32 := f31.sub (sv 22 (.bool false) (pkR f31 [0, 2, 4, 6, 7, 8]))
 refine C.condF f32 rfl ?_
 refine C.sk fun K20 hK20 => ?_
 refine L.fa 0 f32 U35 rfl wsz3_rh fun a33 f33 => ?_
 refine L.va f33 (E.load f33 U3 rfl rfl (Bg0.cl hp0)) fun a34 f34 => ?_
 refine L.va f34 (E.eql f34 rfl rfl) fun a35 f35 => ?_
 refine L.mv f35 fun a36 f36 => ?_
 clear f31 f30 f32 a31 f33 a33 f34 a34 f35 a35
 refine f36.splitD 40 rfl (fun h9 f37 => ?_) (fun h9 f37 => ?_)
 ·have k40 := h9
  refine L.fa 2 f37 U97 rfl wsz30_rh (hw := (f37.yes rfl rfl)) fun a38 f38 => ?_
  refine L.fa 2 f38 U30 rfl wsz3_rh (hw := (f38.yes rfl rfl)) fun a39 f39 => ?_
  refine L.va f39 (E.load f39 U3 rfl rfl ((Bg1).cl rfl)) (hw := (f39.yes rfl rfl)) fun a40 f40 => ?_
  refine L.va f40 (E.eql f40 rfl rfl) (hw := (f40.yes rfl rfl)) fun a41 f41 => ?_
  refine L.va f41 (E.pickT f41 rfl rfl) fun a42 f42 => ?_
  refine L.ag f42 fun a43 f43 => ?_
  refine wn hK20 ?_
  have f44 := f43.pk [0, 2, 4, 6, 7, 8, 36]
  clear f36 f37 a36 f38 a38 f39 a39 f40 a40 f41 a41 f42 a42 f43
  refine f44.splitD 36 rfl (fun h10 f45 => ?_) (fun h10 f45 => ?_)
  ·have k36 := h10
   refine C.condT f45 rfl ?_
   refine wp_seq_k fun K21 hK21 => ?_
   obtain ⟨MM, hMM⟩ : ∃ MM, MM = (Value.slice s.FA s.fly.length s.fc).ownBlock.toList := ⟨_, rfl⟩
   have hpM : p ∉ MM := by rw [hMM]; exact own_ne hS.fly.own hS.top (by decide)
   have hg0M : g0 ∉ MM := by rw [hMM]; exact own_old hS.fly.own frg0
   have OWN1 := FL.own
   refine RB.begin (S := fun W => Kept MM w3 W) 15 (by kernel_rfl) (by exact (Kept.refl _ _).drewN 1) ?_
   have hS8 : Kept MM w3 (w3.drewN 1) := (Kept.refl _ _).drewN 1
   have hd8 : Kept [] w3 (w3.drewN 1) := (Kept.refl _ _).drewN 1
   obtain ⟨w4, hww4⟩ : ∃ W, W = w3.drewN 1 := ⟨_, rfl⟩
   rw [← hww4] at hS8 hd8 ⊢
   clear f44 hww4
   have szw4 := hS8.size
   replace FL := FL.mod (T := []) (M := []) (Mod.of_kept0 (B := B) hd8) (by simp)
   refine RB.tk 0 f45 rfl hS8 (fun W hW => (E.move f45 rfl)) fun a46 f46 => ?_
   refine RB.tk 1 f46 rfl hS8 (fun W hW => (E.nilCheck f46 rfl)) fun a47 f47 => ?_
   refine RB.tk 2 f47 rfl hS8 (fun W hW => (E.fa 4 f47 U64 rfl wsz62_rh)) fun a48 f48 => ?_
   refine RB.tk 3 f48 rfl hS8 (fun W hW => (E.load f48 Tryz.underlying62 rfl rfl ((BP.kept hW (by assumption)).cl rfl))) fun a49 f49 => ?_
   refine RB.tk 4 f49 rfl hS8 (fun W hW => (E.move f49 rfl)) fun a50 f50 => ?_
   refine RB.tk 5 f50 rfl hS8 (fun W hW => (E.move f50 rfl)) fun a51 f51 => ?_
   refine RB.tk 6 f51 rfl hS8 (fun W hW => (E.nilCheck f51 rfl)) fun a52 f52 => ?_
   clear f45 a43 f46 a46 f47 a47 f48 a48 f49 a49 f50 a50 f51 a51
   refine RB.tk 7 f52 rfl hS8 (fun W hW => (E.fa 4 f52 U64 rfl wsz62_rh)) fun a53 f53 => ?_
   refine RB.tk 8 f53 rfl hS8 (fun W hW => (E.load f53 Tryz.underlying62 rfl rfl ((BP.kept hW (by assumption)).cl rfl))) fun a54 f54 => ?_
   refine RB.tk 9 f54 rfl hS8 (fun W hW => (E.move f54 rfl)) fun a55 f55 => ?_
   refine RB.tk 10 f55 rfl hS8 (fun W hW => (E.move f55 rfl)) fun a56 f56 => ?_
   refine RB.call 11 f56 rfl rfl (by decide) (by kernel_rfl) (by kernel_rfl) wantedN (run_call Tryz.call55 (args1 f56 rfl)) (timeR_any now _) ?_
   clear f52 a52 f53 a53 f54 a54 f55 a55
   rintro e w4x ⟨rfl, rfl⟩
   refine ⟨_, rfl, hS8, fun a57 f57 => ?_⟩
   refine RB.tk 12 f57 rfl hS8 (fun W hW => (E.indexA f57 (by assumption) Tryz.underlying62 wsz97_rh rfl rfl (by omega) (by omega))) fun a58 f58 => ?_
   refine RB.tk 13 f58 rfl hS8 (fun W hW => (E.fa 6 f58 U97 rfl wsz4_rh)) fun a59 f59 => ?_
   refine RB.one 14 (by kernel_rfl) (by kernel_rfl) ?_
   refine O.storeO f59 rfl wantedN wsz4_rh (j := i * 7 + 6) hA FL.own rfl (show off + (i : Int).toNat * 7 + 6 = _ by omega) (by rw [rcell_len]; omega) rfl rfl fun a60 w5 OW2 ks => ?_
   have hSn := hS8.trans ks (fun y hy _ => by obtain rfl := List.mem_singleton.1 hy; rw [hMM, hA]; simp [Value.ownBlock])
   refine ⟨hSn, fun f60 => ?_⟩
   have szw5 := ks.size
   have FL1 := FL.set hf (f' := { x with rc := true }) (.of_own1 hA ks FL.own hS.fly.loA (by simp)) OW2 rfl rfl
   replace hS8 := hSn
   clear f56 a56 f57 a57 f58 a58 hSn ks OW2 f59 a59
   refine RB.stop (by kernel_rfl) ?_
   have szw5r := hS8.size
   have KM := Mod.of_own (T := [97]) (M := []) (B := B) (hMM ▸ hS8) OWN1 hS.fly.loA (by simp)
   replace HK := HK.step KM (by decide) (by simp) (by omega)
   replace HK1 := HK1.step KM (by decide) (by simp) (by omega)
   replace BP := BP.kept hS8 (by assumption)
   replace Bg0 := Bg0.kept hS8 (by assumption)
   clear hS8
   refine R.t 15 f60 rfl trivial (fun W hW => (E.indexA f60 (by assumption) Tryz.underlying62 wsz97_rh rfl rfl (by omega) (by omega))) fun a61 f61 => ?_
   refine R.t 16 f61 rfl trivial (fun W hW => (E.fa 1 f61 U97 rfl wsz3_rh)) fun a62 f62 => ?_
   refine R.one 17 (by kernel_rfl) ?_
   refine OT.storeO f62 rfl wantedN wsz3_rh (j := i * 7 + 1) hA FL1.own rfl (show off + (i : Int).toNat * 7 + 1 = _ by omega) (by rw [rcell_len]; (simp; omega)) rfl rfl fun a63 w6 f63 OW2 ks => ?_
   have szw6 := ks.size
   have KM : Mod [97] [] B _ w6 := .of_own1 hA ks FL1.own hS.fly.loA (by simp)
   have FL2 := FL1.set (set_at hi4 (f' := { x with rc := true })) (f' := { x with rc := true, at_ := nearI now }) KM OW2 rfl rfl
   replace HK := HK.step KM (by decide) (by simp) (by omega)
   replace HK1 := HK1.step KM (by decide) (by simp) (by omega)
   replace BP := BP.mod KM (by decide)
   replace Bg0 := Bg0.mod KM (by decide)
   clear f60 a60 f61 a61 f62 a62 ks KM OW2
   refine R.done (by kernel_rfl) (hK21 _ _ ?_)
   have f64 := f63.pk [4, 6]
   refine C.sk fun K22 hK22 => ?_
   refine L.fa 4 f64 U35 rfl wsz3_rh fun a65 f65 => ?_
   refine L.va f65 (E.load f65 U3 rfl rfl (Bg0.cl hp4)) fun a66 f66 => ?_
   refine L.va f66 (E.build f66 (parts2 f66 rfl rfl) (wbl35_0_4_rh _ _)) fun a67 f67 => ?_
   refine L.buildSlice f67 wantedN (by decide) (parts1 f67 rfl) U42 wzj35 rfl rfl (wpk1 ⟨ackP 6 id, none, 0⟩) fun a68 w7 g6 N6 f68 => ?_
   have OWR := N6.own (k := 1) (size := 24) rfl (by decide)
   have Bg6 := N6.blk
   have kg6 := N6.kept
   have log6 := N6.lo
   have ltg6 := Bg6.lt
   have szw7 := kg6.size
   have frg6 : w.heap.size ≤ g6 := Nat.le_trans HK.size log6
   have nep_g6 : p ≠ g6 := by have := BP.lt; omega
   have neg0_g6 : g0 ≠ g6 := by have := Bg0.lt; omega
   replace HK := HK.trans (.of_kept0 kg6)
   replace HK1 := HK1.trans (.of_kept0 kg6)
   replace BP := BP.z kg6
   replace Bg0 := Bg0.z kg6
   replace FL2 := FL2.mod (Mod.of_kept0 (T := []) (M := []) (B := B) kg6) (by decide)
   clear f63 f64 a63 f65 a65 f66 a66 N6 kg6
   refine L.ag f68 fun a69 f69 => ?_
   have f70 := f69.pk [6]
   refine wn hK22 (wp_ret ?_); (try simp only [xt, xb]); refine C.ret f70 rfl rfl ?_
   exact ackR_fin hS hf HK HK1 BP FL2 (by rw [ackR_at hri hf, if_neg (by simp_all), if_pos (by simp_all)]) (pk_one (x := ⟨ackP 6 x.id, none, 0⟩) (hid ▸ OWR) frg6 (Pay.nil _ _ _))
  have k36 := h10
  refine C.condF f45 rfl ?_
  refine C.sk fun K23 hK23 => ?_
  refine L.fa 0 f45 U35 rfl wsz3_rh fun a46 f46 => ?_
  refine L.va f46 (E.load f46 U3 rfl rfl (Bg0.cl hp0)) fun a47 f47 => ?_
  refine L.va f47 (E.eql f47 rfl rfl) fun a48 f48 => ?_
  refine L.mv f48 fun a49 f49 => ?_
  clear f44 f45 a43 f46 a46 f47 a47 f48 a48
  refine f49.splitD 70 rfl (fun h11 f50 => ?_) (fun h11 f50 => ?_)
  ·have k70 := h11
   refine L.fa 6 f50 U97 rfl wsz4_rh (hw := (f50.yes rfl rfl)) fun a51 f51 => ?_
   refine L.va f51 (E.load f51 U4 rfl rfl ((Bg1).cl rfl)) (hw := (f51.yes rfl rfl)) fun a52 f52 => ?_
   refine L.va f52 (E.pickT f52 rfl rfl) fun a53 f53 => ?_
   refine L.ag f53 fun a54 f54 => ?_
   refine wn hK23 ?_
   have f55 := f54.pk [0, 2, 6, 7, 66]
   clear f49 f50 a49 f51 a51 f52 a52 f53 a53 f54
   refine f55.split 66 rfl (fun h12 f56 => ?_) (fun h12 f56 => ?_)
   ·have k66 := h12
    refine C.condT f56 rfl ?_
    refine C.sk fun K24 hK24 => ?_
    refine L.mv f56 fun a57 f57 => ?_
    refine L.mv f57 fun a58 f58 => ?_
    refine L.mv f58 fun a59 f59 => ?_
    refine L.cl f59 (run_call Tryz.call54 (args3 f59 rfl rfl rfl)) (doneR_any B p s i x now _ (hS.mod HK0 (by simp)) hf (by omega)) ?_
    clear f55 f56 a54 f57 a57 f58 a58
    rintro e w4 ⟨s2, A2, c2, pks, rfl, HS2, hab, hpp, hL2, kc4, PK⟩
    have hl10 := doneR_len hpp
    have szz := HK.size
    replace PK := PK.lower (w1 := w) szz
    replace hL2 := (Rs.Like.refl w s).trans hL2 szz
    refine ⟨_, rfl, fun a60 f60 => ?_⟩
    have szw4 := kc4.size
    replace HK := HK.step kc4 (by decide) (by simp) (by omega)
    clear f59 a59 kc4
    refine L.ag f60 fun a61 f61 => ?_
    have f62 := f61.pk [6]
    refine wn hK24 (wp_ret ?_); (try simp only [xt, xb]); refine C.ret f62 rfl rfl ?_
    exact ⟨s2, A2, c2, pks, rfl, HS2, by rw [ackR_at hri hf, if_pos (by simp_all), hab, hpp], hL2, HK, PK, hl10⟩
   have k66 := h12
   refine C.condF f56 rfl ?_
   refine wp_skip (hK6 _ _ ?_)
   have f57 := f56.pk [6]
   refine C.sk fun K25 hK25 => ?_
   refine L.ag f57 fun a58 f58 => ?_
   have f59 := f58.pk [6]
   refine wn hK25 (wp_ret ?_); (try simp only [xt, xb]); refine C.ret f59 rfl rfl ?_
   exact ⟨s, none, 0, [], rfl, hS.mod HK0 (by simp), by rw [ackR_at hri hf, if_neg (by simp_all), if_neg (by simp_all)]; rfl, Rs.Like.refl _ _, HK, PkAt.nil _ _ _, by simp⟩
  have k70 := h11
  refine L.run f50 (rest' := []) (by kernel_rfl) fun a51 f51 => ?_
  clear f49
  refine wn hK23 ?_
  have f52 := f51.sub (sv 66 (.bool false) (pkR f51 [0, 2, 6, 7]))
  refine C.condF f52 rfl ?_
  refine wp_skip (hK6 _ _ ?_)
  have f53 := f52.pk [6]
  refine C.sk fun K26 hK26 => ?_
  refine L.ag f53 fun a54 f54 => ?_
  have f55 := f54.pk [6]
  refine wn hK26 (wp_ret ?_); (try simp only [xt, xb]); refine C.ret f55 rfl rfl ?_
  exact ⟨s, none, 0, [], rfl, hS.mod HK0 (by simp), by rw [ackR_at hri hf, if_neg (by simp_all), if_neg (by simp_all)]; rfl, Rs.Like.refl _ _, HK, PkAt.nil _ _ _, by simp⟩
 have k40 := h9
 refine L.run f37 (rest' := []) (by kernel_rfl) fun a38 f38 => ?_
 clear f36
 refine wn hK20 ?_
 have f39 := f38.sub (sv 36 (.bool false) (pkR f38 [0, 2, 4, 6, 7, 8]))
 refine C.condF f39 rfl ?_
 refine C.sk fun K27 hK27 => ?_
 refine L.fa 0 f39 U35 rfl wsz3_rh fun a40 f40 => ?_
 refine L.va f40 (E.load f40 U3 rfl rfl (Bg0.cl hp0)) fun a41 f41 => ?_
 refine L.va f41 (E.eql f41 rfl rfl) fun a42 f42 => ?_
 refine L.mv f42 fun a43 f43 => ?_
 clear f38 f37 f39 a38 f40 a40 f41 a41 f42 a42
 refine f43.splitD 70 rfl (fun h13 f44 => ?_) (fun h13 f44 => ?_)
 ·have k70 := h13
  refine L.fa 6 f44 U97 rfl wsz4_rh (hw := (f44.yes rfl rfl)) fun a45 f45 => ?_
  refine L.va f45 (E.load f45 U4 rfl rfl ((Bg1).cl rfl)) (hw := (f45.yes rfl rfl)) fun a46 f46 => ?_
  refine L.va f46 (E.pickT f46 rfl rfl) fun a47 f47 => ?_
  refine L.ag f47 fun a48 f48 => ?_
  refine wn hK27 ?_
  have f49 := f48.pk [0, 2, 6, 7, 66]
  clear f43 f44 a43 f45 a45 f46 a46 f47 a47 f48
  refine f49.split 66 rfl (fun h14 f50 => ?_) (fun h14 f50 => ?_)
  ·have k66 := h14
   refine C.condT f50 rfl ?_
   refine C.sk fun K28 hK28 => ?_
   refine L.mv f50 fun a51 f51 => ?_
   refine L.mv f51 fun a52 f52 => ?_
   refine L.mv f52 fun a53 f53 => ?_
   refine L.cl f53 (run_call Tryz.call54 (args3 f53 rfl rfl rfl)) (doneR_any B p s i x now _ (hS.mod HK0 (by simp)) hf (by omega)) ?_
   clear f49 f50 a48 f51 a51 f52 a52
   rintro e w4 ⟨s2, A2, c2, pks, rfl, HS2, hab, hpp, hL2, kc4, PK⟩
   have hl10 := doneR_len hpp
   have szz := HK.size
   replace PK := PK.lower (w1 := w) szz
   replace hL2 := (Rs.Like.refl w s).trans hL2 szz
   refine ⟨_, rfl, fun a54 f54 => ?_⟩
   have szw4 := kc4.size
   replace HK := HK.step kc4 (by decide) (by simp) (by omega)
   clear f53 a53 kc4
   refine L.ag f54 fun a55 f55 => ?_
   have f56 := f55.pk [6]
   refine wn hK28 (wp_ret ?_); (try simp only [xt, xb]); refine C.ret f56 rfl rfl ?_
   exact ⟨s2, A2, c2, pks, rfl, HS2, by rw [ackR_at hri hf, if_pos (by simp_all), hab, hpp], hL2, HK, PK, hl10⟩
  have k66 := h14
  refine C.condF f50 rfl ?_
  refine wp_skip (hK6 _ _ ?_)
  have f51 := f50.pk [6]
  refine C.sk fun K29 hK29 => ?_
  refine L.ag f51 fun a52 f52 => ?_
  have f53 := f52.pk [6]
  refine wn hK29 (wp_ret ?_); (try simp only [xt, xb]); refine C.ret f53 rfl rfl ?_
  exact ⟨s, none, 0, [], rfl, hS.mod HK0 (by simp), by rw [ackR_at hri hf, if_neg (by simp_all), if_neg (by simp_all)]; rfl, Rs.Like.refl _ _, HK, PkAt.nil _ _ _, by simp⟩
 have k70 := h13
 refine L.run f44 (rest' := []) (by kernel_rfl) fun a45 f45 => ?_
 clear f43
 refine wn hK27 ?_
 have f46 := f45.sub (sv 66 (.bool false) (pkR f45 [0, 2, 6, 7]))
 refine C.condF f46 rfl ?_
 refine wp_skip (hK6 _ _ ?_)
 have f47 := f46.pk [6]
 refine C.sk fun K30 hK30 => ?_
 refine L.ag f47 fun a48 f48 => ?_
 have f49 := f48.pk [6]
 refine wn hK30 (wp_ret ?_); (try simp only [xt, xb]); refine C.ret f49 rfl rfl ?_
 exact ⟨s, none, 0, [], rfl, hS.mod HK0 (by simp), by rw [ackR_at hri hf, if_neg (by simp_all), if_neg (by simp_all)]; rfl, Rs.Like.refl _ _, HK, PkAt.nil _ _ _, by simp⟩
end Go.Proofs.YtdfllmiokgoekaaGreatDoor
