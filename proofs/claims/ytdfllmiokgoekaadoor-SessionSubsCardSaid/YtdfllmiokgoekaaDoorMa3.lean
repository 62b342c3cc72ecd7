/- Merged by program (shrink.py): contracts and plain laws that the claim's statement uses, part 3. -/
import Derived.Test.YtdfllmiokgoekaaDoorMa2
set_option linter.all false
set_option maxRecDepth 100000
set_option maxHeartbeats 8000000

namespace Go.Proofs.YtdfllmiokgoekaaDoor
open Go.RowKit Go.Hub
theorem wbl56_0_1_2_3_4_5_k (x0 : ByteArray) (x1 : Option Nat) (x2 : Option Addr) (x3 : Option Addr) (y3 z3 : Nat) (x4 : Option Addr) (x5 : Option Nat) : Tryd.prog.built 56 [(0, .string x0), (1, .map x1), (2, .pointer x2), (3, .slice x3 y3 z3), (4, .pointer x4), (5, .map x5)] = some #[.string x0, .map x1, .pointer x2, .slice x3 y3 z3, .pointer x4, .map x5] := by kernel_rfl
theorem wsz3_k : (Tryd.prog.info? 3).map (·.size) = some 1 := by kernel_rfl
theorem wsz38_k : (Tryd.prog.info? 38).map (·.size) = some 4 := by kernel_rfl
theorem wsz51_k : (Tryd.prog.info? 51).map (·.size) = some 1 := by kernel_rfl
theorem wsz54_k : (Tryd.prog.info? 54).map (·.size) = some 1 := by kernel_rfl
def NewPost (B : Nat) (cl : ByteArray) (w : World) (e : Ending) (w' : World) : Prop := ∃ p s, e = .returned (.pointer (some ⟨p, 0, none⟩)) ∧ SesAt B w' p s ∧ s.abs = newS ∧ s.cl = cl ∧ Mod [] [] B w w'
theorem new_fin {B : Nat} {cl : ByteArray} {w W : World} {p ip im q gs gm : Nat} (hB : B ≤ w.heap.size) (HK : Mod [] [] B w W) (BP : Blk W p 56 #[.string cl, .map (some gs), .pointer (some ⟨ip, 0, none⟩), .slice none 0 0, .pointer (some ⟨q, 0, none⟩), .map (some gm)])
    (ID : IdsAt W ip im [] (mostI 65535 65535) 0) (BQ : Blk W q 76 #[.slice none 0 0, .int .i64 (mostI 8 65536), .int .i64 0]) (IG : IsSet Tryd.prog 3 4 W gm []) (h1 : B ≤ p) (h2 : B ≤ ip) (h3 : B ≤ im) (h4 : B ≤ q) (h5 : B ≤ gm) (him : im ≠ gm) : NewPost B cl w (.returned (.pointer (some ⟨p, 0, none⟩))) W :=
  ⟨p, ⟨cl, .map (some gs), ip, im, q, gm, [], 0, [], none, 0, [], none, 0, 0, []⟩, rfl, ⟨BP, rfl, ID, ⟨BQ, Own.nil _ _ _, by simp, h4, by simp, by simp⟩, ⟨Own.nil _ _ _, by simp, by simp, by simp⟩, IG, him, h1, h2, h3, h5, by simp, List.Perm.nil, by simp, by simp⟩, rfl, rfl, HK⟩
def OutPost (T : List TypeId) (B p : Nat) (s : Ses) (r : SA × List Pa) (w : World) (e : Ending) (w' : World) : Prop :=
  ∃ s' A c pks, e = .returned (.slice A pks.length c) ∧ SesAt B w' p s' ∧ (s'.abs, pks.map (·.p)) = r ∧ s.Like s' ∧ Mod T [s.im, s.gm] B w w' ∧ PkAt B w w' A c pks ∧ pks.length ≤ 10
theorem drainN_len : ∀ (k : Nat) (s : SA) (now : Int), (drainN k s now).2.length ≤ k
  | 0, _, _ => by simp [drainN]
  | k + 1, s, now => by
    unfold drainN
    split
    · split
      · simp
      simp only [List.length_cons]
      exact Nat.succ_le_succ (drainN_len k _ now)
    simp
theorem drainS_len (s : SA) (now : Int) : (drainS s now).2.length ≤ 5 := drainN_len 5 s now
theorem pk_one {B g : Nat} {w W : World} {x : Pc} (O : Own W 44 24 (.slice (some ⟨g, 0, none⟩) 1 1) 1 (pcell x)) (hg : w.heap.size ≤ g) (hp : Pay B W x.A x.p.pay) : PkAt B w W (some ⟨g, 0, none⟩) 1 [x] :=
  ⟨⟨by simpa using O, fun b hb => by simp at hb; omega⟩, fun y hy => by obtain rfl := List.mem_singleton.1 hy; exact hp⟩
theorem SesAt.p_ne_q {B p : Nat} {w : World} {s : Ses} (h : SesAt B w p s) : p = s.q → False := fun e => by
  have h1 := h.top
  rw [e] at h1
  have h2 := h.qu.top
  unfold Blk at h1 h2
  rw [h1] at h2
  injection h2 with h2
  injection h2 with _ h3 _
  exact absurd h3 (by decide)
section
variable {s : SA} {m : Ms} {on : Bool} {now : Int}
theorem send_rise (h0 : ¬ (m.qos = 0 ∧ on = true)) (h1 : ¬ m.qos < 1) (h2 : ¬ 2 < m.qos) (h3 : on = true) {t : Ses} (h4 : (t.fly.length : Int) < 4) (h5 : t.wait.length = 0) : sendS t.abs m on now = (riseS t.abs m now, [riseP t.abs m]) := by
  have h6 : t.abs.fly.length < 4 := by rw [abs_fly]; omega
  have h7 : t.abs.wait.length = 0 := by simp [Ses.abs, h5]
  rw [sendS, if_neg h0, if_neg (by omega), if_pos ⟨h3, h6, h7⟩]
theorem send_none (h0 : ¬ (m.qos = 0 ∧ on = true)) (h1 : m.qos < 1 ∨ 2 < m.qos) : sendS s m on now = (s, []) := by rw [sendS, if_neg h0, if_pos h1]
theorem send_push (h0 : ¬ (m.qos = 0 ∧ on = true)) (h1 : ¬ m.qos < 1) (h2 : ¬ 2 < m.qos) {t : Ses} (h : ¬ (on = true ∧ (t.fly.length : Int) < 4 ∧ (t.wait.length : Int) = 0)) : sendS t.abs m on now = (pushS t.abs m, []) := by
  rw [sendS, if_neg h0, if_neg (by omega), if_neg ?_]
  rintro ⟨h3, h4, h5⟩
  rw [abs_fly] at h4
  exact h ⟨h3, by omega, by simp [Ses.abs] at h5; simp [h5]⟩
theorem send_fin {B p : Nat} {s : Ses} {w W : World} {A2 : Option Addr} {c2 : Nat} {l2 : List Mc} (hS : SesAt B w p s) (HK : Mod [56, 73, 67, 76, 38] [s.im, s.gm] B w W) (HK1 : Mod [76, 38] [] B w W) (BP : Blk W p 56 s.cells) (HQ : QuAt B W s.q A2 c2 l2 (if s.wait.length < 8 then s.lost else s.lost + 1)) (hql : l2.map (·.m) = if s.wait.length < 8 then s.wait.map (·.m) ++ [m] else s.wait.map (·.m))
    (h : sendS s.abs m on now = (pushS s.abs m, [])) : OutPost [56, 73, 67, 76, 38] B p s (sendS s.abs m on now) w (.returned (.slice none 0 0)) W := by
  refine ⟨{ s with wait := l2, QA := A2, qc := c2, lost := if s.wait.length < 8 then s.lost else s.lost + 1 }, none, 0, [], rfl, ⟨BP, hS.one, hS.ids.mod HK1 (by decide) (by simp), HQ, hS.fly.mod HK1 (by decide), hS.got.mod HK1 (by simp), hS.ne, hS.lop, hS.loi, hS.lom, hS.log, hS.tk, hS.perm, hS.ats, hS.idb⟩, ?_, ⟨rfl, rfl, rfl⟩, HK, PkAt.nil _ _ _, by simp⟩
  rw [h]
  unfold pushS Ses.abs
  simp only [List.length_map]
  split
  · rename_i h8; rw [if_pos h8] at hql; simp [hql, h8]
  rename_i h8; rw [if_neg h8] at hql; simp [hql, h8]
end
theorem new_any (cl : ByteArray) (B : Nat) (w : World) (hB : B ≤ w.heap.size) : Calls Tryd.prog 5 #[.string cl] w (NewPost B cl w) := by
 have HK : Mod [] [] B w w := .refl _ _ _ _
 refine C.enter Tryd.func5 rfl Tryd.ntmps5 rfl ?_
 intro a0 f0
 have f1 : Fr 10 a0 [(0, .string cl)] := f0
 refine C.sk fun K0 hK0 => ?_
 refine L.ag f1 fun a2 f2 => ?_
 have f3 := f2.pk [0, 2]
 refine wn hK0 (C.sk fun K1 hK1 => ?_)
 refine L.mv f3 fun a4 f4 => ?_
 refine L.makeMap f4 wantedN (by decide) 9 3 fun a5 w1 g0 Ig0 kg0 log0 f5 => ?_
 have ltg0 := Ig0.lt
 have szw1 := kg0.size
 have frg0 : w.heap.size ≤ g0 := Nat.le_trans HK.size log0
 replace HK := HK.trans (.of_kept0 kg0)
 clear f0 f1 a0 f2 f3 a2 f4 kg0 a4
 refine L.cl f5 (run_call Tryd.call15 (args1 f5 rfl)) (idsNew_any 65535 _) ?_
 rintro e w2 ⟨ip, im, rfl, kc2, ID, loi, lom⟩
 refine ⟨_, rfl, fun a6 f6 => ?_⟩
 have szw2 := kc2.size
 replace HK := HK.trans (.of_kept0 kc2)
 replace Ig0 := Ig0.kept kc2 (by simp)
 clear f5 a5 kc2
 refine L.cl f6 (run_call Tryd.call16 (args1 f6 rfl)) (quNew_any 8 _) ?_
 rintro e w3 ⟨q, rfl, kc3, BQ, loq⟩
 have hltm := (ID.mod (Mod.of_kept0 (T := []) (M := []) (B := B) kc3) (by decide) (by simp)).set.lt
 refine ⟨_, rfl, fun a7 f7 => ?_⟩
 have szw3 := kc3.size
 replace HK := HK.trans (.of_kept0 kc3)
 replace Ig0 := Ig0.kept kc3 (by simp)
 replace ID := ID.mod (Mod.of_kept0 (T := []) (M := []) (B := B) kc3) (by decide) (by simp)
 clear f6 a6 kc3
 refine L.makeMap f7 wantedN (by decide) 3 4 fun a8 w4 g3 Ig3 kg3 log3 f8 => ?_
 have ltg3 := Ig3.lt
 have szw4 := kg3.size
 have frg3 : w.heap.size ≤ g3 := Nat.le_trans HK.size log3
 have neg0_g3 : g0 ≠ g3 := by have := Ig0.lt; omega
 have neq_g3 : q ≠ g3 := by have := BQ.lt; omega
 replace HK := HK.trans (.of_kept0 kg3)
 replace Ig0 := Ig0.kept kg3 (by simp)
 replace ID := ID.mod (Mod.of_kept0 (T := []) (M := []) (B := B) kg3) (by decide) (by simp)
 replace BQ := BQ.z kg3
 clear f7 kg3 a7
 refine L.va f8 (E.build f8 (parts6 f8 rfl rfl rfl rfl rfl rfl) (wbl56_0_1_2_3_4_5_k _ _ _ _ _ _ _ _)) fun a9 f9 => ?_
 refine L.box f9 wantedN (by decide) rfl rfl fun a10 w5 g4 N4 f10 => ?_
 have Bg4 := N4.blk
 have kg4 := N4.kept
 have log4 := N4.lo
 have ltg4 := Bg4.lt
 have szw5 := kg4.size
 have frg4 : w.heap.size ≤ g4 := Nat.le_trans HK.size log4
 have neg0_g4 : g0 ≠ g4 := by have := Ig0.lt; omega
 have neq_g4 : q ≠ g4 := by have := BQ.lt; omega
 have neg3_g4 : g3 ≠ g4 := by have := Ig3.lt; omega
 replace HK := HK.trans (.of_kept0 kg4)
 replace Ig0 := Ig0.kept kg4 (by simp)
 replace ID := ID.mod (Mod.of_kept0 (T := []) (M := []) (B := B) kg4) (by decide) (by simp)
 replace BQ := BQ.z kg4
 replace Ig3 := Ig3.kept kg4 (by simp)
 clear f8 a8 N4 kg4
 refine L.ag f10 fun a11 f11 => ?_
 have f12 := f11.pk [2]
 refine wn hK1 (wp_ret ?_); (try simp only [xt, xb]); refine C.ret f12 rfl rfl ?_
 clear f9 a9 f10 a10 f11
 have him : im ≠ g3 := by omega
 exact new_fin (cl := cl) hB HK Bg4 ID BQ Ig3 (by omega) (by omega) (by omega) (by omega) (by omega) him
theorem send_any (B p : Nat) (s : Ses) (m : Ms) (Am : Option Addr) (cm : Nat) (on : Bool) (now : Int) (w : World) (hS : SesAt B w p s) (HP : Pay B w Am m.pay) (hB : B ≤ w.heap.size) (hl : 0 ≤ s.lost ∧ s.lost ≤ 1000000000) : Calls Tryd.prog 10 #[.pointer (some ⟨p, 0, none⟩), .agg #[.string m.tp, .slice Am m.pay.length cm, .int .i64 m.qos, .bool m.ret], .bool on, .int .i64 now] w (OutPost [56, 73, 67, 76, 38] B p s (sendS s.abs m on now) w) := by
 have HK : Mod [56, 73, 67, 76, 38] [s.im, s.gm] B w w := .refl _ _ _ _
 have HK0 : Mod [] [] B w w := .refl _ _ _ _
 have HK1 : Mod [76, 38] [] B w w := .refl _ _ _ _
 have BP := hS.top
 have hl4 := hS.fly.len
 have hw8 := hS.qu.len
 refine C.enter Tryd.func10 rfl Tryd.ntmps10 rfl ?_
 intro a0 f0
 have f1 : Fr 57 a0 [(0, .pointer (some ⟨p, 0, none⟩)), (1, .agg #[.string m.tp, .slice Am m.pay.length cm, .int .i64 m.qos, .bool m.ret]), (2, .bool on), (3, .int .i64 now)] := f0
 refine C.sk fun K0 hK0 => ?_
 refine L.box f1 wantedN (by decide) rfl rfl fun a2 w1 g0 N0 f2 => ?_
 have Bg0 := N0.blk
 have kg0 := N0.kept
 have log0 := N0.lo
 have ltg0 := Bg0.lt
 have szw1 := kg0.size
 have frg0 : w.heap.size ≤ g0 := Nat.le_trans HK.size log0
 have nep_g0 : p ≠ g0 := by have := BP.lt; omega
 replace HK := HK.trans (.of_kept0 kg0)
 replace HK0 := HK0.trans (.of_kept0 kg0)
 replace HK1 := HK1.trans (.of_kept0 kg0)
 replace BP := BP.z kg0
 replace HP := HP.mod (Mod.of_kept0 (T := []) (M := []) (B := B) kg0) (by decide)
 clear f0 N0 kg0
 refine L.ag f2 fun a3 f3 => ?_
 refine wn hK0 ?_
 have f4 := f3.pk [0, 2, 3, 5, 8]
 refine wp_seq_k fun K1 hK1 => ?_
 refine wp_block ?_
 refine C.sk fun K2 hK2 => ?_
 refine L.fa 2 f4 U38 rfl wsz3_k fun a5 f5 => ?_
 refine L.va f5 (E.load f5 U3 rfl rfl ((Bg0).cl rfl)) fun a6 f6 => ?_
 refine L.va f6 (E.eql f6 rfl rfl) fun a7 f7 => ?_
 refine L.mv f7 fun a8 f8 => ?_
 clear f1 a0 f2 a2 f3 f4 a3 f5 a5 f6 a6 f7 a7
 refine f8.splitD 13 rfl (fun h0 f9 => ?_) (fun h0 f9 => ?_)
 ·have hq0 := h0
  refine L.mv f9 (hw := (f9.yes rfl rfl)) fun a10 f10 => ?_
  refine L.va f10 (E.pickT f10 rfl rfl) fun a11 f11 => ?_
  refine L.ag f11 fun a12 f12 => ?_
  refine wn hK2 ?_
  have f13 := f12.pk [0, 2, 3, 5, 8, 9]
  clear f8 f9 a8 f10 a10 f11 a11 f12
  refine f13.split 9 rfl (fun h1 f14 => ?_) (fun h1 f14 => ?_)
  ·have hon := h1
   refine C.condT f14 rfl ?_
   refine C.sk fun K3 hK3 => ?_
   refine L.va f14 (E.loadB f14 U38 rfl wsz38_k rfl (Bg0) rfl) fun a15 f15 => ?_
   refine L.cl f15 (run_call Tryd.call21 (args3 f15 rfl rfl rfl)) (publish_any m.tp Am m.pay.length cm _ m.qos m.ret 0 false _ HP.sl u8_one HP.2) ?_
   clear f13 f14 a12
   rintro e w2 ⟨kc2, Ap, cp, rfl, FP⟩
   have HR : Pay B w2 Ap m.pay := Pay.of_fresh FP HP.2
   refine ⟨_, rfl, fun a16 f16 => ?_⟩
   have szw2 := kc2.size
   replace HK := HK.trans (.of_kept0 kc2)
   replace HK0 := HK0.trans (.of_kept0 kc2)
   replace HK1 := HK1.trans (.of_kept0 kc2)
   replace BP := BP.z kc2
   replace HP := HP.mod (Mod.of_kept0 (T := []) (M := []) (B := B) kc2) (by decide)
   replace Bg0 := Bg0.z kc2
   clear f15 a15 kc2
   refine L.buildSlice f16 wantedN (by decide) (parts1 f16 rfl) U35 wzj35 rfl rfl (wpk1 ⟨pubP m 0 false, Ap, cp⟩) fun a17 w3 g2 N2 f17 => ?_
   have OWR := N2.own (k := 1) (size := 24) rfl (by decide)
   have Bg2 := N2.blk
   have kg2 := N2.kept
   have log2 := N2.lo
   have ltg2 := Bg2.lt
   have szw3 := kg2.size
   have frg2 : w.heap.size ≤ g2 := Nat.le_trans HK.size log2
   have nep_g2 : p ≠ g2 := by have := BP.lt; omega
   have neg0_g2 : g0 ≠ g2 := by have := Bg0.lt; omega
   replace HK := HK.trans (.of_kept0 kg2)
   replace HK0 := HK0.trans (.of_kept0 kg2)
   replace HK1 := HK1.trans (.of_kept0 kg2)
   replace BP := BP.z kg2
   replace HP := HP.mod (Mod.of_kept0 (T := []) (M := []) (B := B) kg2) (by decide)
   replace Bg0 := Bg0.z kg2
   replace HR := HR.mod (Mod.of_kept0 (T := []) (M := []) (B := B) kg2) (by decide)
   clear N2 kg2
   refine L.ag f17 fun a18 f18 => ?_
   have f19 := f18.pk [0, 5, 8]
   refine wn hK3 (wp_ret ?_); (try simp only [xt, xb]); refine C.ret f19 rfl rfl ?_
   exact ⟨s, _, _, [⟨pubP m 0 false, Ap, cp⟩], rfl, hS.mod HK0 (by simp), by rw [sendS, if_pos ⟨hq0, hon⟩]; rfl, ⟨rfl, rfl, rfl⟩, HK, pk_one OWR frg2 HR, by simp⟩
  have hoff := h1
  have hn0 : ¬ (m.qos = 0 ∧ on = true) := fun h => by rw [hoff] at h; cases h.2
  refine C.condF f14 rfl ?_
  refine C.sk fun K4 hK4 => ?_
  refine L.fa 2 f14 U38 rfl wsz3_k fun a15 f15 => ?_
  refine L.va f15 (E.load f15 U3 rfl rfl ((Bg0).cl rfl)) fun a16 f16 => ?_
  refine L.va f16 (E.lss f16 rfl rfl) fun a17 f17 => ?_
  refine L.mv f17 fun a18 f18 => ?_
  clear f13 f14 a12 f15 a15 f16 a16 f17 a17
  refine f18.splitD 23 rfl (fun h2 f19 => ?_) (fun h2 f19 => ?_)
  ·have hlo := h2
   refine L.run f19 (rest' := []) (by kernel_rfl) fun a20 f20 => ?_
   clear f18
   refine wn hK4 ?_
   have f21 := f20.sub (sv 19 (.bool true) (pkR f20 [0, 2, 3, 5, 8]))
   refine C.condT f21 rfl ?_
   refine C.sk fun K5 hK5 => ?_
   refine L.ag f21 fun a22 f22 => ?_
   have f23 := f22.pk [0, 5, 8]
   refine wn hK5 (wp_ret ?_); (try simp only [xt, xb]); refine C.ret f23 rfl rfl ?_
   exact ⟨s, none, 0, [], rfl, hS.mod HK0 (by simp), by rw [send_none hn0 (by omega)]; rfl, ⟨rfl, rfl, rfl⟩, HK, PkAt.nil _ _ _, by simp⟩
  have hlo := h2
  refine L.fa 2 f19 U38 rfl wsz3_k (hw := (f19.yes rfl rfl)) fun a20 f20 => ?_
  refine L.va f20 (E.load f20 U3 rfl rfl ((Bg0).cl rfl)) (hw := (f20.yes rfl rfl)) fun a21 f21 => ?_
  refine L.va f21 (E.gtr f21 rfl rfl) (hw := (f21.yes rfl rfl)) fun a22 f22 => ?_
  refine L.va f22 (E.pickF f22 rfl rfl) fun a23 f23 => ?_
  refine L.ag f23 fun a24 f24 => ?_
  refine wn hK4 ?_
  have f25 := f24.pk [0, 2, 3, 5, 8, 19]
  clear f18 f19 a18 f20 a20 f21 a21 f22 a22 f23 a23 f24
  refine f25.splitD 19 rfl (fun h3 f26 => ?_) (fun h3 f26 => ?_)
  ·have hhi := h3
   refine C.condT f26 rfl ?_
   refine C.sk fun K6 hK6 => ?_
   refine L.ag f26 fun a27 f27 => ?_
   have f28 := f27.pk [0, 5, 8]
   refine wn hK6 (wp_ret ?_); (try simp only [xt, xb]); refine C.ret f28 rfl rfl ?_
   exact ⟨s, none, 0, [], rfl, hS.mod HK0 (by simp), by rw [send_none hn0 (by omega)]; rfl, ⟨rfl, rfl, rfl⟩, HK, PkAt.nil _ _ _, by simp⟩
  have hhi := h3
  refine C.condF f26 rfl ?_
  refine C.sk fun K7 hK7 => ?_
  refine L.mv f26 fun a27 f27 => ?_
  refine L.mv f27 fun a28 f28 => ?_
  clear f25 f26 a24 f27 a27
  refine f28.split 30 rfl (fun h4 f29 => ?_) (fun h4 f29 => ?_)
  ·have hon4 := h4
   refine L.mv f29 (hw := (f29.yes rfl rfl)) fun a30 f30 => ?_
   refine L.va f30 (E.nilCheck f30 rfl) (hw := (f30.yes rfl rfl)) fun a31 f31 => ?_
   refine L.fa 3 f31 U56 rfl wsz54_k (hw := (f31.yes rfl rfl)) fun a32 f32 => ?_
   refine L.va f32 (E.load f32 U54 rfl rfl ((BP).cl rfl)) (hw := (f32.yes rfl rfl)) fun a33 f33 => ?_
   refine L.va f33 (E.lenL f33 U54 rfl) (hw := (f33.yes rfl rfl)) fun a34 f34 => ?_
   refine L.va f34 (E.lss f34 rfl rfl) (hw := (f34.yes rfl rfl)) fun a35 f35 => ?_
   refine L.va f35 (E.pickT f35 rfl rfl) fun a36 f36 => ?_
   clear f28 f29 a28 f30 a30 f31 a31 f32 a32 f33 a33 f34 a34 f35 a35
   refine L.mv f36 fun a37 f37 => ?_
   clear f36 a36
   refine f37.splitD 38 rfl (fun h5 f38 => ?_) (fun h5 f38 => ?_)
   ·have hlt := h5
    refine L.mv f38 (hw := (f38.yes rfl rfl)) fun a39 f39 => ?_
    refine L.va f39 (E.nilCheck f39 rfl) (hw := (f39.yes rfl rfl)) fun a40 f40 => ?_
    refine L.fa 4 f40 U56 rfl wsz51_k (hw := (f40.yes rfl rfl)) fun a41 f41 => ?_
    refine L.va f41 (E.load f41 U51 rfl rfl ((BP).cl rfl)) (hw := (f41.yes rfl rfl)) fun a42 f42 => ?_
    refine L.cl f42 (run_call Tryd.call22 (args1 f42 rfl)) (quLen_any _ _ _ _ _ _ _ (hS.qu.mod HK0 (by decide)).top) ?_ (hw := (f42.yes rfl rfl))
    clear f37 f38 a37 f39 a39 f40 a40 f41 a41
    rintro e w1x ⟨rfl, rfl⟩
    refine ⟨_, rfl, fun a43 f43 => ?_⟩
    refine L.va f43 (E.eql f43 rfl rfl) (hw := (f43.yes rfl rfl)) fun a44 f44 => ?_
    refine L.va f44 (E.pickT f44 rfl rfl) fun a45 f45 => ?_
    refine L.ag f45 fun a46 f46 => ?_
    refine wn hK7 ?_
    have f47 := f46.pk [0, 3, 5, 8, 28]
    clear f42 a42 f43 a43 f44 a44 f45 a45 f46
    refine f47.splitD 28 rfl (fun h6 f48 => ?_) (fun h6 f48 => ?_)
    ·have hz := h6
     refine C.condT f48 rfl ?_
     refine C.sk fun K8 hK8 => ?_
     refine L.mv f48 fun a49 f49 => ?_
     refine L.va f49 (E.loadB f49 U38 rfl wsz38_k rfl (Bg0) rfl) fun a50 f50 => ?_
     refine L.mv f50 fun a51 f51 => ?_
     refine L.cl f51 (run_call Tryd.call23 (args3 f51 rfl rfl rfl)) (rise_any B p s m Am cm now _ (hS.mod HK0 (by simp)) HP (by omega) (by omega)) ?_
     clear f47 f48 a46 f49 a49 f50 a50
     rintro e w2 ⟨u2, Ap, cp, rfl, HS2, hab, hL2, kc2, HR⟩
     refine ⟨_, rfl, fun a52 f52 => ?_⟩
     have szw2 := kc2.size
     replace HK := HK.step kc2 (by decide) (by simp) (by omega)
     replace Bg0 := Bg0.mod kc2 (by decide)
     clear f51 a51 kc2
     refine L.buildSlice f52 wantedN (by decide) (parts1 f52 rfl) U35 wzj35 rfl rfl (wpk1 ⟨riseP s.abs m, Ap, cp⟩) fun a53 w3 g2 N2 f53 => ?_
     have OWR := N2.own (k := 1) (size := 24) rfl (by decide)
     have Bg2 := N2.blk
     have kg2 := N2.kept
     have log2 := N2.lo
     have ltg2 := Bg2.lt
     have szw3 := kg2.size
     have frg2 : w.heap.size ≤ g2 := Nat.le_trans HK.size log2
     have neg0_g2 : g0 ≠ g2 := by have := Bg0.lt; omega
     replace HK := HK.trans (.of_kept0 kg2)
     replace Bg0 := Bg0.z kg2
     replace HS2 := HS2.mod (Mod.of_kept0 (T := []) (M := []) (B := B) kg2) (by decide)
     replace HR := HR.mod (Mod.of_kept0 (T := []) (M := []) (B := B) kg2) (by decide)
     clear N2 kg2
     refine L.ag f53 fun a54 f54 => ?_
     have f55 := f54.pk [0, 5, 8]
     refine wn hK8 (wp_ret ?_); (try simp only [xt, xb]); refine C.ret f55 rfl rfl ?_
     exact ⟨u2, _, _, [⟨riseP s.abs m, Ap, cp⟩], rfl, HS2, by rw [send_rise hn0 hlo hhi hon4 hlt (by omega), hab]; rfl, hL2, HK, pk_one OWR frg2 HR, by simp⟩
    have hnz := h6
    refine C.condF f48 rfl ?_
    refine wp_skip (hK1 _ _ ?_)
    have f49 := f48.pk [0, 5, 8]
    refine wp_seq_k fun K9 hK9 => ?_
    obtain ⟨MM, hMM⟩ : ∃ MM, MM = s.q :: (Value.slice s.QA s.wait.length s.qc).ownBlock.toList := ⟨_, rfl⟩
    have hpM : p ∉ MM := by rw [hMM]; exact fun hx => (List.mem_cons.1 hx).elim hS.p_ne_q (own_ne hS.qu.own hS.top (by decide))
    have hg0M : g0 ∉ MM := by rw [hMM]; exact fun hx => (List.mem_cons.1 hx).elim (fun e => by have := hS.qu.top.lt; omega) (own_old hS.qu.own frg0)
    refine R.begin (S := fun W => Kept MM w1 W) (by kernel_rfl) (by exact (Kept.refl _ _).drewN 1) ?_
    have hS7 : Kept MM w1 (w1.drewN 1) := (Kept.refl _ _).drewN 1
    have hd7 : Kept [] w1 (w1.drewN 1) := (Kept.refl _ _).drewN 1
    obtain ⟨w2, hww2⟩ : ∃ W, W = w1.drewN 1 := ⟨_, rfl⟩
    rw [← hww2] at hS7 hd7 ⊢
    clear f47 f48 hww2
    have szw2 := hS7.size
    replace HK0 := HK0.trans (.of_kept0 hd7)
    replace HP := HP.kept0 hd7
    refine R.mv 0 f49 rfl hS7 fun a50 f50 => ?_
    refine R.t 1 f50 rfl hS7 (fun W hW => (E.nilCheck f50 rfl)) fun a51 f51 => ?_
    refine R.t 2 f51 rfl hS7 (fun W hW => (E.fa 4 f51 U56 rfl wsz51_k)) fun a52 f52 => ?_
    refine R.t 3 f52 rfl hS7 (fun W hW => (E.load f52 U51 rfl rfl ((BP.kept hW (by assumption)).cl rfl))) fun a53 f53 => ?_
    refine R.t 4 f53 rfl hS7 (fun W hW => (E.loadB f53 U38 rfl wsz38_k rfl (Bg0.kept hW (by assumption)) rfl)) fun a54 f54 => ?_
    refine R.call 5 f54 rfl rfl (by decide) (by kernel_rfl) wantedN (run_call Tryd.call24 (args2 f54 rfl rfl)) (push_any B s.q s.QA s.qc s.wait s.lost m Am cm _ (hS.qu.mod HK0 (by decide)) HP (by omega) hl) ?_
    clear f49 a46 f50 a50 f51 a51 f52 a52 f53 a53
    rintro e w3 ⟨km, kc3, rfl, A2, c2, l2, HQ, hql⟩
    rw [← hMM] at kc3
    replace hS7 := hS7.trans kc3 (by exact fun x hx _ => hx)
    refine ⟨_, rfl, hS7, fun a55 f55 => ?_⟩
    have szw3 := kc3.size
    clear f54 a54 kc3
    have szw3r := hS7.size
    have KM := km.mono (B' := B) (T' := [76, 38]) (M' := []) (by decide) (by simp) (Nat.le_refl _)
    replace KM := (Mod.of_kept0 hd7).trans KM
    replace HK := HK.step KM (by decide) (by simp) (by omega)
    replace HK1 := HK1.step KM (by decide) (by simp) (by omega)
    replace BP := BP.kept hS7 (by assumption)
    replace Bg0 := Bg0.kept hS7 (by assumption)
    clear hS7
    refine R.done (by kernel_rfl) (hK9 _ _ ?_)
    have f56 := f55.pk [8]
    refine C.sk fun K10 hK10 => ?_
    refine L.ag f56 fun a57 f57 => ?_
    have f58 := f57.pk [8]
    refine wn hK10 (wp_ret ?_); (try simp only [xt, xb]); refine C.ret f58 rfl rfl ?_
    exact send_fin hS HK HK1 BP HQ hql (send_push hn0 hlo hhi (fun h => hnz h.2.2))
   have hge := h5
   refine L.run f38 (rest' := []) (by kernel_rfl) fun a39 f39 => ?_
   clear f37
   refine wn hK7 ?_
   have f40 := f39.sub (sv 28 (.bool false) (pkR f39 [0, 3, 5, 8]))
   refine C.condF f40 rfl ?_
   refine wp_skip (hK1 _ _ ?_)
   have f41 := f40.pk [0, 5, 8]
   refine wp_seq_k fun K11 hK11 => ?_
   obtain ⟨MM, hMM⟩ : ∃ MM, MM = s.q :: (Value.slice s.QA s.wait.length s.qc).ownBlock.toList := ⟨_, rfl⟩
   have hpM : p ∉ MM := by rw [hMM]; exact fun hx => (List.mem_cons.1 hx).elim hS.p_ne_q (own_ne hS.qu.own hS.top (by decide))
   have hg0M : g0 ∉ MM := by rw [hMM]; exact fun hx => (List.mem_cons.1 hx).elim (fun e => by have := hS.qu.top.lt; omega) (own_old hS.qu.own frg0)
   refine R.begin (S := fun W => Kept MM w1 W) (by kernel_rfl) (by exact (Kept.refl _ _).drewN 1) ?_
   have hS7 : Kept MM w1 (w1.drewN 1) := (Kept.refl _ _).drewN 1
   have hd7 : Kept [] w1 (w1.drewN 1) := (Kept.refl _ _).drewN 1
   obtain ⟨w2, hww2⟩ : ∃ W, W = w1.drewN 1 := ⟨_, rfl⟩
   rw [← hww2] at hS7 hd7 ⊢
   clear f39 f38 f40 hww2
   have szw2 := hS7.size
   replace HK0 := HK0.trans (.of_kept0 hd7)
   replace HP := HP.kept0 hd7
   refine R.mv 0 f41 rfl hS7 fun a42 f42 => ?_
   refine R.t 1 f42 rfl hS7 (fun W hW => (E.nilCheck f42 rfl)) fun a43 f43 => ?_
   refine R.t 2 f43 rfl hS7 (fun W hW => (E.fa 4 f43 U56 rfl wsz51_k)) fun a44 f44 => ?_
   refine R.t 3 f44 rfl hS7 (fun W hW => (E.load f44 U51 rfl rfl ((BP.kept hW (by assumption)).cl rfl))) fun a45 f45 => ?_
   refine R.t 4 f45 rfl hS7 (fun W hW => (E.loadB f45 U38 rfl wsz38_k rfl (Bg0.kept hW (by assumption)) rfl)) fun a46 f46 => ?_
   refine R.call 5 f46 rfl rfl (by decide) (by kernel_rfl) wantedN (run_call Tryd.call24 (args2 f46 rfl rfl)) (push_any B s.q s.QA s.qc s.wait s.lost m Am cm _ (hS.qu.mod HK0 (by decide)) HP (by omega) hl) ?_
   clear f41 a39 f42 a42 f43 a43 f44 a44 f45 a45
   rintro e w3 ⟨km, kc3, rfl, A2, c2, l2, HQ, hql⟩
   rw [← hMM] at kc3
   replace hS7 := hS7.trans kc3 (by exact fun x hx _ => hx)
   refine ⟨_, rfl, hS7, fun a47 f47 => ?_⟩
   have szw3 := kc3.size
   clear f46 a46 kc3
   have szw3r := hS7.size
   have KM := km.mono (B' := B) (T' := [76, 38]) (M' := []) (by decide) (by simp) (Nat.le_refl _)
   replace KM := (Mod.of_kept0 hd7).trans KM
   replace HK := HK.step KM (by decide) (by simp) (by omega)
   replace HK1 := HK1.step KM (by decide) (by simp) (by omega)
   replace BP := BP.kept hS7 (by assumption)
   replace Bg0 := Bg0.kept hS7 (by assumption)
   clear hS7
   refine R.done (by kernel_rfl) (hK11 _ _ ?_)
   have f48 := f47.pk [8]
   refine C.sk fun K12 hK12 => ?_
   refine L.ag f48 fun a49 f49 => ?_
   have f50 := f49.pk [8]
   refine wn hK12 (wp_ret ?_); (try simp only [xt, xb]); refine C.ret f50 rfl rfl ?_
   exact send_fin hS HK HK1 BP HQ hql (send_push hn0 hlo hhi (fun h => hge h.2.1))
  have hoff := h4
  refine L.run f29 (rest' := []) (by kernel_rfl) fun a30 f30 => ?_
  clear f28
  refine wn hK7 ?_
  have f31 := f30.sub (sv 28 (.bool false) (pkR f30 [0, 3, 5, 8]))
  refine C.condF f31 rfl ?_
  refine wp_skip (hK1 _ _ ?_)
  have f32 := f31.pk [0, 5, 8]
  refine wp_seq_k fun K13 hK13 => ?_
  obtain ⟨MM, hMM⟩ : ∃ MM, MM = s.q :: (Value.slice s.QA s.wait.length s.qc).ownBlock.toList := ⟨_, rfl⟩
  have hpM : p ∉ MM := by rw [hMM]; exact fun hx => (List.mem_cons.1 hx).elim hS.p_ne_q (own_ne hS.qu.own hS.top (by decide))
  have hg0M : g0 ∉ MM := by rw [hMM]; exact fun hx => (List.mem_cons.1 hx).elim (fun e => by have := hS.qu.top.lt; omega) (own_old hS.qu.own frg0)
  refine R.begin (S := fun W => Kept MM w1 W) (by kernel_rfl) (by exact (Kept.refl _ _).drewN 1) ?_
  have hS7 : Kept MM w1 (w1.drewN 1) := (Kept.refl _ _).drewN 1
  have hd7 : Kept [] w1 (w1.drewN 1) := (Kept.refl _ _).drewN 1
  obtain ⟨w2, hww2⟩ : ∃ W, W = w1.drewN 1 := ⟨_, rfl⟩
  rw [← hww2] at hS7 hd7 ⊢
  clear f30 f29 f31 hww2
  have szw2 := hS7.size
  replace HK0 := HK0.trans (.of_kept0 hd7)
  replace HP := HP.kept0 hd7
  refine R.mv 0 f32 rfl hS7 fun a33 f33 => ?_
  refine R.t 1 f33 rfl hS7 (fun W hW => (E.nilCheck f33 rfl)) fun a34 f34 => ?_
  refine R.t 2 f34 rfl hS7 (fun W hW => (E.fa 4 f34 U56 rfl wsz51_k)) fun a35 f35 => ?_
  refine R.t 3 f35 rfl hS7 (fun W hW => (E.load f35 U51 rfl rfl ((BP.kept hW (by assumption)).cl rfl))) fun a36 f36 => ?_
  refine R.t 4 f36 rfl hS7 (fun W hW => (E.loadB f36 U38 rfl wsz38_k rfl (Bg0.kept hW (by assumption)) rfl)) fun a37 f37 => ?_
  refine R.call 5 f37 rfl rfl (by decide) (by kernel_rfl) wantedN (run_call Tryd.call24 (args2 f37 rfl rfl)) (push_any B s.q s.QA s.qc s.wait s.lost m Am cm _ (hS.qu.mod HK0 (by decide)) HP (by omega) hl) ?_
  clear f32 a30 f33 a33 f34 a34 f35 a35 f36 a36
  rintro e w3 ⟨km, kc3, rfl, A2, c2, l2, HQ, hql⟩
  rw [← hMM] at kc3
  replace hS7 := hS7.trans kc3 (by exact fun x hx _ => hx)
  refine ⟨_, rfl, hS7, fun a38 f38 => ?_⟩
  have szw3 := kc3.size
  clear f37 a37 kc3
  have szw3r := hS7.size
  have KM := km.mono (B' := B) (T' := [76, 38]) (M' := []) (by decide) (by simp) (Nat.le_refl _)
  replace KM := (Mod.of_kept0 hd7).trans KM
  replace HK := HK.step KM (by decide) (by simp) (by omega)
  replace HK1 := HK1.step KM (by decide) (by simp) (by omega)
  replace BP := BP.kept hS7 (by assumption)
  replace Bg0 := Bg0.kept hS7 (by assumption)
  clear hS7
  refine R.done (by kernel_rfl) (hK13 _ _ ?_)
  have f39 := f38.pk [8]
  refine C.sk fun K14 hK14 => ?_
  refine L.ag f39 fun a40 f40 => ?_
  have f41 := f40.pk [8]
  refine wn hK14 (wp_ret ?_); (try simp only [xt, xb]); refine C.ret f41 rfl rfl ?_
  exact send_fin hS HK HK1 BP HQ hql (send_push hn0 hlo hhi (fun h => by rw [hoff] at h; cases h.1))
 have hq0 := h0
 have hn0 : ¬ (m.qos = 0 ∧ on = true) := fun h => hq0 h.1
 refine L.skip f9 (f9.noT rfl rfl) rfl (by decide) fun a10 f10 => ?_
 refine L.va f10 (E.pickF f10 rfl rfl) fun a11 f11 => ?_
 refine L.ag f11 fun a12 f12 => ?_
 refine wn hK2 ?_
 have f13 := f12.pk [0, 2, 3, 5, 8, 9]
 refine C.condF f13 rfl ?_
 refine C.sk fun K15 hK15 => ?_
 refine L.fa 2 f13 U38 rfl wsz3_k fun a14 f14 => ?_
 refine L.va f14 (E.load f14 U3 rfl rfl ((Bg0).cl rfl)) fun a15 f15 => ?_
 refine L.va f15 (E.lss f15 rfl rfl) fun a16 f16 => ?_
 clear f8 f9 a8 f10 a10 f11 a11 f12 f13 a12 f14 a14 f15 a15
 refine L.mv f16 fun a17 f17 => ?_
 clear f16 a16
 refine f17.splitD 23 rfl (fun h7 f18 => ?_) (fun h7 f18 => ?_)
 ·have hlo := h7
  refine L.run f18 (rest' := []) (by kernel_rfl) fun a19 f19 => ?_
  clear f17
  refine wn hK15 ?_
  have f20 := f19.sub (sv 19 (.bool true) (pkR f19 [0, 2, 3, 5, 8]))
  refine C.condT f20 rfl ?_
  refine C.sk fun K16 hK16 => ?_
  refine L.ag f20 fun a21 f21 => ?_
  have f22 := f21.pk [0, 5, 8]
  refine wn hK16 (wp_ret ?_); (try simp only [xt, xb]); refine C.ret f22 rfl rfl ?_
  exact ⟨s, none, 0, [], rfl, hS.mod HK0 (by simp), by rw [send_none hn0 (by omega)]; rfl, ⟨rfl, rfl, rfl⟩, HK, PkAt.nil _ _ _, by simp⟩
 have hlo := h7
 refine L.fa 2 f18 U38 rfl wsz3_k (hw := (f18.yes rfl rfl)) fun a19 f19 => ?_
 refine L.va f19 (E.load f19 U3 rfl rfl ((Bg0).cl rfl)) (hw := (f19.yes rfl rfl)) fun a20 f20 => ?_
 refine L.va f20 (E.gtr f20 rfl rfl) (hw := (f20.yes rfl rfl)) fun a21 f21 => ?_
 refine L.va f21 (E.pickF f21 rfl rfl) fun a22 f22 => ?_
 refine L.ag f22 fun a23 f23 => ?_
 refine wn hK15 ?_
 have f24 := f23.pk [0, 2, 3, 5, 8, 19]
 clear f17 f18 a17 f19 a19 f20 a20 f21 a21 f22 a22 f23
 refine f24.splitD 19 rfl (fun h8 f25 => ?_) (fun h8 f25 => ?_)
 ·have hhi := h8
  refine C.condT f25 rfl ?_
  refine C.sk fun K17 hK17 => ?_
  refine L.ag f25 fun a26 f26 => ?_
  have f27 := f26.pk [0, 5, 8]
  refine wn hK17 (wp_ret ?_); (try simp only [xt, xb]); refine C.ret f27 rfl rfl ?_
  exact ⟨s, none, 0, [], rfl, hS.mod HK0 (by simp), by rw [send_none hn0 (by omega)]; rfl, ⟨rfl, rfl, rfl⟩, HK, PkAt.nil _ _ _, by simp⟩
 have hhi := h8
 refine C.condF f25 rfl ?_
 refine C.sk fun K18 hK18 => ?_
 refine L.mv f25 fun a26 f26 => ?_
 refine L.mv f26 fun a27 f27 => ?_
 clear f24 f25 a23 f26 a26
 refine f27.split 30 rfl (fun h9 f28 => ?_) (fun h9 f28 => ?_)
 ·have hon4 := h9
  refine L.mv f28 (hw := (f28.yes rfl rfl)) fun a29 f29 => ?_
  refine L.va f29 (E.nilCheck f29 rfl) (hw := (f29.yes rfl rfl)) fun a30 f30 => ?_
  refine L.fa 3 f30 U56 rfl wsz54_k (hw := (f30.yes rfl rfl)) fun a31 f31 => ?_
  refine L.va f31 (E.load f31 U54 rfl rfl ((BP).cl rfl)) (hw := (f31.yes rfl rfl)) fun a32 f32 => ?_
  refine L.va f32 (E.lenL f32 U54 rfl) (hw := (f32.yes rfl rfl)) fun a33 f33 => ?_
  refine L.va f33 (E.lss f33 rfl rfl) (hw := (f33.yes rfl rfl)) fun a34 f34 => ?_
  refine L.va f34 (E.pickT f34 rfl rfl) fun a35 f35 => ?_
  clear f27 f28 a27 f29 a29 f30 a30 f31 a31 f32 a32 f33 a33 f34 a34
  refine L.mv f35 fun a36 f36 => ?_
  clear f35 a35
  refine f36.splitD 38 rfl (fun h10 f37 => ?_) (fun h10 f37 => ?_)
  ·have hlt := h10
   refine L.mv f37 (hw := (f37.yes rfl rfl)) fun a38 f38 => ?_
   refine L.va f38 (E.nilCheck f38 rfl) (hw := (f38.yes rfl rfl)) fun a39 f39 => ?_
   refine L.fa 4 f39 U56 rfl wsz51_k (hw := (f39.yes rfl rfl)) fun a40 f40 => ?_
   refine L.va f40 (E.load f40 U51 rfl rfl ((BP).cl rfl)) (hw := (f40.yes rfl rfl)) fun a41 f41 => ?_
   refine L.cl f41 (run_call Tryd.call22 (args1 f41 rfl)) (quLen_any _ _ _ _ _ _ _ (hS.qu.mod HK0 (by decide)).top) ?_ (hw := (f41.yes rfl rfl))
   clear f36 f37 a36 f38 a38 f39 a39 f40 a40
   rintro e w1x ⟨rfl, rfl⟩
   refine ⟨_, rfl, fun a42 f42 => ?_⟩
   refine L.va f42 (E.eql f42 rfl rfl) (hw := (f42.yes rfl rfl)) fun a43 f43 => ?_
   refine L.va f43 (E.pickT f43 rfl rfl) fun a44 f44 => ?_
   refine L.ag f44 fun a45 f45 => ?_
   refine wn hK18 ?_
   have f46 := f45.pk [0, 3, 5, 8, 28]
   clear f41 a41 f42 a42 f43 a43 f44 a44 f45
   refine f46.splitD 28 rfl (fun h11 f47 => ?_) (fun h11 f47 => ?_)
   ·have hz := h11
    refine C.condT f47 rfl ?_
    refine C.sk fun K19 hK19 => ?_
    refine L.mv f47 fun a48 f48 => ?_
    refine L.va f48 (E.loadB f48 U38 rfl wsz38_k rfl (Bg0) rfl) fun a49 f49 => ?_
    refine L.mv f49 fun a50 f50 => ?_
    refine L.cl f50 (run_call Tryd.call23 (args3 f50 rfl rfl rfl)) (rise_any B p s m Am cm now _ (hS.mod HK0 (by simp)) HP (by omega) (by omega)) ?_
    clear f46 f47 a45 f48 a48 f49 a49
    rintro e w2 ⟨u2, Ap, cp, rfl, HS2, hab, hL2, kc2, HR⟩
    refine ⟨_, rfl, fun a51 f51 => ?_⟩
    have szw2 := kc2.size
    replace HK := HK.step kc2 (by decide) (by simp) (by omega)
    replace Bg0 := Bg0.mod kc2 (by decide)
    clear f50 a50 kc2
    refine L.buildSlice f51 wantedN (by decide) (parts1 f51 rfl) U35 wzj35 rfl rfl (wpk1 ⟨riseP s.abs m, Ap, cp⟩) fun a52 w3 g2 N2 f52 => ?_
    have OWR := N2.own (k := 1) (size := 24) rfl (by decide)
    have Bg2 := N2.blk
    have kg2 := N2.kept
    have log2 := N2.lo
    have ltg2 := Bg2.lt
    have szw3 := kg2.size
    have frg2 : w.heap.size ≤ g2 := Nat.le_trans HK.size log2
    have neg0_g2 : g0 ≠ g2 := by have := Bg0.lt; omega
    replace HK := HK.trans (.of_kept0 kg2)
    replace Bg0 := Bg0.z kg2
    replace HS2 := HS2.mod (Mod.of_kept0 (T := []) (M := []) (B := B) kg2) (by decide)
    replace HR := HR.mod (Mod.of_kept0 (T := []) (M := []) (B := B) kg2) (by decide)
    clear N2 kg2
    refine L.ag f52 fun a53 f53 => ?_
    have f54 := f53.pk [0, 5, 8]
    refine wn hK19 (wp_ret ?_); (try simp only [xt, xb]); refine C.ret f54 rfl rfl ?_
    exact ⟨u2, _, _, [⟨riseP s.abs m, Ap, cp⟩], rfl, HS2, by rw [send_rise hn0 hlo hhi hon4 hlt (by omega), hab]; rfl, hL2, HK, pk_one OWR frg2 HR, by simp⟩
   have hnz := h11
   refine C.condF f47 rfl ?_
   refine wp_skip (hK1 _ _ ?_)
   have f48 := f47.pk [0, 5, 8]
   refine wp_seq_k fun K20 hK20 => ?_
   obtain ⟨MM, hMM⟩ : ∃ MM, MM = s.q :: (Value.slice s.QA s.wait.length s.qc).ownBlock.toList := ⟨_, rfl⟩
   have hpM : p ∉ MM := by rw [hMM]; exact fun hx => (List.mem_cons.1 hx).elim hS.p_ne_q (own_ne hS.qu.own hS.top (by decide))
   have hg0M : g0 ∉ MM := by rw [hMM]; exact fun hx => (List.mem_cons.1 hx).elim (fun e => by have := hS.qu.top.lt; omega) (own_old hS.qu.own frg0)
   refine R.begin (S := fun W => Kept MM w1 W) (by kernel_rfl) (by exact (Kept.refl _ _).drewN 1) ?_
   have hS7 : Kept MM w1 (w1.drewN 1) := (Kept.refl _ _).drewN 1
   have hd7 : Kept [] w1 (w1.drewN 1) := (Kept.refl _ _).drewN 1
   obtain ⟨w2, hww2⟩ : ∃ W, W = w1.drewN 1 := ⟨_, rfl⟩
   rw [← hww2] at hS7 hd7 ⊢
   clear f46 f47 hww2
   have szw2 := hS7.size
   replace HK0 := HK0.trans (.of_kept0 hd7)
   replace HP := HP.kept0 hd7
   refine R.mv 0 f48 rfl hS7 fun a49 f49 => ?_
   refine R.t 1 f49 rfl hS7 (fun W hW => (E.nilCheck f49 rfl)) fun a50 f50 => ?_
   refine R.t 2 f50 rfl hS7 (fun W hW => (E.fa 4 f50 U56 rfl wsz51_k)) fun a51 f51 => ?_
   refine R.t 3 f51 rfl hS7 (fun W hW => (E.load f51 U51 rfl rfl ((BP.kept hW (by assumption)).cl rfl))) fun a52 f52 => ?_
   refine R.t 4 f52 rfl hS7 (fun W hW => (E.loadB f52 U38 rfl wsz38_k rfl (Bg0.kept hW (by assumption)) rfl)) fun a53 f53 => ?_
   refine R.call 5 f53 rfl rfl (by decide) (by kernel_rfl) wantedN (run_call Tryd.call24 (args2 f53 rfl rfl)) (push_any B s.q s.QA s.qc s.wait s.lost m Am cm _ (hS.qu.mod HK0 (by decide)) HP (by omega) hl) ?_
   clear f48 a45 f49 a49 f50 a50 f51 a51 f52 a52
   rintro e w3 ⟨km, kc3, rfl, A2, c2, l2, HQ, hql⟩
   rw [← hMM] at kc3
   replace hS7 := hS7.trans kc3 (by exact fun x hx _ => hx)
   refine ⟨_, rfl, hS7, fun a54 f54 => ?_⟩
   have szw3 := kc3.size
   clear f53 a53 kc3
   have szw3r := hS7.size
   have KM := km.mono (B' := B) (T' := [76, 38]) (M' := []) (by decide) (by simp) (Nat.le_refl _)
   replace KM := (Mod.of_kept0 hd7).trans KM
   replace HK := HK.step KM (by decide) (by simp) (by omega)
   replace HK1 := HK1.step KM (by decide) (by simp) (by omega)
   replace BP := BP.kept hS7 (by assumption)
   replace Bg0 := Bg0.kept hS7 (by assumption)
   clear hS7
   refine R.done (by kernel_rfl) (hK20 _ _ ?_)
   have f55 := f54.pk [8]
   refine C.sk fun K21 hK21 => ?_
   refine L.ag f55 fun a56 f56 => ?_
   have f57 := f56.pk [8]
   refine wn hK21 (wp_ret ?_); (try simp only [xt, xb]); refine C.ret f57 rfl rfl ?_
   exact send_fin hS HK HK1 BP HQ hql (send_push hn0 hlo hhi (fun h => hnz h.2.2))
  have hge := h10
  refine L.run f37 (rest' := []) (by kernel_rfl) fun a38 f38 => ?_
  clear f36
  refine wn hK18 ?_
  have f39 := f38.sub (sv 28 (.bool false) (pkR f38 [0, 3, 5, 8]))
  refine C.condF f39 rfl ?_
  refine wp_skip (hK1 _ _ ?_)
  have f40 := f39.pk [0, 5, 8]
  refine wp_seq_k fun K22 hK22 => ?_
  obtain ⟨MM, hMM⟩ : ∃ MM, MM = s.q :: (Value.slice s.QA s.wait.length s.qc).ownBlock.toList := ⟨_, rfl⟩
  have hpM : p ∉ MM := by rw [hMM]; exact fun hx => (List.mem_cons.1 hx).elim hS.p_ne_q (own_ne hS.qu.own hS.top (by decide))
  have hg0M : g0 ∉ MM := by rw [hMM]; exact fun hx => (List.mem_cons.1 hx).elim (fun e => by have := hS.qu.top.lt; omega) (own_old hS.qu.own frg0)
  refine R.begin (S := fun W => Kept MM w1 W) (by kernel_rfl) (by exact (Kept.refl _ _).drewN 1) ?_
  have hS7 : Kept MM w1 (w1.drewN 1) := (Kept.refl _ _).drewN 1
  have hd7 : Kept [] w1 (w1.drewN 1) := (Kept.refl _ _).drewN 1
  obtain ⟨w2, hww2⟩ : ∃ W, W = w1.drewN 1 := ⟨_, rfl⟩
  rw [← hww2] at hS7 hd7 ⊢
  clear f38 f37 f39 hww2
  have szw2 := hS7.size
  replace HK0 := HK0.trans (.of_kept0 hd7)
  replace HP := HP.kept0 hd7
  refine R.mv 0 f40 rfl hS7 fun a41 f41 => ?_
  refine R.t 1 f41 rfl hS7 (fun W hW => (E.nilCheck f41 rfl)) fun a42 f42 => ?_
  refine R.t 2 f42 rfl hS7 (fun W hW => (E.fa 4 f42 U56 rfl wsz51_k)) fun a43 f43 => ?_
  refine R.t 3 f43 rfl hS7 (fun W hW => (E.load f43 U51 rfl rfl ((BP.kept hW (by assumption)).cl rfl))) fun a44 f44 => ?_
  refine R.t 4 f44 rfl hS7 (fun W hW => (E.loadB f44 U38 rfl wsz38_k rfl (Bg0.kept hW (by assumption)) rfl)) fun a45 f45 => ?_
  refine R.call 5 f45 rfl rfl (by decide) (by kernel_rfl) wantedN (run_call Tryd.call24 (args2 f45 rfl rfl)) (push_any B s.q s.QA s.qc s.wait s.lost m Am cm _ (hS.qu.mod HK0 (by decide)) HP (by omega) hl) ?_
  clear f40 a38 f41 a41 f42 a42 f43 a43 f44 a44
  rintro e w3 ⟨km, kc3, rfl, A2, c2, l2, HQ, hql⟩
  rw [← hMM] at kc3
  replace hS7 := hS7.trans kc3 (by exact fun x hx _ => hx)
  refine ⟨_, rfl, hS7, fun a46 f46 => ?_⟩
  have szw3 := kc3.size
  clear f45 a45 kc3
  have szw3r := hS7.size
  have KM := km.mono (B' := B) (T' := [76, 38]) (M' := []) (by decide) (by simp) (Nat.le_refl _)
  replace KM := (Mod.of_kept0 hd7).trans KM
  replace HK := HK.step KM (by decide) (by simp) (by omega)
  replace HK1 := HK1.step KM (by decide) (by simp) (by omega)
  replace BP := BP.kept hS7 (by assumption)
  replace Bg0 := Bg0.kept hS7 (by assumption)
  clear hS7
  refine R.done (by kernel_rfl) (hK22 _ _ ?_)
  have f47 := f46.pk [8]
  refine C.sk fun K23 hK23 => ?_
  refine L.ag f47 fun a48 f48 => ?_
  have f49 := f48.pk [8]
  refine wn hK23 (wp_ret ?_); (try simp only [xt, xb]); refine C.ret f49 rfl rfl ?_
  exact send_fin hS HK HK1 BP HQ hql (send_push hn0 hlo hhi (fun h => hge h.2.1))
 have hoff := h9
 refine L.run f28 (rest' := []) (by kernel_rfl) fun a29 f29 => ?_
 clear f27
 refine wn hK18 ?_
 have f30 := f29.sub (sv 28 (.bool false) (pkR f29 [0, 3, 5, 8]))
 refine C.condF f30 rfl ?_
 refine wp_skip (hK1 _ _ ?_)
 have f31 := f30.pk [0, 5, 8]
 refine wp_seq_k fun K24 hK24 => ?_
 obtain ⟨MM, hMM⟩ : ∃ MM, MM = s.q :: (Value.slice s.QA s.wait.length s.qc).ownBlock.toList := ⟨_, rfl⟩
 have hpM : p ∉ MM := by rw [hMM]; exact fun hx => (List.mem_cons.1 hx).elim hS.p_ne_q (own_ne hS.qu.own hS.top (by decide))
 have hg0M : g0 ∉ MM := by rw [hMM]; exact fun hx => (List.mem_cons.1 hx).elim (fun e => by have := hS.qu.top.lt; omega) (own_old hS.qu.own frg0)
 refine R.begin (S := fun W => Kept MM w1 W) (by kernel_rfl) (by exact (Kept.refl _ _).drewN 1) ?_
 have hS7 : Kept MM w1 (w1.drewN 1) := (Kept.refl _ _).drewN 1
 have hd7 : Kept [] w1 (w1.drewN 1) := (Kept.refl _ _).drewN 1
 obtain ⟨w2, hww2⟩ : ∃ W, W = w1.drewN 1 := ⟨_, rfl⟩
 rw [← hww2] at hS7 hd7 ⊢
 clear f29 f28 f30 hww2
 have szw2 := hS7.size
 replace HK0 := HK0.trans (.of_kept0 hd7)
 replace HP := HP.kept0 hd7
 refine R.mv 0 f31 rfl hS7 fun a32 f32 => ?_
 refine R.t 1 f32 rfl hS7 (fun W hW => (E.nilCheck f32 rfl)) fun a33 f33 => ?_
 refine R.t 2 f33 rfl hS7 (fun W hW => (E.fa 4 f33 U56 rfl wsz51_k)) fun a34 f34 => ?_
 refine R.t 3 f34 rfl hS7 (fun W hW => (E.load f34 U51 rfl rfl ((BP.kept hW (by assumption)).cl rfl))) fun a35 f35 => ?_
 refine R.t 4 f35 rfl hS7 (fun W hW => (E.loadB f35 U38 rfl wsz38_k rfl (Bg0.kept hW (by assumption)) rfl)) fun a36 f36 => ?_
 refine R.call 5 f36 rfl rfl (by decide) (by kernel_rfl) wantedN (run_call Tryd.call24 (args2 f36 rfl rfl)) (push_any B s.q s.QA s.qc s.wait s.lost m Am cm _ (hS.qu.mod HK0 (by decide)) HP (by omega) hl) ?_
 clear f31 a29 f32 a32 f33 a33 f34 a34 f35 a35
 rintro e w3 ⟨km, kc3, rfl, A2, c2, l2, HQ, hql⟩
 rw [← hMM] at kc3
 replace hS7 := hS7.trans kc3 (by exact fun x hx _ => hx)
 refine ⟨_, rfl, hS7, fun a37 f37 => ?_⟩
 have szw3 := kc3.size
 clear f36 a36 kc3
 have szw3r := hS7.size
 have KM := km.mono (B' := B) (T' := [76, 38]) (M' := []) (by decide) (by simp) (Nat.le_refl _)
 replace KM := (Mod.of_kept0 hd7).trans KM
 replace HK := HK.step KM (by decide) (by simp) (by omega)
 replace HK1 := HK1.step KM (by decide) (by simp) (by omega)
 replace BP := BP.kept hS7 (by assumption)
 replace Bg0 := Bg0.kept hS7 (by assumption)
 clear hS7
 refine R.done (by kernel_rfl) (hK24 _ _ ?_)
 have f38 := f37.pk [8]
 refine C.sk fun K25 hK25 => ?_
 refine L.ag f38 fun a39 f39 => ?_
 have f40 := f39.pk [8]
 refine wn hK25 (wp_ret ?_); (try simp only [xt, xb]); refine C.ret f40 rfl rfl ?_
 exact send_fin hS HK HK1 BP HQ hql (send_push hn0 hlo hhi (fun h => by rw [hoff] at h; cases h.1))
end Go.Proofs.YtdfllmiokgoekaaDoor
namespace Go.Proofs.YtdfllmiokgoekaaDoor
open Go.RowKit Go.Hub
theorem wsz3_l : (Tryd.prog.info? 3).map (·.size) = some 1 := by kernel_rfl
theorem wsz4_l : (Tryd.prog.info? 4).map (·.size) = some 1 := by kernel_rfl
theorem wsz38_l : (Tryd.prog.info? 38).map (·.size) = some 4 := by kernel_rfl
theorem wsz54_l : (Tryd.prog.info? 54).map (·.size) = some 1 := by kernel_rfl
theorem wsz67_l : (Tryd.prog.info? 67).map (·.size) = some 7 := by kernel_rfl
theorem wsz53_l : (Tryd.prog.info? 53).map (·.size) = some 1 := by kernel_rfl
theorem idx_spec' : ∀ {l : List Fc} {id k : Int}, ¬ idxI (l.map (·.id)) id k = -1 → ∃ (i : Nat) (x : Fc), idxI (l.map (·.id)) id k = k + i ∧ l[i]? = some x ∧ x.id = id
  | [], _, _, h => absurd rfl h
  | y :: r, id, k, h => by
    simp only [List.map_cons, idxI] at h ⊢
    by_cases hy : y.id = id
    · exact ⟨0, y, by rw [if_pos hy]; simp, rfl, hy⟩
    rw [if_neg hy] at h ⊢
    obtain ⟨i, x, h1, h2, h3⟩ := idx_spec' h
    exact ⟨i + 1, x, by rw [h1]; omega, by simpa using h2, h3⟩
theorem idx_spec {l : List Fc} {id : Int} (h : ¬ idxI (l.map (·.id)) id 0 < 0) : ∃ (i : Nat) (x : Fc), idxI (l.map (·.id)) id 0 = i ∧ l[i]? = some x ∧ x.id = id := by
  obtain ⟨i, x, h1, h2⟩ := idx_spec' (l := l) (id := id) (k := 0) (by omega)
  exact ⟨i, x, by omega, h2⟩
theorem set_at {l : List Fc} {i : Nat} {f' : Fc} (h : i < l.length) : (l.set i f')[i]? = some f' := by simp [h]
theorem set_cell : ∀ {l : List Fc} {i j : Nat} {f : Fc}, l[i]? = some f → j < 7 → ∀ v, (l.flatMap fcell).set (i * 7 + j) v = setSeg (l.flatMap fcell) (i * 7) ((fcell f).set j v)
  | l, i, j, f, hf, hj, v => by
    have hi := (List.getElem?_eq_some_iff.1 hf).1
    have hn : i * 7 + 7 ≤ l.length * 7 := by omega
    apply List.ext_getElem?
    intro q
    rw [setSeg_at _ _ _ _ (by rw [List.length_set, fcell_len]; exact hn), List.getElem?_set, List.length_set]
    simp only [fcell, List.length_cons, List.length_nil]
    rw [fcell_len]
    by_cases hq : i * 7 ≤ q ∧ q < i * 7 + (0 + 1 + 1 + 1 + 1 + 1 + 1 + 1)
    · rw [if_pos hq, List.getElem?_set]
      by_cases hqj : i * 7 + j = q
      · rw [if_pos hqj, if_pos (by omega), if_pos (by omega), if_pos (by simp; omega)]
      rw [if_neg hqj, if_neg (by omega)]
      obtain ⟨d, rfl⟩ : ∃ d, q = i * 7 + d := ⟨q - i * 7, by omega⟩
      have hd : d < (fcell f).length := by simp only [fcell, List.length_cons, List.length_nil]; omega
      rw [show i * 7 + d - i * 7 = d by omega]
      have := flat_at fcell 7 (fun _ => rfl) l i f hf d (fcell f)[d] (List.getElem?_eq_getElem hd)
      rw [this]
      exact (List.getElem?_eq_getElem hd).symm
    rw [if_neg hq, if_neg (by omega)]
theorem FlyAt.set {B : Nat} {w w' : World} {A : Option Addr} {c i j : Nat} {l : List Fc} {f f' : Fc} {v : Value} (h : FlyAt B w A c l) (hf : l[i]? = some f) (hm : Mod [67] [] B w w') (O : Own w' 67 7 (.slice A l.length c) l.length ((l.flatMap fcell).set (i * 7 + j) v)) (hv : fcell f' = (fcell f).set j v) (hp : f'.x = f.x) (hj : j < 7 := by decide) : FlyAt B w' A c (l.set i f') := by
  have hi := (List.getElem?_eq_some_iff.1 hf).1
  have hx : (l.flatMap fcell).set (i * 7 + j) v = (l.set i f').flatMap fcell := by
    have h1 := set_cell (l := l) (i := i) (f := f) hf hj v
    rw [h1, ← hv, flat_seg fcell 7 (fun _ => rfl) (by decide) l i f' hi]
  have hl : l.length = (l.set i f').length := by simp
  rw [hx, hl] at O
  refine ⟨O, fun g hg => ?_, h.loA, by rw [← hl]; exact h.len⟩
  rcases List.mem_or_eq_of_mem_set hg with hg | rfl
  · exact (h.pay g hg).mod hm (by decide)
  rw [hp]; exact (h.pay f (List.mem_of_getElem? hf)).mod hm (by decide)
section
variable {s : Ses} {kind id now : Int} {i : Nat} {x : Fc}
theorem abs_ids (s : Ses) : s.abs.fly.map (·.id) = s.fly.map (·.id) := by simp [Ses.abs, Fc.abs]
theorem ack_no (h : idxI (s.fly.map (·.id)) id 0 < 0) : ackS s.abs kind id now = (s.abs, []) := by
  unfold ackS
  simp only
  rw [abs_ids]
  split
  · rfl
  rw [if_pos h]
theorem ack_at (h : idxI (s.fly.map (·.id)) id 0 = i) (hf : s.fly[i]? = some x) : ackS s.abs kind id now = if (kind = 4 ∧ x.x.m.qos = 1) ∨ (kind = 7 ∧ x.rc = true) then doneS s.abs i x.id now
    else if kind = 5 ∧ x.x.m.qos = 2 then ({ s.abs with fly := s.abs.fly.set i { x.abs with rc := true, at_ := nearI now } }, [ackP 6 x.id]) else (s.abs, []) := by
  have h1 : s.abs.fly[(i : Int).toNat]? = some x.abs := by simp [Ses.abs, hf]
  unfold ackS
  simp only
  rw [abs_ids, h, h1]
  simp only
  rw [if_neg (by omega)]
  rfl
end
theorem done_len {s : SA} {i : Nat} {id now : Int} {pks : List Pc} (h : pks.map (·.p) = (doneS s i id now).2) : pks.length ≤ 10 := by
  have h1 := congrArg List.length h
  rw [List.length_map] at h1
  have := drainS_len { s with used := s.used.erase id, fly := s.fly.eraseIdx i } now
  unfold doneS at h1
  omega
theorem one_ack {B g : Nat} {w W : World} {k id : Int} (B9 : Blk W g 44 (ackCells k id)) (hg : w.heap.size ≤ g) : PkAt B w W (some ⟨g, 0, none⟩) 1 [⟨ackP k id, none, 0⟩] :=
  pk_one (x := ⟨ackP k id, none, 0⟩) ⟨rfl, .inr ⟨g, 0, 1, _, rfl, B9, Nat.le_refl _, by decide, Nat.le_refl 24, fun j u hu => by rw [Nat.zero_add, ← Array.getElem?_toList]; exact hu⟩⟩ hg (Pay.nil _ _ _)
theorem set_same {α : Type} {l : List α} {i : Nat} {v : α} (h : l[i]? = some v) : l.set i v = l := by
  apply List.ext_getElem?
  intro j
  rw [List.getElem?_set]
  by_cases hj : i = j
  · subst hj
    rw [if_pos rfl, if_pos (List.getElem?_eq_some_iff.1 h).1, h]
  rw [if_neg hj]
theorem ack_fin {B p i g : Nat} {s : Ses} {x : Fc} {w W : World} {r : SA × List Pa} {now : Int} (hS : SesAt B w p s) (hf : s.fly[i]? = some x) (HK : Mod [56, 73, 67, 76, 38] [s.im, s.gm] B w W) (HK1 : Mod [67] [] B w W) (BP : Blk W p 56 s.cells) (FL : FlyAt B W s.FA s.fc ((s.fly.set i { x with rc := true }).set i { x with rc := true, at_ := nearI now }))
    (h : r = ({ s.abs with fly := s.abs.fly.set i { x.abs with rc := true, at_ := nearI now } }, [ackP 6 x.id])) (B9 : Blk W g 44 (ackCells 6 x.id)) (hg : w.heap.size ≤ g) (hB : B ≤ w.heap.size) : OutPost [56, 73, 67, 76, 38] B p s r w (.returned (.slice (some ⟨g, 0, none⟩) 1 1)) W := by
  have hi := (List.getElem?_eq_some_iff.1 hf).1
  have hx := (List.getElem?_eq_some_iff.1 hf).2
  rw [List.set_set] at FL
  refine ⟨{ s with fly := s.fly.set i { x with rc := true, at_ := nearI now } }, some ⟨g, 0, none⟩, 1, [⟨ackP 6 x.id, none, 0⟩], rfl, ⟨?_, hS.one, hS.ids.mod HK1 (by decide) (by simp), hS.qu.mod HK1 (by decide), FL, hS.got.mod HK1 (by simp), hS.ne, hS.lop, hS.loi, hS.lom, hS.log, hS.tk, ?_, ?_, ?_⟩, ?_, ⟨rfl, rfl, rfl⟩, HK, one_ack B9 hg, by simp⟩
  · simpa [Ses.cells] using BP
  · show s.used.Perm ((s.fly.set i { x with rc := true, at_ := nearI now }).map (·.id))
    have h1 : (s.fly.set i { x with rc := true, at_ := nearI now }).map (·.id) = s.fly.map (·.id) := by
      rw [List.map_set]
      exact set_same (by simp [hf])
    rw [h1]
    exact hS.perm
  · intro y hy
    rcases List.mem_or_eq_of_mem_set hy with hy | rfl
    · exact hS.ats y hy
    exact near_bd now
  · intro y hy
    rcases List.mem_or_eq_of_mem_set hy with hy | rfl
    · exact hS.idb y hy
    exact hS.idb x (List.mem_of_getElem? hf)
  rw [h]
  simp [Ses.abs, List.map_set, Fc.abs]
def GotPost (B p : Nat) (s : Ses) (r : SA × Bool × List Pa) (w : World) (e : Ending) (w' : World) : Prop :=
  ∃ s' A c pks, e = .returned (.tuple #[.bool r.2.1, .slice A pks.length c]) ∧ SesAt B w' p s' ∧ s'.abs = r.1 ∧ pks.map (·.p) = r.2.2 ∧ s.Like s' ∧ Mod [] [s.im, s.gm] B w w' ∧ PkAt B w w' A c pks ∧ pks.length ≤ 1
section
variable {B p g : Nat} {s : Ses} {w W : World} {r : SA × Bool × List Pa} {b : Bool} {k id : Int} {S : List Int}
theorem got_nil (hS : SesAt B w p s) (HK : Mod [] [s.im, s.gm] B w W) (HK0 : Mod [] [] B w W) (h : r = (s.abs, b, [])) : GotPost B p s r w (.returned (.tuple #[.bool b, .slice none 0 0])) W := by
  subst h
  exact ⟨s, none, 0, [], rfl, hS.mod HK0 (by simp), rfl, rfl, ⟨rfl, rfl, rfl⟩, HK, PkAt.nil _ _ _, by simp⟩
theorem got_one (hS : SesAt B w p s) (HK : Mod [] [s.im, s.gm] B w W) (HK0 : Mod [] [] B w W) (h : r = (s.abs, b, [ackP k id])) (B9 : Blk W g 44 (ackCells k id)) (hg : w.heap.size ≤ g) : GotPost B p s r w (.returned (.tuple #[.bool b, .slice (some ⟨g, 0, none⟩) 1 1])) W := by
  subst h
  exact ⟨s, _, _, [⟨ackP k id, none, 0⟩], rfl, hS.mod HK0 (by simp), rfl, rfl, ⟨rfl, rfl, rfl⟩, HK, one_ack B9 hg, by simp⟩
theorem got_fin (hS : SesAt B w p s) (HK : Mod [] [s.im, s.gm] B w W) (HK2 : Mod [] [s.gm] B w W) (IN : IsSet Tryd.prog 3 4 W s.gm S) (h : r = ({ s.abs with got := S }, b, [ackP k id])) (B9 : Blk W g 44 (ackCells k id)) (hg : w.heap.size ≤ g) : GotPost B p s r w (.returned (.tuple #[.bool b, .slice (some ⟨g, 0, none⟩) 1 1])) W := by
  subst h
  exact ⟨{ s with got := S }, _, _, [⟨ackP k id, none, 0⟩], rfl, ⟨hS.top.mod HK2 (by simp), hS.one, hS.ids.mod HK2 (by simp) (by simpa using hS.ne), hS.qu.mod HK2 (by simp), hS.fly.mod HK2 (by simp), IN, hS.ne, hS.lop, hS.loi, hS.lom, hS.log, hS.tk, hS.perm, hS.ats, hS.idb⟩, rfl, rfl, ⟨rfl, rfl, rfl⟩, HK, one_ack B9 hg, by simp⟩
end
theorem ack_any (B p : Nat) (s : Ses) (kind id now : Int) (pcs : Array Value) (hp0 : pcs.toList[0]? = some (.int .i64 kind)) (hp4 : pcs.toList[4]? = some (.int .i64 id)) (w : World) (hS : SesAt B w p s) (hB : B ≤ w.heap.size) : Calls Tryd.prog 12 #[.pointer (some ⟨p, 0, none⟩), .agg pcs, .int .i64 now] w (OutPost [56, 73, 67, 76, 38] B p s (ackS s.abs kind id now) w) := by
 have HK : Mod [56, 73, 67, 76, 38] [s.im, s.gm] B w w := .refl _ _ _ _
 have HK0 : Mod [] [] B w w := .refl _ _ _ _
 have HK1 : Mod [67] [] B w w := .refl _ _ _ _
 have BP := hS.top
 have FL := hS.fly
 have hl4 := hS.fly.len
 refine C.enter Tryd.func12 rfl Tryd.ntmps12 rfl ?_
 intro a0 f0
 have f1 : Fr 73 a0 [(0, .pointer (some ⟨p, 0, none⟩)), (1, .agg pcs), (2, .int .i64 now)] := f0
 refine C.sk fun K0 hK0 => ?_
 refine L.box f1 wantedN (by decide) rfl rfl fun a2 w1 g0 N0 f2 => ?_
 have Bg0 := N0.blk
 have kg0 := N0.kept
 have log0 := N0.lo
 have ltg0 := Bg0.lt
 have szw1 := kg0.size
 have frg0 : w.heap.size ≤ g0 := Nat.le_trans HK.size log0
 have nep_g0 : p ≠ g0 := by have := BP.lt; omega
 replace HK := HK.trans (.of_kept0 kg0)
 replace HK0 := HK0.trans (.of_kept0 kg0)
 replace HK1 := HK1.trans (.of_kept0 kg0)
 replace BP := BP.z kg0
 replace FL := FL.mod (Mod.of_kept0 (T := []) (M := []) (B := B) kg0) (by decide)
 clear f0 N0 kg0
 refine L.ag f2 fun a3 f3 => ?_
 have f4 := f3.pk [0, 2, 4, 6]
 refine wn hK0 (C.sk fun K1 hK1 => ?_)
 refine L.mv f4 fun a5 f5 => ?_
 refine L.va f5 (E.nilCheck f5 rfl) fun a6 f6 => ?_
 refine L.fa 3 f6 U56 rfl wsz54_l fun a7 f7 => ?_
 refine L.va f7 (E.load f7 U54 rfl rfl ((BP).cl rfl)) fun a8 f8 => ?_
 refine L.va f8 (E.makeFunc1 f8 rfl) fun a9 f9 => ?_
 clear f1 a0 f2 a2 f3 f4 a3 f5 a5 f6 a6 f7 a7 f8 a8
 refine L.cl f9 (run_call Tryd.call25 (args2 f9 rfl rfl)) (idxS_any s.FA s.fc s.fly g0 pcs id _ FL.own Bg0 hp4 hS.fly.len) ?_
 rintro e w2 ⟨rfl, kc2⟩
 refine ⟨_, rfl, fun a10 f10 => ?_⟩
 have szw2 := kc2.size
 replace HK := HK.trans (.of_kept0 kc2)
 replace HK0 := HK0.trans (.of_kept0 kc2)
 replace HK1 := HK1.trans (.of_kept0 kc2)
 replace BP := BP.z kc2
 replace FL := FL.mod (Mod.of_kept0 (T := []) (M := []) (B := B) kc2) (by decide)
 replace Bg0 := Bg0.z kc2
 clear f9 a9 kc2
 refine L.ag f10 fun a11 f11 => ?_
 refine wn hK1 ?_
 have f12 := f11.pk [0, 2, 4, 6, 7]
 refine wp_seq_k fun K2 hK2 => C.sk fun K3 hK3 => ?_
 refine L.mv f12 fun a13 f13 => ?_
 refine L.va f13 (E.lss f13 rfl rfl) fun a14 f14 => ?_
 refine wn hK3 ?_
 have f15 := f14.pk [0, 2, 4, 6, 7, 16]
 clear f10 a10 f11 f12 a11 f13 a13 f14
 refine f15.splitD 16 rfl (fun h0 f16 => ?_) (fun h0 f16 => ?_)
 ·have hneg := h0
  refine C.condT f16 rfl ?_
  refine C.sk fun K4 hK4 => ?_
  refine L.ag f16 fun a17 f17 => ?_
  have f18 := f17.pk [0, 2, 4, 6, 7]
  refine wn hK4 (wp_ret ?_); (try simp only [xt, xb]); refine C.ret f18 rfl rfl ?_
  exact ⟨s, none, 0, [], rfl, hS.mod HK0 (by simp), by rw [ack_no hneg]; rfl, ⟨rfl, rfl, rfl⟩, HK, PkAt.nil _ _ _, by simp⟩
 have hpos := h0
 obtain ⟨i, x, hri, hf, hid⟩ := idx_spec (l := s.fly) (id := id) hpos
 rw [hri] at f16
 have hi4 := (List.getElem?_eq_some_iff.1 hf).1
 obtain ⟨b, off, hA⟩ := (Sl.of_own hS.fly.own).addr (by omega)
 refine C.condF f16 rfl ?_
 refine wp_skip (hK2 _ _ ?_)
 have f17 := f16.pk [0, 2, 4, 6, 7]
 refine wp_seq_k fun K5 hK5 => C.sk fun K6 hK6 => ?_
 refine L.mv f17 fun a18 f18 => ?_
 refine L.va f18 (E.nilCheck f18 rfl) fun a19 f19 => ?_
 refine L.fa 3 f19 U56 rfl wsz54_l fun a20 f20 => ?_
 refine L.va f20 (E.load f20 U54 rfl rfl ((BP).cl rfl)) fun a21 f21 => ?_
 refine L.mv f21 fun a22 f22 => ?_
 refine L.va f22 (E.indexA f22 (by assumption) U54 wsz67_l rfl rfl (by omega) (by omega)) fun a23 f23 => ?_
 clear f15 f16 f17 a14 f18 a18 f19 a19 f20 a20 f21 a21 f22 a22
 refine L.ag f23 fun a24 f24 => ?_
 refine wn hK6 ?_
 have f25 := f24.pk [0, 2, 4, 6, 7, 8]
 refine wp_block ?_
 refine wp_seq_k fun K7 hK7 => C.sk fun K8 hK8 => ?_
 refine L.fa 0 f25 U44 rfl wsz3_l fun a26 f26 => ?_
 refine L.va f26 (E.load f26 U3 rfl rfl (Bg0.cl hp0)) fun a27 f27 => ?_
 refine L.va f27 (E.eql f27 rfl rfl) fun a28 f28 => ?_
 refine L.mv f28 fun a29 f29 => ?_
 clear f23 a23 f24 f25 a24 f26 a26 f27 a27 f28 a28
 refine f29.splitD 27 rfl (fun h1 f30 => ?_) (fun h1 f30 => ?_)
 ·refine L.mv f30 (hw := (f30.yes rfl rfl)) fun a31 f31 => ?_
  refine L.va f31 (E.nilCheck f31 rfl) (hw := (f31.yes rfl rfl)) fun a32 f32 => ?_
  refine L.fa 0 f32 U67 rfl wsz38_l (hw := (f32.yes rfl rfl)) fun a33 f33 => ?_
  refine L.fa 2 f33 U38 rfl wsz3_l (hw := (f33.yes rfl rfl)) fun a34 f34 => ?_
  refine L.va f34 (E.load f34 U3 rfl rfl (fly_cell (Sl.of_own FL.own) hA hf 2 rfl (show off + i * 7 + 0 + 2 = _ by omega))) (hw := (f34.yes rfl rfl)) fun a35 f35 => ?_
  refine L.va f35 (E.eql f35 rfl rfl) (hw := (f35.yes rfl rfl)) fun a36 f36 => ?_
  refine L.va f36 (E.pickT f36 rfl rfl) fun a37 f37 => ?_
  clear f29 f30 a29 f31 a31 f32 a32 f33 a33 f34 a34 f35 a35 f36 a36
  refine L.ag f37 fun a38 f38 => ?_
  refine wn hK8 ?_
  have f39 := f38.pk [0, 2, 4, 6, 7, 8, 23]
  clear f37 a37 f38
  refine f39.splitD 23 rfl (fun h2 f40 => ?_) (fun h2 f40 => ?_)
  ·refine C.condT f40 rfl ?_
   refine wp_skip (hK7 _ _ ?_)
   have f41 := f40.pk [0, 2, 4, 6, 7, 8, 23]
   refine C.condT f41 rfl ?_
   refine C.sk fun K9 hK9 => ?_
   refine L.mv f41 fun a42 f42 => ?_
   refine L.mv f42 fun a43 f43 => ?_
   refine L.mv f43 fun a44 f44 => ?_
   refine L.cl f44 (run_call Tryd.call27 (args3 f44 rfl rfl rfl)) (done_any B p s i x now _ (hS.mod HK0 (by simp)) hf (by omega)) ?_
   clear f39 f40 f41 a38 f42 a42 f43 a43
   rintro e w3 ⟨s2, A2, c2, pks, rfl, HS2, hab, hpp, hL2, kc3, PK⟩
   have hl10 := done_len hpp
   have szz := HK.size
   replace PK := PK.lower (w1 := w) szz
   refine ⟨_, rfl, fun a45 f45 => ?_⟩
   have szw3 := kc3.size
   replace HK := HK.step kc3 (by decide) (by simp) (by omega)
   clear f44 a44 kc3
   refine L.ag f45 fun a46 f46 => ?_
   have f47 := f46.pk [6]
   refine wn hK9 (wp_ret ?_); (try simp only [xt, xb]); refine C.ret f47 rfl rfl ?_
   exact ⟨s2, A2, c2, pks, rfl, HS2, by rw [ack_at hri hf, if_pos (by simp_all), hab, hpp], hL2, HK, PK, hl10⟩
  refine C.condF f40 rfl ?_
  refine C.region ?_
  refine L.fa 0 f40 U44 rfl wsz3_l fun a41 f41 => ?_
  refine L.va f41 (E.load f41 U3 rfl rfl (Bg0.cl hp0)) fun a42 f42 => ?_
  refine L.va f42 (E.eql f42 rfl rfl) fun a43 f43 => ?_
  refine L.mv f43 fun a44 f44 => ?_
  clear f39 f40 a38 f41 a41 f42 a42 f43 a43
  refine f44.splitD 38 rfl (fun h3 f45 => ?_) (fun h3 f45 => ?_)
  ·refine L.mv f45 (hw := (f45.yes rfl rfl)) fun a46 f46 => ?_
   refine L.va f46 (E.nilCheck f46 rfl) (hw := (f46.yes rfl rfl)) fun a47 f47 => ?_
   refine L.fa 6 f47 U67 rfl wsz4_l (hw := (f47.yes rfl rfl)) fun a48 f48 => ?_
   refine L.va f48 (E.load f48 U4 rfl rfl (fly_cell (Sl.of_own FL.own) hA hf 6 rfl (show off + i * 7 + 6 = _ by omega))) (hw := (f48.yes rfl rfl)) fun a49 f49 => ?_
   refine L.va f49 (E.pickT f49 rfl rfl) fun a50 f50 => ?_
   refine L.ag f50 fun a51 f51 => ?_
   refine wn hK7 ?_
   have f52 := f51.pk [0, 2, 4, 6, 7, 8, 23]
   clear f44 f45 a44 f46 a46 f47 a47 f48 a48 f49 a49 f50 a50 f51
   refine f52.split 23 rfl (fun h4 f53 => ?_) (fun h4 f53 => ?_)
   ·refine C.condT f53 rfl ?_
    refine C.sk fun K10 hK10 => ?_
    refine L.mv f53 fun a54 f54 => ?_
    refine L.mv f54 fun a55 f55 => ?_
    refine L.mv f55 fun a56 f56 => ?_
    refine L.cl f56 (run_call Tryd.call27 (args3 f56 rfl rfl rfl)) (done_any B p s i x now _ (hS.mod HK0 (by simp)) hf (by omega)) ?_
    clear f52 f53 a51 f54 a54 f55 a55
    rintro e w3 ⟨s2, A2, c2, pks, rfl, HS2, hab, hpp, hL2, kc3, PK⟩
    have hl10 := done_len hpp
    have szz := HK.size
    replace PK := PK.lower (w1 := w) szz
    refine ⟨_, rfl, fun a57 f57 => ?_⟩
    have szw3 := kc3.size
    replace HK := HK.step kc3 (by decide) (by simp) (by omega)
    clear f56 a56 kc3
    refine L.ag f57 fun a58 f58 => ?_
    have f59 := f58.pk [6]
    refine wn hK10 (wp_ret ?_); (try simp only [xt, xb]); refine C.ret f59 rfl rfl ?_
    exact ⟨s2, A2, c2, pks, rfl, HS2, by rw [ack_at hri hf, if_pos (by simp_all), hab, hpp], hL2, HK, PK, hl10⟩
   refine C.condF f53 rfl ?_
   refine C.sk fun K11 hK11 => ?_
   refine L.fa 0 f53 U44 rfl wsz3_l fun a54 f54 => ?_
   refine L.va f54 (E.load f54 U3 rfl rfl (Bg0.cl hp0)) fun a55 f55 => ?_
   refine L.va f55 (E.eql f55 rfl rfl) fun a56 f56 => ?_
   refine L.mv f56 fun a57 f57 => ?_
   clear f52 f53 a51 f54 a54 f55 a55 f56 a56
   refine f57.splitD 52 rfl (fun h5 f58 => ?_) (fun h5 f58 => ?_)
   ·refine L.mv f58 (hw := (f58.yes rfl rfl)) fun a59 f59 => ?_
    refine L.va f59 (E.nilCheck f59 rfl) (hw := (f59.yes rfl rfl)) fun a60 f60 => ?_
    refine L.fa 0 f60 U67 rfl wsz38_l (hw := (f60.yes rfl rfl)) fun a61 f61 => ?_
    refine L.fa 2 f61 U38 rfl wsz3_l (hw := (f61.yes rfl rfl)) fun a62 f62 => ?_
    refine L.va f62 (E.load f62 U3 rfl rfl (fly_cell (Sl.of_own FL.own) hA hf 2 rfl (show off + i * 7 + 0 + 2 = _ by omega))) (hw := (f62.yes rfl rfl)) fun a63 f63 => ?_
    refine L.va f63 (E.eql f63 rfl rfl) (hw := (f63.yes rfl rfl)) fun a64 f64 => ?_
    refine L.va f64 (E.pickT f64 rfl rfl) fun a65 f65 => ?_
    clear f57 f58 a57 f59 a59 f60 a60 f61 a61 f62 a62 f63 a63 f64 a64
    refine L.ag f65 fun a66 f66 => ?_
    refine wn hK11 ?_
    have f67 := f66.pk [2, 6, 8, 48]
    clear f65 a65 f66
    refine f67.splitD 48 rfl (fun h6 f68 => ?_) (fun h6 f68 => ?_)
    ·refine C.condT f68 rfl ?_
     refine C.sk fun K12 hK12 => ?_
     refine L.mv f68 fun a69 f69 => ?_
     refine L.mv f69 fun a70 f70 => ?_
     refine L.mv f70 fun a71 f71 => ?_
     refine L.cl f71 (run_call Tryd.call28 (args1 f71 rfl)) (near_any now _) ?_
     clear f67 f68 a66 f69 a69 f70 a70
     rintro e w2x ⟨rfl, rfl⟩
     refine ⟨_, rfl, fun a72 f72 => ?_⟩
     refine L.va f72 (E.nilCheck f72 rfl) fun a73 f73 => ?_
     refine L.fa 6 f73 U67 rfl wsz4_l fun a74 f74 => ?_
     refine L.storeO f74 wantedN wsz4_l (j := i * 7 + 6) hA FL.own rfl (show off + i * 7 + 6 = _ by omega) (by rw [fcell_len]; omega) rfl rfl fun a75 w3 f75 OW2 ks => ?_
     have szw3 := ks.size
     have KM : Mod [67] [] B _ w3 := .of_own1 hA ks FL.own hS.fly.loA (by simp)
     have FL1 := FL.set hf (f' := { x with rc := true }) KM OW2 rfl rfl
     replace HK := HK.step KM (by decide) (by simp) (by omega)
     replace HK1 := HK1.step KM (by decide) (by simp) (by omega)
     replace BP := BP.mod KM (by decide)
     replace Bg0 := Bg0.mod KM (by decide)
     clear f71 a71 f72 a72 f73 a73 f74 a74 ks KM OW2
     refine L.va f75 (E.nilCheck f75 rfl) fun a76 f76 => ?_
     refine L.fa 5 f76 U67 rfl wsz3_l fun a77 f77 => ?_
     refine L.storeO f77 wantedN wsz3_l (j := i * 7 + 5) hA FL1.own rfl (show off + i * 7 + 5 = _ by omega) (by rw [fcell_len]; omega) rfl rfl fun a78 w4 f78 OW2 ks => ?_
     have szw4 := ks.size
     have KM : Mod [67] [] B _ w4 := .of_own1 hA ks FL1.own hS.fly.loA (by simp)
     have FL2 := FL1.set (set_at hi4 (f' := { x with rc := true })) (f' := { x with rc := true, at_ := nearI now }) KM OW2 rfl rfl
     replace HK := HK.step KM (by decide) (by simp) (by omega)
     replace HK1 := HK1.step KM (by decide) (by simp) (by omega)
     replace BP := BP.mod KM (by decide)
     replace Bg0 := Bg0.mod KM (by decide)
     clear f75 a75 f76 a76 f77 a77 ks KM OW2
     have f79 := f78.pk [6, 8]
     refine wn hK12 (C.sk fun K13 hK13 => ?_)
     refine L.mv f79 fun a80 f80 => ?_
     refine L.va f80 (E.nilCheck f80 rfl) fun a81 f81 => ?_
     refine L.fa 4 f81 U67 rfl wsz3_l fun a82 f82 => ?_
     refine L.va f82 (E.load f82 U3 rfl rfl (fly_cell (Sl.of_own FL2.own) hA (set_at (l := s.fly.set i { x with rc := true }) (by simp; omega) (f' := { x with rc := true, at_ := nearI now })) 4 rfl (show off + i * 7 + 4 = _ by omega))) fun a83 f83 => ?_
     refine L.cl f83 (run_call Tryd.call29 (args2 f83 rfl rfl)) (reply_any 6 x.id _) ?_
     clear f78 f79 a78 f80 a80 f81 a81 f82 a82
     rintro e w5 ⟨g9, rfl, kc5, B9, lo9⟩
     have lo9' : w.heap.size ≤ g9 := by have := HK.size; omega
     refine ⟨_, rfl, fun a84 f84 => ?_⟩
     have szw5 := kc5.size
     replace HK := HK.trans (.of_kept0 kc5)
     replace HK1 := HK1.trans (.of_kept0 kc5)
     replace BP := BP.z kc5
     replace Bg0 := Bg0.z kc5
     replace FL2 := FL2.mod (Mod.of_kept0 (T := []) (M := []) (B := B) kc5) (by decide)
     clear f83 a83 kc5
     refine L.ag f84 fun a85 f85 => ?_
     have f86 := f85.pk [6]
     refine wn hK13 (wp_ret ?_); (try simp only [xt, xb]); refine C.ret f86 rfl rfl ?_
     exact ack_fin hS hf HK HK1 BP FL2 (by rw [ack_at hri hf, if_neg (by simp_all), if_pos (by simp_all)]) B9 lo9' (by omega)
    refine C.condF f68 rfl ?_
    refine wp_skip (hK5 _ _ ?_)
    have f69 := f68.pk [6]
    refine C.sk fun K14 hK14 => ?_
    refine L.ag f69 fun a70 f70 => ?_
    have f71 := f70.pk [6]
    refine wn hK14 (wp_ret ?_); (try simp only [xt, xb]); refine C.ret f71 rfl rfl ?_
    exact ⟨s, none, 0, [], rfl, hS.mod HK0 (by simp), by rw [ack_at hri hf, if_neg (by simp_all), if_neg (by simp_all)]; rfl, ⟨rfl, rfl, rfl⟩, HK, PkAt.nil _ _ _, by simp⟩
   refine L.run f58 (rest' := []) (by kernel_rfl) fun a59 f59 => ?_
   clear f57
   refine wn hK11 ?_
   have f60 := f59.sub (sv 48 (.bool false) (pkR f59 [2, 6, 8]))
   refine C.condF f60 rfl ?_
   refine wp_skip (hK5 _ _ ?_)
   have f61 := f60.pk [6]
   refine C.sk fun K15 hK15 => ?_
   refine L.ag f61 fun a62 f62 => ?_
   have f63 := f62.pk [6]
   refine wn hK15 (wp_ret ?_); (try simp only [xt, xb]); refine C.ret f63 rfl rfl ?_
   exact ⟨s, none, 0, [], rfl, hS.mod HK0 (by simp), by rw [ack_at hri hf, if_neg (by simp_all), if_neg (by simp_all)]; rfl, ⟨rfl, rfl, rfl⟩, HK, PkAt.nil _ _ _, by simp⟩
  refine L.run f45 (rest' := []) (by kernel_rfl) fun a46 f46 => ?_
  clear f44
  refine wn hK7 ?_
  have f47 := f46.sub (sv 23 (.bool false) (pkR f46 [0, 2, 4, 6, 7, 8]))
  refine C.condF f47 rfl ?_
  refine C.sk fun K16 hK16 => ?_
  refine L.fa 0 f47 U44 rfl wsz3_l fun a48 f48 => ?_
  refine L.va f48 (E.load f48 U3 rfl rfl (Bg0.cl hp0)) fun a49 f49 => ?_
  refine L.va f49 (E.eql f49 rfl rfl) fun a50 f50 => ?_
  refine L.mv f50 fun a51 f51 => ?_
  clear f46 f45 f47 a46 f48 a48 f49 a49 f50 a50
  refine f51.splitD 52 rfl (fun h7 f52 => ?_) (fun h7 f52 => ?_)
  ·refine L.mv f52 (hw := (f52.yes rfl rfl)) fun a53 f53 => ?_
   refine L.va f53 (E.nilCheck f53 rfl) (hw := (f53.yes rfl rfl)) fun a54 f54 => ?_
   refine L.fa 0 f54 U67 rfl wsz38_l (hw := (f54.yes rfl rfl)) fun a55 f55 => ?_
   refine L.fa 2 f55 U38 rfl wsz3_l (hw := (f55.yes rfl rfl)) fun a56 f56 => ?_
   refine L.va f56 (E.load f56 U3 rfl rfl (fly_cell (Sl.of_own FL.own) hA hf 2 rfl (show off + i * 7 + 0 + 2 = _ by omega))) (hw := (f56.yes rfl rfl)) fun a57 f57 => ?_
   refine L.va f57 (E.eql f57 rfl rfl) (hw := (f57.yes rfl rfl)) fun a58 f58 => ?_
   refine L.va f58 (E.pickT f58 rfl rfl) fun a59 f59 => ?_
   clear f51 f52 a51 f53 a53 f54 a54 f55 a55 f56 a56 f57 a57 f58 a58
   refine L.ag f59 fun a60 f60 => ?_
   refine wn hK16 ?_
   have f61 := f60.pk [2, 6, 8, 48]
   clear f59 a59 f60
   refine f61.splitD 48 rfl (fun h8 f62 => ?_) (fun h8 f62 => ?_)
   ·refine C.condT f62 rfl ?_
    refine C.sk fun K17 hK17 => ?_
    refine L.mv f62 fun a63 f63 => ?_
    refine L.mv f63 fun a64 f64 => ?_
    refine L.mv f64 fun a65 f65 => ?_
    refine L.cl f65 (run_call Tryd.call28 (args1 f65 rfl)) (near_any now _) ?_
    clear f61 f62 a60 f63 a63 f64 a64
    rintro e w2x ⟨rfl, rfl⟩
    refine ⟨_, rfl, fun a66 f66 => ?_⟩
    refine L.va f66 (E.nilCheck f66 rfl) fun a67 f67 => ?_
    refine L.fa 6 f67 U67 rfl wsz4_l fun a68 f68 => ?_
    refine L.storeO f68 wantedN wsz4_l (j := i * 7 + 6) hA FL.own rfl (show off + i * 7 + 6 = _ by omega) (by rw [fcell_len]; omega) rfl rfl fun a69 w3 f69 OW2 ks => ?_
    have szw3 := ks.size
    have KM : Mod [67] [] B _ w3 := .of_own1 hA ks FL.own hS.fly.loA (by simp)
    have FL1 := FL.set hf (f' := { x with rc := true }) KM OW2 rfl rfl
    replace HK := HK.step KM (by decide) (by simp) (by omega)
    replace HK1 := HK1.step KM (by decide) (by simp) (by omega)
    replace BP := BP.mod KM (by decide)
    replace Bg0 := Bg0.mod KM (by decide)
    clear f65 a65 f66 a66 f67 a67 f68 a68 ks KM OW2
    refine L.va f69 (E.nilCheck f69 rfl) fun a70 f70 => ?_
    refine L.fa 5 f70 U67 rfl wsz3_l fun a71 f71 => ?_
    refine L.storeO f71 wantedN wsz3_l (j := i * 7 + 5) hA FL1.own rfl (show off + i * 7 + 5 = _ by omega) (by rw [fcell_len]; omega) rfl rfl fun a72 w4 f72 OW2 ks => ?_
    have szw4 := ks.size
    have KM : Mod [67] [] B _ w4 := .of_own1 hA ks FL1.own hS.fly.loA (by simp)
    have FL2 := FL1.set (set_at hi4 (f' := { x with rc := true })) (f' := { x with rc := true, at_ := nearI now }) KM OW2 rfl rfl
    replace HK := HK.step KM (by decide) (by simp) (by omega)
    replace HK1 := HK1.step KM (by decide) (by simp) (by omega)
    replace BP := BP.mod KM (by decide)
    replace Bg0 := Bg0.mod KM (by decide)
    clear f69 a69 f70 a70 f71 a71 ks KM OW2
    have f73 := f72.pk [6, 8]
    refine wn hK17 (C.sk fun K18 hK18 => ?_)
    refine L.mv f73 fun a74 f74 => ?_
    refine L.va f74 (E.nilCheck f74 rfl) fun a75 f75 => ?_
    refine L.fa 4 f75 U67 rfl wsz3_l fun a76 f76 => ?_
    refine L.va f76 (E.load f76 U3 rfl rfl (fly_cell (Sl.of_own FL2.own) hA (set_at (l := s.fly.set i { x with rc := true }) (by simp; omega) (f' := { x with rc := true, at_ := nearI now })) 4 rfl (show off + i * 7 + 4 = _ by omega))) fun a77 f77 => ?_
    refine L.cl f77 (run_call Tryd.call29 (args2 f77 rfl rfl)) (reply_any 6 x.id _) ?_
    clear f72 f73 a72 f74 a74 f75 a75 f76 a76
    rintro e w5 ⟨g9, rfl, kc5, B9, lo9⟩
    have lo9' : w.heap.size ≤ g9 := by have := HK.size; omega
    refine ⟨_, rfl, fun a78 f78 => ?_⟩
    have szw5 := kc5.size
    replace HK := HK.trans (.of_kept0 kc5)
    replace HK1 := HK1.trans (.of_kept0 kc5)
    replace BP := BP.z kc5
    replace Bg0 := Bg0.z kc5
    replace FL2 := FL2.mod (Mod.of_kept0 (T := []) (M := []) (B := B) kc5) (by decide)
    clear f77 a77 kc5
    refine L.ag f78 fun a79 f79 => ?_
    have f80 := f79.pk [6]
    refine wn hK18 (wp_ret ?_); (try simp only [xt, xb]); refine C.ret f80 rfl rfl ?_
    exact ack_fin hS hf HK HK1 BP FL2 (by rw [ack_at hri hf, if_neg (by simp_all), if_pos (by simp_all)]) B9 lo9' (by omega)
   refine C.condF f62 rfl ?_
   refine wp_skip (hK5 _ _ ?_)
   have f63 := f62.pk [6]
   refine C.sk fun K19 hK19 => ?_
   refine L.ag f63 fun a64 f64 => ?_
   have f65 := f64.pk [6]
   refine wn hK19 (wp_ret ?_); (try simp only [xt, xb]); refine C.ret f65 rfl rfl ?_
   exact ⟨s, none, 0, [], rfl, hS.mod HK0 (by simp), by rw [ack_at hri hf, if_neg (by simp_all), if_neg (by simp_all)]; rfl, ⟨rfl, rfl, rfl⟩, HK, PkAt.nil _ _ _, by simp⟩
  refine L.run f52 (rest' := []) (by kernel_rfl) fun a53 f53 => ?_
  clear f51
  refine wn hK16 ?_
  have f54 := f53.sub (sv 48 (.bool false) (pkR f53 [2, 6, 8]))
  refine C.condF f54 rfl ?_
  refine wp_skip (hK5 _ _ ?_)
  have f55 := f54.pk [6]
  refine C.sk fun K20 hK20 => ?_
  refine L.ag f55 fun a56 f56 => ?_
  have f57 := f56.pk [6]
  refine wn hK20 (wp_ret ?_); (try simp only [xt, xb]); refine C.ret f57 rfl rfl ?_
  exact ⟨s, none, 0, [], rfl, hS.mod HK0 (by simp), by rw [ack_at hri hf, if_neg (by simp_all), if_neg (by simp_all)]; rfl, ⟨rfl, rfl, rfl⟩, HK, PkAt.nil _ _ _, by simp⟩
 refine L.run f30 (rest' := []) (by kernel_rfl) fun a31 f31 => ?_
 clear f29
 refine wn hK8 ?_
 have f32 := f31.sub (sv 23 (.bool false) (pkR f31 [0, 2, 4, 6, 7, 8]))
 refine C.condF f32 rfl ?_
 refine C.region ?_
 refine L.fa 0 f32 U44 rfl wsz3_l fun a33 f33 => ?_
 refine L.va f33 (E.load f33 U3 rfl rfl (Bg0.cl hp0)) fun a34 f34 => ?_
 refine L.va f34 (E.eql f34 rfl rfl) fun a35 f35 => ?_
 refine L.mv f35 fun a36 f36 => ?_
 clear f31 f30 f32 a31 f33 a33 f34 a34 f35 a35
 refine f36.splitD 38 rfl (fun h9 f37 => ?_) (fun h9 f37 => ?_)
 ·refine L.mv f37 (hw := (f37.yes rfl rfl)) fun a38 f38 => ?_
  refine L.va f38 (E.nilCheck f38 rfl) (hw := (f38.yes rfl rfl)) fun a39 f39 => ?_
  refine L.fa 6 f39 U67 rfl wsz4_l (hw := (f39.yes rfl rfl)) fun a40 f40 => ?_
  refine L.va f40 (E.load f40 U4 rfl rfl (fly_cell (Sl.of_own FL.own) hA hf 6 rfl (show off + i * 7 + 6 = _ by omega))) (hw := (f40.yes rfl rfl)) fun a41 f41 => ?_
  refine L.va f41 (E.pickT f41 rfl rfl) fun a42 f42 => ?_
  refine L.ag f42 fun a43 f43 => ?_
  refine wn hK7 ?_
  have f44 := f43.pk [0, 2, 4, 6, 7, 8, 23]
  clear f36 f37 a36 f38 a38 f39 a39 f40 a40 f41 a41 f42 a42 f43
  refine f44.split 23 rfl (fun h10 f45 => ?_) (fun h10 f45 => ?_)
  ·refine C.condT f45 rfl ?_
   refine C.sk fun K21 hK21 => ?_
   refine L.mv f45 fun a46 f46 => ?_
   refine L.mv f46 fun a47 f47 => ?_
   refine L.mv f47 fun a48 f48 => ?_
   refine L.cl f48 (run_call Tryd.call27 (args3 f48 rfl rfl rfl)) (done_any B p s i x now _ (hS.mod HK0 (by simp)) hf (by omega)) ?_
   clear f44 f45 a43 f46 a46 f47 a47
   rintro e w3 ⟨s2, A2, c2, pks, rfl, HS2, hab, hpp, hL2, kc3, PK⟩
   have hl10 := done_len hpp
   have szz := HK.size
   replace PK := PK.lower (w1 := w) szz
   refine ⟨_, rfl, fun a49 f49 => ?_⟩
   have szw3 := kc3.size
   replace HK := HK.step kc3 (by decide) (by simp) (by omega)
   clear f48 a48 kc3
   refine L.ag f49 fun a50 f50 => ?_
   have f51 := f50.pk [6]
   refine wn hK21 (wp_ret ?_); (try simp only [xt, xb]); refine C.ret f51 rfl rfl ?_
   exact ⟨s2, A2, c2, pks, rfl, HS2, by rw [ack_at hri hf, if_pos (by simp_all), hab, hpp], hL2, HK, PK, hl10⟩
  refine C.condF f45 rfl ?_
  refine C.sk fun K22 hK22 => ?_
  refine L.fa 0 f45 U44 rfl wsz3_l fun a46 f46 => ?_
  refine L.va f46 (E.load f46 U3 rfl rfl (Bg0.cl hp0)) fun a47 f47 => ?_
  refine L.va f47 (E.eql f47 rfl rfl) fun a48 f48 => ?_
  refine L.mv f48 fun a49 f49 => ?_
  clear f44 f45 a43 f46 a46 f47 a47 f48 a48
  refine f49.splitD 52 rfl (fun h11 f50 => ?_) (fun h11 f50 => ?_)
  ·refine L.mv f50 (hw := (f50.yes rfl rfl)) fun a51 f51 => ?_
   refine L.va f51 (E.nilCheck f51 rfl) (hw := (f51.yes rfl rfl)) fun a52 f52 => ?_
   refine L.fa 0 f52 U67 rfl wsz38_l (hw := (f52.yes rfl rfl)) fun a53 f53 => ?_
   refine L.fa 2 f53 U38 rfl wsz3_l (hw := (f53.yes rfl rfl)) fun a54 f54 => ?_
   refine L.va f54 (E.load f54 U3 rfl rfl (fly_cell (Sl.of_own FL.own) hA hf 2 rfl (show off + i * 7 + 0 + 2 = _ by omega))) (hw := (f54.yes rfl rfl)) fun a55 f55 => ?_
   refine L.va f55 (E.eql f55 rfl rfl) (hw := (f55.yes rfl rfl)) fun a56 f56 => ?_
   refine L.va f56 (E.pickT f56 rfl rfl) fun a57 f57 => ?_
   clear f49 f50 a49 f51 a51 f52 a52 f53 a53 f54 a54 f55 a55 f56 a56
   refine L.ag f57 fun a58 f58 => ?_
   refine wn hK22 ?_
   have f59 := f58.pk [2, 6, 8, 48]
   clear f57 a57 f58
   refine f59.splitD 48 rfl (fun h12 f60 => ?_) (fun h12 f60 => ?_)
   ·refine C.condT f60 rfl ?_
    refine C.sk fun K23 hK23 => ?_
    refine L.mv f60 fun a61 f61 => ?_
    refine L.mv f61 fun a62 f62 => ?_
    refine L.mv f62 fun a63 f63 => ?_
    refine L.cl f63 (run_call Tryd.call28 (args1 f63 rfl)) (near_any now _) ?_
    clear f59 f60 a58 f61 a61 f62 a62
    rintro e w2x ⟨rfl, rfl⟩
    refine ⟨_, rfl, fun a64 f64 => ?_⟩
    refine L.va f64 (E.nilCheck f64 rfl) fun a65 f65 => ?_
    refine L.fa 6 f65 U67 rfl wsz4_l fun a66 f66 => ?_
    refine L.storeO f66 wantedN wsz4_l (j := i * 7 + 6) hA FL.own rfl (show off + i * 7 + 6 = _ by omega) (by rw [fcell_len]; omega) rfl rfl fun a67 w3 f67 OW2 ks => ?_
    have szw3 := ks.size
    have KM : Mod [67] [] B _ w3 := .of_own1 hA ks FL.own hS.fly.loA (by simp)
    have FL1 := FL.set hf (f' := { x with rc := true }) KM OW2 rfl rfl
    replace HK := HK.step KM (by decide) (by simp) (by omega)
    replace HK1 := HK1.step KM (by decide) (by simp) (by omega)
    replace BP := BP.mod KM (by decide)
    replace Bg0 := Bg0.mod KM (by decide)
    clear f63 a63 f64 a64 f65 a65 f66 a66 ks KM OW2
    refine L.va f67 (E.nilCheck f67 rfl) fun a68 f68 => ?_
    refine L.fa 5 f68 U67 rfl wsz3_l fun a69 f69 => ?_
    refine L.storeO f69 wantedN wsz3_l (j := i * 7 + 5) hA FL1.own rfl (show off + i * 7 + 5 = _ by omega) (by rw [fcell_len]; omega) rfl rfl fun a70 w4 f70 OW2 ks => ?_
    have szw4 := ks.size
    have KM : Mod [67] [] B _ w4 := .of_own1 hA ks FL1.own hS.fly.loA (by simp)
    have FL2 := FL1.set (set_at hi4 (f' := { x with rc := true })) (f' := { x with rc := true, at_ := nearI now }) KM OW2 rfl rfl
    replace HK := HK.step KM (by decide) (by simp) (by omega)
    replace HK1 := HK1.step KM (by decide) (by simp) (by omega)
    replace BP := BP.mod KM (by decide)
    replace Bg0 := Bg0.mod KM (by decide)
    clear f67 a67 f68 a68 f69 a69 ks KM OW2
    have f71 := f70.pk [6, 8]
    refine wn hK23 (C.sk fun K24 hK24 => ?_)
    refine L.mv f71 fun a72 f72 => ?_
    refine L.va f72 (E.nilCheck f72 rfl) fun a73 f73 => ?_
    refine L.fa 4 f73 U67 rfl wsz3_l fun a74 f74 => ?_
    refine L.va f74 (E.load f74 U3 rfl rfl (fly_cell (Sl.of_own FL2.own) hA (set_at (l := s.fly.set i { x with rc := true }) (by simp; omega) (f' := { x with rc := true, at_ := nearI now })) 4 rfl (show off + i * 7 + 4 = _ by omega))) fun a75 f75 => ?_
    refine L.cl f75 (run_call Tryd.call29 (args2 f75 rfl rfl)) (reply_any 6 x.id _) ?_
    clear f70 f71 a70 f72 a72 f73 a73 f74 a74
    rintro e w5 ⟨g9, rfl, kc5, B9, lo9⟩
    have lo9' : w.heap.size ≤ g9 := by have := HK.size; omega
    refine ⟨_, rfl, fun a76 f76 => ?_⟩
    have szw5 := kc5.size
    replace HK := HK.trans (.of_kept0 kc5)
    replace HK1 := HK1.trans (.of_kept0 kc5)
    replace BP := BP.z kc5
    replace Bg0 := Bg0.z kc5
    replace FL2 := FL2.mod (Mod.of_kept0 (T := []) (M := []) (B := B) kc5) (by decide)
    clear f75 a75 kc5
    refine L.ag f76 fun a77 f77 => ?_
    have f78 := f77.pk [6]
    refine wn hK24 (wp_ret ?_); (try simp only [xt, xb]); refine C.ret f78 rfl rfl ?_
    exact ack_fin hS hf HK HK1 BP FL2 (by rw [ack_at hri hf, if_neg (by simp_all), if_pos (by simp_all)]) B9 lo9' (by omega)
   refine C.condF f60 rfl ?_
   refine wp_skip (hK5 _ _ ?_)
   have f61 := f60.pk [6]
   refine C.sk fun K25 hK25 => ?_
   refine L.ag f61 fun a62 f62 => ?_
   have f63 := f62.pk [6]
   refine wn hK25 (wp_ret ?_); (try simp only [xt, xb]); refine C.ret f63 rfl rfl ?_
   exact ⟨s, none, 0, [], rfl, hS.mod HK0 (by simp), by rw [ack_at hri hf, if_neg (by simp_all), if_neg (by simp_all)]; rfl, ⟨rfl, rfl, rfl⟩, HK, PkAt.nil _ _ _, by simp⟩
  refine L.run f50 (rest' := []) (by kernel_rfl) fun a51 f51 => ?_
  clear f49
  refine wn hK22 ?_
  have f52 := f51.sub (sv 48 (.bool false) (pkR f51 [2, 6, 8]))
  refine C.condF f52 rfl ?_
  refine wp_skip (hK5 _ _ ?_)
  have f53 := f52.pk [6]
  refine C.sk fun K26 hK26 => ?_
  refine L.ag f53 fun a54 f54 => ?_
  have f55 := f54.pk [6]
  refine wn hK26 (wp_ret ?_); (try simp only [xt, xb]); refine C.ret f55 rfl rfl ?_
  exact ⟨s, none, 0, [], rfl, hS.mod HK0 (by simp), by rw [ack_at hri hf, if_neg (by simp_all), if_neg (by simp_all)]; rfl, ⟨rfl, rfl, rfl⟩, HK, PkAt.nil _ _ _, by simp⟩
 refine L.run f37 (rest' := []) (by kernel_rfl) fun a38 f38 => ?_
 clear f36
 refine wn hK7 ?_
 have f39 := f38.sub (sv 23 (.bool false) (pkR f38 [0, 2, 4, 6, 7, 8]))
 refine C.condF f39 rfl ?_
 refine C.sk fun K27 hK27 => ?_
 refine L.fa 0 f39 U44 rfl wsz3_l fun a40 f40 => ?_
 refine L.va f40 (E.load f40 U3 rfl rfl (Bg0.cl hp0)) fun a41 f41 => ?_
 refine L.va f41 (E.eql f41 rfl rfl) fun a42 f42 => ?_
 refine L.mv f42 fun a43 f43 => ?_
 clear f38 f37 f39 a38 f40 a40 f41 a41 f42 a42
 refine f43.splitD 52 rfl (fun h13 f44 => ?_) (fun h13 f44 => ?_)
 ·refine L.mv f44 (hw := (f44.yes rfl rfl)) fun a45 f45 => ?_
  refine L.va f45 (E.nilCheck f45 rfl) (hw := (f45.yes rfl rfl)) fun a46 f46 => ?_
  refine L.fa 0 f46 U67 rfl wsz38_l (hw := (f46.yes rfl rfl)) fun a47 f47 => ?_
  refine L.fa 2 f47 U38 rfl wsz3_l (hw := (f47.yes rfl rfl)) fun a48 f48 => ?_
  refine L.va f48 (E.load f48 U3 rfl rfl (fly_cell (Sl.of_own FL.own) hA hf 2 rfl (show off + i * 7 + 0 + 2 = _ by omega))) (hw := (f48.yes rfl rfl)) fun a49 f49 => ?_
  refine L.va f49 (E.eql f49 rfl rfl) (hw := (f49.yes rfl rfl)) fun a50 f50 => ?_
  refine L.va f50 (E.pickT f50 rfl rfl) fun a51 f51 => ?_
  clear f43 f44 a43 f45 a45 f46 a46 f47 a47 f48 a48 f49 a49 f50 a50
  refine L.ag f51 fun a52 f52 => ?_
  refine wn hK27 ?_
  have f53 := f52.pk [2, 6, 8, 48]
  clear f51 a51 f52
  refine f53.splitD 48 rfl (fun h14 f54 => ?_) (fun h14 f54 => ?_)
  ·refine C.condT f54 rfl ?_
   refine C.sk fun K28 hK28 => ?_
   refine L.mv f54 fun a55 f55 => ?_
   refine L.mv f55 fun a56 f56 => ?_
   refine L.mv f56 fun a57 f57 => ?_
   refine L.cl f57 (run_call Tryd.call28 (args1 f57 rfl)) (near_any now _) ?_
   clear f53 f54 a52 f55 a55 f56 a56
   rintro e w2x ⟨rfl, rfl⟩
   refine ⟨_, rfl, fun a58 f58 => ?_⟩
   refine L.va f58 (E.nilCheck f58 rfl) fun a59 f59 => ?_
   refine L.fa 6 f59 U67 rfl wsz4_l fun a60 f60 => ?_
   refine L.storeO f60 wantedN wsz4_l (j := i * 7 + 6) hA FL.own rfl (show off + i * 7 + 6 = _ by omega) (by rw [fcell_len]; omega) rfl rfl fun a61 w3 f61 OW2 ks => ?_
   have szw3 := ks.size
   have KM : Mod [67] [] B _ w3 := .of_own1 hA ks FL.own hS.fly.loA (by simp)
   have FL1 := FL.set hf (f' := { x with rc := true }) KM OW2 rfl rfl
   replace HK := HK.step KM (by decide) (by simp) (by omega)
   replace HK1 := HK1.step KM (by decide) (by simp) (by omega)
   replace BP := BP.mod KM (by decide)
   replace Bg0 := Bg0.mod KM (by decide)
   clear f57 a57 f58 a58 f59 a59 f60 a60 ks KM OW2
   refine L.va f61 (E.nilCheck f61 rfl) fun a62 f62 => ?_
   refine L.fa 5 f62 U67 rfl wsz3_l fun a63 f63 => ?_
   refine L.storeO f63 wantedN wsz3_l (j := i * 7 + 5) hA FL1.own rfl (show off + i * 7 + 5 = _ by omega) (by rw [fcell_len]; (simp; omega)) rfl rfl fun a64 w4 f64 OW2 ks => ?_
   have szw4 := ks.size
   have KM : Mod [67] [] B _ w4 := .of_own1 hA ks FL1.own hS.fly.loA (by simp)
   have FL2 := FL1.set (set_at hi4 (f' := { x with rc := true })) (f' := { x with rc := true, at_ := nearI now }) KM OW2 rfl rfl
   replace HK := HK.step KM (by decide) (by simp) (by omega)
   replace HK1 := HK1.step KM (by decide) (by simp) (by omega)
   replace BP := BP.mod KM (by decide)
   replace Bg0 := Bg0.mod KM (by decide)
   clear f61 a61 f62 a62 f63 a63 ks KM OW2
   have f65 := f64.pk [6, 8]
   refine wn hK28 (C.sk fun K29 hK29 => ?_)
   refine L.mv f65 fun a66 f66 => ?_
   refine L.va f66 (E.nilCheck f66 rfl) fun a67 f67 => ?_
   refine L.fa 4 f67 U67 rfl wsz3_l fun a68 f68 => ?_
   refine L.va f68 (E.load f68 U3 rfl rfl (fly_cell (Sl.of_own FL2.own) hA (set_at (l := s.fly.set i { x with rc := true }) (by simp; omega) (f' := { x with rc := true, at_ := nearI now })) 4 rfl (show off + i * 7 + 4 = _ by omega))) fun a69 f69 => ?_
   refine L.cl f69 (run_call Tryd.call29 (args2 f69 rfl rfl)) (reply_any 6 x.id _) ?_
   clear f64 f65 a64 f66 a66 f67 a67 f68 a68
   rintro e w5 ⟨g9, rfl, kc5, B9, lo9⟩
   have lo9' : w.heap.size ≤ g9 := by have := HK.size; omega
   refine ⟨_, rfl, fun a70 f70 => ?_⟩
   have szw5 := kc5.size
   replace HK := HK.trans (.of_kept0 kc5)
   replace HK1 := HK1.trans (.of_kept0 kc5)
   replace BP := BP.z kc5
   replace Bg0 := Bg0.z kc5
   replace FL2 := FL2.mod (Mod.of_kept0 (T := []) (M := []) (B := B) kc5) (by decide)
   clear f69 a69 kc5
   refine L.ag f70 fun a71 f71 => ?_
   have f72 := f71.pk [6]
   refine wn hK29 (wp_ret ?_); (try simp only [xt, xb]); refine C.ret f72 rfl rfl ?_
   exact ack_fin hS hf HK HK1 BP FL2 (by rw [ack_at hri hf, if_neg (by simp_all), if_pos (by simp_all)]) B9 lo9' (by omega)
  refine C.condF f54 rfl ?_
  refine wp_skip (hK5 _ _ ?_)
  have f55 := f54.pk [6]
  refine C.sk fun K30 hK30 => ?_
  refine L.ag f55 fun a56 f56 => ?_
  have f57 := f56.pk [6]
  refine wn hK30 (wp_ret ?_); (try simp only [xt, xb]); refine C.ret f57 rfl rfl ?_
  exact ⟨s, none, 0, [], rfl, hS.mod HK0 (by simp), by rw [ack_at hri hf, if_neg (by simp_all), if_neg (by simp_all)]; rfl, ⟨rfl, rfl, rfl⟩, HK, PkAt.nil _ _ _, by simp⟩
 refine L.run f44 (rest' := []) (by kernel_rfl) fun a45 f45 => ?_
 clear f43
 refine wn hK27 ?_
 have f46 := f45.sub (sv 48 (.bool false) (pkR f45 [2, 6, 8]))
 refine C.condF f46 rfl ?_
 refine wp_skip (hK5 _ _ ?_)
 have f47 := f46.pk [6]
 refine C.sk fun K31 hK31 => ?_
 refine L.ag f47 fun a48 f48 => ?_
 have f49 := f48.pk [6]
 refine wn hK31 (wp_ret ?_); (try simp only [xt, xb]); refine C.ret f49 rfl rfl ?_
 exact ⟨s, none, 0, [], rfl, hS.mod HK0 (by simp), by rw [ack_at hri hf, if_neg (by simp_all), if_neg (by simp_all)]; rfl, ⟨rfl, rfl, rfl⟩, HK, PkAt.nil _ _ _, by simp⟩
theorem got_any (B p : Nat) (s : Ses) (kind qos id : Int) (pcs : Array Value) (hp0 : pcs.toList[0]? = some (.int .i64 kind)) (hp4 : pcs.toList[4]? = some (.int .i64 id)) (hp3 : pcs.toList[3]? = some (.int .i64 qos)) (w : World) (hS : SesAt B w p s) (hB : B ≤ w.heap.size) (hwf : (Lit.int .i64 id).wf = true) (hgl : s.got.length < maxLen) : Calls Tryd.prog 13 #[.pointer (some ⟨p, 0, none⟩), .agg pcs] w (GotPost B p s (gotS s.abs kind qos id) w) := by
 have HK : Mod [] [s.im, s.gm] B w w := .refl _ _ _ _
 have HK2 : Mod [] [s.gm] B w w := .refl _ _ _ _
 have HK0 : Mod [] [] B w w := .refl _ _ _ _
 have BP := hS.top
 have IG := hS.got
 have hmap := hS.got.map
 have hpg : p ≠ s.gm := fun h => hS.top.not_map (h ▸ hmap)
 refine C.enter Tryd.func13 rfl Tryd.ntmps13 rfl ?_
 intro a0 f0
 have f1 : Fr 63 a0 [(0, .pointer (some ⟨p, 0, none⟩)), (1, .agg pcs)] := f0
 refine C.sk fun K0 hK0 => ?_
 refine L.box f1 wantedN (by decide) rfl rfl fun a2 w1 g0 N0 f2 => ?_
 have Bg0 := N0.blk
 have kg0 := N0.kept
 have log0 := N0.lo
 have ltg0 := Bg0.lt
 have szw1 := kg0.size
 have frg0 : w.heap.size ≤ g0 := Nat.le_trans HK.size log0
 have nep_g0 : p ≠ g0 := by have := BP.lt; omega
 replace HK := HK.trans (.of_kept0 kg0)
 replace HK2 := HK2.trans (.of_kept0 kg0)
 replace HK0 := HK0.trans (.of_kept0 kg0)
 replace BP := BP.z kg0
 replace IG := IG.mod (Mod.of_kept0 (T := []) (M := []) (B := B) kg0) (by simp)
 clear f0 N0 kg0
 refine L.ag f2 fun a3 f3 => ?_
 refine L.ag f3 fun a4 f4 => ?_
 refine wn hK0 ?_
 have f5 := f4.pk [0, 3, 4, 5]
 refine wp_seq_k fun K1 hK1 => ?_
 refine wp_block ?_
 refine C.sk fun K2 hK2 => ?_
 refine L.fa 0 f5 U44 rfl wsz3_l fun a6 f6 => ?_
 refine L.va f6 (E.load f6 U3 rfl rfl (Bg0.cl hp0)) fun a7 f7 => ?_
 refine L.va f7 (E.eql f7 rfl rfl) fun a8 f8 => ?_
 refine L.ag f8 fun a9 f9 => ?_
 clear f1 a0 f2 a2 f3 a3 f4 f5 a4 f6 a6 f7 a7 f8 a8
 refine wn hK2 ?_
 have f10 := f9.pk [0, 3, 4, 5, 7]
 clear f9
 refine f10.splitD 7 rfl (fun h0 f11 => ?_) (fun h0 f11 => ?_)
 ·have hk6 := h0
  refine C.condT f11 rfl ?_
  refine wp_seq_k fun K3 hK3 => ?_
  have KN := Kept.refl [] w1
  have hg0g : g0 ≠ s.gm := by have := hS.got.lt; omega
  refine R.begin (S := fun W => Kept [s.gm] w1 W) (by kernel_rfl) (by exact (Kept.refl _ _).drewN 1) ?_
  have hS2 : Kept [s.gm] w1 (w1.drewN 1) := (Kept.refl _ _).drewN 1
  have hd2 : Kept [] w1 (w1.drewN 1) := (Kept.refl _ _).drewN 1
  obtain ⟨w2, hww2⟩ : ∃ W, W = w1.drewN 1 := ⟨_, rfl⟩
  rw [← hww2] at hS2 hd2 ⊢
  clear f10 hww2
  have szw2 := hS2.size
  replace KN := KN.trans hd2 (by simp)
  refine R.mv 0 f11 rfl hS2 fun a12 f12 => ?_
  refine R.t 1 f12 rfl hS2 (fun W hW => (E.nilCheck f12 rfl)) fun a13 f13 => ?_
  refine R.t 2 f13 rfl hS2 (fun W hW => (E.fa 5 f13 U56 rfl wsz53_l)) fun a14 f14 => ?_
  refine R.t 3 f14 rfl hS2 (fun W hW => (E.load f14 U53 rfl rfl ((BP.kept hW (by first | simpa using hpg | simpa using hg0g)).cl rfl))) fun a15 f15 => ?_
  refine R.t 4 f15 rfl hS2 (fun W hW => (E.fa 4 f15 U44 rfl wsz3_l)) fun a16 f16 => ?_
  refine R.t 5 f16 rfl hS2 (fun W hW => (E.load f16 U3 rfl rfl ((Bg0.kept hW (by simpa using hg0g)).cl hp4))) fun a17 f17 => ?_
  refine R.one 6 (by kernel_rfl) ?_
  refine O.mapDrop f17 rfl wantedN (IG.kept KN (by simp)) U3 U53 rfl rfl hwf (fun _ hk => hS2.trans hk (by simp)) fun a18 w3 IN ks f18 => ?_
  replace hS2 := hS2.trans ks (by simp)
  have szw3 := ks.size
  clear f11 a9 f12 a12 f13 a13 f14 a14 f15 a15 f16 a16 f17 a17 ks
  have szw3r := hS2.size
  have KM : Mod [] [s.gm] B _ w3 := Mod.of_kept hS2 (fun x hx _ => by obtain rfl := List.mem_singleton.1 hx; exact ⟨hS.log, .inr ⟨IG.map, by simp⟩⟩)
  replace HK := HK.step KM (by decide) (by simp) (by omega)
  replace HK2 := HK2.step KM (by decide) (by simp) (by omega)
  replace BP := BP.kept hS2 (by simpa using hpg)
  replace Bg0 := Bg0.kept hS2 (by simpa using hg0g)
  clear hS2
  refine R.done (by kernel_rfl) (hK3 _ _ ?_)
  have f19 := f18.pk [0, 3, 4, 5]
  refine C.sk fun K4 hK4 => ?_
  refine L.fa 4 f19 U44 rfl wsz3_l fun a20 f20 => ?_
  refine L.va f20 (E.load f20 U3 rfl rfl (Bg0.cl hp4)) fun a21 f21 => ?_
  refine L.cl f21 (run_call Tryd.call29 (args2 f21 rfl rfl)) (reply_any 7 id _) ?_
  clear f18 f19 a18 f20 a20
  rintro e w4 ⟨g9, rfl, kc4, B9, lo9⟩
  have lo9' : w.heap.size ≤ g9 := by have := HK.size; omega
  refine ⟨_, rfl, fun a22 f22 => ?_⟩
  have szw4 := kc4.size
  replace HK := HK.trans (.of_kept0 kc4)
  replace HK2 := HK2.trans (.of_kept0 kc4)
  replace BP := BP.z kc4
  replace Bg0 := Bg0.z kc4
  replace IN := IN.mod (Mod.of_kept0 (T := []) (M := []) (B := B) kc4) (by simp)
  clear f21 a21 kc4
  refine L.ag f22 fun a23 f23 => ?_
  refine L.ag f23 fun a24 f24 => ?_
  have f25 := f24.pk [0, 3, 4, 5]
  refine wn hK4 (wp_ret ?_); (try simp only [xt, xb]); refine C.ret2 f25 rfl rfl rfl ?_
  exact got_fin hS HK HK2 IN (k := 7) (b := false) (by rw [gotS, if_pos hk6]; rfl) B9 (by omega)
 have hk6 := h0
 refine C.condF f11 rfl ?_
 refine C.sk fun K5 hK5 => ?_
 refine L.fa 0 f11 U44 rfl wsz3_l fun a12 f12 => ?_
 refine L.va f12 (E.load f12 U3 rfl rfl (Bg0.cl hp0)) fun a13 f13 => ?_
 refine L.va f13 (E.neq f13 rfl rfl) fun a14 f14 => ?_
 refine L.mv f14 fun a15 f15 => ?_
 clear f10 f11 a9 f12 a12 f13 a13 f14 a14
 refine f15.splitN 24 rfl (fun h1 f16 => ?_) (fun h1 f16 => ?_)
 ·refine L.run f16 (rest' := []) (by kernel_rfl) fun a17 f17 => ?_
  clear f15
  refine wn hK5 ?_
  have f18 := f17.sub (sv 20 (.bool true) (pkR f17 [0, 3, 4, 5]))
  refine C.condT f18 rfl ?_
  refine C.sk fun K6 hK6 => ?_
  refine L.ag f18 fun a19 f19 => ?_
  refine L.ag f19 fun a20 f20 => ?_
  have f21 := f20.pk [0, 3, 4, 5]
  refine wn hK6 (wp_ret ?_); (try simp only [xt, xb]); refine C.ret2 f21 rfl rfl rfl ?_
  exact got_nil hS HK HK0 (b := false) (by rw [gotS, if_neg hk6, if_pos (by omega)])
 refine L.fa 3 f16 U44 rfl wsz3_l (hw := (f16.yes rfl rfl)) fun a17 f17 => ?_
 refine L.va f17 (E.load f17 U3 rfl rfl (Bg0.cl hp3)) (hw := (f17.yes rfl rfl)) fun a18 f18 => ?_
 refine L.va f18 (E.lss f18 rfl rfl) (hw := (f18.yes rfl rfl)) fun a19 f19 => ?_
 refine L.va f19 (E.pickF f19 rfl rfl) fun a20 f20 => ?_
 refine L.mv f20 fun a21 f21 => ?_
 clear f15 f16 a15 f17 a17 f18 a18 f19 a19 f20 a20
 refine f21.splitD 29 rfl (fun h2 f22 => ?_) (fun h2 f22 => ?_)
 ·refine L.run f22 (rest' := []) (by kernel_rfl) fun a23 f23 => ?_
  clear f21
  refine wn hK5 ?_
  have f24 := f23.sub (sv 20 (.bool true) (pkR f23 [0, 3, 4, 5]))
  refine C.condT f24 rfl ?_
  refine C.sk fun K7 hK7 => ?_
  refine L.ag f24 fun a25 f25 => ?_
  refine L.ag f25 fun a26 f26 => ?_
  have f27 := f26.pk [0, 3, 4, 5]
  refine wn hK7 (wp_ret ?_); (try simp only [xt, xb]); refine C.ret2 f27 rfl rfl rfl ?_
  exact got_nil hS HK HK0 (b := false) (by rw [gotS, if_neg hk6, if_pos (by omega)])
 refine L.fa 3 f22 U44 rfl wsz3_l (hw := (f22.yes rfl rfl)) fun a23 f23 => ?_
 refine L.va f23 (E.load f23 U3 rfl rfl (Bg0.cl hp3)) (hw := (f23.yes rfl rfl)) fun a24 f24 => ?_
 refine L.va f24 (E.gtr f24 rfl rfl) (hw := (f24.yes rfl rfl)) fun a25 f25 => ?_
 refine L.va f25 (E.pickF f25 rfl rfl) fun a26 f26 => ?_
 refine L.ag f26 fun a27 f27 => ?_
 refine wn hK5 ?_
 have f28 := f27.pk [0, 3, 4, 5, 20]
 clear f21 f22 a21 f23 a23 f24 a24 f25 a25 f26 a26 f27
 refine f28.splitD 20 rfl (fun h3 f29 => ?_) (fun h3 f29 => ?_)
 ·refine C.condT f29 rfl ?_
  refine C.sk fun K8 hK8 => ?_
  refine L.ag f29 fun a30 f30 => ?_
  refine L.ag f30 fun a31 f31 => ?_
  have f32 := f31.pk [0, 3, 4, 5]
  refine wn hK8 (wp_ret ?_); (try simp only [xt, xb]); refine C.ret2 f32 rfl rfl rfl ?_
  exact got_nil hS HK HK0 (b := false) (by rw [gotS, if_neg hk6, if_pos (by omega)])
 refine C.condF f29 rfl ?_
 refine C.sk fun K9 hK9 => ?_
 refine L.fa 3 f29 U44 rfl wsz3_l fun a30 f30 => ?_
 refine L.va f30 (E.load f30 U3 rfl rfl (Bg0.cl hp3)) fun a31 f31 => ?_
 refine L.va f31 (E.eql f31 rfl rfl) fun a32 f32 => ?_
 refine L.ag f32 fun a33 f33 => ?_
 refine wn hK9 ?_
 have f34 := f33.pk [0, 3, 4, 5, 34]
 clear f28 f29 a27 f30 a30 f31 a31 f32 a32 f33
 refine f34.splitD 34 rfl (fun h4 f35 => ?_) (fun h4 f35 => ?_)
 ·have hq0 := h4
  refine C.condT f35 rfl ?_
  refine C.sk fun K10 hK10 => ?_
  refine L.ag f35 fun a36 f36 => ?_
  refine L.ag f36 fun a37 f37 => ?_
  have f38 := f37.pk [0, 3, 4, 5]
  refine wn hK10 (wp_ret ?_); (try simp only [xt, xb]); refine C.ret2 f38 rfl rfl rfl ?_
  exact got_nil hS HK HK0 (b := true) (by rw [gotS, if_neg hk6, if_neg (by omega), if_pos hq0])
 have hq0 := h4
 refine C.condF f35 rfl ?_
 refine C.sk fun K11 hK11 => ?_
 refine L.fa 3 f35 U44 rfl wsz3_l fun a36 f36 => ?_
 refine L.va f36 (E.load f36 U3 rfl rfl (Bg0.cl hp3)) fun a37 f37 => ?_
 refine L.va f37 (E.eql f37 rfl rfl) fun a38 f38 => ?_
 refine L.ag f38 fun a39 f39 => ?_
 refine wn hK11 ?_
 have f40 := f39.pk [0, 3, 4, 5, 38]
 clear f34 f35 a33 f36 a36 f37 a37 f38 a38 f39
 refine f40.splitD 38 rfl (fun h5 f41 => ?_) (fun h5 f41 => ?_)
 ·have hq1 := h5
  refine C.condT f41 rfl ?_
  refine C.sk fun K12 hK12 => ?_
  refine L.fa 4 f41 U44 rfl wsz3_l fun a42 f42 => ?_
  refine L.va f42 (E.load f42 U3 rfl rfl (Bg0.cl hp4)) fun a43 f43 => ?_
  refine L.cl f43 (run_call Tryd.call29 (args2 f43 rfl rfl)) (reply_any 4 id _) ?_
  clear f40 f41 a39 f42 a42
  rintro e w2 ⟨g9, rfl, kc2, B9, lo9⟩
  have lo9' : w.heap.size ≤ g9 := by have := HK.size; omega
  refine ⟨_, rfl, fun a44 f44 => ?_⟩
  have szw2 := kc2.size
  replace HK := HK.trans (.of_kept0 kc2)
  replace HK2 := HK2.trans (.of_kept0 kc2)
  replace HK0 := HK0.trans (.of_kept0 kc2)
  replace BP := BP.z kc2
  replace IG := IG.mod (Mod.of_kept0 (T := []) (M := []) (B := B) kc2) (by simp)
  replace Bg0 := Bg0.z kc2
  clear f43 a43 kc2
  refine L.ag f44 fun a45 f45 => ?_
  refine L.ag f45 fun a46 f46 => ?_
  have f47 := f46.pk [0, 3, 4, 5]
  refine wn hK12 (wp_ret ?_); (try simp only [xt, xb]); refine C.ret2 f47 rfl rfl rfl ?_
  exact got_one hS HK HK0 (k := 4) (b := true) (by rw [gotS, if_neg hk6, if_neg (by omega), if_neg hq0, if_pos hq1]) B9 (by omega)
 have hq1 := h5
 refine C.condF f41 rfl ?_
 refine wp_skip (hK1 _ _ ?_)
 have f42 := f41.pk [0, 3, 4, 5]
 refine wp_seq_k fun K13 hK13 => ?_
 have hg0g : g0 ≠ s.gm := by have := hS.got.lt; omega
 refine R.begin (S := fun W => Kept [] w1 W) (by kernel_rfl) (by exact (Kept.refl _ _).drewN 1) ?_
 have hS10 : Kept [] w1 (w1.drewN 1) := (Kept.refl _ _).drewN 1
 have hd10 : Kept [] w1 (w1.drewN 1) := (Kept.refl _ _).drewN 1
 obtain ⟨w2, hww2⟩ : ∃ W, W = w1.drewN 1 := ⟨_, rfl⟩
 rw [← hww2] at hS10 hd10 ⊢
 clear f40 f41 hww2
 have szw2 := hS10.size
 refine R.mv 0 f42 rfl hS10 fun a43 f43 => ?_
 refine R.t 1 f43 rfl hS10 (fun W hW => (E.nilCheck f43 rfl)) fun a44 f44 => ?_
 refine R.t 2 f44 rfl hS10 (fun W hW => (E.fa 5 f44 U56 rfl wsz53_l)) fun a45 f45 => ?_
 refine R.t 3 f45 rfl hS10 (fun W hW => (E.load f45 U53 rfl rfl ((BP.z hW).cl rfl))) fun a46 f46 => ?_
 refine R.t 4 f46 rfl hS10 (fun W hW => (E.fa 4 f46 U44 rfl wsz3_l)) fun a47 f47 => ?_
 refine R.t 5 f47 rfl hS10 (fun W hW => (E.load f47 U3 rfl rfl ((Bg0.z hW).cl hp4))) fun a48 f48 => ?_
 refine R.t 6 f48 rfl hS10 (fun W hW => (E.look f48 (IG.kept hW (by simp)) U3 U4 U53 (fun _ => by kernel_rfl) rfl rfl hwf)) fun a49 f49 => ?_
 clear f42 a39 f43 a43 f44 a44 f45 a45 f46 a46 f47 a47 f48 a48
 refine R.t 7 f49 rfl hS10 (fun W hW => (E.assign f49 rfl)) fun a50 f50 => ?_
 have szw2r := hS10.size
 replace HK := HK.trans (.of_kept0 hS10)
 replace HK2 := HK2.trans (.of_kept0 hS10)
 replace HK0 := HK0.trans (.of_kept0 hS10)
 replace BP := BP.z hS10
 replace IG := IG.mod (Mod.of_kept0 (T := []) (M := []) (B := B) hS10) (by simp)
 replace Bg0 := Bg0.z hS10
 clear f49 a49 hS10
 refine R.done (by kernel_rfl) (hK13 _ _ ?_)
 have f51 := f50.pk [0, 3, 4, 5, 6]
 refine wp_seq_k fun K14 hK14 => ?_
 have KN := Kept.refl [] w2
 refine R.begin (S := fun W => Kept [s.gm] w2 W) (by kernel_rfl) (by exact (Kept.refl _ _).drewN 1) ?_
 have hS11 : Kept [s.gm] w2 (w2.drewN 1) := (Kept.refl _ _).drewN 1
 have hd11 : Kept [] w2 (w2.drewN 1) := (Kept.refl _ _).drewN 1
 obtain ⟨w3, hww3⟩ : ∃ W, W = w2.drewN 1 := ⟨_, rfl⟩
 rw [← hww3] at hS11 hd11 ⊢
 clear f50 hww3
 have szw3 := hS11.size
 replace KN := KN.trans hd11 (by simp)
 refine R.mv 0 f51 rfl hS11 fun a52 f52 => ?_
 refine R.t 1 f52 rfl hS11 (fun W hW => (E.nilCheck f52 rfl)) fun a53 f53 => ?_
 refine R.t 2 f53 rfl hS11 (fun W hW => (E.fa 5 f53 U56 rfl wsz53_l)) fun a54 f54 => ?_
 refine R.t 3 f54 rfl hS11 (fun W hW => (E.load f54 U53 rfl rfl ((BP.kept hW (by first | simpa using hpg | simpa using hg0g)).cl rfl))) fun a55 f55 => ?_
 refine R.t 4 f55 rfl hS11 (fun W hW => (E.fa 4 f55 U44 rfl wsz3_l)) fun a56 f56 => ?_
 refine R.t 5 f56 rfl hS11 (fun W hW => (E.load f56 U3 rfl rfl ((Bg0.kept hW (by simpa using hg0g)).cl hp4))) fun a57 f57 => ?_
 refine R.one 6 (by kernel_rfl) ?_
 refine O.mapPut f57 rfl wantedN (IG.kept KN (by simp)) U3 U4 U53 rfl rfl rfl hwf hgl (fun _ hk => hS11.trans hk (by simp)) fun a58 w4 IN ks f58 => ?_
 replace hS11 := hS11.trans ks (by simp)
 have szw4 := ks.size
 clear f51 a50 f52 a52 f53 a53 f54 a54 f55 a55 f56 a56 f57 a57 ks
 have szw4r := hS11.size
 have KM : Mod [] [s.gm] B _ w4 := Mod.of_kept hS11 (fun x hx _ => by obtain rfl := List.mem_singleton.1 hx; exact ⟨hS.log, .inr ⟨IG.map, by simp⟩⟩)
 replace HK := HK.step KM (by decide) (by simp) (by omega)
 replace HK2 := HK2.step KM (by decide) (by simp) (by omega)
 replace BP := BP.kept hS11 (by simpa using hpg)
 replace Bg0 := Bg0.kept hS11 (by simpa using hg0g)
 clear hS11
 refine R.done (by kernel_rfl) (hK14 _ _ ?_)
 have f59 := f58.pk [3, 4, 5, 6]
 refine C.sk fun K15 hK15 => ?_
 refine L.mv f59 fun a60 f60 => ?_
 refine L.va f60 (E.not f60 rfl) fun a61 f61 => ?_
 refine L.fa 4 f61 U44 rfl wsz3_l fun a62 f62 => ?_
 refine L.va f62 (E.load f62 U3 rfl rfl (Bg0.cl hp4)) fun a63 f63 => ?_
 refine L.cl f63 (run_call Tryd.call29 (args2 f63 rfl rfl)) (reply_any 5 id _) ?_
 clear f58 f59 a58 f60 a60 f61 a61 f62 a62
 rintro e w5 ⟨g9, rfl, kc5, B9, lo9⟩
 have lo9' : w.heap.size ≤ g9 := by have := HK.size; omega
 refine ⟨_, rfl, fun a64 f64 => ?_⟩
 have szw5 := kc5.size
 replace HK := HK.trans (.of_kept0 kc5)
 replace HK2 := HK2.trans (.of_kept0 kc5)
 replace BP := BP.z kc5
 replace Bg0 := Bg0.z kc5
 replace IN := IN.mod (Mod.of_kept0 (T := []) (M := []) (B := B) kc5) (by simp)
 clear f63 a63 kc5
 refine L.ag f64 fun a65 f65 => ?_
 refine L.ag f65 fun a66 f66 => ?_
 have f67 := f66.pk [4, 5]
 refine wn hK15 (wp_ret ?_); (try simp only [xt, xb]); refine C.ret2 f67 rfl rfl rfl ?_
 exact got_fin hS HK HK2 IN (k := 5) (b := !decide (id ∈ s.got)) (by rw [gotS, if_neg hk6, if_neg (by omega), if_neg hq0, if_neg hq1]; rfl) B9 (by omega)
end Go.Proofs.YtdfllmiokgoekaaDoor
namespace Go.Proofs.YtdfllmiokgoekaaDoor
open Go.RowKit Go.Hub
theorem wsz3_m : (Tryd.prog.info? 3).map (·.size) = some 1 := by kernel_rfl
theorem wsz44_m : (Tryd.prog.info? 44).map (·.size) = some 24 := by kernel_rfl
theorem wbl38_0_2_m (x0 : ByteArray) (x1 : Int) : Tryd.prog.built 38 [(0, .string x0), (2, .int .i64 x1)] = some #[.string x0, (.slice none 0 0), .int .i64 x1, (.bool false)] := by kernel_rfl
theorem wbl44_0_3_4_5_m (x0 : Int) (x1 : Int) (x2 : Int) (x3 : ByteArray) : Tryd.prog.built 44 [(0, .int .i64 x0), (3, .int .i64 x1), (4, .int .i64 x2), (5, .string x3)] = some #[.int .i64 x0, (.bool false), (.bool false), .int .i64 x1, .int .i64 x2, .string x3, (.slice none 0 0), (.int .i64 0), (.string ⟨#[]⟩), (.bool false), (.int .i64 0), (.bool false), (.string ⟨#[]⟩), (.slice none 0 0), (.int .i64 0), (.bool false), (.bool false), (.bool false), (.string ⟨#[]⟩), (.slice none 0 0), (.bool false), (.int .i64 0), (.slice none 0 0), (.slice none 0 0)] := by kernel_rfl
theorem wbl44_0_4_m (x0 : Int) (x1 : Int) : Tryd.prog.built 44 [(0, .int .i64 x0), (4, .int .i64 x1)] = some #[.int .i64 x0, (.bool false), (.bool false), (.int .i64 0), .int .i64 x1, (.string ⟨#[]⟩), (.slice none 0 0), (.int .i64 0), (.string ⟨#[]⟩), (.bool false), (.int .i64 0), (.bool false), (.string ⟨#[]⟩), (.slice none 0 0), (.int .i64 0), (.bool false), (.bool false), (.bool false), (.string ⟨#[]⟩), (.slice none 0 0), (.bool false), (.int .i64 0), (.slice none 0 0), (.slice none 0 0)] := by kernel_rfl
theorem blwm {T : List TypeId} {M : List Nat} {w W W' : World} (h : Below w.heap.size w W) (hm : Mod T M w.heap.size W W') : Below w.heap.size w W' :=
  h.trans ⟨hm.os, hm.tape, hm.output, hm.size, fun k hk => hm.block k (Nat.lt_of_lt_of_le hk h.size) (.inl hk)⟩
theorem one_of {l : List Pc} {x : Pa} (h : l.map (·.p) = [x]) : ∃ y : Pc, l = [y] ∧ y.p = x := by
  obtain ⟨y, rfl, hy⟩ := List.map_eq_singleton_iff.1 h
  exact ⟨y, rfl, hy⟩
theorem lost_of {s : Ses} {a : SA} (h : s.abs = a) : s.lost = a.lost := by rw [← h]; rfl
theorem got_of {s : Ses} {a : SA} (h : s.abs = a) : s.got = a.got := by rw [← h]; rfl
theorem fly_of {s : Ses} {a : SA} (h : s.abs = a) : s.fly.length = a.fly.length := by rw [← h, abs_fly]
theorem pk_cell {w : World} {A : Option Addr} {c : Nat} {l : List Pc} {b off i o : Nat} {x : Pc} (O : Own w 44 24 (.slice A l.length c) l.length (l.flatMap pcell)) (hA : A = some ⟨b, off, none⟩) (hf : l[i]? = some x) (j : Nat) {v : Value} (hv : (pcell x)[j]? = some v) (ho : o = off + i * 24 + j) : w.cell? ⟨b, o, none⟩ = some v := by
  subst ho
  have h := (List.getElem?_eq_some_iff.1 hf).1
  rw [Nat.add_assoc]
  exact (Sl.of_own O).cell (by omega) hA (flat_at pcell 24 (fun _ => rfl) l i x hf j v hv)
theorem known_any (w : World) : Calls Tryd.prog 4 #[] w (fun e w' => e = .returned (.bool true) ∧ Below w.heap.size w w') := by
 have HK : Below w.heap.size w w := Below.refl _ _
 refine C.enter Tryd.func4 rfl Tryd.ntmps4 rfl ?_
 intro a0 f0
 have f1 : Fr 80 a0 [] := f0
 refine C.sk fun K0 hK0 => ?_
 refine L.ag f1 fun a2 f2 => ?_
 have f3 := f2.pk [0]
 refine wn hK0 (C.sk fun K1 hK1 => ?_)
 refine L.cl f3 (run_call Tryd.call5 (args1 f3 rfl)) (new_any ⟨#[107]⟩ w.heap.size _ HK.size) ?_
 clear f0 f1 a0 f2
 rintro e w1 ⟨p, s, rfl, HS, hab, hcl, kc1⟩
 refine ⟨_, rfl, fun a4 f4 => ?_⟩
 have szw1 := kc1.size
 replace HK := blwm HK kc1
 clear f3 a2 kc1
 refine L.ag f4 fun a5 f5 => ?_
 refine wn hK1 ?_
 have f6 := f5.pk [0, 1]
 refine wp_seq_k fun K2 hK2 => C.sk fun K3 hK3 => ?_
 refine L.mv f6 fun a7 f7 => ?_
 refine L.va f7 (E.eqlP f7 Tryd.underlying24 rfl rfl) fun a8 f8 => ?_
 have f9 := f8.as (i := 11) (v' := .bool false) rfl (by rfl)
 refine wn hK3 ?_
 have f10 := f9.pk [0, 1, 11]
 refine C.condF f10 rfl ?_
 refine wp_skip (hK2 _ _ ?_)
 have f11 := f10.pk [0, 1]
 refine C.sk fun K4 hK4 => ?_
 refine L.mv f11 fun a12 f12 => ?_
 refine L.va f12 (E.build f12 (parts2 f12 rfl rfl) (wbl38_0_2_m _ _)) fun a13 f13 => ?_
 clear f4 a4 f5 f6 a5 f7 a7 f8 f9 f10 f11 a8 f12 a12
 have hC := send_any w.heap.size p s ⟨⟨#[97]⟩, [], 1, false⟩ none 0 true 0 w1 HS (Pay.nil _ _ _) HK.size (by rw [lost_of hab]; decide)
 rw [hab, show sendS newS ⟨⟨#[97]⟩, [], 1, false⟩ true 0 = (⟨[1], 1, [⟨⟨⟨#[97]⟩, [], 1, false⟩, 1, 0, false⟩], [], 0, []⟩, [⟨3, false, false, 1, 1, ⟨#[97]⟩, []⟩]) by kernel_rfl] at hC
 refine L.cl f13 (run_call Tryd.call10 (args4 f13 rfl rfl rfl rfl)) hC ?_
 rintro e w2 ⟨s1, A1, c1, pk1, rfl, HS1, hr1, hL1, kc2, PK1, -⟩
 injection hr1 with hab1 hp1
 obtain ⟨x1, rfl, hx1⟩ := one_of hp1
 refine ⟨_, rfl, fun a14 f14 => ?_⟩
 have szw2 := kc2.size
 replace HK := blwm HK kc2
 clear f13 a13 kc2
 refine L.ag f14 fun a15 f15 => ?_
 have f16 := f15.pk [0, 1, 2]
 refine wn hK4 (C.sk fun K5 hK5 => ?_)
 refine L.mv f16 fun a17 f17 => ?_
 refine L.cl f17 (run_call Tryd.call11 (args1 f17 rfl)) (flying_any p s1.fly.length s1.fc s1.FA _ _ _ _ _ _ HS1.top) ?_
 clear f14 a14 f15 f16 a15
 rintro e w2x ⟨rfl, rfl⟩
 refine ⟨_, rfl, fun a18 f18 => ?_⟩
 refine L.ag f18 fun a19 f19 => ?_
 have f20 := f19.pk [0, 1, 2, 3]
 refine wn hK5 (C.sk fun K6 hK6 => ?_)
 refine L.mv f20 fun a21 f21 => ?_
 refine L.va f21 (E.build f21 (parts2 f21 rfl rfl) (wbl44_0_4_m _ _)) fun a22 f22 => ?_
 have hC := ack_any w.heap.size p s1 4 1 1 #[(.int .i64 4), (.bool false), (.bool false), (.int .i64 0), (.int .i64 1), (.string ⟨#[]⟩), (.slice none 0 0), (.int .i64 0), (.string ⟨#[]⟩), (.bool false), (.int .i64 0), (.bool false), (.string ⟨#[]⟩), (.slice none 0 0), (.int .i64 0), (.bool false), (.bool false), (.bool false), (.string ⟨#[]⟩), (.slice none 0 0), (.bool false), (.int .i64 0), (.slice none 0 0), (.slice none 0 0)] rfl rfl w2 HS1 HK.size
 rw [hab1, show ackS ⟨[1], 1, [⟨⟨⟨#[97]⟩, [], 1, false⟩, 1, 0, false⟩], [], 0, []⟩ 4 1 1 = (⟨[], 1, [], [], 0, []⟩, []) by kernel_rfl] at hC
 refine L.cl f22 (run_call Tryd.call12 (args3 f22 rfl rfl rfl)) hC ?_
 clear f17 a17 f18 a18 f19 f20 a19 f21 a21
 rintro e w3 ⟨s2, A2, c2, pk2, rfl, HS2, hr2, hL2, kc3, PK2, -⟩
 injection hr2 with hab2 hp2
 obtain rfl := List.map_eq_nil_iff.1 hp2
 refine ⟨_, rfl, fun a23 f23 => ?_⟩
 have szw3 := kc3.size
 replace HK := blwm HK kc3
 replace PK1 := PK1.mod kc3 (by decide)
 clear f22 a22 kc3
 refine L.ag f23 fun a24 f24 => ?_
 have f25 := f24.pk [0, 1, 2, 3, 4]
 refine wn hK6 (C.sk fun K7 hK7 => ?_)
 refine L.mv f25 fun a26 f26 => ?_
 refine L.va f26 (E.build f26 (parts4 f26 rfl rfl rfl rfl) (wbl44_0_3_4_5_m _ _ _ _)) fun a27 f27 => ?_
 have hC := got_any w.heap.size p s2 3 2 5 #[(.int .i64 3), (.bool false), (.bool false), (.int .i64 2), (.int .i64 5), (.string ⟨#[97]⟩), (.slice none 0 0), (.int .i64 0), (.string ⟨#[]⟩), (.bool false), (.int .i64 0), (.bool false), (.string ⟨#[]⟩), (.slice none 0 0), (.int .i64 0), (.bool false), (.bool false), (.bool false), (.string ⟨#[]⟩), (.slice none 0 0), (.bool false), (.int .i64 0), (.slice none 0 0), (.slice none 0 0)] rfl rfl rfl w3 HS2 HK.size (by decide) (by rw [got_of hab2]; decide)
 rw [hab2, show gotS ⟨[], 1, [], [], 0, []⟩ 3 2 5 = (⟨[], 1, [], [], 0, [5]⟩, true, [ackP 5 5]) by kernel_rfl] at hC
 refine L.cl f27 (run_call Tryd.call13 (args2 f27 rfl rfl)) hC ?_
 clear f23 a23 f24 f25 a24 f26 a26
 rintro e w4 ⟨s3, A3, c3, pk3, rfl, HS3, hab3, hp3, hL3, kc4, PK3, -⟩
 obtain ⟨x3, rfl, hx3⟩ := one_of hp3
 refine ⟨_, rfl, fun a28 f28 => ?_⟩
 have szw4 := kc4.size
 replace HK := blwm HK kc4
 replace PK1 := PK1.mod kc4 (by decide)
 clear f27 a27 kc4
 refine L.mv f28 fun a29 f29 => ?_
 refine L.va f29 (E.extract f29 rfl rfl) fun a30 f30 => ?_
 have f31 := f30.as (i := 24) (v' := .bool true) rfl (by rfl)
 refine L.va f31 (E.extract f31 rfl rfl) fun a32 f32 => ?_
 refine L.ag f32 fun a33 f33 => ?_
 refine L.ag f33 fun a34 f34 => ?_
 have f35 := f34.pk [0, 1, 2, 3, 4, 5, 6]
 refine wn hK7 (C.sk fun K8 hK8 => ?_)
 refine L.mv f35 fun a36 f36 => ?_
 clear f28 a28 f29 a29 f30 f31 a30 f32 a32 f33 a33 f34 f35 a34
 refine L.va f36 (E.build f36 (parts4 f36 rfl rfl rfl rfl) (wbl44_0_3_4_5_m _ _ _ _)) fun a37 f37 => ?_
 have hC := got_any w.heap.size p s3 3 2 5 #[(.int .i64 3), (.bool false), (.bool false), (.int .i64 2), (.int .i64 5), (.string ⟨#[97]⟩), (.slice none 0 0), (.int .i64 0), (.string ⟨#[]⟩), (.bool false), (.int .i64 0), (.bool false), (.string ⟨#[]⟩), (.slice none 0 0), (.int .i64 0), (.bool false), (.bool false), (.bool false), (.string ⟨#[]⟩), (.slice none 0 0), (.bool false), (.int .i64 0), (.slice none 0 0), (.slice none 0 0)] rfl rfl rfl w4 HS3 HK.size (by decide) (by rw [got_of hab3]; decide)
 rw [hab3, show gotS ⟨[], 1, [], [], 0, [5]⟩ 3 2 5 = (⟨[], 1, [], [], 0, [5]⟩, false, [ackP 5 5]) by kernel_rfl] at hC
 refine L.cl f37 (run_call Tryd.call13 (args2 f37 rfl rfl)) hC ?_
 clear f36 a36
 rintro e w5 ⟨s4, A4, c4, pk4, rfl, HS4, hab4, hp4, hL4, kc5, PK4, -⟩
 refine ⟨_, rfl, fun a38 f38 => ?_⟩
 have szw5 := kc5.size
 replace HK := blwm HK kc5
 replace PK1 := PK1.mod kc5 (by decide)
 replace PK3 := PK3.mod kc5 (by decide)
 clear f37 a37 kc5
 refine L.mv f38 fun a39 f39 => ?_
 refine L.va f39 (E.extract f39 rfl rfl) fun a40 f40 => ?_
 have f41 := f40.as (i := 30) (v' := .bool false) rfl (by rfl)
 refine L.va f41 (E.extract f41 rfl rfl) fun a42 f42 => ?_
 refine L.ag f42 fun a43 f43 => ?_
 refine L.ag f43 fun a44 f44 => ?_
 refine wn hK8 ?_
 have f45 := f44.pk [0, 1, 2, 3, 4, 5, 6, 7]
 refine wp_seq_k fun K9 hK9 => ?_
 obtain ⟨b1, o1, hA1⟩ := (Sl.of_own PK1.fr.own).addr (by simp)
 obtain ⟨b3, o3, hA3⟩ := (Sl.of_own PK3.fr.own).addr (by simp)
 have hf1 := fly_of hab1
 have hf4 := fly_of hab4
 have hcl4 : s4.cl = ⟨#[107]⟩ := by rw [hL4.cl, hL3.cl, hL2.cl, hL1.cl, hcl]
 refine C.region ?_
 refine L.mv f45 fun a46 f46 => ?_
 clear f38 a38 f39 a39 f40 f41 a40 f42 a42 f43 a43 f44 f45 a44
 refine L.va f46 (E.lenL f46 U35 rfl) fun a47 f47 => ?_
 refine L.va f47 (E.eql f47 rfl rfl) fun a48 f48 => ?_
 have f49 := f48.as (i := 34) (v' := .bool true) rfl (by rfl)
 refine L.mv f49 fun a50 f50 => ?_
 refine L.mv f50 (hw := (f50.yes rfl rfl)) fun a51 f51 => ?_
 refine L.va f51 (E.indexA f51 hA1 U35 wsz44_m rfl rfl (by decide) (by simp)) (hw := (f51.yes rfl rfl)) fun a52 f52 => ?_
 refine L.fa 4 f52 U44 rfl wsz3_m (hw := (f52.yes rfl rfl)) fun a53 f53 => ?_
 refine L.va f53 (E.load f53 U3 rfl rfl (pk_cell PK1.fr.own hA1 (i := 0) (x := x1) rfl 4 rfl (show o1 + 0 * 24 + 4 = _ by omega))) (hw := (f53.yes rfl rfl)) fun a54 f54 => ?_
 clear f46 a46 f47 a47 f48 f49 a48 f50 a50 f51 a51 f52 a52 f53 a53
 refine L.va f54 (E.eql f54 rfl rfl) (hw := (f54.yes rfl rfl)) fun a55 f55 => ?_
 have f56 := f55.as (i := 40) (v' := .bool true) rfl (by rw [hx1]; rfl)
 refine L.va f56 (E.pickT f56 rfl rfl) fun a57 f57 => ?_
 refine L.mv f57 fun a58 f58 => ?_
 refine L.mv f58 (hw := (f58.yes rfl rfl)) fun a59 f59 => ?_
 refine L.va f59 (E.eql f59 rfl rfl) (hw := (f59.yes rfl rfl)) fun a60 f60 => ?_
 have f61 := f60.as (i := 44) (v' := .bool true) rfl (by rw [hf1]; rfl)
 refine L.va f61 (E.pickT f61 rfl rfl) fun a62 f62 => ?_
 clear f54 a54 f55 f56 a55 f57 a57 f58 a58 f59 a59 f60 f61 a60
 refine L.mv f62 fun a63 f63 => ?_
 refine L.mv f63 (hw := (f63.yes rfl rfl)) fun a64 f64 => ?_
 refine L.va f64 (E.lenL f64 U35 rfl) (hw := (f64.yes rfl rfl)) fun a65 f65 => ?_
 refine L.va f65 (E.eql f65 rfl rfl) (hw := (f65.yes rfl rfl)) fun a66 f66 => ?_
 have f67 := f66.as (i := 49) (v' := .bool true) rfl (by rfl)
 refine L.va f67 (E.pickT f67 rfl rfl) fun a68 f68 => ?_
 refine L.mv f68 fun a69 f69 => ?_
 refine L.mv f69 (hw := (f69.yes rfl rfl)) fun a70 f70 => ?_
 clear f62 a62 f63 a63 f64 a64 f65 a65 f66 f67 a66 f68 a68 f69 a69
 refine L.cl f70 (run_call Tryd.call11 (args1 f70 rfl)) (flying_any p s4.fly.length s4.fc s4.FA _ _ _ _ _ _ HS4.top) ?_ (hw := (f70.yes rfl rfl))
 rintro e w5x ⟨rfl, rfl⟩
 refine ⟨_, rfl, fun a71 f71 => ?_⟩
 refine L.va f71 (E.eql f71 rfl rfl) (hw := (f71.yes rfl rfl)) fun a72 f72 => ?_
 have f73 := f72.as (i := 54) (v' := .bool true) rfl (by rw [hf4]; rfl)
 refine L.va f73 (E.pickT f73 rfl rfl) fun a74 f74 => ?_
 refine L.mv f74 fun a75 f75 => ?_
 refine L.mv f75 (hw := (f75.yes rfl rfl)) fun a76 f76 => ?_
 refine L.va f76 (E.pickT f76 rfl rfl) fun a77 f77 => ?_
 refine L.mv f77 fun a78 f78 => ?_
 clear f70 a70 f71 a71 f72 f73 a72 f74 a74 f75 a75 f76 a76 f77 a77
 refine L.mv f78 (hw := (f78.yes rfl rfl)) fun a79 f79 => ?_
 refine L.va f79 (E.not f79 rfl) (hw := (f79.yes rfl rfl)) fun a80 f80 => ?_
 refine L.va f80 (E.pickT f80 rfl rfl) fun a81 f81 => ?_
 refine L.mv f81 fun a82 f82 => ?_
 refine L.mv f82 (hw := (f82.yes rfl rfl)) fun a83 f83 => ?_
 refine L.va f83 (E.lenL f83 U35 rfl) (hw := (f83.yes rfl rfl)) fun a84 f84 => ?_
 refine L.va f84 (E.eql f84 rfl rfl) (hw := (f84.yes rfl rfl)) fun a85 f85 => ?_
 clear f78 a78 f79 a79 f80 a80 f81 a81 f82 a82 f83 a83 f84 a84
 have f86 := f85.as (i := 66) (v' := .bool true) rfl (by rfl)
 refine L.va f86 (E.pickT f86 rfl rfl) fun a87 f87 => ?_
 refine L.mv f87 fun a88 f88 => ?_
 refine L.mv f88 (hw := (f88.yes rfl rfl)) fun a89 f89 => ?_
 refine L.va f89 (E.indexA f89 hA3 U35 wsz44_m rfl rfl (by decide) (by simp)) (hw := (f89.yes rfl rfl)) fun a90 f90 => ?_
 refine L.fa 0 f90 U44 rfl wsz3_m (hw := (f90.yes rfl rfl)) fun a91 f91 => ?_
 refine L.va f91 (E.load f91 U3 rfl rfl (pk_cell PK3.fr.own hA3 (i := 0) (x := x3) rfl 0 rfl (show o3 + 0 * 24 + 0 = _ by omega))) (hw := (f91.yes rfl rfl)) fun a92 f92 => ?_
 refine L.va f92 (E.eql f92 rfl rfl) (hw := (f92.yes rfl rfl)) fun a93 f93 => ?_
 clear f85 f86 a85 f87 a87 f88 a88 f89 a89 f90 a90 f91 a91 f92 a92
 have f94 := f93.as (i := 73) (v' := .bool true) rfl (by rw [hx3]; rfl)
 refine L.va f94 (E.pickT f94 rfl rfl) fun a95 f95 => ?_
 refine L.mv f95 fun a96 f96 => ?_
 refine L.mv f96 (hw := (f96.yes rfl rfl)) fun a97 f97 => ?_
 refine L.cl f97 (run_call Tryd.call14 (args1 f97 rfl)) (client_any p s4.cl _ _ _ _ _ _ HS4.top) ?_ (hw := (f97.yes rfl rfl))
 clear f93 f94 a93 f95 a95 f96 a96
 rintro e w5x ⟨rfl, rfl⟩
 refine ⟨_, rfl, fun a98 f98 => ?_⟩
 refine L.va f98 (E.eqlS f98 rfl rfl) (hw := (f98.yes rfl rfl)) fun a99 f99 => ?_
 have f100 := f99.as (i := 78) (v' := .bool true) rfl (by rw [hcl4]; rfl)
 refine L.va f100 (E.pickT f100 rfl rfl) fun a101 f101 => ?_
 refine L.ag f101 fun a102 f102 => ?_
 have f103 := f102.pk [0]
 refine wn hK9 (wp_ret ?_); (try simp only [xt, xb]); refine C.ret f103 rfl rfl ?_
 exact ⟨rfl, HK⟩
end Go.Proofs.YtdfllmiokgoekaaDoor
namespace Go.Proofs.YtdfllmiokgoekaaDoor
open Go.RowKit Go.Hub Go.Lib
theorem wbl56_0_1_2_3_4_5_ss2 (x0 : ByteArray) (x1 : Option Nat) (x2 : Option Addr) (x3 : Option Addr) (y3 z3 : Nat) (x4 : Option Addr) (x5 : Option Nat) : Tryd.prog.built 56 [(0, .string x0), (1, .map x1), (2, .pointer x2), (3, .slice x3 y3 z3), (4, .pointer x4), (5, .map x5)] = some #[.string x0, .map x1, .pointer x2, .slice x3 y3 z3, .pointer x4, .map x5] := by kernel_rfl
def NewFPost (w : World) (e : Ending) (w' : World) : Prop := ∃ p gs v0 v2 v3 v4 v5, e = .returned (.pointer (some ⟨p, 0, none⟩)) ∧ Kept [] w w' ∧ Blk w' p 56 #[v0, .map (some gs), v2, v3, v4, v5] ∧ IsAss subM Tryd.prog w' gs ([] : FE) ∧ w.heap.size ≤ p ∧ w.heap.size ≤ gs ∧ p ≠ gs
theorem Below.kept0 {w w' : World} (h : Below w.heap.size w w') : Kept [] w w' := ⟨h.os, h.tape, h.output, h.size, fun k hk _ => h.block k hk⟩
theorem known_K (w : World) : Calls Tryd.prog 4 #[] w (fun e w' => Kept [] w w' ∧ e = .returned (.bool true)) := by
  refine (known_any w).mono ?_
  rintro e w' ⟨rfl, h⟩
  exact ⟨Below.kept0 h, rfl⟩
theorem newF_any (cl : ByteArray) (w : World) : Calls Tryd.prog 5 #[.string cl] w (NewFPost w) := by
 have HK : Kept [] w w := Kept.refl [] w
 refine C.enter Tryd.func5 rfl Tryd.ntmps5 rfl ?_
 intro a0 f0
 have f1 : Fr 10 a0 [(0, .string cl)] := f0
 refine C.sk fun K0 hK0 => ?_
 refine L.ag f1 fun a2 f2 => ?_
 have f3 := f2.pk [0, 2]
 refine wn hK0 (C.sk fun K1 hK1 => ?_)
 refine L.mv f3 fun a4 f4 => ?_
 refine L.makeMapA f4 wantedN (by decide) subM Tryd.prog fun a5 w1 gs IA ks logs f5 => ?_
 have szw1 := ks.size
 have frgs : w.heap.size ≤ gs := Nat.le_trans HK.size logs
 have ltgs := IsAss.lt IA
 replace HK := HK.trans ks (by simp)
 clear f0 f1 a0 f2 f3 a2 ks f4 a4
 refine L.cl f5 (run_call Tryd.call15 (args1 f5 rfl)) (idsNew_any 65535 _) ?_
 rintro e w2 ⟨ip, im, rfl, kc2, ID, loi, lom⟩
 refine ⟨_, rfl, fun a6 f6 => ?_⟩
 have szw2 := kc2.size
 replace HK := HK.z kc2
 replace IA := IsAss.z IA kc2
 clear f5 a5 kc2
 refine L.cl f6 (run_call Tryd.call16 (args1 f6 rfl)) (quNew_any 8 _) ?_
 rintro e w3 ⟨q, rfl, kc3, BQ, loq⟩
 refine ⟨_, rfl, fun a7 f7 => ?_⟩
 have szw3 := kc3.size
 replace HK := HK.z kc3
 replace IA := IsAss.z IA kc3
 clear f6 a6 kc3
 refine L.makeMap f7 wantedN (by decide) 3 4 fun a8 w4 g3 Ig3 kg3 log3 f8 => ?_
 have ltg3 := Ig3.lt
 have szw4 := kg3.size
 have frg3 : w.heap.size ≤ g3 := Nat.le_trans HK.size log3
 replace HK := HK.z kg3
 replace IA := IsAss.z IA kg3
 clear f7 kg3 a7
 refine L.va f8 (E.build f8 (parts6 f8 rfl rfl rfl rfl rfl rfl) (wbl56_0_1_2_3_4_5_ss2 _ _ _ _ _ _ _ _)) fun a9 f9 => ?_
 refine L.box f9 wantedN (by decide) rfl rfl fun a10 w5 g4 N4 f10 => ?_
 have Bg4 := N4.blk
 have kg4 := N4.kept
 have log4 := N4.lo
 have ltg4 := Bg4.lt
 have szw5 := kg4.size
 have frg4 : w.heap.size ≤ g4 := Nat.le_trans HK.size log4
 have neg3_g4 : g3 ≠ g4 := by have := Ig3.lt; omega
 replace HK := HK.z kg4
 replace IA := IsAss.z IA kg4
 replace Ig3 := Ig3.kept kg4 (by simp)
 clear f8 a8 N4 kg4
 refine L.ag f10 fun a11 f11 => ?_
 have f12 := f11.pk [2]
 refine wn hK1 (wp_ret ?_); (try simp only [xt, xb]); refine C.ret f12 rfl rfl ?_
 exact ⟨g4, gs, _, _, _, _, _, rfl, HK, Bg4, IA, frg4, frgs, by omega⟩
end Go.Proofs.YtdfllmiokgoekaaDoor
namespace Go.Proofs.YtdfllmiokgoekaaDoor
open Go.RowKit Go.Hub Go.Lib
def fl (k : Nat) : ByteArray := p10.getD k ⟨#[]⟩
theorem p10_nd : p10.Nodup := by decide +kernel
theorem fl_inj {i j : Nat} (hi : i < 10) (hj : j < 10) (h : fl i = fl j) : i = j := by
  have l : p10.length = 10 := rfl
  unfold fl at h
  rw [List.getD_eq_getElem?_getD, List.getD_eq_getElem?_getD, List.getElem?_eq_getElem (by omega), List.getElem?_eq_getElem (by omega)] at h
  exact (List.getElem_inj p10_nd).1 h
structure SI (E : FE) (has : List Int) : Prop where
  len : has.length = 10
  bd : ∀ h ∈ has, 0 ≤ h ∧ h ≤ 3
  at_ : ∀ k, k < 10 → lk E (fl k) = if has.getD k 0 = 0 then none else some (has.getD k 0 - 1)
  keys : ∀ p ∈ E, ∃ k, k < 10 ∧ p.1 = fl k
theorem SI.nil : SI [] (List.replicate 10 0) := ⟨rfl, fun h hm => by rw [List.eq_of_mem_replicate hm]; omega, fun k hk => by rw [lk_nil, if_pos]; rw [List.getD_eq_getElem?_getD, List.getElem?_replicate]; split <;> rfl, fun p hp => by cases hp⟩
section
variable {E : FE} {has : List Int} {k : Nat}
theorem getD_set (l : List Int) (i j : Nat) (v : Int) (hi : i < l.length) : (l.set i v).getD j 0 = if i = j then v else l.getD j 0 := by
  rw [List.getD_eq_getElem?_getD, List.getD_eq_getElem?_getD, List.getElem?_set]
  by_cases h : i = j
  · subst h; simp [hi]
  rw [if_neg h, if_neg h]
theorem SI.set_ {E' : FE} (h : SI E has) (hk : k < 10) {v : Int} (hv : 0 ≤ v ∧ v ≤ 3) (h1 : lk E' (fl k) = if v = 0 then none else some (v - 1)) (h2 : ∀ j, j < 10 → j ≠ k → lk E' (fl j) = lk E (fl j)) (h3 : ∀ p ∈ E', ∃ j, j < 10 ∧ p.1 = fl j) : SI E' (has.set k v) :=
  ⟨by rw [List.length_set]; exact h.len, fun x hx => (List.mem_or_eq_of_mem_set hx).elim (h.bd x) (fun e => by rw [e]; exact hv), fun j hj => by
    rw [getD_set _ _ _ _ (by rw [h.len]; exact hk)]
    by_cases e : k = j
    · subst e; rw [if_pos rfl]; exact h1
    rw [if_neg e, h2 j hj (fun q => e q.symm)]; exact h.at_ j hj, h3⟩
theorem strike_keys (h : SI E has) (x : ByteArray) : ∀ p ∈ strike E x, ∃ j, j < 10 ∧ p.1 = fl j := fun p hp => h.keys p (List.mem_filter.1 hp).1
theorem SI.sub (h : SI E has) (hk : k < 10) {q : Int} (hq : 0 ≤ q ∧ q ≤ 2) : SI ((fl k, q) :: strike E (fl k)) (has.set k (q + 1)) :=
  h.set_ hk (by omega) (by rw [lk_cons, if_pos rfl, if_neg (by omega)]; congr 1; omega) (fun j hj hn => by rw [lk_cons, if_neg (fun e => hn (fl_inj hk hj e).symm), lk_strike_other E (fun e => hn (fl_inj hj hk e))])
    (fun p hp => (List.mem_cons.1 hp).elim (fun e => ⟨k, hk, by rw [e]⟩) (strike_keys h _ p))
theorem SI.un (h : SI E has) (hk : k < 10) : SI (strike E (fl k)) (has.set k 0) :=
  h.set_ hk (by omega) (by rw [lk_strike_same]; rfl) (fun j hj hn => by rw [lk_strike_other E (fun e => hn (fl_inj hj hk e))]) (strike_keys h _)
theorem SI.is (h : SI E has) (hk : k < 10) : (lk E (fl k)).isSome = decide (0 < has.getD k 0) := by
  rw [h.at_ k hk]
  have hb : 0 ≤ has.getD k 0 := by
    rw [List.getD_eq_getElem?_getD, List.getElem?_eq_getElem (by rw [h.len]; exact hk)]
    exact (h.bd _ (List.getElem_mem _)).1
  split
  · next e => rw [e]; rfl
  next e => rw [Option.isSome_some]; symm; rw [decide_eq_true_iff]; omega
def cntH (has : List Int) (k : Nat) : Nat := ((List.range k).filter fun j => has.getD j 0 ≠ 0).length
theorem cntH_le (has : List Int) (k : Nat) : cntH has k ≤ k := Nat.le_trans (List.length_filter_le _ _) (by rw [List.length_range]; exact Nat.le_refl _)
theorem cntH_y (h : has.getD k 0 ≠ 0) : cntH has (k + 1) = cntH has k + 1 := by
  unfold cntH
  rw [List.range_succ, List.filter_append, List.length_append, List.filter_cons, if_pos (by simpa using h)]
  rfl
theorem cntH_n (h : has.getD k 0 = 0) : cntH has (k + 1) = cntH has k := by
  unfold cntH
  rw [List.range_succ, List.filter_append, List.length_append, List.filter_cons, if_neg (by simpa using h)]
  rfl
theorem SI.cnt (h : SI E has) (hn : (E.map (·.1)).Nodup) : cntH has 10 = E.length := by
  have hR : (((List.range 10).filter fun j => has.getD j 0 ≠ 0).map fl).Nodup := by
    rw [List.nodup_iff_pairwise_ne, List.pairwise_map]
    refine List.Pairwise.imp_of_mem ?_ (List.Pairwise.sublist List.filter_sublist List.nodup_range)
    intro a b ha hb hne e
    exact hne (fl_inj (List.mem_range.1 (List.mem_filter.1 ha).1) (List.mem_range.1 (List.mem_filter.1 hb).1) e)
  have hp := (List.perm_ext_iff_of_nodup hR hn).2 fun x => by
    constructor
    · intro hx
      obtain ⟨j, hj, rfl⟩ := List.mem_map.1 hx
      obtain ⟨h1, h2⟩ := List.mem_filter.1 hj
      have e := h.at_ j (List.mem_range.1 h1)
      rw [if_neg (by simpa using h2)] at e
      exact List.mem_map.2 ⟨_, lk_some e, rfl⟩
    intro hx
    obtain ⟨p, hp, rfl⟩ := List.mem_map.1 hx
    obtain ⟨j, hj, e⟩ := h.keys p hp
    rw [e]
    refine List.mem_map.2 ⟨j, List.mem_filter.2 ⟨List.mem_range.2 hj, ?_⟩, rfl⟩
    have e1 : lk E p.1 = some p.2 := lk_mem hn (x := p.1) (v := p.2) hp
    rw [e, h.at_ j hj] at e1
    split at e1
    · cases e1
    next q => simpa using q
  have := hp.length_eq
  rw [List.length_map, List.length_map] at this
  exact this
def AscF (l : FE) : Prop := ∀ (i j : Nat) (p q : ByteArray × Int), i < j → l[i]? = some p → l[j]? = some q → ltF p.1 q.1
theorem SI.tells (h : SI E has) {out : FE} (hp : out.Perm E) (hk : k < 10) (h0 : has.getD k 0 ≠ 0) : (fl k, has.getD k 0 - 1) ∈ out := by
  have e := h.at_ k hk
  rw [if_neg h0] at e
  exact hp.mem_iff.2 (lk_some e)
theorem asc_of {out : FE} (hp : out.Perm E) (hn : (E.map (·.1)).Nodup) (hs : ∀ (i j : Nat) (p q : ByteArray × Int), i < j → out[i]? = some p → out[j]? = some q → ¬ ltF q.1 p.1) : AscF out := by
  have hd : (out.map (·.1)).Nodup := (hp.map _).nodup_iff.2 hn
  intro i j p q hij hi hj
  rcases ltF_tri p.1 q.1 with h | h | h
  · exact h
  · exfalso
    have hli := (List.getElem?_eq_some_iff.1 hi).1
    have hlj := (List.getElem?_eq_some_iff.1 hj).1
    have := (List.getElem_inj (i := i) (j := j) (h₀ := by rw [List.length_map]; exact hli) (h₁ := by rw [List.length_map]; exact hlj) hd).1 (by
      rw [List.getElem_map, List.getElem_map, (List.getElem?_eq_some_iff.1 hi).2, (List.getElem?_eq_some_iff.1 hj).2]; exact h)
    omega
  exact absurd h (hs i j p q hij hi hj)
end
end Go.Proofs.YtdfllmiokgoekaaDoor
namespace Go.Proofs.YtdfllmiokgoekaaDoor
open Go.RowKit Go.Hub Go.Lib
theorem wsz3_ss3 : (Tryd.prog.info? 3).map (·.size) = some 1 := by kernel_rfl
theorem wsz5_ss3 : (Tryd.prog.info? 5).map (·.size) = some 1 := by kernel_rfl
theorem wsz9_ss3 : (Tryd.prog.info? 9).map (·.size) = some 1 := by kernel_rfl
theorem wsz33_ss3 : (Tryd.prog.info? 33).map (·.size) = some 2 := by kernel_rfl
theorem wbl33_0_1_ss3 (x0 : ByteArray) (x1 : Int) : Tryd.prog.built 33 [(0, .string x0), (1, .int .i64 x1)] = some #[.string x0, .int .i64 x1] := by kernel_rfl
def hcells (has : List Int) : Array Value := (has.map fun z => Value.int .i64 z).toArray
theorem hc_size (has : List Int) : (hcells has).size = has.length := by simp [hcells]
theorem hc_set {has : List Int} {k : Nat} {v : Int} (hk : k < has.length) : (hcells has).setIfInBounds (0 + (k : Int).toNat * 1) (.int .i64 v) = hcells (has.set k v) := by
  unfold hcells
  rw [Nat.zero_add, Nat.mul_one, Int.toNat_natCast]
  simp [List.map_set]
theorem hc_cell {w : World} {g t : Nat} {has : List Int} {k : Nat} (B : Blk w g t (hcells has)) (hk : k < has.length) : w.cell? ⟨g, 0 + (k : Int).toNat * 1, none⟩ = some (.int .i64 (has.getD k 0)) := by
  rw [Nat.zero_add, Nat.mul_one, Int.toNat_natCast]
  refine B.cell_ ?_
  unfold hcells
  simp [hk]
theorem SI.le {Em : FE} {has : List Int} (h : SI Em has) (hn : (Em.map (·.1)).Nodup) : Em.length ≤ 10 := by rw [← h.cnt hn]; exact cntH_le has 10
theorem SI.nn {Em : FE} {has : List Int} {k : Nat} (h : SI Em has) (hk : k < 10) : 0 ≤ has.getD k 0 := by
  rw [List.getD_eq_getElem?_getD, List.getElem?_eq_getElem (by rw [h.len]; exact hk)]
  exact (h.bd _ (List.getElem_mem _)).1
theorem SI.b3 {Em : FE} {has : List Int} {k : Nat} (h : SI Em has) (hk : k < 10) : 0 ≤ has.getD k 0 ∧ has.getD k 0 ≤ 3 := by
  rw [List.getD_eq_getElem?_getD, List.getElem?_eq_getElem (by rw [h.len]; exact hk)]
  exact h.bd _ (List.getElem_mem _)
theorem p10_all : ∀ x ∈ p10, x.size ≤ 10 ∧ filterB x = true := by decide +kernel
theorem fl_mem {k : Nat} (hk : k < 10) : fl k ∈ p10 := by
  unfold fl
  rw [List.getD_eq_getElem?_getD, List.getElem?_eq_getElem (show k < p10.length from hk)]
  exact List.getElem_mem _
theorem fl_size {k : Nat} (hk : k < 10) : (fl k).size ≤ 100000 := Nat.le_trans (p10_all _ (fl_mem hk)).1 (by decide)
theorem sfilterK (k : Nat) (w : World) (hk : k < 10) : Calls Tryd.prog 7 #[.int .u8 k] w (fun e w' => Kept [] w w' ∧ e = .returned (.string (fl k))) := by
  have h := sfilter_any k w (by omega) (by omega)
  rw [show ((k : Int) % 10).toNat = k by omega] at h
  exact h
theorem subK (p gs : Nat) (v0 v2 v3 v4 v5 : Value) (Em : FE) (w : World) (BP : Blk w p 56 #[v0, .map (some gs), v2, v3, v4, v5]) (IA : IsAss subM Tryd.prog w gs Em) (hne : p ≠ gs) (G : Glob w) (k : Nat) (q : Int) (hk : k < 10) (h0 : 0 ≤ q) (h2 : q ≤ 2) (hE : Em.length ≤ 1000000) :
    Calls Tryd.prog 8 #[.pointer (some ⟨p, 0, none⟩), .string (fl k), .int .i64 q] w (fun e w' => Kept [gs] w w' ∧ e = .returned (.bool (!(lk Em (fl k)).isSome)) ∧ IsAss subM Tryd.prog w' gs ((fl k, q) :: Go.Hub.strike Em (fl k) : FE)) := by
  refine (subscribe_any p gs v0 v2 v3 v4 v5 Em w BP IA hne G (fl k) q (fl_size hk) hE).mono ?_
  rintro e w' (⟨_, _, _, hk2, _, rfl, hI⟩ | ⟨hn, _⟩)
  · exact ⟨hk2, rfl, hI⟩
  exact absurd ⟨(p10_all _ (fl_mem hk)).2, h0, h2⟩ hn
theorem us_cell {w : World} {A : Option Addr} {b off i n : Nat} {l : List UInt8} {x : UInt8} (h : Sl w A n 1 (l.map u8)) (hA : A = some ⟨b, off, none⟩) (hx : l[i]? = some x) : w.cell? ⟨b, off + (i : Int).toNat * 1, none⟩ = some (.int .u8 ((x.toNat : Nat) : Int)) := by
  have hl : l.length = n := by simpa using h.1
  have hk := (List.getElem?_eq_some_iff.1 hx).1
  rw [Nat.mul_one, Int.toNat_natCast]
  exact Sl.cell h (by omega) hA (by simp [hx, u8])
theorem any_t {f : ByteArray × Int → Bool} {out : FE} {j : Nat} {x : ByteArray × Int} (hx : out[j]? = some x) (h : (out.take j).any f = true) : true = (out.take (j + 1)).any f := by
  rw [List.take_succ, List.any_append, h]; rfl
theorem any_n {f : ByteArray × Int → Bool} {out : FE} {j : Nat} {x : ByteArray × Int} (hx : out[j]? = some x) (h : (out.take j).any f = false) : f x = (out.take (j + 1)).any f := by
  rw [List.take_succ, List.any_append, h, hx]; simp
theorem ss_rI {w : World} {A : Option Addr} {l : FE} {b off : Nat} {i : Int} {p : ByteArray × Int} (h : Sl w A l.length 2 (l.flatMap scp)) (hA : A = some ⟨b, off, none⟩) (hx : l[i.toNat]? = some p) : w.rangeAt b (off + i.toNat * 2) (scp p) := fun j v hv => by
  have hk := (List.getElem?_eq_some_iff.1 hx).1
  have hj : j < 2 := (List.getElem?_eq_some_iff.1 hv).1
  obtain ⟨b', off', e, hb, hc⟩ := h.2 (by omega)
  rw [hA] at e
  injection e with e
  injection e with e1 e2
  subst e1 e2
  rw [Nat.add_assoc]
  refine hc _ v ?_
  rw [fm_get scp scp_len, show (i.toNat * 2 + j) / 2 = i.toNat by omega, show (i.toNat * 2 + j) % 2 = j by omega, hx]
  exact hv
theorem ss_r {w : World} {A : Option Addr} {l : FE} {b off k : Nat} {p : ByteArray × Int} (h : Sl w A l.length 2 (l.flatMap scp)) (hA : A = some ⟨b, off, none⟩) (hx : l[k]? = some p) : w.rangeAt b (off + (k : Int).toNat * 2) (scp p) := ss_rI h hA (by rw [Int.toNat_natCast]; exact hx)
theorem fieldsF : (Tryd.prog.fieldsOf 33).toList = [{ name := "Filter", type := 9, offset := 0, embedded := false, tag := "", pkgPath := "", byteOffset := 0 }, { name := "Qos", type := 3, offset := 1, embedded := false, tag := "", pkgPath := "", byteOffset := 16 }] := by kernel_rfl
theorem eqlSub (x y : Operand) (d d' : ByteArray × Int) (w : World) : (do eqGuard .eql 33 x y (.agg (scp d).toArray) (.agg (scp d').toArray); binOp .eql 33 (.agg (scp d).toArray) (.agg (scp d').toArray) : Sem Value).run Tryd.prog w = .ok (.bool (decide (d = d'))) w := by
  rw [Sem.run_bind, run_eqGuard_agg w .eql 33 x y _ _ (by kernel_rfl)]
  simp only [Result.andThen_ok]
  rw [run_eql_struct, run_equalIn_struct w 9999 33 _ _ (by kernel_rfl) (by kernel_rfl)]
  rw [fieldsF]
  simp [go_sem]
  obtain ⟨a, b⟩ := d
  obtain ⟨a', b'⟩ := d'
  by_cases h1 : a = a' <;> by_cases h2 : b = b' <;> simp [h1, h2]
  intro e
  rw [ByteArray.toList_eq, ByteArray.toList_eq] at e
  exact h1 (ByteArray.ext (Array.ext' e))
theorem subs_walk (l : List UInt8) (A : Option Addr) (c : Nat) (w : World) (G : Glob w) (A1 : Sl w A l.length 1 (l.map u8)) : Calls Tryd.prog 3 #[.slice A l.length c] w (fun e w' => Kept [] w w' ∧ e = .returned (.bool true)) := by
 have HK : Kept [] w w := Kept.refl [] w
 refine C.enter Tryd.func3 rfl Tryd.ntmps3 rfl ?_
 intro a0 f0
 have f1 : Fr 133 a0 [(0, .slice A l.length c)] := f0
 refine C.sk fun K0 hK0 => ?_
 refine L.ag f1 fun a2 f2 => ?_
 refine wn hK0 ?_
 have f3 := f2.pk [0, 2]
 refine wp_seq_k fun K1 hK1 => C.sk fun K2 hK2 => ?_
 refine L.cl f3 (run_call Tryd.call4 (args0 f3)) (known_K _) ?_
 clear f0 f1 a0 f2
 rintro e w1 ⟨kc1, rfl⟩
 refine ⟨_, rfl, fun a4 f4 => ?_⟩
 have szw1 := kc1.size
 replace HK := HK.z kc1
 clear f3 a2 kc1
 refine L.va f4 (E.not f4 rfl) fun a5 f5 => ?_
 refine wn hK2 ?_
 have f6 := f5.pk [0, 2, 14]
 refine C.condF f6 rfl ?_
 refine wp_skip (hK1 _ _ ?_)
 have f7 := f6.pk [0, 2]
 refine wp_seq_k fun K3 hK3 => C.sk fun K4 hK4 => ?_
 refine L.mv f7 fun a8 f8 => ?_
 refine L.va f8 (E.lenL f8 U22 rfl) fun a9 f9 => ?_
 refine L.va f9 (E.gtr f9 rfl rfl) fun a10 f10 => ?_
 refine wn hK4 ?_
 have f11 := f10.pk [0, 2, 17]
 clear f4 a4 f5 f6 f7 a5 f8 a8 f9 a9 f10
 refine f11.splitD 17 rfl (fun h0 f12 => ?_) (fun h0 f12 => ?_)
 ·have h17 := h0
  refine C.condT f12 rfl ?_
  refine C.sk fun K5 hK5 => ?_
  refine L.ag f12 fun a13 f13 => ?_
  have f14 := f13.pk [0, 2]
  refine wn hK5 (wp_ret ?_); (try simp only [xt, xb]); refine C.ret f14 rfl rfl ?_
  exact ⟨HK, rfl⟩
 have h17 := h0
 refine C.condF f12 rfl ?_
 refine wp_skip (hK3 _ _ ?_)
 have f13 := f12.pk [0, 2]
 refine wp_seq_k fun K6 hK6 => ?_
 have HK0 := HK
 replace HK := Kept.refl [] w1
 have A1 := A1.kept HK0
 refine C.region ?_
 refine L.cl f13 (run_call Tryd.call5 (args1 f13 rfl)) (newF_any ⟨#[107]⟩ _) ?_
 clear f11 f12
 rintro e w2 ⟨p, gs, v0, v2, v3, v4, v5, rfl, kc2, BP, IA, frp, frgs, hpg⟩
 refine ⟨_, rfl, fun a14 f14 => ?_⟩
 have szw2 := kc2.size
 replace HK := HK.z kc2
 clear f13 a10 kc2
 refine L.ag f14 fun a15 f15 => ?_
 refine wn hK6 ?_
 have f16 := f15.pk [0, 2, 3]
 refine wp_seq_k fun K7 hK7 => ?_
 have ltp := BP.lt
 have ltg := IsAss.lt IA
 refine C.region ?_
 refine L.alloc f16 wantedN (by decide) (z := (.agg #[(.int .i64 0), (.int .i64 0), (.int .i64 0), (.int .i64 0), (.int .i64 0), (.int .i64 0), (.int .i64 0), (.int .i64 0), (.int .i64 0), (.int .i64 0)])) (fun _ => by kernel_rfl) rfl fun a17 w3 g2 N2 f17 => ?_
 have Bg2 := N2.blk
 have kg2 := N2.kept
 have log2 := N2.lo
 have ltg2 := Bg2.lt
 have szw3 := kg2.size
 have frg2 : w1.heap.size ≤ g2 := Nat.le_trans HK.size log2
 have nep_g2 : p ≠ g2 := by have := BP.lt; omega
 replace HK := HK.z kg2
 replace BP := BP.z kg2
 replace IA := IsAss.z IA kg2
 clear f14 a14 f15 N2 kg2
 refine wn hK7 ?_
 have f18 := f17.pk [0, 2, 3, 4]
 refine wp_seq_k fun K8 hK8 => ?_
 refine wp_seq_k fun K9 hK9 => ?_
 obtain ⟨gH, rfl⟩ : ∃ g, g = g2 := ⟨_, rfl⟩
 have BH : Blk w3 gH 26 (hcells (List.replicate 10 0)) := Bg2
 have frgH : w1.heap.size ≤ gH := frg2
 have nepH : p ≠ gH := by omega
 have negH : gs ≠ gH := by omega
 refine C.region ?_
 refine L.ag f18 fun a19 f19 => ?_
 refine wn hK9 ?_
 have f20 := f19.pk [0, 2, 3, 4, 5]
 refine wp_block ?_
 clear f16 a15 f17 f18 a17 f19
 refine C.loop (fun gk a W => ∃ (i : Nat) (Em : FE) (has : List Int), i + gk = l.length ∧ SI Em has ∧ Kept [] w1 W ∧ Blk W p 56 #[v0, .map (some gs), v2, v3, v4, v5] ∧ IsAss subM Tryd.prog W gs Em ∧ Blk W gH 26 (hcells has) ∧ Fr 133 a [(0, .slice A l.length c), (3, .pointer (some ⟨p, 0, none⟩)), (4, .pointer (some ⟨gH, 0, none⟩)), (5, .int .i64 i)]) (l.length) ?_ ?_
 ·exact ⟨0, [], List.replicate 10 0, by omega, SI.nil, HK, BP, IA, BH, f20.sub (sx (sx (sx (sx sn))))⟩
 intro gk11 a21 w4 hI KL10 hKL10
 obtain ⟨i, Em, has, hi, hS, HK, BP, IA, BH, f21⟩ := hI
 try clear f20
 have hEl := SI.le hS (IsAss.nodup IA)
 have hLh := hS.len
 refine wp_seq_k fun K11 hK11 => C.sk fun K12 hK12 => ?_
 refine L.mv f21 fun a22 f22 => ?_
 refine L.mv f22 fun a23 f23 => ?_
 refine L.va f23 (E.lenL f23 U22 rfl) fun a24 f24 => ?_
 refine L.va f24 (E.lss f24 rfl rfl) fun a25 f25 => ?_
 refine wn hK12 ?_
 have f26 := f25.pk [0, 3, 4, 5, 19, 20, 21, 22]
 clear f21 a21 f22 a22 f23 a23 f24 a24 f25
 refine f26.splitD 22 rfl (fun h1 f27 => ?_) (fun h1 f27 => ?_)
 ·obtain ⟨x, hx⟩ : ∃ x, l[i]? = some x := ⟨l[i]'(by omega), List.getElem?_eq_getElem _⟩
  obtain ⟨b0, off, hA⟩ := Sl.addr A1 (by omega)
  have hx8 := x.toNat_lt
  obtain ⟨k, hk⟩ : ∃ k : Nat, k = x.toNat % 10 := ⟨_, rfl⟩
  have hk10 : k < 10 := by omega
  refine C.condT f27 rfl ?_
  refine wp_skip (hK11 _ _ ?_)
  have f28 := f27.pk [0, 3, 4, 5, 19, 20, 21, 22]
  refine wp_seq_k fun K13 hK13 => ?_
  refine wp_block ?_
  refine C.sk fun K14 hK14 => ?_
  refine L.mv f28 fun a29 f29 => ?_
  refine L.mv f29 fun a30 f30 => ?_
  refine L.va f30 (E.indexA f30 (by assumption) U22 wsz5_ss3 rfl rfl (by omega) (by omega)) fun a31 f31 => ?_
  refine L.va f31 (E.load f31 U5 rfl rfl ((us_cell (A1.kept HK) hA hx))) fun a32 f32 => ?_
  refine L.va f32 (E.rem f32 rfl rfl (by omega) (Int.tmod_eq_emod_of_nonneg (by omega))) fun a33 f33 => ?_
  refine L.va f33 (E.conv f33 U5 U3 rfl (IntWalk.i64_in _ (by omega))) fun a34 f34 => ?_
  clear f26 f27 f28 a25 f29 a29 f30 a30 f31 a31 f32 a32 f33 a33
  refine L.ag f34 fun a35 f35 => ?_
  refine wn hK14 ?_
  have f36 := f35.pk [0, 3, 4, 5, 6, 19, 20, 21, 22, 25, 26, 27, 28, 29, 30]
  refine wp_seq_k fun K15 hK15 => ?_
  refine wp_seq_k fun K16 hK16 => ?_
  rw [show ((x.toNat : Nat) : Int) % 10 = (k : Nat) by omega] at f36
  refine C.region ?_
  refine L.mv f36 fun a37 f37 => ?_
  refine L.mv f37 fun a38 f38 => ?_
  refine L.va f38 (E.indexA f38 (by assumption) U22 wsz5_ss3 rfl rfl (by omega) (by omega)) fun a39 f39 => ?_
  refine L.va f39 (E.load f39 U5 rfl rfl ((us_cell (A1.kept HK) hA hx))) fun a40 f40 => ?_
  refine L.va f40 (E.geq f40 rfl rfl) fun a41 f41 => ?_
  refine wn hK16 ?_
  have f42 := f41.pk [0, 3, 4, 5, 6, 19, 20, 21, 22, 25, 26, 27, 28, 29, 30, 31, 32, 33, 34, 35]
  clear f34 a34 f35 f36 a35 f37 a37 f38 a38 f39 a39 f40 a40 f41
  refine f42.splitD 35 rfl (fun h2 f43 => ?_) (fun h2 f43 => ?_)
  ·have h35 := h2
   refine C.condT f43 rfl ?_
   refine wp_seq_k fun K17 hK17 => ?_
   refine wp_seq_k fun K18 hK18 => ?_
   have hd12 : Kept [] w4 (w4.drewN 1) := (Kept.refl _ _).drewN 1
   refine R.begin (S := fun W => (Kept [] w1 W) ∧ (Blk W p 56 #[v0, .map (some gs), v2, v3, v4, v5]) ∧ (Blk W gH 26 (hcells has))) (by kernel_rfl) ⟨HK.z hd12, BP.z hd12, BH.z hd12⟩ ?_
   obtain ⟨w5, hww5⟩ : ∃ W, W = w4.drewN 1 := ⟨_, rfl⟩
   rw [← hww5] at hd12 ⊢
   clear f42 hww5
   have szw5 := hd12.size
   replace HK := HK.z hd12
   replace BP := BP.z hd12
   replace IA := IsAss.z IA hd12
   replace BH := BH.z hd12
   clear hd12
   refine R.t 0 f43 rfl ⟨HK, BP, BH⟩ (fun W hW => (E.move f43 rfl)) fun a44 f44 => ?_
   refine R.t 1 f44 rfl ⟨HK, BP, BH⟩ (fun W hW => (E.move f44 rfl)) fun a45 f45 => ?_
   refine R.t 2 f45 rfl ⟨HK, BP, BH⟩ (fun W hW => (E.conv f45 U3 U5 rfl (IntWalk.u8_in _ (by omega)))) fun a46 f46 => ?_
   refine R.t 5 f46 rfl ⟨HK, BP, BH⟩ (fun W hW => (E.move f46 rfl)) fun a47 f47 => ?_
   refine R.t 6 f47 rfl ⟨HK, BP, BH⟩ (fun W hW => (E.indexArr f47 U26 wsz3_ss3 rfl rfl (by omega) (by omega))) fun a48 f48 => ?_
   refine R.t 7 f48 rfl ⟨HK, BP, BH⟩ (fun W hW => (E.load f48 U3 rfl rfl ((hc_cell hW.2.2 (k := k) (by rw [hS.len]; omega))))) fun a49 f49 => ?_
   refine R.t 8 f49 rfl ⟨HK, BP, BH⟩ (fun W hW => (E.gtr f49 rfl rfl)) fun a50 f50 => ?_
   clear f43 a41 f44 a44 f45 a45 f46 a46 f47 a47 f48 a48 f49 a49
   refine R.call 3 f50 rfl rfl (by decide) (by kernel_rfl) wantedN (run_call Tryd.call7 (args1 f50 rfl)) (sfilterK k _ hk10) ?_
   rintro e w6 ⟨kc6, rfl⟩
   have szw6 := kc6.size
   replace HK := HK.z kc6
   replace BP := BP.z kc6
   replace IA := IsAss.z IA kc6
   replace BH := BH.z kc6
   refine ⟨_, rfl, ⟨HK, BP, BH⟩, fun a51 f51 => ?_⟩
   clear f50 a50 kc6
   refine R.call 4 f51 rfl rfl (by decide) (by kernel_rfl) wantedN (run_call Tryd.call6 (args2 f51 rfl rfl)) (unsubscribe_any p gs v0 v2 v3 v4 v5 Em w6 BP IA hpg (fl k) (fl_size hk10)) ?_
   rintro e w7 ⟨kc7, -, rfl, IA2⟩
   have szw7 := kc7.size
   replace HK := HK.trans kc7 (by intro x hx hlt; simp at hx; subst hx; (exfalso; omega))
   replace BP := BP.kept kc7 (by simp; omega)
   replace BH := BH.kept kc7 (by simp; omega)
   refine ⟨_, rfl, ⟨HK, BP, BH⟩, fun a52 f52 => ?_⟩
   clear f51 a51 kc7
   refine R.t 9 f52 rfl ⟨HK, BP, BH⟩ (fun W hW => (E.neqB f52 U4 rfl rfl)) fun a53 f53 => ?_
   have f54 := f53.as (i := 45) (v' := .bool false) rfl (by rw [hS.is hk10]; simp)
   refine R.done (by kernel_rfl) (hK18 _ _ ?_)
   have f55 := f54.pk [0, 3, 4, 5, 6, 19, 20, 21, 22, 25, 26, 27, 28, 29, 30, 31, 32, 33, 34, 35, 36, 37, 38, 39, 40, 41, 42, 43, 44, 45]
   refine C.condF f55 rfl ?_
   refine wp_skip (hK17 _ _ ?_)
   have f56 := f55.pk [0, 3, 4, 5, 6, 19, 20, 21, 22, 25, 26, 27, 28, 29, 30, 31, 32, 33, 34, 35, 36, 37, 38, 39, 40, 41, 42, 43, 44, 45]
   refine C.sk fun K19 hK19 => ?_
   refine L.mv f56 fun a57 f57 => ?_
   refine L.va f57 (E.indexArr f57 U26 wsz3_ss3 rfl rfl (by omega) (by omega)) fun a58 f58 => ?_
   refine L.store f58 wantedN wsz3_ss3 rfl rfl rfl BH (by rw [hc_size]; omega) fun a59 w8 f59 NB ks => ?_
   have szw8 := ks.size
   replace HK := HK.nn ks frgH
   replace BP := BP.kept ks (by simp; omega)
   replace IA2 := IsAss.kept IA2 ks (by simp; omega)
   rw [hc_set (by omega)] at NB
   have BH := NB
   clear f52 a52 f53 f54 f55 f56 a53 f57 a57 ks NB f58 a58
   refine wn hK19 ?_
   have f60 := f59.pk [0, 3, 4, 5, 6, 19, 20, 21, 22, 25, 26, 27, 28, 29, 30, 31, 32, 33, 34, 35, 36, 37, 38, 39, 40, 41, 42, 43, 44, 45, 46, 47]
   refine wp_exit (hK13 _ _ ?_)
   have f61 := f60.pk [0, 3, 4, 5, 6, 19, 20, 21, 22, 25, 26, 27, 28, 29, 30, 31, 32, 33, 34, 35, 36, 37, 38, 39, 40, 41, 42, 43, 44, 45, 46, 47]
   refine C.region ?_
   refine L.mv f61 fun a62 f62 => ?_
   refine L.va f62 (E.add f62 rfl rfl (IntWalk.i64_in _ (by omega))) fun a63 f63 => ?_
   refine L.ag f63 fun a64 f64 => ?_
   clear f59 f60 f61 a59 f62 a62 f63 a63
   refine wpList_nil (hKL10 _ _ (gk11 - 1) ?_ ?_)
   ·omega
   exact ⟨i + 1, _, _, by omega, hS.un hk10, HK, BP, IA2, BH, f64.sub (sr rfl (sr rfl (sr rfl (sr rfl sn))))⟩
  have h35 := h2
  refine C.condF f43 rfl ?_
  refine wp_skip (hK15 _ _ ?_)
  have f44 := f43.pk [0, 3, 4, 5, 6, 19, 20, 21, 22, 25, 26, 27, 28, 29, 30, 31, 32, 33, 34, 35]
  refine wp_seq_k fun K20 hK20 => ?_
  refine wp_seq_k fun K21 hK21 => ?_
  have hd15 : Kept [] w4 (w4.drewN 1) := (Kept.refl _ _).drewN 1
  refine R.begin (S := fun W => (Kept [] w1 W) ∧ (Blk W p 56 #[v0, .map (some gs), v2, v3, v4, v5]) ∧ (Blk W gH 26 (hcells has))) (by kernel_rfl) ⟨HK.z hd15, BP.z hd15, BH.z hd15⟩ ?_
  obtain ⟨w5, hww5⟩ : ∃ W, W = w4.drewN 1 := ⟨_, rfl⟩
  rw [← hww5] at hd15 ⊢
  clear f42 f43 hww5
  have szw5 := hd15.size
  replace HK := HK.z hd15
  replace BP := BP.z hd15
  replace IA := IsAss.z IA hd15
  replace BH := BH.z hd15
  clear hd15
  refine R.t 0 f44 rfl ⟨HK, BP, BH⟩ (fun W hW => (E.move f44 rfl)) fun a45 f45 => ?_
  refine R.t 1 f45 rfl ⟨HK, BP, BH⟩ (fun W hW => (E.move f45 rfl)) fun a46 f46 => ?_
  refine R.t 2 f46 rfl ⟨HK, BP, BH⟩ (fun W hW => (E.conv f46 U3 U5 rfl (IntWalk.u8_in _ (by omega)))) fun a47 f47 => ?_
  refine R.t 4 f47 rfl ⟨HK, BP, BH⟩ (fun W hW => (E.move f47 rfl)) fun a48 f48 => ?_
  refine R.t 5 f48 rfl ⟨HK, BP, BH⟩ (fun W hW => (E.move f48 rfl)) fun a49 f49 => ?_
  refine R.t 6 f49 rfl ⟨HK, BP, BH⟩ (fun W hW => (E.indexA f49 (by assumption) U22 wsz5_ss3 rfl rfl (by omega) (by omega))) fun a50 f50 => ?_
  refine R.t 7 f50 rfl ⟨HK, BP, BH⟩ (fun W hW => (E.load f50 U5 rfl rfl ((us_cell (A1.kept hW.1) hA hx)))) fun a51 f51 => ?_
  clear f44 a41 f45 a45 f46 a46 f47 a47 f48 a48 f49 a49 f50 a50
  refine R.t 8 f51 rfl ⟨HK, BP, BH⟩ (fun W hW => (E.quo f51 rfl rfl (by omega) (IntWalk.u8_quo _ _ ⟨by omega, by omega, by omega⟩))) fun a52 f52 => ?_
  refine R.t 9 f52 rfl ⟨HK, BP, BH⟩ (fun W hW => (E.rem f52 rfl rfl (by omega) (Int.tmod_eq_emod_of_nonneg (by omega)))) fun a53 f53 => ?_
  refine R.t 10 f53 rfl ⟨HK, BP, BH⟩ (fun W hW => (E.conv f53 U5 U3 rfl (IntWalk.i64_in _ (by omega)))) fun a54 f54 => ?_
  refine R.t 12 f54 rfl ⟨HK, BP, BH⟩ (fun W hW => (E.move f54 rfl)) fun a55 f55 => ?_
  refine R.t 13 f55 rfl ⟨HK, BP, BH⟩ (fun W hW => (E.indexArr f55 U26 wsz3_ss3 rfl rfl (by omega) (by omega))) fun a56 f56 => ?_
  refine R.t 14 f56 rfl ⟨HK, BP, BH⟩ (fun W hW => (E.load f56 U3 rfl rfl ((hc_cell hW.2.2 (k := k) (by rw [hS.len]; omega))))) fun a57 f57 => ?_
  refine R.t 15 f57 rfl ⟨HK, BP, BH⟩ (fun W hW => (E.eql f57 rfl rfl)) fun a58 f58 => ?_
  clear f51 a51 f52 a52 f53 a53 f54 a54 f55 a55 f56 a56 f57 a57
  refine R.call 3 f58 rfl rfl (by decide) (by kernel_rfl) wantedN (run_call Tryd.call7 (args1 f58 rfl)) (sfilterK k _ hk10) ?_
  rintro e w6 ⟨kc6, rfl⟩
  have szw6 := kc6.size
  replace HK := HK.z kc6
  replace BP := BP.z kc6
  replace IA := IsAss.z IA kc6
  replace BH := BH.z kc6
  refine ⟨_, rfl, ⟨HK, BP, BH⟩, fun a59 f59 => ?_⟩
  clear f58 a58 kc6
  refine R.call 11 f59 rfl rfl (by decide) (by kernel_rfl) wantedN (run_call Tryd.call8 (args3 f59 rfl rfl rfl)) (subK p gs v0 v2 v3 v4 v5 Em w6 BP IA hpg ((G.kept HK0).kept HK) k _ hk10 (by omega) (by omega) (by omega)) ?_
  rintro e w7 ⟨kc7, rfl, IA2⟩
  have szw7 := kc7.size
  replace HK := HK.trans kc7 (by intro x hx hlt; simp at hx; subst hx; (exfalso; omega))
  replace BP := BP.kept kc7 (by simp; omega)
  replace BH := BH.kept kc7 (by simp; omega)
  refine ⟨_, rfl, ⟨HK, BP, BH⟩, fun a60 f60 => ?_⟩
  clear f59 a59 kc7
  refine R.t 16 f60 rfl ⟨HK, BP, BH⟩ (fun W hW => (E.neqB f60 U4 rfl rfl)) fun a61 f61 => ?_
  have f62 := f61.as (i := 64) (v' := .bool false) rfl (by rw [hS.is hk10]; have h9 := hS.nn hk10; generalize has.getD k 0 = z at h9 ⊢; simp; omega)
  refine R.done (by kernel_rfl) (hK21 _ _ ?_)
  have f63 := f62.pk [0, 3, 4, 5, 6, 19, 20, 21, 22, 25, 26, 27, 28, 29, 30, 31, 32, 33, 34, 35, 48, 49, 50, 51, 52, 53, 54, 55, 56, 57, 58, 59, 60, 61, 62, 63, 64]
  refine C.condF f63 rfl ?_
  refine wp_skip (hK20 _ _ ?_)
  have f64 := f63.pk [0, 3, 4, 5, 6, 19, 20, 21, 22, 25, 26, 27, 28, 29, 30, 31, 32, 33, 34, 35, 48, 49, 50, 51, 52, 53, 54, 55, 56, 57, 58, 59, 60, 61, 62, 63, 64]
  refine C.region ?_
  refine L.mv f64 fun a65 f65 => ?_
  refine L.mv f65 fun a66 f66 => ?_
  refine L.mv f66 fun a67 f67 => ?_
  refine L.va f67 (E.indexA f67 (by assumption) U22 wsz5_ss3 rfl rfl (by omega) (by omega)) fun a68 f68 => ?_
  refine L.va f68 (E.load f68 U5 rfl rfl ((us_cell (A1.kept HK) hA hx))) fun a69 f69 => ?_
  clear f60 a60 f61 f62 f63 f64 a61 f65 a65 f66 a66 f67 a67 f68 a68
  refine L.va f69 (E.quo f69 rfl rfl (by omega) (IntWalk.u8_quo _ _ ⟨by omega, by omega, by omega⟩)) fun a70 f70 => ?_
  refine L.va f70 (E.rem f70 rfl rfl (by omega) (Int.tmod_eq_emod_of_nonneg (by omega))) fun a71 f71 => ?_
  refine L.va f71 (E.conv f71 U5 U3 rfl (IntWalk.i64_in _ (by omega))) fun a72 f72 => ?_
  refine L.va f72 (E.add f72 rfl rfl (IntWalk.i64_in _ (by omega))) fun a73 f73 => ?_
  refine L.va f73 (E.indexArr f73 U26 wsz3_ss3 rfl rfl (by omega) (by omega)) fun a74 f74 => ?_
  refine L.store f74 wantedN wsz3_ss3 rfl rfl rfl BH (by rw [hc_size]; omega) fun a75 w8 f75 NB ks => ?_
  have szw8 := ks.size
  replace HK := HK.nn ks frgH
  replace BP := BP.kept ks (by simp; omega)
  replace IA2 := IsAss.kept IA2 ks (by simp; omega)
  rw [hc_set (by omega)] at NB
  have BH := NB
  clear f69 a69 f70 a70 f71 a71 f72 a72 f73 a73 ks NB f74 a74
  refine wn hK13 ?_
  have f76 := f75.pk [0, 3, 4, 5, 6, 19, 20, 21, 22, 25, 26, 27, 28, 29, 30, 31, 32, 33, 34, 35, 48, 49, 50, 51, 52, 53, 54, 55, 56, 57, 58, 59, 60, 61, 62, 63, 64, 65, 66, 67, 68, 69, 70, 71, 72, 73, 74]
  refine C.region ?_
  refine L.mv f76 fun a77 f77 => ?_
  refine L.va f77 (E.add f77 rfl rfl (IntWalk.i64_in _ (by omega))) fun a78 f78 => ?_
  refine L.ag f78 fun a79 f79 => ?_
  clear f75 f76 a75 f77 a77 f78 a78
  refine wpList_nil (hKL10 _ _ (gk11 - 1) ?_ ?_)
  ·omega
  exact ⟨i + 1, _, _, by omega, hS.sub hk10 ⟨by omega, by omega⟩, HK, BP, IA2, BH, f79.sub (sr rfl (sr rfl (sr rfl (sr rfl sn))))⟩
 have hend := h1
 refine C.condF f27 rfl ?_
 refine wp_exit (hK8 _ _ ?_)
 have f28 := f27.pk [3, 4]
 refine wp_seq_k fun K22 hK22 => ?_
 have hnd := IsAss.nodup IA
 refine C.region ?_
 refine L.mv f28 fun a29 f29 => ?_
 refine L.cl f29 (run_call Tryd.call9 (args1 f29 rfl)) (subs_any p gs v0 v2 v3 v4 v5 Em w4 BP IA hpg (by omega)) ?_
 clear f26 f27 f28 a25
 rintro e w5 ⟨kc5, SA, sc, out, rfl, hop, hos, SO, -, -⟩
 refine ⟨_, rfl, fun a30 f30 => ?_⟩
 have szw5 := kc5.size
 replace HK := HK.z kc5
 replace BP := BP.z kc5
 replace IA := IsAss.z IA kc5
 replace BH := BH.z kc5
 clear f29 a29 kc5
 refine L.ag f30 fun a31 f31 => ?_
 refine wn hK22 ?_
 have f32 := f31.pk [4, 7]
 refine wp_seq_k fun K23 hK23 => ?_
 have has_ := asc_of hop hnd hos
 have hol : out.length = Em.length := hop.length_eq
 refine C.region ?_
 refine L.ag f32 fun a33 f33 => ?_
 refine wn hK23 ?_
 have f34 := f33.pk [4, 7, 8]
 refine wp_seq_k fun K24 hK24 => C.sk fun K25 hK25 => ?_
 refine L.ag f34 fun a35 f35 => ?_
 refine wn hK25 ?_
 have f36 := f35.pk [4, 7, 8, 9]
 refine wp_block ?_
 clear f30 a30 f31 f32 a31 f33 f34 a33 f35
 refine C.loop (fun gk a W => ∃ k : Nat, k + gk = 10 ∧ Kept [] w1 W ∧ Blk W gH 26 (hcells has) ∧ Sl W SA out.length 2 (out.flatMap scp) ∧ Fr 133 a [(4, .pointer (some ⟨gH, 0, none⟩)), (7, .slice SA out.length sc), (8, .int .i64 ((cntH has k : Nat) : Int)), (9, .int .i64 k)]) (10) ?_ ?_
 ·exact ⟨0, rfl, HK, BH, SO, f36.sub (sx (sx (sx (sx sn))))⟩
 intro gk27 a37 w6 hI KL26 hKL26
 obtain ⟨k, hk, HK, BH, SO, f37⟩ := hI
 try clear f36
 have hck := cntH_le has k
 refine wp_seq_k fun K27 hK27 => C.sk fun K28 hK28 => ?_
 refine L.mv f37 fun a38 f38 => ?_
 refine L.va f38 (E.lss f38 rfl rfl) fun a39 f39 => ?_
 refine wn hK28 ?_
 have f40 := f39.pk [4, 7, 8, 9, 77, 78]
 clear f37 a37 f38 a38 f39
 refine f40.splitD 78 rfl (fun h3 f41 => ?_) (fun h3 f41 => ?_)
 ·have hk10 : k < 10 := by omega
  have hb3 := hS.b3 hk10
  refine C.condT f41 rfl ?_
  refine wp_skip (hK27 _ _ ?_)
  have f42 := f41.pk [4, 7, 8, 9, 77, 78]
  refine wp_seq_k fun K29 hK29 => ?_
  refine wp_block ?_
  refine wp_seq_k fun K30 hK30 => C.sk fun K31 hK31 => ?_
  refine L.mv f42 fun a43 f43 => ?_
  refine L.va f43 (E.indexArr f43 U26 wsz3_ss3 rfl rfl (by omega) (by omega)) fun a44 f44 => ?_
  refine L.va f44 (E.load f44 U3 rfl rfl ((hc_cell BH (k := k) (by rw [hS.len]; omega)))) fun a45 f45 => ?_
  refine L.va f45 (E.eql f45 rfl rfl) fun a46 f46 => ?_
  refine wn hK31 ?_
  have f47 := f46.pk [4, 7, 8, 9, 77, 78, 81, 82, 83, 84]
  clear f40 f41 f42 a39 f43 a43 f44 a44 f45 a45 f46
  refine f47.splitD 84 rfl (fun h4 f48 => ?_) (fun h4 f48 => ?_)
  ·have h84 := h4
   refine C.condT f48 rfl ?_
   refine wp_exit (hK29 _ _ ?_)
   have f49 := f48.pk [4, 7, 8, 9, 77, 78, 81, 82, 83, 84]
   refine C.region ?_
   refine L.mv f49 fun a50 f50 => ?_
   refine L.va f50 (E.add f50 rfl rfl (IntWalk.i64_in _ (by omega))) fun a51 f51 => ?_
   refine L.ag f51 fun a52 f52 => ?_
   clear f47 f48 f49 a46 f50 a50 f51 a51
   refine wpList_nil (hKL26 _ _ (gk27 - 1) ?_ ?_)
   ·omega
   exact ⟨k + 1, by omega, HK, BH, SO, f52.sub (sx (sx (sub_cons (by rw [cntH_n h84]; rfl) (sx sn))))⟩
  have h84 := h4
  refine C.condF f48 rfl ?_
  refine wp_skip (hK30 _ _ ?_)
  have f49 := f48.pk [4, 7, 8, 9, 77, 78, 81, 82, 83, 84]
  refine C.sk fun K32 hK32 => ?_
  refine L.mv f49 fun a50 f50 => ?_
  refine L.va f50 (E.add f50 rfl rfl (IntWalk.i64_in _ (by omega))) fun a51 f51 => ?_
  refine L.ag f51 fun a52 f52 => ?_
  have f53 := f52.pk [4, 7, 8, 9, 77, 78, 81, 82, 83, 84, 85, 86]
  refine wn hK32 (C.sk fun K33 hK33 => ?_)
  refine L.ag f53 fun a54 f54 => ?_
  refine wn hK33 ?_
  have f55 := f54.pk [4, 7, 8, 9, 10, 77, 78, 81, 82, 83, 84, 85, 86]
  refine wp_seq_k fun K34 hK34 => C.sk fun K35 hK35 => ?_
  refine L.ag f55 fun a56 f56 => ?_
  clear f47 f48 f49 a46 f50 a50 f51 a51 f52 f53 a52 f54 f55 a54
  refine wn hK35 ?_
  have f57 := f56.pk [4, 7, 8, 9, 10, 11, 77, 78, 81, 82, 83, 84, 85, 86]
  refine wp_block ?_
  clear f56
  refine C.loop (fun gk a W => ∃ (j : Nat) (b : Bool), j + gk = out.length ∧ b = (out.take j).any (fun p => decide (p = (fl k, has.getD k 0 - 1))) ∧ Kept [] w1 W ∧ Blk W gH 26 (hcells has) ∧ Sl W SA out.length 2 (out.flatMap scp) ∧ Fr 133 a [(4, .pointer (some ⟨gH, 0, none⟩)), (7, .slice SA out.length sc), (8, .int .i64 ((cntH has k : Nat) + 1)), (9, .int .i64 k), (10, .bool b), (11, .int .i64 j)]) (out.length) ?_ ?_
  ·exact ⟨0, false, by omega, rfl, HK, BH, SO, f57.sub (sx (sx (sx (sx (sx (sx sn))))))⟩
  intro gk37 a58 w7 hI KL36 hKL36
  obtain ⟨j, b, hj, hb, HK, BH, SO, f58⟩ := hI
  try clear f57
  refine wp_seq_k fun K37 hK37 => C.sk fun K38 hK38 => ?_
  refine L.mv f58 fun a59 f59 => ?_
  refine L.mv f59 fun a60 f60 => ?_
  refine L.va f60 (E.lenL f60 U30 rfl) fun a61 f61 => ?_
  refine L.va f61 (E.lss f61 rfl rfl) fun a62 f62 => ?_
  refine wn hK38 ?_
  have f63 := f62.pk [4, 7, 8, 9, 10, 11, 87, 88, 89, 90]
  clear f58 a58 f59 a59 f60 a60 f61 a61 f62
  refine f63.splitD 90 rfl (fun h5 f64 => ?_) (fun h5 f64 => ?_)
  ·obtain ⟨x, hx⟩ : ∃ x, out[j]? = some x := ⟨out[j]'(by omega), List.getElem?_eq_getElem _⟩
   obtain ⟨b2, off2, hA2⟩ := Sl.addr SO (by omega)
   refine C.condT f64 rfl ?_
   refine wp_skip (hK37 _ _ ?_)
   have f65 := f64.pk [4, 7, 8, 9, 10, 11, 87, 88, 89, 90]
   refine wp_seq_k fun K39 hK39 => ?_
   refine wp_block ?_
   have hd29 : Kept [] w7 (w7.drewN 1) := (Kept.refl _ _).drewN 1
   refine R.begin (S := fun W => (Kept [] w1 W) ∧ (Blk W gH 26 (hcells has)) ∧ (Sl W SA out.length 2 (out.flatMap scp))) (by kernel_rfl) ⟨HK.z hd29, BH.z hd29, SO.kept hd29⟩ ?_
   obtain ⟨w8, hww8⟩ : ∃ W, W = w7.drewN 1 := ⟨_, rfl⟩
   rw [← hww8] at hd29 ⊢
   clear f63 f64 hww8
   have szw8 := hd29.size
   replace HK := HK.z hd29
   replace BH := BH.z hd29
   replace SO := SO.kept hd29
   clear hd29
   refine R.t 0 f65 rfl ⟨HK, BH, SO⟩ (fun W hW => (E.move f65 rfl)) fun a66 f66 => ?_
   refine R.t 1 f66 rfl ⟨HK, BH, SO⟩ (fun W hW => (E.move f66 rfl)) fun a67 f67 => ?_
   clear f65 a62 f66 a66
   refine f67.split 94 rfl (fun h6 f68 => ?_) (fun h6 f68 => ?_)
   ·have h94 := h6
    refine R.ts 2 f68 rfl ⟨HK, BH, SO⟩ (f68.noF rfl rfl) fun a69 f69 => ?_
    refine R.ts 3 f69 rfl ⟨HK, BH, SO⟩ (f69.noF rfl rfl) fun a70 f70 => ?_
    refine R.ts 4 f70 rfl ⟨HK, BH, SO⟩ (f70.noF rfl rfl) fun a71 f71 => ?_
    refine R.ts 5 f71 rfl ⟨HK, BH, SO⟩ (f71.noF rfl rfl) fun a72 f72 => ?_
    refine R.ts 6 f72 rfl ⟨HK, BH, SO⟩ (f72.noF rfl rfl) fun a73 f73 => ?_
    refine R.ts 7 f73 rfl ⟨HK, BH, SO⟩ (f73.noF rfl rfl) fun a74 f74 => ?_
    refine R.ts 8 f74 rfl ⟨HK, BH, SO⟩ (f74.noF rfl rfl) fun a75 f75 => ?_
    clear f67 f68 a67 f69 a69 f70 a70 f71 a71 f72 a72 f73 a73 f74 a74
    refine R.ts 9 f75 rfl ⟨HK, BH, SO⟩ (f75.noF rfl rfl) fun a76 f76 => ?_
    refine R.ts 10 f76 rfl ⟨HK, BH, SO⟩ (f76.noF rfl rfl) fun a77 f77 => ?_
    refine R.ts 11 f77 rfl ⟨HK, BH, SO⟩ (f77.noF rfl rfl) fun a78 f78 => ?_
    refine R.ts 12 f78 rfl ⟨HK, BH, SO⟩ (f78.noF rfl rfl) fun a79 f79 => ?_
    refine R.ts 13 f79 rfl ⟨HK, BH, SO⟩ (f79.noF rfl rfl) fun a80 f80 => ?_
    refine R.ts 14 f80 rfl ⟨HK, BH, SO⟩ (f80.noF rfl rfl) fun a81 f81 => ?_
    refine R.t 15 f81 rfl ⟨HK, BH, SO⟩ (fun W hW => (E.pickT f81 rfl rfl)) fun a82 f82 => ?_
    clear f75 a75 f76 a76 f77 a77 f78 a78 f79 a79 f80 a80 f81 a81
    refine R.t 16 f82 rfl ⟨HK, BH, SO⟩ (fun W hW => (E.assign f82 rfl)) fun a83 f83 => ?_
    refine R.done (by kernel_rfl) (hK39 _ _ ?_)
    have f84 := f83.pk [4, 7, 8, 9, 10, 11, 87, 88, 89, 90, 93, 94, 95, 96, 97, 98, 99, 100, 101, 102, 103, 104, 105, 106, 107, 108]
    refine C.region ?_
    refine L.mv f84 fun a85 f85 => ?_
    refine L.va f85 (E.add f85 rfl rfl (IntWalk.i64_in _ (by omega))) fun a86 f86 => ?_
    refine L.ag f86 fun a87 f87 => ?_
    clear f82 a82 f83 f84 a83 f85 a85 f86 a86
    refine wpList_nil (hKL36 _ _ (gk37 - 1) ?_ ?_)
    ·omega
    exact ⟨j + 1, _, by omega, any_t hx (by rw [← hb]; assumption), HK, BH, SO, f87.sub (sr rfl (sr rfl (sr rfl (sr rfl (sr rfl (sr rfl sn))))))⟩
   have h94 := h6
   refine R.t 2 f68 rfl ⟨HK, BH, SO⟩ (fun W hW => (E.move f68 rfl)) (hw := (f68.yes rfl rfl)) fun a69 f69 => ?_
   refine R.t 3 f69 rfl ⟨HK, BH, SO⟩ (fun W hW => (E.move f69 rfl)) (hw := (f69.yes rfl rfl)) fun a70 f70 => ?_
   refine R.t 4 f70 rfl ⟨HK, BH, SO⟩ (fun W hW => (E.indexA f70 (by assumption) U30 wsz33_ss3 rfl rfl (by omega) (by omega))) (hw := (f70.yes rfl rfl)) fun a71 f71 => ?_
   refine R.t 5 f71 rfl ⟨HK, BH, SO⟩ (fun W hW => (E.loadR f71 U33 rfl wsz33_ss3 rfl ((ss_r hW.2.2 hA2 hx)) rfl)) (hw := (f71.yes rfl rfl)) fun a72 f72 => ?_
   refine R.t 6 f72 rfl ⟨HK, BH, SO⟩ (fun W hW => (E.move f72 rfl)) (hw := (f72.yes rfl rfl)) fun a73 f73 => ?_
   refine R.t 7 f73 rfl ⟨HK, BH, SO⟩ (fun W hW => (E.conv f73 U3 U5 rfl (IntWalk.u8_in _ (by omega)))) (hw := (f73.yes rfl rfl)) fun a74 f74 => ?_
   refine R.t 9 f74 rfl ⟨HK, BH, SO⟩ (fun W hW => (E.move f74 rfl)) (hw := (f74.yes rfl rfl)) fun a75 f75 => ?_
   clear f67 f68 a67 f69 a69 f70 a70 f71 a71 f72 a72 f73 a73 f74 a74
   refine R.t 10 f75 rfl ⟨HK, BH, SO⟩ (fun W hW => (E.indexArr f75 U26 wsz3_ss3 rfl rfl (by omega) (by omega))) (hw := (f75.yes rfl rfl)) fun a76 f76 => ?_
   refine R.t 11 f76 rfl ⟨HK, BH, SO⟩ (fun W hW => (E.load f76 U3 rfl rfl ((hc_cell hW.2.1 (k := k) (by rw [hS.len]; omega))))) (hw := (f76.yes rfl rfl)) fun a77 f77 => ?_
   refine R.t 12 f77 rfl ⟨HK, BH, SO⟩ (fun W hW => (E.sub f77 rfl rfl (IntWalk.i64_in _ (by omega)))) (hw := (f77.yes rfl rfl)) fun a78 f78 => ?_
   refine R.call 8 f78 rfl rfl (by decide) (by kernel_rfl) (f78.yes rfl rfl) (run_call Tryd.call7 (args1 f78 rfl)) (sfilterK k _ hk10) ?_
   clear f75 a75 f76 a76 f77 a77
   rintro e w9 ⟨kc9, rfl⟩
   have szw9 := kc9.size
   replace HK := HK.z kc9
   replace BH := BH.z kc9
   replace SO := SO.kept kc9
   refine ⟨_, rfl, ⟨HK, BH, SO⟩, fun a79 f79 => ?_⟩
   clear f78 a78 kc9
   refine R.t 13 f79 rfl ⟨HK, BH, SO⟩ (fun W hW => (E.build f79 (parts2 f79 rfl rfl) (wbl33_0_1_ss3 _ _))) (hw := (f79.yes rfl rfl)) fun a80 f80 => ?_
   refine R.t 14 f80 rfl ⟨HK, BH, SO⟩ (fun W hW => (E.eqlV f80 rfl rfl (eqlSub _ _ x (fl k, has.getD k 0 - 1)))) (hw := (f80.yes rfl rfl)) fun a81 f81 => ?_
   refine R.t 15 f81 rfl ⟨HK, BH, SO⟩ (fun W hW => (E.pickF f81 rfl rfl)) fun a82 f82 => ?_
   refine R.t 16 f82 rfl ⟨HK, BH, SO⟩ (fun W hW => (E.assign f82 rfl)) fun a83 f83 => ?_
   refine R.done (by kernel_rfl) (hK39 _ _ ?_)
   have f84 := f83.pk [4, 7, 8, 9, 10, 11, 87, 88, 89, 90, 93, 94, 95, 96, 97, 98, 99, 100, 101, 102, 103, 104, 105, 106, 107, 108]
   refine C.region ?_
   refine L.mv f84 fun a85 f85 => ?_
   refine L.va f85 (E.add f85 rfl rfl (IntWalk.i64_in _ (by omega))) fun a86 f86 => ?_
   refine L.ag f86 fun a87 f87 => ?_
   clear f79 a79 f80 a80 f81 a81 f82 a82 f83 f84 a83 f85 a85 f86 a86
   refine wpList_nil (hKL36 _ _ (gk37 - 1) ?_ ?_)
   ·omega
   exact ⟨j + 1, _, by omega, any_n hx (by rw [← hb]; assumption), HK, BH, SO, f87.sub (sr rfl (sr rfl (sr rfl (sr rfl (sr rfl (sr rfl sn))))))⟩
  have hend3 := h5
  refine C.condF f64 rfl ?_
  refine wp_exit (hK34 _ _ ?_)
  have f65 := f64.pk [4, 7, 8, 9, 10, 11, 87, 88, 89, 90]
  refine wp_seq_k fun K40 hK40 => ?_
  have hb1 : b = true := by rw [hb, List.take_of_length_le (by omega)]; exact List.any_eq_true.2 ⟨_, SI.tells hS hop (by omega) h84, by simp⟩
  rw [hb1] at f65
  refine C.region ?_
  refine L.mv f65 fun a66 f66 => ?_
  refine L.va f66 (E.not f66 rfl) fun a67 f67 => ?_
  refine wn hK40 ?_
  have f68 := f67.pk [4, 7, 8, 9, 10, 11, 87, 88, 89, 90, 109, 110]
  refine C.condF f68 rfl ?_
  refine wp_skip (hK29 _ _ ?_)
  have f69 := f68.pk [4, 7, 8, 9, 10, 11, 87, 88, 89, 90, 109, 110]
  refine C.region ?_
  refine L.mv f69 fun a70 f70 => ?_
  refine L.va f70 (E.add f70 rfl rfl (IntWalk.i64_in _ (by omega))) fun a71 f71 => ?_
  refine L.ag f71 fun a72 f72 => ?_
  clear f63 f64 f65 a62 f66 a66 f67 f68 f69 a67 f70 a70 f71 a71
  refine wpList_nil (hKL26 _ _ (gk27 - 1) ?_ ?_)
  ·omega
  exact ⟨k + 1, by omega, HK, BH, SO, f72.sub (sx (sx (sub_cons (by rw [cntH_y h84]; rfl) (sx sn))))⟩
 have hend2 := h3
 refine C.condF f41 rfl ?_
 refine wp_exit (hK24 _ _ ?_)
 have f42 := f41.pk [7, 8]
 refine wp_seq_k fun K41 hK41 => ?_
 refine wp_seq_k fun K42 hK42 => ?_
 rw [show k = 10 by omega] at f42
 refine C.region ?_
 refine L.ag f42 fun a43 f43 => ?_
 refine wn hK42 ?_
 have f44 := f43.pk [7, 8, 12]
 refine wp_block ?_
 clear f40 f41 f42 a39 f43
 refine C.loop (fun gk a W => ∃ m : Nat, m + gk = out.length + 1 ∧ 1 ≤ m ∧ Kept [] w1 W ∧ Blk W gH 26 (hcells has) ∧ Sl W SA out.length 2 (out.flatMap scp) ∧ Fr 133 a [(7, .slice SA out.length sc), (8, .int .i64 ((cntH has 10 : Nat) : Int)), (12, .int .i64 m)]) (out.length) ?_ ?_
 ·exact ⟨1, by omega, Nat.le_refl _, HK, BH, SO, f44.sub (sx (sx (sx sn)))⟩
 intro gk44 a45 w7 hI KL43 hKL43
 obtain ⟨m, hm, hm1, HK, BH, SO, f45⟩ := hI
 try clear f44
 refine wp_seq_k fun K44 hK44 => C.sk fun K45 hK45 => ?_
 refine L.mv f45 fun a46 f46 => ?_
 refine L.mv f46 fun a47 f47 => ?_
 refine L.va f47 (E.lenL f47 U30 rfl) fun a48 f48 => ?_
 refine L.va f48 (E.lss f48 rfl rfl) fun a49 f49 => ?_
 refine wn hK45 ?_
 have f50 := f49.pk [7, 8, 12, 111, 112, 113, 114]
 clear f45 a45 f46 a46 f47 a47 f48 a48 f49
 refine f50.splitD 114 rfl (fun h7 f51 => ?_) (fun h7 f51 => ?_)
 ·obtain ⟨x, hx⟩ : ∃ x, out[m]? = some x := ⟨out[m]'(by omega), List.getElem?_eq_getElem _⟩
  obtain ⟨y, hx2⟩ : ∃ x, out[((m : Int) - 1).toNat]? = some x := ⟨out[((m : Int) - 1).toNat]'(by omega), List.getElem?_eq_getElem _⟩
  obtain ⟨b2, off2, hA2⟩ := Sl.addr SO (by omega)
  have hlt := has_ _ _ _ _ (by omega) hx2 hx
  refine C.condT f51 rfl ?_
  refine wp_skip (hK44 _ _ ?_)
  have f52 := f51.pk [7, 8, 12, 111, 112, 113, 114]
  refine wp_seq_k fun K46 hK46 => ?_
  refine wp_block ?_
  refine wp_seq_k fun K47 hK47 => ?_
  have hd35 : Kept [] w7 (w7.drewN 1) := (Kept.refl _ _).drewN 1
  refine R.begin (S := fun W => (Kept [] w1 W) ∧ (Blk W gH 26 (hcells has)) ∧ (Sl W SA out.length 2 (out.flatMap scp))) (by kernel_rfl) ⟨HK.z hd35, BH.z hd35, SO.kept hd35⟩ ?_
  obtain ⟨w8, hww8⟩ : ∃ W, W = w7.drewN 1 := ⟨_, rfl⟩
  rw [← hww8] at hd35 ⊢
  clear f50 f51 hww8
  have szw8 := hd35.size
  replace HK := HK.z hd35
  replace BH := BH.z hd35
  replace SO := SO.kept hd35
  clear hd35
  refine R.t 0 f52 rfl ⟨HK, BH, SO⟩ (fun W hW => (E.move f52 rfl)) fun a53 f53 => ?_
  refine R.t 1 f53 rfl ⟨HK, BH, SO⟩ (fun W hW => (E.move f53 rfl)) fun a54 f54 => ?_
  refine R.t 2 f54 rfl ⟨HK, BH, SO⟩ (fun W hW => (E.sub f54 rfl rfl (IntWalk.i64_in _ (by omega)))) fun a55 f55 => ?_
  refine R.t 3 f55 rfl ⟨HK, BH, SO⟩ (fun W hW => (E.indexA f55 (by assumption) U30 wsz33_ss3 rfl rfl (by omega) (by omega))) fun a56 f56 => ?_
  refine R.t 4 f56 rfl ⟨HK, BH, SO⟩ (fun W hW => (E.fa 0 f56 U33 rfl wsz9_ss3)) fun a57 f57 => ?_
  refine R.t 5 f57 rfl ⟨HK, BH, SO⟩ (fun W hW => (E.load f57 U9 rfl rfl ((ss_rI hW.2.2 hA2 hx2 0 _ rfl)))) fun a58 f58 => ?_
  refine R.t 6 f58 rfl ⟨HK, BH, SO⟩ (fun W hW => (E.move f58 rfl)) fun a59 f59 => ?_
  clear f52 a49 f53 a53 f54 a54 f55 a55 f56 a56 f57 a57 f58 a58
  refine R.t 7 f59 rfl ⟨HK, BH, SO⟩ (fun W hW => (E.move f59 rfl)) fun a60 f60 => ?_
  refine R.t 8 f60 rfl ⟨HK, BH, SO⟩ (fun W hW => (E.indexA f60 (by assumption) U30 wsz33_ss3 rfl rfl (by omega) (by omega))) fun a61 f61 => ?_
  refine R.t 9 f61 rfl ⟨HK, BH, SO⟩ (fun W hW => (E.fa 0 f61 U33 rfl wsz9_ss3)) fun a62 f62 => ?_
  refine R.t 10 f62 rfl ⟨HK, BH, SO⟩ (fun W hW => (E.load f62 U9 rfl rfl ((ss_r hW.2.2 hA2 hx 0 _ rfl)))) fun a63 f63 => ?_
  refine R.t 11 f63 rfl ⟨HK, BH, SO⟩ (fun W hW => (E.geqS f63 rfl rfl)) fun a64 f64 => ?_
  have f65 := f64.as (i := 128) (v' := .bool false) rfl (by show Value.bool (!_) = _; rw [show Op.bytesLess _ _ = true from hlt]; rfl)
  refine R.done (by kernel_rfl) (hK47 _ _ ?_)
  have f66 := f65.pk [7, 8, 12, 111, 112, 113, 114, 117, 118, 119, 120, 121, 122, 123, 124, 125, 126, 127, 128]
  refine C.condF f66 rfl ?_
  refine wp_skip (hK46 _ _ ?_)
  have f67 := f66.pk [7, 8, 12, 111, 112, 113, 114, 117, 118, 119, 120, 121, 122, 123, 124, 125, 126, 127, 128]
  refine C.region ?_
  refine L.mv f67 fun a68 f68 => ?_
  clear f59 a59 f60 a60 f61 a61 f62 a62 f63 a63 f64 f65 f66 f67 a64
  refine L.va f68 (E.add f68 rfl rfl (IntWalk.i64_in _ (by omega))) fun a69 f69 => ?_
  refine L.ag f69 fun a70 f70 => ?_
  clear f68 a68 f69 a69
  refine wpList_nil (hKL43 _ _ (gk44 - 1) ?_ ?_)
  ·omega
  exact ⟨m + 1, by omega, by omega, HK, BH, SO, f70.sub (sx (sx (sx sn)))⟩
 have hend4 := h7
 refine C.condF f51 rfl ?_
 refine wp_exit (hK41 _ _ ?_)
 have f52 := f51.pk [7, 8]
 refine C.sk fun K48 hK48 => ?_
 refine L.mv f52 fun a53 f53 => ?_
 refine L.mv f53 fun a54 f54 => ?_
 refine L.va f54 (E.lenL f54 U30 rfl) fun a55 f55 => ?_
 refine L.va f55 (E.eql f55 rfl rfl) fun a56 f56 => ?_
 have f57 := f56.as (i := 132) (v' := .bool true) rfl (by rw [hS.cnt hnd, ← hop.length_eq]; simp)
 refine L.ag f57 fun a58 f58 => ?_
 have f59 := f58.pk [2]
 clear f50 f51 f52 a49 f53 a53 f54 a54 f55 a55 f56 f57 a56 f58
 refine wn hK48 (wp_ret ?_); (try simp only [xt, xb]); refine C.ret f59 rfl rfl ?_
 exact ⟨HK0.z HK, rfl⟩
end Go.Proofs.YtdfllmiokgoekaaDoor
namespace Go.Hub
open Go.RowKit Go.ChangeShapes Go.WideShapes Go.Deep
section
variable {H : Type} {enc : TypeId × Value → H} {P : Program} {w : World} {spare : Nat → Bool} {held : Bool}
theorem spot0 {b off : Nat} {s : Option Nat} {v : Value} (h : w.cell? ⟨b, off, s⟩ = some v) : s = none := World.cell?_spot h
theorem open_bytes {t e n : Nat} {cs : List Value} {y : DataW H × List MemPlace} (E : List TypeId) (ht : P.underlying t = some (.slice e)) (he : P.underlying e = some (.int .u8)) (hsz : P.cellsOf e = 1)
    (h : DataW.trod enc P w 0 spare held n t cs = some y) : ∃ A c l, cs = [.slice A l.length c] ∧ l.length ≤ maxLen ∧ Bs E w.heap.size w A l.length l := by
  rcases open_ints ht he hsz h with ⟨rfl, _⟩ | ⟨a, len, cap, zs, rfl, _, hl, hm, hz, _, hc, hw⟩
  · exact ⟨none, 0, [], rfl, by simp [maxLen], Bs.nil _ _ _ _⟩
  · have hzl : len ≤ zs.length := by rw [hz]; split <;> omega
    have hlen : ((zs.take len).map fun z => UInt8.ofNat z.toNat).length = len := by simp; omega
    refine ⟨some a, cap, (zs.take len).map fun z => UInt8.ofNat z.toNat, by rw [hlen], by rw [hlen]; omega, ?_⟩
    rw [hlen]
    refine ⟨hlen, fun hp => ?_⟩
    obtain ⟨b, off, s⟩ := a
    have h0 := hc 0 (by omega)
    have h01 : w.cell? ⟨b, off, s⟩ = some (.int .u8 (zs.getD 0 0)) := by simpa [Addr.add] using h0
    obtain rfl := spot0 h01
    have hbw := World.block_lt_of_cell? w _ h01
    refine ⟨b, off, rfl, hbw, .inl hbw, fun j x hx => ?_⟩
    simp only [List.getElem?_map, Option.map_eq_some_iff] at hx
    obtain ⟨z, hz2, rfl⟩ := hx
    have hj : j < len := by
      rcases Nat.lt_or_ge j len with h | h
      · exact h
      · rw [List.getElem?_take, if_neg (by omega)] at hz2; cases hz2
    rw [List.getElem?_take, if_pos hj] at hz2
    have := hc j (by omega)
    rw [add_none] at this
    rw [this]
    have hzw := bd_u8 (hw z (List.mem_of_getElem? hz2))
    have e1 : zs.getD j 0 = z := by simp [List.getD_eq_getElem?_getD, hz2]
    rw [e1]
    unfold u8
    rw [UInt8.toNat_ofNat']
    congr 2
    omega
theorem arg_bytes {t e b0 : Nat} {r : Reach} {v : Value} {d : DataW H} {p : List MemPlace} (E : List TypeId) (ht : P.underlying t = some (.slice e)) (he : P.underlying e = some (.int .u8)) (hsz : P.cellsOf e = 1)
    (hv : Value.okWide P w r b0 t v) (h : DataW.Trod enc P w 0 spare held t v d p) : ∃ A c l, v = .slice A (l : List UInt8).length c ∧ l.length ≤ maxLen ∧ Bs E w.heap.size w A l.length l := by
  obtain ⟨a, len, cap, rfl⟩ := okWide_slice ht hv
  obtain ⟨fuel, hf⟩ := h
  obtain ⟨A, c, l, hcs, h1, h2⟩ := open_bytes E ht he hsz hf
  have e1 : [Value.slice a len cap] = [Value.slice A l.length c] := by rw [← hcs]; rfl
  injection e1 with e1
  exact ⟨A, c, l, e1, h1, h2⟩
end
end Go.Hub
set_option maxRecDepth 100000
namespace Go.Proofs.YtdfllmiokgoekaaDoor
open Go.RowKit Go.Hub Go.Lib Go.Shelf Go.ChangeShapes Go.WideShapes Go.Deep
def laidU : List (String × DataW Unit) := [("unicode/utf8.acceptRanges", Rows.laid_unicode_utf8_acceptRanges), ("unicode/utf8.first", Rows.laid_unicode_utf8_first)]
def tabRen : Ren := ⟨fun n => n, fun | 119 => 119 | 138 => 121 | 139 => 122 | n => n, fun | 3 => 0 | 4 => 1 | n => n⟩
theorem tabTypes : U8Types Tryd.prog tabRen := { t5 := by kernel_rfl, t119 := by kernel_rfl, t138 := by kernel_rfl, t139 := by kernel_rfl }
theorem tabExtra : U8Extra Tryd.prog tabRen := { n3 := by kernel_rfl, n4 := by kernel_rfl, y3 := by kernel_rfl, y4 := by kernel_rfl, c5 := by kernel_rfl, c119 := by kernel_rfl, c138 := by kernel_rfl }
theorem first_eq : Rows.laid_unicode_utf8_first = firstData := by kernel_rfl
theorem accept_eq : (Rows.laid_unicode_utf8_acceptRanges : DataW Unit) = acceptData := by kernel_rfl
theorem tabs_of {w : World} (h : laidMet Tryd.prog laidU w) : Tabs w := by
  have h1 := laidMet.reads h (n := "unicode/utf8.first") (d := Rows.laid_unicode_utf8_first) (by simp [laidU])
  have h2 := laidMet.reads h (n := "unicode/utf8.acceptRanges") (d := Rows.laid_unicode_utf8_acceptRanges) (by simp [laidU])
  rw [first_eq] at h1
  rw [accept_eq] at h2
  exact utf8Tabs_of_readsT tabTypes tabExtra h1 h2
theorem laid_filter : (laidU.filter fun x => x.2.handleName?.isSome) = [] := by kernel_rfl
theorem met_of {w : World} (h : laidMetH Tryd.prog laidU w) : laidMet Tryd.prog laidU w := by
  unfold laidMetH at h
  rw [laid_filter] at h
  exact h
def layIn (cs : List Value) : Obj → Obj
  | .cells _ t frozen => .cells cs.toArray t frozen
  | o => o
def firstCells : List Value := (List.range 256).map fun c => Value.int .u8 (firstT c : Int)
def acceptCells : List Value := (List.range 32).map fun c => Value.int .u8 (if c % 2 = 0 then (accLo (c / 2) : Int) else (accHi (c / 2) : Int))
noncomputable def laidWorld (os : Os) : World :=
  { World.holding Tryd.prog os ⟨#[], #[], []⟩ with heap := ((World.holding Tryd.prog os ⟨#[], #[], []⟩).heap.modify 0 (layIn firstCells)).modify 1 (layIn acceptCells) }
theorem glob_of {w : World} (h : laidMet Tryd.prog laidU w) (hsh : w.ShapedOpen Tryd.prog) : Glob w := by
  obtain ⟨s0, hs⟩ := cell_of_shapedOpen_int (P := Tryd.prog) (g := 2) (t := 3) (zero := #[.int .i64 0]) hsh (of_decide_eq_true (by kernel_rfl)) (by kernel_rfl) rfl (by kernel_rfl) (by kernel_rfl) U3
  exact ⟨tabs_of h, s0, hs⟩
section
variable {H : Type} {enc : TypeId × Value → H} {w : World} {spare : Nat → Bool} {held : Bool}
def IsBs (w : World) (v : Value) : Prop := ∃ (us : List UInt8) (A : Option Addr) (c : Nat), v = .slice A us.length c ∧ Sl w A us.length 1 (us.map u8)
theorem arg_us {b0 : Nat} {r : Reach} {v : Value} {d : DataW H} {p : List MemPlace} (hv : Value.okWide Tryd.prog w r b0 22 v) (h : DataW.Trod enc Tryd.prog w 0 spare held 22 v d p) : IsBs w v := by
  obtain ⟨A, c, l, rfl, _, h2⟩ := arg_bytes [5] U22 U5 (show Tryd.prog.cellsOf 5 = 1 by kernel_rfl) hv h
  exact ⟨l, A, c, rfl, Sl.of_rds h2.rds⟩
end
theorem end_of {e : Ending} {w w' : World} (h : Kept [] w w' ∧ e = .returned (.bool true)) : e = .returned (.bool true) ∧ Below w.heap.size w w' := ⟨h.2, h.1.below0⟩
theorem subs_row {v0 : Value} {w : World} (G : Glob w) (h0 : IsBs w v0) :
    Calls Tryd.prog 3 #[v0] w fun e w' => e = .returned (.bool true) ∧ Below w.heap.size w w' := by
  obtain ⟨us, A, c, rfl, h0⟩ := h0
  exact (subs_walk us A c w G h0).mono fun _ _ => end_of
end Go.Proofs.YtdfllmiokgoekaaDoor
