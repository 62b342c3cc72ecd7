/- Contracts: New, Again, Resume, Send. -/
import Derived.Test.YtdfllmiokgoekaaSk
set_option linter.all false
namespace Go.Proofs.Ytdfllmiokgoekaa
open Go.RowKit Go.Hub
theorem wbl57_0_1_2_3_4_5_k (x0 : ByteArray) (x1 : Option Nat) (x2 : Option Addr) (x3 : Option Addr) (y3 z3 : Nat) (x4 : Option Addr) (x5 : Option Nat) : Try.prog.built 57 [(0, .string x0), (1, .map x1), (2, .pointer x2), (3, .slice x3 y3 z3), (4, .pointer x4), (5, .map x5)] = some #[.string x0, .map x1, .pointer x2, .slice x3 y3 z3, .pointer x4, .map x5] := by kernel_rfl
theorem wzib35_k : (Try.prog.info? 35).map (fun i => (i.zero, i.size, i.bytes)) = some (some (.agg #[(.int .i64 0), (.bool false), (.bool false), (.int .i64 0), (.int .i64 0), (.string ⟨#[]⟩), (.slice none 0 0), (.int .i64 0), (.string ⟨#[]⟩), (.bool false), (.int .i64 0), (.bool false), (.string ⟨#[]⟩), (.slice none 0 0), (.int .i64 0), (.bool false), (.bool false), (.bool false), (.string ⟨#[]⟩), (.slice none 0 0), (.bool false), (.int .i64 0), (.slice none 0 0), (.slice none 0 0)]), 24, 288) := by kernel_rfl
theorem wsz3_k : (Try.prog.info? 3).map (·.size) = some 1 := by kernel_rfl
theorem wsz43_k : (Try.prog.info? 43).map (·.size) = some 4 := by kernel_rfl
theorem wsz52_k : (Try.prog.info? 52).map (·.size) = some 1 := by kernel_rfl
theorem wsz55_k : (Try.prog.info? 55).map (·.size) = some 1 := by kernel_rfl

def NewPost (B : Nat) (cl : ByteArray) (w : World) (e : Ending) (w' : World) : Prop := ∃ p s, e = .returned (.pointer (some ⟨p, 0, none⟩)) ∧ SesAt B w' p s ∧ s.abs = newS ∧ s.cl = cl ∧ Mod [] [] B w w'
theorem new_fin {B : Nat} {cl : ByteArray} {w W : World} {p ip im q gs gm : Nat} (hB : B ≤ w.heap.size) (HK : Mod [] [] B w W) (BP : Blk W p 57 #[.string cl, .map (some gs), .pointer (some ⟨ip, 0, none⟩), .slice none 0 0, .pointer (some ⟨q, 0, none⟩), .map (some gm)])
    (ID : IdsAt W ip im [] (mostI 65535 65535) 0) (BQ : Blk W q 72 #[.slice none 0 0, .int .i64 (mostI 8 65536), .int .i64 0]) (IG : IsSet Try.prog 3 4 W gm []) (h1 : B ≤ p) (h2 : B ≤ ip) (h3 : B ≤ im) (h4 : B ≤ q) (h5 : B ≤ gm) (him : im ≠ gm) : NewPost B cl w (.returned (.pointer (some ⟨p, 0, none⟩))) W :=
  ⟨p, ⟨cl, .map (some gs), ip, im, q, gm, [], 0, [], none, 0, [], none, 0, 0, []⟩, rfl, ⟨BP, rfl, ID, ⟨BQ, Own.nil _ _ _, by simp, h4, by simp, by simp⟩, ⟨Own.nil _ _ _, by simp, by simp, by simp⟩, IG, him, h1, h2, h3, h5, by simp, List.Perm.nil, by simp, by simp⟩, rfl, rfl, HK⟩
def OutPost (T : List TypeId) (B p : Nat) (s : Ses) (r : SA × List Pa) (w : World) (e : Ending) (w' : World) : Prop :=
  ∃ s' A c pks, e = .returned (.slice A pks.length c) ∧ SesAt B w' p s' ∧ (s'.abs, pks.map (·.p)) = r ∧ s.Like s' ∧ Mod T [s.im, s.gm] B w w' ∧ PkAt B w w' A c pks ∧ pks.length ≤ 10
theorem pcells_one (l : List Pc) : ∀ u ∈ l.flatMap pcell, u.oneCell' = true := fun u hu => by
  obtain ⟨x, _, h⟩ := List.mem_flatMap.1 hu
  exact pcell_one x u h
theorem PkAt.app {B : Nat} {w0 w w' : World} {A A' : Option Addr} {c c' : Nat} {l l2 : List Pc} (h : PkAt B w0 w A c l) (ap : App w w' 35 24 A l.length c (l.flatMap pcell) (l2.flatMap pcell) l2.length A' c') (hw : w0.heap.size ≤ w.heap.size) (hB : B ≤ w0.heap.size) (hp : ∀ x ∈ l2, Pay B w x.A x.p.pay) : PkAt B w0 w' A' c' (l ++ l2) := by
  have hm : Mod [35] [] B w w' := .of_app ap h.fr.own (fun a ha => Nat.le_trans hB (h.fr.from a ha)) (by simp)
  refine ⟨by simpa using ap.next h.fr hw, fun y hy => ?_⟩
  rcases List.mem_append.1 hy with hy | hy
  · exact (h.pay y hy).mod hm (by decide)
  · exact (hp y hy).mod hm (by decide)
theorem drainN_len : ∀ (k : Nat) (s : SA) (now : Int), (drainN k s now).2.length ≤ k
  | 0, _, _ => by simp [drainN]
  | k + 1, s, now => by
    unfold drainN
    split
    · split
      · simp
      · simp only [List.length_cons]
        exact Nat.succ_le_succ (drainN_len k _ now)
    · simp
theorem drainS_len (s : SA) (now : Int) : (drainS s now).2.length ≤ 5 := drainN_len 5 s now
theorem pk_one {B g : Nat} {w W : World} {x : Pc} (O : Own W 35 24 (.slice (some ⟨g, 0, none⟩) 1 1) 1 (pcell x)) (hg : w.heap.size ≤ g) (hp : Pay B W x.A x.p.pay) : PkAt B w W (some ⟨g, 0, none⟩) 1 [x] :=
  ⟨⟨by simpa using O, fun b hb => by simp at hb; omega⟩, fun y hy => by obtain rfl := List.mem_singleton.1 hy; exact hp⟩
theorem SesAt.p_ne_q {B p : Nat} {w : World} {s : Ses} (h : SesAt B w p s) : p = s.q → False := fun e => by
  have h1 := h.top
  rw [e] at h1
  have h2 := h.qu.top
  unfold Blk at h1 h2
  rw [h1] at h2
  injection h2 with h2
  injection h2 with _ h3 _
  exact absurd h3 (by decide)
section
variable {s : SA} {m : Ms} {on : Bool} {now : Int}
theorem send_rise (h0 : ¬ (m.qos = 0 ∧ on = true)) (h1 : ¬ m.qos < 1) (h2 : ¬ 2 < m.qos) (h3 : on = true) {t : Ses} (h4 : (t.fly.length : Int) < 4) (h5 : t.wait.length = 0) : sendS t.abs m on now = (riseS t.abs m now, [riseP t.abs m]) := by
  have h6 : t.abs.fly.length < 4 := by rw [abs_fly]; omega
  have h7 : t.abs.wait.length = 0 := by simp [Ses.abs, h5]
  rw [sendS, if_neg h0, if_neg (by omega), if_pos ⟨h3, h6, h7⟩]
theorem send_none (h0 : ¬ (m.qos = 0 ∧ on = true)) (h1 : m.qos < 1 ∨ 2 < m.qos) : sendS s m on now = (s, []) := by rw [sendS, if_neg h0, if_pos h1]
theorem send_push (h0 : ¬ (m.qos = 0 ∧ on = true)) (h1 : ¬ m.qos < 1) (h2 : ¬ 2 < m.qos) {t : Ses} (h : ¬ (on = true ∧ (t.fly.length : Int) < 4 ∧ (t.wait.length : Int) = 0)) : sendS t.abs m on now = (pushS t.abs m, []) := by
  rw [sendS, if_neg h0, if_neg (by omega), if_neg ?_]
  rintro ⟨h3, h4, h5⟩
  rw [abs_fly] at h4
  exact h ⟨h3, by omega, by simp [Ses.abs] at h5; simp [h5]⟩
theorem send_fin {B p : Nat} {s : Ses} {w W : World} {A2 : Option Addr} {c2 : Nat} {l2 : List Mc} (hS : SesAt B w p s) (HK : Mod [57, 69, 61, 72, 43] [s.im, s.gm] B w W) (HK1 : Mod [72, 43] [] B w W) (BP : Blk W p 57 s.cells) (HQ : QuAt B W s.q A2 c2 l2 (if s.wait.length < 8 then s.lost else s.lost + 1)) (hql : l2.map (·.m) = if s.wait.length < 8 then s.wait.map (·.m) ++ [m] else s.wait.map (·.m))
    (h : sendS s.abs m on now = (pushS s.abs m, [])) : OutPost [57, 69, 61, 72, 43] B p s (sendS s.abs m on now) w (.returned (.slice none 0 0)) W := by
  refine ⟨{ s with wait := l2, QA := A2, qc := c2, lost := if s.wait.length < 8 then s.lost else s.lost + 1 }, none, 0, [], rfl, ⟨BP, hS.one, hS.ids.mod HK1 (by decide) (by simp), HQ, hS.fly.mod HK1 (by decide), hS.got.mod HK1 (by simp), hS.ne, hS.lop, hS.loi, hS.lom, hS.log, hS.tk, hS.perm, hS.ats, hS.idb⟩, ?_, ⟨rfl, rfl, rfl⟩, HK, PkAt.nil _ _ _, by simp⟩
  rw [h]
  unfold pushS Ses.abs
  simp only [List.length_map]
  split
  · rename_i h8; rw [if_pos h8] at hql; simp [hql, h8]
  · rename_i h8; rw [if_neg h8] at hql; simp [hql, h8]
end

set_option maxHeartbeats 1000000 in
theorem new_any (cl : ByteArray) (B : Nat) (w : World) (hB : B ≤ w.heap.size) : Calls Try.prog 10 #[.string cl] w (NewPost B cl w) := by
  have HK : Mod [] [] B w w := .refl _ _ _ _
  refine C.enter Try.func10 rfl Try.ntmps10 rfl ?_
  intro a0 f0
  have f1 : Fr 10 a0 [(0, .string cl)] := f0
  clear f0
  refine wp_seq_k fun K0 hK0 => ?_
  refine C.region ?_
  refine L.val f1 wantedN rfl (by decide) (E.assign f1 rfl) fun a2 f2 => ?_
  clear f1 a0
  refine wpList_nil (hK0 _ _ ?_)
  try clear hK0 K0
  have f3 := f2.sub (sub_cons (i := 0) rfl (sub_cons (i := 2) rfl sub_nil))
  clear f2
  refine wp_seq_k fun K1 hK1 => ?_
  refine C.region ?_
  refine L.val f3 wantedN rfl (by decide) (E.move f3 rfl) fun a4 f4 => ?_
  clear f3 a2
  refine L.makeMap f4 wantedN (by decide) 9 3 fun a5 w1 g0 Ig0 kg0 log0 f5 => ?_
  have ltg0 := Ig0.lt
  have szw1 := kg0.size
  have frg0 : w.heap.size ≤ g0 := Nat.le_trans HK.size log0
  replace HK := HK.trans (.of_kept0 kg0)
  clear f4 kg0 a4
  refine L.call f5 wantedN rfl (by decide) (run_call Try.call21 (args1 f5 rfl)) (idsNew_any 65535 _) ?_
  rintro e w2 ⟨ip, im, rfl, kc2, ID, loi, lom⟩
  refine ⟨_, rfl, fun a6 f6 => ?_⟩
  clear f5 a5
  have szw2 := kc2.size
  replace HK := HK.trans (.of_kept0 kc2)
  replace Ig0 := Ig0.kept kc2 (by simp)
  clear kc2
  refine L.call f6 wantedN rfl (by decide) (run_call Try.call22 (args1 f6 rfl)) (quNew_any 8 _) ?_
  rintro e w3 ⟨q, rfl, kc3, BQ, loq⟩
  have hltm := (ID.mod (Mod.of_kept0 (T := []) (M := []) (B := B) kc3) (by decide) (by simp)).set.lt
  refine ⟨_, rfl, fun a7 f7 => ?_⟩
  clear f6 a6
  have szw3 := kc3.size
  replace HK := HK.trans (.of_kept0 kc3)
  replace Ig0 := Ig0.kept kc3 (by simp)
  replace ID := ID.mod (Mod.of_kept0 (T := []) (M := []) (B := B) kc3) (by decide) (by simp)
  clear kc3
  refine L.makeMap f7 wantedN (by decide) 3 4 fun a8 w4 g3 Ig3 kg3 log3 f8 => ?_
  have ltg3 := Ig3.lt
  have szw4 := kg3.size
  have frg3 : w.heap.size ≤ g3 := Nat.le_trans HK.size log3
  have neg0_g3 : g0 ≠ g3 := by have := Ig0.lt; omega
  have neq_g3 : q ≠ g3 := by have := BQ.lt; omega
  replace HK := HK.trans (.of_kept0 kg3)
  replace Ig0 := Ig0.kept kg3 (by simp)
  replace ID := ID.mod (Mod.of_kept0 (T := []) (M := []) (B := B) kg3) (by decide) (by simp)
  replace BQ := BQ.kept kg3 (by simp)
  clear f7 kg3 a7
  refine L.val f8 wantedN rfl (by decide) (E.build f8 (parts6 f8 rfl rfl rfl rfl rfl rfl) (wbl57_0_1_2_3_4_5_k _ _ _ _ _ _ _ _)) fun a9 f9 => ?_
  clear f8 a8
  refine L.box f9 wantedN (by decide) rfl rfl fun a10 w5 g4 N4 f10 => ?_
  have Bg4 := N4.blk
  have kg4 := N4.kept
  have log4 := N4.lo
  have ltg4 := Bg4.lt
  have szw5 := kg4.size
  have frg4 : w.heap.size ≤ g4 := Nat.le_trans HK.size log4
  have neg0_g4 : g0 ≠ g4 := by have := Ig0.lt; omega
  have neq_g4 : q ≠ g4 := by have := BQ.lt; omega
  have neg3_g4 : g3 ≠ g4 := by have := Ig3.lt; omega
  replace HK := HK.trans (.of_kept0 kg4)
  replace Ig0 := Ig0.kept kg4 (by simp)
  replace ID := ID.mod (Mod.of_kept0 (T := []) (M := []) (B := B) kg4) (by decide) (by simp)
  replace BQ := BQ.kept kg4 (by simp)
  replace Ig3 := Ig3.kept kg4 (by simp)
  clear N4 kg4
  clear f9 a9
  refine L.val f10 wantedN rfl (by decide) (E.assign f10 rfl) fun a11 f11 => ?_
  clear f10 a10
  refine wpList_nil (hK1 _ _ ?_)
  try clear hK1 K1
  have f12 := f11.sub (sub_cons (i := 2) rfl sub_nil)
  clear f11
  refine wp_ret ?_
  try simp only [Exit.inBlock, Exit.then]
  refine C.ret (P := Try.prog) (fn := Try.f10) f12 rfl rfl ?_
  skip
  have him : im ≠ g3 := by omega
  exact new_fin (cl := cl) hB HK Bg4 ID BQ Ig3 (by omega) (by omega) (by omega) (by omega) (by omega) him

set_option maxHeartbeats 1000000 in
theorem Again_any (B p : Nat) (s : Ses) (now : Int) (w : World) (hS : SesAt B w p s) (hB : B ≤ w.heap.size) : Calls Try.prog 18 #[.pointer (some ⟨p, 0, none⟩), .int .i64 now] w (OutPost [57, 69, 61, 72, 43] B p s (againS s.abs now 8) w) := by
  refine C.enter Try.func18 rfl Try.ntmps18 rfl ?_
  intro a0 f0
  have f1 : Fr 8 a0 [(0, .pointer (some ⟨p, 0, none⟩)), (1, .int .i64 now)] := f0
  clear f0
  refine wp_seq_k fun K0 hK0 => ?_
  refine C.region ?_
  refine L.val f1 wantedN rfl (by decide) (E.assign f1 rfl) fun a2 f2 => ?_
  clear f1 a0
  refine wpList_nil (hK0 _ _ ?_)
  try clear hK0 K0
  have f3 := f2.sub (sub_cons (i := 0) rfl (sub_cons (i := 1) rfl (sub_cons (i := 4) rfl sub_nil)))
  clear f2
  refine wp_seq_k fun K1 hK1 => ?_
  refine C.region ?_
  refine L.val f3 wantedN rfl (by decide) (E.move f3 rfl) fun a4 f4 => ?_
  clear f3 a2
  refine L.val f4 wantedN rfl (by decide) (E.move f4 rfl) fun a5 f5 => ?_
  clear f4 a4
  refine L.call f5 wantedN rfl (by decide) (run_call Try.call33 (args3 f5 rfl rfl rfl)) (again_any B p s now 8 _ hS hB) ?_
  rintro e w1 ⟨s2, A2, c2, pks, rfl, HS2, hab, hpp, hL, kc1, PK, hlp⟩
  refine ⟨_, rfl, fun a6 f6 => ?_⟩
  clear f5 a5
  have szw1 := kc1.size
  refine L.val f6 wantedN rfl (by decide) (E.assign f6 rfl) fun a7 f7 => ?_
  clear f6 a6
  refine wpList_nil (hK1 _ _ ?_)
  try clear hK1 K1
  have f8 := f7.sub (sub_cons (i := 4) rfl sub_nil)
  clear f7
  refine wp_ret ?_
  try simp only [Exit.inBlock, Exit.then]
  refine C.ret (P := Try.prog) (fn := Try.f18) f8 rfl rfl ?_
  exact ⟨s2, A2, c2, pks, rfl, HS2, by rw [hab, hpp], hL, kc1.mono (by decide) (by simp) (Nat.le_refl _), PK, by omega⟩

set_option maxHeartbeats 1000000 in
theorem Resume_any (B p : Nat) (s : Ses) (now : Int) (w : World) (hS : SesAt B w p s) (hB : B ≤ w.heap.size) : Calls Try.prog 19 #[.pointer (some ⟨p, 0, none⟩), .int .i64 now] w (OutPost [57, 69, 61, 72, 43] B p s (resumeS s.abs now) w) := by
  have HK : Mod [57, 69, 61, 72, 43] [s.im, s.gm] B w w := .refl _ _ _ _
  refine C.enter Try.func19 rfl Try.ntmps19 rfl ?_
  intro a0 f0
  have f1 : Fr 12 a0 [(0, .pointer (some ⟨p, 0, none⟩)), (1, .int .i64 now)] := f0
  clear f0
  refine wp_seq_k fun K0 hK0 => ?_
  refine C.region ?_
  refine L.val f1 wantedN rfl (by decide) (E.assign f1 rfl) fun a2 f2 => ?_
  clear f1 a0
  refine wpList_nil (hK0 _ _ ?_)
  try clear hK0 K0
  have f3 := f2.sub (sub_cons (i := 0) rfl (sub_cons (i := 1) rfl (sub_cons (i := 4) rfl sub_nil)))
  clear f2
  refine wp_seq_k fun K1 hK1 => ?_
  refine C.region ?_
  refine L.val f3 wantedN rfl (by decide) (E.move f3 rfl) fun a4 f4 => ?_
  clear f3 a2
  refine L.val f4 wantedN rfl (by decide) (E.move f4 rfl) fun a5 f5 => ?_
  clear f4 a4
  refine L.call f5 wantedN rfl (by decide) (run_call Try.call33 (args3 f5 rfl rfl rfl)) (again_any B p s now (-4398046511104) _ hS hB) ?_
  rintro e w1 ⟨s2, A2, c2, pks, rfl, HS2, hab, hpp, hL, kc1, PK, hlp⟩
  refine ⟨_, rfl, fun a6 f6 => ?_⟩
  clear f5 a5
  have szw1 := kc1.size
  replace HK := HK.step kc1 (by decide) (by simp) (by omega)
  clear kc1
  refine L.val f6 wantedN rfl (by decide) (E.move f6 rfl) fun a7 f7 => ?_
  clear f6 a6
  refine L.val f7 wantedN rfl (by decide) (E.move f7 rfl) fun a8 f8 => ?_
  clear f7 a7
  refine L.call f8 wantedN rfl (by decide) (run_call Try.call34 (args2 f8 rfl rfl)) (drain_any B p s2 now _ HS2 (by omega)) ?_
  rintro e w2 ⟨s3, A3, c3, pks3, rfl, HS3, hab3, hpp3, hL3, kc2, PK2⟩
  rw [hL.im] at kc2
  have hl3 := congrArg List.length hpp3
  rw [List.length_map] at hl3
  have hd5 := drainS_len s2.abs now
  refine ⟨_, rfl, fun a9 f9 => ?_⟩
  clear f8 a8
  have szw2 := kc2.size
  replace HK := HK.step kc2 (by decide) (by simp) (by omega)
  replace PK := PK.mod kc2 (by decide)
  clear kc2
  refine L.append f9 wantedN (by decide) Try.underlying27 wzib35_k rfl rfl rfl rfl (PK.fr.own) (PK2.fr.sl) (pcells_one _) (by unfold maxLen; omega) (by omega) fun a10 w3 A4 c4 AP3 f10 => ?_
  clear f9 a9
  have kap3 : Mod [35] [] B w2 w3 := .of_app AP3 PK.fr.own (fun a ha => Nat.le_trans hB (PK.fr.from a ha)) (by simp)
  have PK3 := PK.app AP3 HK.size hB PK2.pay
  replace HK := HK.app_new AP3 PK.fr
  have szw3 := kap3.size
  replace HS3 := HS3.mod kap3 (by decide)
  clear kap3
  refine L.val f10 wantedN rfl (by decide) (E.assign f10 rfl) fun a11 f11 => ?_
  clear f10 a10
  refine wpList_nil (hK1 _ _ ?_)
  try clear hK1 K1
  have f12 := f11.sub (sub_cons (i := 4) rfl sub_nil)
  clear f11
  refine wp_ret ?_
  try simp only [Exit.inBlock, Exit.then]
  refine C.ret (P := Try.prog) (fn := Try.f19) f12 rfl rfl ?_
  exact ⟨s3, A4, c4, pks ++ pks3, by simp, HS3, by rw [resumeS, ← hab, hab3, List.map_append, hpp, hpp3], hL.trans hL3, HK, PK3, by simp; omega⟩

set_option maxHeartbeats 1000000 in
theorem send_any (B p : Nat) (s : Ses) (m : Ms) (Am : Option Addr) (cm : Nat) (on : Bool) (now : Int) (w : World) (hS : SesAt B w p s) (HP : Pay B w Am m.pay) (hB : B ≤ w.heap.size) (hl : 0 ≤ s.lost ∧ s.lost ≤ 1000000000) : Calls Try.prog 15 #[.pointer (some ⟨p, 0, none⟩), .agg #[.string m.tp, .slice Am m.pay.length cm, .int .i64 m.qos, .bool m.ret], .bool on, .int .i64 now] w (OutPost [57, 69, 61, 72, 43] B p s (sendS s.abs m on now) w) := by
  have HK : Mod [57, 69, 61, 72, 43] [s.im, s.gm] B w w := .refl _ _ _ _
  have HK0 : Mod [] [] B w w := .refl _ _ _ _
  have HK1 : Mod [72, 43] [] B w w := .refl _ _ _ _
  have BP := hS.top
  have hl4 := hS.fly.len
  have hw8 := hS.qu.len
  refine C.enter Try.func15 rfl Try.ntmps15 rfl ?_
  intro a0 f0
  have f1 : Fr 57 a0 [(0, .pointer (some ⟨p, 0, none⟩)), (1, .agg #[.string m.tp, .slice Am m.pay.length cm, .int .i64 m.qos, .bool m.ret]), (2, .bool on), (3, .int .i64 now)] := f0
  clear f0
  refine wp_seq_k fun K0 hK0 => ?_
  refine C.region ?_
  refine L.box f1 wantedN (by decide) rfl rfl fun a2 w1 g0 N0 f2 => ?_
  have Bg0 := N0.blk
  have kg0 := N0.kept
  have log0 := N0.lo
  have ltg0 := Bg0.lt
  have szw1 := kg0.size
  have frg0 : w.heap.size ≤ g0 := Nat.le_trans HK.size log0
  have nep_g0 : p ≠ g0 := by have := BP.lt; omega
  replace HK := HK.trans (.of_kept0 kg0)
  replace HK0 := HK0.trans (.of_kept0 kg0)
  replace HK1 := HK1.trans (.of_kept0 kg0)
  replace BP := BP.kept kg0 (by simp)
  replace HP := HP.mod (Mod.of_kept0 (T := []) (M := []) (B := B) kg0) (by decide)
  clear N0 kg0
  clear f1 a0
  refine L.val f2 wantedN rfl (by decide) (E.assign f2 rfl) fun a3 f3 => ?_
  clear f2 a2
  refine wpList_nil (hK0 _ _ ?_)
  try clear hK0 K0
  have f4 := f3.sub (sub_cons (i := 0) rfl (sub_cons (i := 2) rfl (sub_cons (i := 3) rfl (sub_cons (i := 5) rfl (sub_cons (i := 8) rfl sub_nil)))))
  clear f3
  refine wp_seq_k fun K1 hK1 => ?_
  refine wp_block ?_
  refine wp_seq_k fun K2 hK2 => ?_
  refine C.region ?_
  refine L.val f4 wantedN rfl (by decide) (E.fieldAddr f4 Try.underlying43 rfl rfl wsz3_k) fun a5 f5 => ?_
  clear f4 a3
  refine L.val f5 wantedN rfl (by decide) (by first | exact E.load f5 Try.underlying3 rfl rfl ((BP).cl rfl) | exact E.load f5 Try.underlying3 rfl rfl ((Bg0).cl rfl)) fun a6 f6 => ?_
  clear f5 a5
  refine L.val f6 wantedN rfl (by decide) (E.eql f6 rfl rfl) fun a7 f7 => ?_
  clear f6 a6
  refine L.val f7 wantedN rfl (by decide) (E.move f7 rfl) fun a8 f8 => ?_
  clear f7 a7
  first | refine f8.splitD 13 rfl (fun h0 f9 => ?_) (fun h0 f9 => ?_) | refine f8.splitN 13 rfl (fun h0 f9 => ?_) (fun h0 f9 => ?_) | refine f8.splitNB 13 rfl (fun h0 f9 => ?_) (fun h0 f9 => ?_) | refine f8.split 13 rfl (fun h0 f9 => ?_) (fun h0 f9 => ?_)
  · clear f8
    have hq0 := h0
    refine L.val f9 (f9.yes rfl rfl) rfl (by decide) (E.move f9 rfl) fun a10 f10 => ?_
    clear f9 a8
    refine L.val f10 wantedN rfl (by decide) (E.pickT f10 rfl rfl) fun a11 f11 => ?_
    clear f10 a10
    refine L.val f11 wantedN rfl (by decide) (E.assign f11 rfl) fun a12 f12 => ?_
    clear f11 a11
    refine wpList_nil (hK2 _ _ ?_)
    try clear hK2 K2
    have f13 := f12.sub (sub_cons (i := 0) rfl (sub_cons (i := 2) rfl (sub_cons (i := 3) rfl (sub_cons (i := 5) rfl (sub_cons (i := 8) rfl (sub_cons (i := 9) rfl sub_nil))))))
    clear f12
    first | refine f13.splitD 9 rfl (fun h1 f14 => ?_) (fun h1 f14 => ?_) | refine f13.splitN 9 rfl (fun h1 f14 => ?_) (fun h1 f14 => ?_) | refine f13.splitNB 9 rfl (fun h1 f14 => ?_) (fun h1 f14 => ?_) | refine f13.split 9 rfl (fun h1 f14 => ?_) (fun h1 f14 => ?_)
    · clear f13
      have hon := h1
      refine C.condT f14 rfl ?_
      refine wp_seq_k fun K3 hK3 => ?_
      refine C.region ?_
      refine L.val f14 wantedN rfl (by decide) (by first | exact E.loadB f14 Try.underlying43 rfl wsz43_k rfl (BP) rfl | exact E.loadB f14 Try.underlying43 rfl wsz43_k rfl (Bg0) rfl) fun a15 f15 => ?_
      clear f14 a12
      refine L.call f15 wantedN rfl (by decide) (run_call Try.call28 (args3 f15 rfl rfl rfl)) (publish_any m.tp Am m.pay.length cm _ m.qos m.ret 0 false _ HP.sl u8_one HP.2) ?_
      rintro e w2 ⟨kc2, Ap, cp, rfl, FP⟩
      have HR : Pay B w2 Ap m.pay := Pay.of_fresh FP HP.2
      refine ⟨_, rfl, fun a16 f16 => ?_⟩
      clear f15 a15
      have szw2 := kc2.size
      replace HK := HK.trans (.of_kept0 kc2)
      replace HK0 := HK0.trans (.of_kept0 kc2)
      replace HK1 := HK1.trans (.of_kept0 kc2)
      replace BP := BP.kept kc2 (by simp)
      replace HP := HP.mod (Mod.of_kept0 (T := []) (M := []) (B := B) kc2) (by decide)
      replace Bg0 := Bg0.kept kc2 (by simp)
      clear kc2
      refine L.buildSlice f16 wantedN (by decide) (parts1 f16 rfl) Try.underlying27 wzj35 rfl rfl (wpk1 ⟨pubP m 0 false, Ap, cp⟩) fun a17 w3 g2 N2 f17 => ?_
      have OWR := N2.own (k := 1) (size := 24) rfl (by decide)
      have Bg2 := N2.blk
      have kg2 := N2.kept
      have log2 := N2.lo
      have ltg2 := Bg2.lt
      have szw3 := kg2.size
      have frg2 : w.heap.size ≤ g2 := Nat.le_trans HK.size log2
      have nep_g2 : p ≠ g2 := by have := BP.lt; omega
      have neg0_g2 : g0 ≠ g2 := by have := Bg0.lt; omega
      replace HK := HK.trans (.of_kept0 kg2)
      replace HK0 := HK0.trans (.of_kept0 kg2)
      replace HK1 := HK1.trans (.of_kept0 kg2)
      replace BP := BP.kept kg2 (by simp)
      replace HP := HP.mod (Mod.of_kept0 (T := []) (M := []) (B := B) kg2) (by decide)
      replace Bg0 := Bg0.kept kg2 (by simp)
      replace HR := HR.mod (Mod.of_kept0 (T := []) (M := []) (B := B) kg2) (by decide)
      clear N2 kg2
      clear f16 a16
      refine L.val f17 wantedN rfl (by decide) (E.assign f17 rfl) fun a18 f18 => ?_
      clear f17 a17
      refine wpList_nil (hK3 _ _ ?_)
      try clear hK3 K3
      have f19 := f18.sub (sub_cons (i := 0) rfl (sub_cons (i := 5) rfl (sub_cons (i := 8) rfl sub_nil)))
      clear f18
      refine wp_ret ?_
      try simp only [Exit.inBlock, Exit.then]
      refine C.ret (P := Try.prog) (fn := Try.f15) f19 rfl rfl ?_
      exact ⟨s, _, _, [⟨pubP m 0 false, Ap, cp⟩], rfl, hS.mod HK0 (by simp), by rw [sendS, if_pos ⟨hq0, hon⟩]; rfl, ⟨rfl, rfl, rfl⟩, HK, pk_one OWR frg2 HR, by simp⟩
    · clear f13
      have hoff := h1
      have hn0 : ¬ (m.qos = 0 ∧ on = true) := fun h => by rw [hoff] at h; cases h.2
      refine C.condF f14 rfl ?_
      refine wp_seq_k fun K4 hK4 => ?_
      refine C.region ?_
      refine L.val f14 wantedN rfl (by decide) (E.fieldAddr f14 Try.underlying43 rfl rfl wsz3_k) fun a15 f15 => ?_
      clear f14 a12
      refine L.val f15 wantedN rfl (by decide) (by first | exact E.load f15 Try.underlying3 rfl rfl ((BP).cl rfl) | exact E.load f15 Try.underlying3 rfl rfl ((Bg0).cl rfl)) fun a16 f16 => ?_
      clear f15 a15
      refine L.val f16 wantedN rfl (by decide) (E.lss f16 rfl rfl) fun a17 f17 => ?_
      clear f16 a16
      refine L.val f17 wantedN rfl (by decide) (E.move f17 rfl) fun a18 f18 => ?_
      clear f17 a17
      first | refine f18.splitD 23 rfl (fun h2 f19 => ?_) (fun h2 f19 => ?_) | refine f18.splitN 23 rfl (fun h2 f19 => ?_) (fun h2 f19 => ?_) | refine f18.splitNB 23 rfl (fun h2 f19 => ?_) (fun h2 f19 => ?_) | refine f18.split 23 rfl (fun h2 f19 => ?_) (fun h2 f19 => ?_)
      · clear f18
        have hlo := h2
        refine L.skip f19 (f19.noF rfl rfl) rfl (by decide) fun a20 f20 => ?_
        clear f19 a18
        refine L.skip f20 (f20.noF rfl rfl) rfl (by decide) fun a21 f21 => ?_
        clear f20 a20
        refine L.skip f21 (f21.noF rfl rfl) rfl (by decide) fun a22 f22 => ?_
        clear f21 a21
        refine L.val f22 wantedN rfl (by decide) (E.pickT f22 rfl rfl) fun a23 f23 => ?_
        clear f22 a22
        refine L.val f23 wantedN rfl (by decide) (E.assign f23 rfl) fun a24 f24 => ?_
        clear f23 a23
        refine wpList_nil (hK4 _ _ ?_)
        try clear hK4 K4
        have f25 := f24.sub (sub_cons (i := 0) rfl (sub_cons (i := 2) rfl (sub_cons (i := 3) rfl (sub_cons (i := 5) rfl (sub_cons (i := 8) rfl (sub_cons (i := 19) rfl sub_nil))))))
        clear f24
        refine C.condT f25 rfl ?_
        refine wp_seq_k fun K5 hK5 => ?_
        refine C.region ?_
        refine L.val f25 wantedN rfl (by decide) (E.assign f25 rfl) fun a26 f26 => ?_
        clear f25 a24
        refine wpList_nil (hK5 _ _ ?_)
        try clear hK5 K5
        have f27 := f26.sub (sub_cons (i := 0) rfl (sub_cons (i := 5) rfl (sub_cons (i := 8) rfl sub_nil)))
        clear f26
        refine wp_ret ?_
        try simp only [Exit.inBlock, Exit.then]
        refine C.ret (P := Try.prog) (fn := Try.f15) f27 rfl rfl ?_
        exact ⟨s, none, 0, [], rfl, hS.mod HK0 (by simp), by rw [send_none hn0 (by omega)]; rfl, ⟨rfl, rfl, rfl⟩, HK, PkAt.nil _ _ _, by simp⟩
      · clear f18
        have hlo := h2
        refine L.val f19 (f19.yes rfl rfl) rfl (by decide) (E.fieldAddr f19 Try.underlying43 rfl rfl wsz3_k) fun a20 f20 => ?_
        clear f19 a18
        refine L.val f20 (f20.yes rfl rfl) rfl (by decide) (by first | exact E.load f20 Try.underlying3 rfl rfl ((BP).cl rfl) | exact E.load f20 Try.underlying3 rfl rfl ((Bg0).cl rfl)) fun a21 f21 => ?_
        clear f20 a20
        refine L.val f21 (f21.yes rfl rfl) rfl (by decide) (E.gtr f21 rfl rfl) fun a22 f22 => ?_
        clear f21 a21
        refine L.val f22 wantedN rfl (by decide) (E.pickF f22 rfl rfl) fun a23 f23 => ?_
        clear f22 a22
        refine L.val f23 wantedN rfl (by decide) (E.assign f23 rfl) fun a24 f24 => ?_
        clear f23 a23
        refine wpList_nil (hK4 _ _ ?_)
        try clear hK4 K4
        have f25 := f24.sub (sub_cons (i := 0) rfl (sub_cons (i := 2) rfl (sub_cons (i := 3) rfl (sub_cons (i := 5) rfl (sub_cons (i := 8) rfl (sub_cons (i := 19) rfl sub_nil))))))
        clear f24
        first | refine f25.splitD 19 rfl (fun h3 f26 => ?_) (fun h3 f26 => ?_) | refine f25.splitN 19 rfl (fun h3 f26 => ?_) (fun h3 f26 => ?_) | refine f25.splitNB 19 rfl (fun h3 f26 => ?_) (fun h3 f26 => ?_) | refine f25.split 19 rfl (fun h3 f26 => ?_) (fun h3 f26 => ?_)
        · clear f25
          have hhi := h3
          refine C.condT f26 rfl ?_
          refine wp_seq_k fun K6 hK6 => ?_
          refine C.region ?_
          refine L.val f26 wantedN rfl (by decide) (E.assign f26 rfl) fun a27 f27 => ?_
          clear f26 a24
          refine wpList_nil (hK6 _ _ ?_)
          try clear hK6 K6
          have f28 := f27.sub (sub_cons (i := 0) rfl (sub_cons (i := 5) rfl (sub_cons (i := 8) rfl sub_nil)))
          clear f27
          refine wp_ret ?_
          try simp only [Exit.inBlock, Exit.then]
          refine C.ret (P := Try.prog) (fn := Try.f15) f28 rfl rfl ?_
          exact ⟨s, none, 0, [], rfl, hS.mod HK0 (by simp), by rw [send_none hn0 (by omega)]; rfl, ⟨rfl, rfl, rfl⟩, HK, PkAt.nil _ _ _, by simp⟩
        · clear f25
          have hhi := h3
          refine C.condF f26 rfl ?_
          refine wp_seq_k fun K7 hK7 => ?_
          refine C.region ?_
          refine L.val f26 wantedN rfl (by decide) (E.move f26 rfl) fun a27 f27 => ?_
          clear f26 a24
          refine L.val f27 wantedN rfl (by decide) (E.move f27 rfl) fun a28 f28 => ?_
          clear f27 a27
          first | refine f28.splitD 30 rfl (fun h4 f29 => ?_) (fun h4 f29 => ?_) | refine f28.splitN 30 rfl (fun h4 f29 => ?_) (fun h4 f29 => ?_) | refine f28.splitNB 30 rfl (fun h4 f29 => ?_) (fun h4 f29 => ?_) | refine f28.split 30 rfl (fun h4 f29 => ?_) (fun h4 f29 => ?_)
          · clear f28
            have hon4 := h4
            refine L.val f29 (f29.yes rfl rfl) rfl (by decide) (E.move f29 rfl) fun a30 f30 => ?_
            clear f29 a28
            refine L.val f30 (f30.yes rfl rfl) rfl (by decide) (E.nilCheck f30 rfl) fun a31 f31 => ?_
            clear f30 a30
            refine L.val f31 (f31.yes rfl rfl) rfl (by decide) (E.fieldAddr f31 Try.underlying57 rfl rfl wsz55_k) fun a32 f32 => ?_
            clear f31 a31
            refine L.val f32 (f32.yes rfl rfl) rfl (by decide) (by first | exact E.load f32 Try.underlying55 rfl rfl ((BP).cl rfl) | exact E.load f32 Try.underlying55 rfl rfl ((Bg0).cl rfl)) fun a33 f33 => ?_
            clear f32 a32
            refine L.val f33 (f33.yes rfl rfl) rfl (by decide) (E.lenL f33 Try.underlying55 rfl) fun a34 f34 => ?_
            clear f33 a33
            refine L.val f34 (f34.yes rfl rfl) rfl (by decide) (E.lss f34 rfl rfl) fun a35 f35 => ?_
            clear f34 a34
            refine L.val f35 wantedN rfl (by decide) (E.pickT f35 rfl rfl) fun a36 f36 => ?_
            clear f35 a35
            refine L.val f36 wantedN rfl (by decide) (E.move f36 rfl) fun a37 f37 => ?_
            clear f36 a36
            first | refine f37.splitD 38 rfl (fun h5 f38 => ?_) (fun h5 f38 => ?_) | refine f37.splitN 38 rfl (fun h5 f38 => ?_) (fun h5 f38 => ?_) | refine f37.splitNB 38 rfl (fun h5 f38 => ?_) (fun h5 f38 => ?_) | refine f37.split 38 rfl (fun h5 f38 => ?_) (fun h5 f38 => ?_)
            · clear f37
              have hlt := h5
              refine L.val f38 (f38.yes rfl rfl) rfl (by decide) (E.move f38 rfl) fun a39 f39 => ?_
              clear f38 a37
              refine L.val f39 (f39.yes rfl rfl) rfl (by decide) (E.nilCheck f39 rfl) fun a40 f40 => ?_
              clear f39 a39
              refine L.val f40 (f40.yes rfl rfl) rfl (by decide) (E.fieldAddr f40 Try.underlying57 rfl rfl wsz52_k) fun a41 f41 => ?_
              clear f40 a40
              refine L.val f41 (f41.yes rfl rfl) rfl (by decide) (by first | exact E.load f41 Try.underlying52 rfl rfl ((BP).cl rfl) | exact E.load f41 Try.underlying52 rfl rfl ((Bg0).cl rfl)) fun a42 f42 => ?_
              clear f41 a41
              refine L.call f42 (f42.yes rfl rfl) rfl (by decide) (run_call Try.call29 (args1 f42 rfl)) (quLen_any _ _ _ _ _ _ _ (hS.qu.mod HK0 (by decide)).top) ?_
              rintro e w1x ⟨rfl, rfl⟩
              refine ⟨_, rfl, fun a43 f43 => ?_⟩
              clear f42 a42
              refine L.val f43 (f43.yes rfl rfl) rfl (by decide) (E.eql f43 rfl rfl) fun a44 f44 => ?_
              clear f43 a43
              refine L.val f44 wantedN rfl (by decide) (E.pickT f44 rfl rfl) fun a45 f45 => ?_
              clear f44 a44
              refine L.val f45 wantedN rfl (by decide) (E.assign f45 rfl) fun a46 f46 => ?_
              clear f45 a45
              refine wpList_nil (hK7 _ _ ?_)
              try clear hK7 K7
              have f47 := f46.sub (sub_cons (i := 0) rfl (sub_cons (i := 3) rfl (sub_cons (i := 5) rfl (sub_cons (i := 8) rfl (sub_cons (i := 28) rfl sub_nil)))))
              clear f46
              first | refine f47.splitD 28 rfl (fun h6 f48 => ?_) (fun h6 f48 => ?_) | refine f47.splitN 28 rfl (fun h6 f48 => ?_) (fun h6 f48 => ?_) | refine f47.splitNB 28 rfl (fun h6 f48 => ?_) (fun h6 f48 => ?_) | refine f47.split 28 rfl (fun h6 f48 => ?_) (fun h6 f48 => ?_)
              · clear f47
                have hz := h6
                refine C.condT f48 rfl ?_
                refine wp_seq_k fun K8 hK8 => ?_
                refine C.region ?_
                refine L.val f48 wantedN rfl (by decide) (E.move f48 rfl) fun a49 f49 => ?_
                clear f48 a46
                refine L.val f49 wantedN rfl (by decide) (by first | exact E.loadB f49 Try.underlying43 rfl wsz43_k rfl (BP) rfl | exact E.loadB f49 Try.underlying43 rfl wsz43_k rfl (Bg0) rfl) fun a50 f50 => ?_
                clear f49 a49
                refine L.val f50 wantedN rfl (by decide) (E.move f50 rfl) fun a51 f51 => ?_
                clear f50 a50
                refine L.call f51 wantedN rfl (by decide) (run_call Try.call30 (args3 f51 rfl rfl rfl)) (rise_any B p s m Am cm now _ (hS.mod HK0 (by simp)) HP (by omega) (by omega)) ?_
                rintro e w2 ⟨u2, Ap, cp, rfl, HS2, hab, hL2, kc2, HR⟩
                refine ⟨_, rfl, fun a52 f52 => ?_⟩
                clear f51 a51
                have szw2 := kc2.size
                replace HK := HK.step kc2 (by decide) (by simp) (by omega)
                replace Bg0 := Bg0.mod kc2 (by decide)
                clear kc2
                refine L.buildSlice f52 wantedN (by decide) (parts1 f52 rfl) Try.underlying27 wzj35 rfl rfl (wpk1 ⟨riseP s.abs m, Ap, cp⟩) fun a53 w3 g2 N2 f53 => ?_
                have OWR := N2.own (k := 1) (size := 24) rfl (by decide)
                have Bg2 := N2.blk
                have kg2 := N2.kept
                have log2 := N2.lo
                have ltg2 := Bg2.lt
                have szw3 := kg2.size
                have frg2 : w.heap.size ≤ g2 := Nat.le_trans HK.size log2
                have neg0_g2 : g0 ≠ g2 := by have := Bg0.lt; omega
                replace HK := HK.trans (.of_kept0 kg2)
                replace Bg0 := Bg0.kept kg2 (by simp)
                replace HS2 := HS2.mod (Mod.of_kept0 (T := []) (M := []) (B := B) kg2) (by decide)
                replace HR := HR.mod (Mod.of_kept0 (T := []) (M := []) (B := B) kg2) (by decide)
                clear N2 kg2
                clear f52 a52
                refine L.val f53 wantedN rfl (by decide) (E.assign f53 rfl) fun a54 f54 => ?_
                clear f53 a53
                refine wpList_nil (hK8 _ _ ?_)
                try clear hK8 K8
                have f55 := f54.sub (sub_cons (i := 0) rfl (sub_cons (i := 5) rfl (sub_cons (i := 8) rfl sub_nil)))
                clear f54
                refine wp_ret ?_
                try simp only [Exit.inBlock, Exit.then]
                refine C.ret (P := Try.prog) (fn := Try.f15) f55 rfl rfl ?_
                exact ⟨u2, _, _, [⟨riseP s.abs m, Ap, cp⟩], rfl, HS2, by rw [send_rise hn0 hlo hhi hon4 hlt (by omega), hab]; rfl, hL2, HK, pk_one OWR frg2 HR, by simp⟩
              · clear f47
                have hnz := h6
                refine C.condF f48 rfl ?_
                refine wp_skip (hK1 _ _ ?_)
                try clear hK1 K1
                have f49 := f48.sub (sub_cons (i := 0) rfl (sub_cons (i := 5) rfl (sub_cons (i := 8) rfl sub_nil)))
                clear f48
                refine wp_seq_k fun K9 hK9 => ?_
                obtain ⟨MM, hMM⟩ : ∃ MM, MM = s.q :: (Value.slice s.QA s.wait.length s.qc).ownBlock.toList := ⟨_, rfl⟩
                have hpM : p ∉ MM := by rw [hMM]; exact fun hx => (List.mem_cons.1 hx).elim hS.p_ne_q (own_ne hS.qu.own hS.top (by decide))
                have hg0M : g0 ∉ MM := by rw [hMM]; exact fun hx => (List.mem_cons.1 hx).elim (fun e => by have := hS.qu.top.lt; omega) (own_old hS.qu.own frg0)
                refine R.begin (S := fun W => Kept MM w1 W) (by kernel_rfl) (by exact (Kept.refl _ _).drewN 1) ?_
                have hS7 : Kept MM w1 (w1.drewN 1) := (Kept.refl _ _).drewN 1
                have hd7 : Kept [] w1 (w1.drewN 1) := (Kept.refl _ _).drewN 1
                obtain ⟨w2, hww2⟩ : ∃ W, W = w1.drewN 1 := ⟨_, rfl⟩
                rw [← hww2] at hS7 hd7 ⊢
                clear hww2
                have szw2 := hS7.size
                replace HK0 := HK0.trans (.of_kept0 hd7)
                replace HP := HP.kept0 hd7
                refine R.take 0 f49 rfl rfl (by decide) (by kernel_rfl) (by kernel_rfl) (by kernel_rfl) (fun _ _ _ _ h => h) wantedN hS7 (fun W hW => (E.move f49 rfl)) fun a50 f50 => ?_
                clear f49 a46
                refine R.take 1 f50 rfl rfl (by decide) (by kernel_rfl) (by kernel_rfl) (by kernel_rfl) (fun _ _ _ _ h => h) wantedN hS7 (fun W hW => (E.nilCheck f50 rfl)) fun a51 f51 => ?_
                clear f50 a50
                refine R.take 2 f51 rfl rfl (by decide) (by kernel_rfl) (by kernel_rfl) (by kernel_rfl) (fun _ _ _ _ h => h) wantedN hS7 (fun W hW => (E.fieldAddr f51 Try.underlying57 rfl rfl wsz52_k)) fun a52 f52 => ?_
                clear f51 a51
                refine R.take 3 f52 rfl rfl (by decide) (by kernel_rfl) (by kernel_rfl) (by kernel_rfl) (fun _ _ _ _ h => h) wantedN hS7 (fun W hW => (by first | exact E.load f52 Try.underlying52 rfl rfl ((BP.kept hW (by assumption)).cl rfl) | exact E.load f52 Try.underlying52 rfl rfl ((Bg0.kept hW (by assumption)).cl rfl))) fun a53 f53 => ?_
                clear f52 a52
                refine R.take 4 f53 rfl rfl (by decide) (by kernel_rfl) (by kernel_rfl) (by kernel_rfl) (fun _ _ _ _ h => h) wantedN hS7 (fun W hW => (by first | exact E.loadB f53 Try.underlying43 rfl wsz43_k rfl (BP.kept hW (by assumption)) rfl | exact E.loadB f53 Try.underlying43 rfl wsz43_k rfl (Bg0.kept hW (by assumption)) rfl)) fun a54 f54 => ?_
                clear f53 a53
                refine R.call 5 f54 rfl rfl (by decide) (by kernel_rfl) wantedN (run_call Try.call31 (args2 f54 rfl rfl)) (push_any B s.q s.QA s.qc s.wait s.lost m Am cm _ (hS.qu.mod HK0 (by decide)) HP (by omega) hl) ?_
                rintro e w3 ⟨km, kc3, rfl, A2, c2, l2, HQ, hql⟩
                rw [← hMM] at kc3
                replace hS7 := hS7.trans kc3 (by exact fun x hx _ => hx)
                refine ⟨_, rfl, hS7, fun a55 f55 => ?_⟩
                clear f54 a54
                have szw3 := kc3.size
                clear kc3
                have szw3r := hS7.size
                have KM := km.mono (B' := B) (T' := [72, 43]) (M' := []) (by decide) (by simp) (Nat.le_refl _)
                replace KM := (Mod.of_kept0 hd7).trans KM
                replace HK := HK.step KM (by decide) (by simp) (by omega)
                replace HK1 := HK1.step KM (by decide) (by simp) (by omega)
                replace BP := BP.kept hS7 (by assumption)
                replace Bg0 := Bg0.kept hS7 (by assumption)
                clear hS7
                refine R.done (by kernel_rfl) (hK9 _ _ ?_)
                try clear hK9 K9
                have f56 := f55.sub (sub_cons (i := 8) rfl sub_nil)
                clear f55
                refine wp_seq_k fun K10 hK10 => ?_
                refine C.region ?_
                refine L.val f56 wantedN rfl (by decide) (E.assign f56 rfl) fun a57 f57 => ?_
                clear f56 a55
                refine wpList_nil (hK10 _ _ ?_)
                try clear hK10 K10
                have f58 := f57.sub (sub_cons (i := 8) rfl sub_nil)
                clear f57
                refine wp_ret ?_
                try simp only [Exit.inBlock, Exit.then]
                refine C.ret (P := Try.prog) (fn := Try.f15) f58 rfl rfl ?_
                exact send_fin hS HK HK1 BP HQ hql (send_push hn0 hlo hhi (fun h => hnz h.2.2))
            · clear f37
              have hge := h5
              refine L.skip f38 (f38.noT rfl rfl) rfl (by decide) fun a39 f39 => ?_
              clear f38 a37
              refine L.skip f39 (f39.noT rfl rfl) rfl (by decide) fun a40 f40 => ?_
              clear f39 a39
              refine L.skip f40 (f40.noT rfl rfl) rfl (by decide) fun a41 f41 => ?_
              clear f40 a40
              refine L.skip f41 (f41.noT rfl rfl) rfl (by decide) fun a42 f42 => ?_
              clear f41 a41
              refine L.skip f42 (f42.noT rfl rfl) rfl (by decide) fun a43 f43 => ?_
              clear f42 a42
              refine L.skip f43 (f43.noT rfl rfl) rfl (by decide) fun a44 f44 => ?_
              clear f43 a43
              refine L.val f44 wantedN rfl (by decide) (E.pickF f44 rfl rfl) fun a45 f45 => ?_
              clear f44 a44
              refine L.val f45 wantedN rfl (by decide) (E.assign f45 rfl) fun a46 f46 => ?_
              clear f45 a45
              refine wpList_nil (hK7 _ _ ?_)
              try clear hK7 K7
              have f47 := f46.sub (sub_cons (i := 0) rfl (sub_cons (i := 3) rfl (sub_cons (i := 5) rfl (sub_cons (i := 8) rfl (sub_cons (i := 28) rfl sub_nil)))))
              clear f46
              refine C.condF f47 rfl ?_
              refine wp_skip (hK1 _ _ ?_)
              try clear hK1 K1
              have f48 := f47.sub (sub_cons (i := 0) rfl (sub_cons (i := 5) rfl (sub_cons (i := 8) rfl sub_nil)))
              clear f47
              refine wp_seq_k fun K11 hK11 => ?_
              obtain ⟨MM, hMM⟩ : ∃ MM, MM = s.q :: (Value.slice s.QA s.wait.length s.qc).ownBlock.toList := ⟨_, rfl⟩
              have hpM : p ∉ MM := by rw [hMM]; exact fun hx => (List.mem_cons.1 hx).elim hS.p_ne_q (own_ne hS.qu.own hS.top (by decide))
              have hg0M : g0 ∉ MM := by rw [hMM]; exact fun hx => (List.mem_cons.1 hx).elim (fun e => by have := hS.qu.top.lt; omega) (own_old hS.qu.own frg0)
              refine R.begin (S := fun W => Kept MM w1 W) (by kernel_rfl) (by exact (Kept.refl _ _).drewN 1) ?_
              have hS7 : Kept MM w1 (w1.drewN 1) := (Kept.refl _ _).drewN 1
              have hd7 : Kept [] w1 (w1.drewN 1) := (Kept.refl _ _).drewN 1
              obtain ⟨w2, hww2⟩ : ∃ W, W = w1.drewN 1 := ⟨_, rfl⟩
              rw [← hww2] at hS7 hd7 ⊢
              clear hww2
              have szw2 := hS7.size
              replace HK0 := HK0.trans (.of_kept0 hd7)
              replace HP := HP.kept0 hd7
              refine R.take 0 f48 rfl rfl (by decide) (by kernel_rfl) (by kernel_rfl) (by kernel_rfl) (fun _ _ _ _ h => h) wantedN hS7 (fun W hW => (E.move f48 rfl)) fun a49 f49 => ?_
              clear f48 a46
              refine R.take 1 f49 rfl rfl (by decide) (by kernel_rfl) (by kernel_rfl) (by kernel_rfl) (fun _ _ _ _ h => h) wantedN hS7 (fun W hW => (E.nilCheck f49 rfl)) fun a50 f50 => ?_
              clear f49 a49
              refine R.take 2 f50 rfl rfl (by decide) (by kernel_rfl) (by kernel_rfl) (by kernel_rfl) (fun _ _ _ _ h => h) wantedN hS7 (fun W hW => (E.fieldAddr f50 Try.underlying57 rfl rfl wsz52_k)) fun a51 f51 => ?_
              clear f50 a50
              refine R.take 3 f51 rfl rfl (by decide) (by kernel_rfl) (by kernel_rfl) (by kernel_rfl) (fun _ _ _ _ h => h) wantedN hS7 (fun W hW => (by first | exact E.load f51 Try.underlying52 rfl rfl ((BP.kept hW (by assumption)).cl rfl) | exact E.load f51 Try.underlying52 rfl rfl ((Bg0.kept hW (by assumption)).cl rfl))) fun a52 f52 => ?_
              clear f51 a51
              refine R.take 4 f52 rfl rfl (by decide) (by kernel_rfl) (by kernel_rfl) (by kernel_rfl) (fun _ _ _ _ h => h) wantedN hS7 (fun W hW => (by first | exact E.loadB f52 Try.underlying43 rfl wsz43_k rfl (BP.kept hW (by assumption)) rfl | exact E.loadB f52 Try.underlying43 rfl wsz43_k rfl (Bg0.kept hW (by assumption)) rfl)) fun a53 f53 => ?_
              clear f52 a52
              refine R.call 5 f53 rfl rfl (by decide) (by kernel_rfl) wantedN (run_call Try.call31 (args2 f53 rfl rfl)) (push_any B s.q s.QA s.qc s.wait s.lost m Am cm _ (hS.qu.mod HK0 (by decide)) HP (by omega) hl) ?_
              rintro e w3 ⟨km, kc3, rfl, A2, c2, l2, HQ, hql⟩
              rw [← hMM] at kc3
              replace hS7 := hS7.trans kc3 (by exact fun x hx _ => hx)
              refine ⟨_, rfl, hS7, fun a54 f54 => ?_⟩
              clear f53 a53
              have szw3 := kc3.size
              clear kc3
              have szw3r := hS7.size
              have KM := km.mono (B' := B) (T' := [72, 43]) (M' := []) (by decide) (by simp) (Nat.le_refl _)
              replace KM := (Mod.of_kept0 hd7).trans KM
              replace HK := HK.step KM (by decide) (by simp) (by omega)
              replace HK1 := HK1.step KM (by decide) (by simp) (by omega)
              replace BP := BP.kept hS7 (by assumption)
              replace Bg0 := Bg0.kept hS7 (by assumption)
              clear hS7
              refine R.done (by kernel_rfl) (hK11 _ _ ?_)
              try clear hK11 K11
              have f55 := f54.sub (sub_cons (i := 8) rfl sub_nil)
              clear f54
              refine wp_seq_k fun K12 hK12 => ?_
              refine C.region ?_
              refine L.val f55 wantedN rfl (by decide) (E.assign f55 rfl) fun a56 f56 => ?_
              clear f55 a54
              refine wpList_nil (hK12 _ _ ?_)
              try clear hK12 K12
              have f57 := f56.sub (sub_cons (i := 8) rfl sub_nil)
              clear f56
              refine wp_ret ?_
              try simp only [Exit.inBlock, Exit.then]
              refine C.ret (P := Try.prog) (fn := Try.f15) f57 rfl rfl ?_
              exact send_fin hS HK HK1 BP HQ hql (send_push hn0 hlo hhi (fun h => hge h.2.1))
          · clear f28
            have hoff := h4
            refine L.skip f29 (f29.noT rfl rfl) rfl (by decide) fun a30 f30 => ?_
            clear f29 a28
            refine L.skip f30 (f30.noT rfl rfl) rfl (by decide) fun a31 f31 => ?_
            clear f30 a30
            refine L.skip f31 (f31.noT rfl rfl) rfl (by decide) fun a32 f32 => ?_
            clear f31 a31
            refine L.skip f32 (f32.noT rfl rfl) rfl (by decide) fun a33 f33 => ?_
            clear f32 a32
            refine L.skip f33 (f33.noT rfl rfl) rfl (by decide) fun a34 f34 => ?_
            clear f33 a33
            refine L.skip f34 (f34.noT rfl rfl) rfl (by decide) fun a35 f35 => ?_
            clear f34 a34
            refine L.val f35 wantedN rfl (by decide) (E.pickF f35 rfl rfl) fun a36 f36 => ?_
            clear f35 a35
            refine L.val f36 wantedN rfl (by decide) (E.move f36 rfl) fun a37 f37 => ?_
            clear f36 a36
            refine L.skip f37 (f37.noT rfl rfl) rfl (by decide) fun a38 f38 => ?_
            clear f37 a37
            refine L.skip f38 (f38.noT rfl rfl) rfl (by decide) fun a39 f39 => ?_
            clear f38 a38
            refine L.skip f39 (f39.noT rfl rfl) rfl (by decide) fun a40 f40 => ?_
            clear f39 a39
            refine L.skip f40 (f40.noT rfl rfl) rfl (by decide) fun a41 f41 => ?_
            clear f40 a40
            refine L.skip f41 (f41.noT rfl rfl) rfl (by decide) fun a42 f42 => ?_
            clear f41 a41
            refine L.skip f42 (f42.noT rfl rfl) rfl (by decide) fun a43 f43 => ?_
            clear f42 a42
            refine L.val f43 wantedN rfl (by decide) (E.pickF f43 rfl rfl) fun a44 f44 => ?_
            clear f43 a43
            refine L.val f44 wantedN rfl (by decide) (E.assign f44 rfl) fun a45 f45 => ?_
            clear f44 a44
            refine wpList_nil (hK7 _ _ ?_)
            try clear hK7 K7
            have f46 := f45.sub (sub_cons (i := 0) rfl (sub_cons (i := 3) rfl (sub_cons (i := 5) rfl (sub_cons (i := 8) rfl (sub_cons (i := 28) rfl sub_nil)))))
            clear f45
            refine C.condF f46 rfl ?_
            refine wp_skip (hK1 _ _ ?_)
            try clear hK1 K1
            have f47 := f46.sub (sub_cons (i := 0) rfl (sub_cons (i := 5) rfl (sub_cons (i := 8) rfl sub_nil)))
            clear f46
            refine wp_seq_k fun K13 hK13 => ?_
            obtain ⟨MM, hMM⟩ : ∃ MM, MM = s.q :: (Value.slice s.QA s.wait.length s.qc).ownBlock.toList := ⟨_, rfl⟩
            have hpM : p ∉ MM := by rw [hMM]; exact fun hx => (List.mem_cons.1 hx).elim hS.p_ne_q (own_ne hS.qu.own hS.top (by decide))
            have hg0M : g0 ∉ MM := by rw [hMM]; exact fun hx => (List.mem_cons.1 hx).elim (fun e => by have := hS.qu.top.lt; omega) (own_old hS.qu.own frg0)
            refine R.begin (S := fun W => Kept MM w1 W) (by kernel_rfl) (by exact (Kept.refl _ _).drewN 1) ?_
            have hS7 : Kept MM w1 (w1.drewN 1) := (Kept.refl _ _).drewN 1
            have hd7 : Kept [] w1 (w1.drewN 1) := (Kept.refl _ _).drewN 1
            obtain ⟨w2, hww2⟩ : ∃ W, W = w1.drewN 1 := ⟨_, rfl⟩
            rw [← hww2] at hS7 hd7 ⊢
            clear hww2
            have szw2 := hS7.size
            replace HK0 := HK0.trans (.of_kept0 hd7)
            replace HP := HP.kept0 hd7
            refine R.take 0 f47 rfl rfl (by decide) (by kernel_rfl) (by kernel_rfl) (by kernel_rfl) (fun _ _ _ _ h => h) wantedN hS7 (fun W hW => (E.move f47 rfl)) fun a48 f48 => ?_
            clear f47 a45
            refine R.take 1 f48 rfl rfl (by decide) (by kernel_rfl) (by kernel_rfl) (by kernel_rfl) (fun _ _ _ _ h => h) wantedN hS7 (fun W hW => (E.nilCheck f48 rfl)) fun a49 f49 => ?_
            clear f48 a48
            refine R.take 2 f49 rfl rfl (by decide) (by kernel_rfl) (by kernel_rfl) (by kernel_rfl) (fun _ _ _ _ h => h) wantedN hS7 (fun W hW => (E.fieldAddr f49 Try.underlying57 rfl rfl wsz52_k)) fun a50 f50 => ?_
            clear f49 a49
            refine R.take 3 f50 rfl rfl (by decide) (by kernel_rfl) (by kernel_rfl) (by kernel_rfl) (fun _ _ _ _ h => h) wantedN hS7 (fun W hW => (by first | exact E.load f50 Try.underlying52 rfl rfl ((BP.kept hW (by assumption)).cl rfl) | exact E.load f50 Try.underlying52 rfl rfl ((Bg0.kept hW (by assumption)).cl rfl))) fun a51 f51 => ?_
            clear f50 a50
            refine R.take 4 f51 rfl rfl (by decide) (by kernel_rfl) (by kernel_rfl) (by kernel_rfl) (fun _ _ _ _ h => h) wantedN hS7 (fun W hW => (by first | exact E.loadB f51 Try.underlying43 rfl wsz43_k rfl (BP.kept hW (by assumption)) rfl | exact E.loadB f51 Try.underlying43 rfl wsz43_k rfl (Bg0.kept hW (by assumption)) rfl)) fun a52 f52 => ?_
            clear f51 a51
            refine R.call 5 f52 rfl rfl (by decide) (by kernel_rfl) wantedN (run_call Try.call31 (args2 f52 rfl rfl)) (push_any B s.q s.QA s.qc s.wait s.lost m Am cm _ (hS.qu.mod HK0 (by decide)) HP (by omega) hl) ?_
            rintro e w3 ⟨km, kc3, rfl, A2, c2, l2, HQ, hql⟩
            rw [← hMM] at kc3
            replace hS7 := hS7.trans kc3 (by exact fun x hx _ => hx)
            refine ⟨_, rfl, hS7, fun a53 f53 => ?_⟩
            clear f52 a52
            have szw3 := kc3.size
            clear kc3
            have szw3r := hS7.size
            have KM := km.mono (B' := B) (T' := [72, 43]) (M' := []) (by decide) (by simp) (Nat.le_refl _)
            replace KM := (Mod.of_kept0 hd7).trans KM
            replace HK := HK.step KM (by decide) (by simp) (by omega)
            replace HK1 := HK1.step KM (by decide) (by simp) (by omega)
            replace BP := BP.kept hS7 (by assumption)
            replace Bg0 := Bg0.kept hS7 (by assumption)
            clear hS7
            refine R.done (by kernel_rfl) (hK13 _ _ ?_)
            try clear hK13 K13
            have f54 := f53.sub (sub_cons (i := 8) rfl sub_nil)
            clear f53
            refine wp_seq_k fun K14 hK14 => ?_
            refine C.region ?_
            refine L.val f54 wantedN rfl (by decide) (E.assign f54 rfl) fun a55 f55 => ?_
            clear f54 a53
            refine wpList_nil (hK14 _ _ ?_)
            try clear hK14 K14
            have f56 := f55.sub (sub_cons (i := 8) rfl sub_nil)
            clear f55
            refine wp_ret ?_
            try simp only [Exit.inBlock, Exit.then]
            refine C.ret (P := Try.prog) (fn := Try.f15) f56 rfl rfl ?_
            exact send_fin hS HK HK1 BP HQ hql (send_push hn0 hlo hhi (fun h => by rw [hoff] at h; cases h.1))
  · clear f8
    have hq0 := h0
    have hn0 : ¬ (m.qos = 0 ∧ on = true) := fun h => hq0 h.1
    refine L.skip f9 (f9.noT rfl rfl) rfl (by decide) fun a10 f10 => ?_
    clear f9 a8
    refine L.val f10 wantedN rfl (by decide) (E.pickF f10 rfl rfl) fun a11 f11 => ?_
    clear f10 a10
    refine L.val f11 wantedN rfl (by decide) (E.assign f11 rfl) fun a12 f12 => ?_
    clear f11 a11
    refine wpList_nil (hK2 _ _ ?_)
    try clear hK2 K2
    have f13 := f12.sub (sub_cons (i := 0) rfl (sub_cons (i := 2) rfl (sub_cons (i := 3) rfl (sub_cons (i := 5) rfl (sub_cons (i := 8) rfl (sub_cons (i := 9) rfl sub_nil))))))
    clear f12
    refine C.condF f13 rfl ?_
    refine wp_seq_k fun K15 hK15 => ?_
    refine C.region ?_
    refine L.val f13 wantedN rfl (by decide) (E.fieldAddr f13 Try.underlying43 rfl rfl wsz3_k) fun a14 f14 => ?_
    clear f13 a12
    refine L.val f14 wantedN rfl (by decide) (by first | exact E.load f14 Try.underlying3 rfl rfl ((BP).cl rfl) | exact E.load f14 Try.underlying3 rfl rfl ((Bg0).cl rfl)) fun a15 f15 => ?_
    clear f14 a14
    refine L.val f15 wantedN rfl (by decide) (E.lss f15 rfl rfl) fun a16 f16 => ?_
    clear f15 a15
    refine L.val f16 wantedN rfl (by decide) (E.move f16 rfl) fun a17 f17 => ?_
    clear f16 a16
    first | refine f17.splitD 23 rfl (fun h7 f18 => ?_) (fun h7 f18 => ?_) | refine f17.splitN 23 rfl (fun h7 f18 => ?_) (fun h7 f18 => ?_) | refine f17.splitNB 23 rfl (fun h7 f18 => ?_) (fun h7 f18 => ?_) | refine f17.split 23 rfl (fun h7 f18 => ?_) (fun h7 f18 => ?_)
    · clear f17
      have hlo := h7
      refine L.skip f18 (f18.noF rfl rfl) rfl (by decide) fun a19 f19 => ?_
      clear f18 a17
      refine L.skip f19 (f19.noF rfl rfl) rfl (by decide) fun a20 f20 => ?_
      clear f19 a19
      refine L.skip f20 (f20.noF rfl rfl) rfl (by decide) fun a21 f21 => ?_
      clear f20 a20
      refine L.val f21 wantedN rfl (by decide) (E.pickT f21 rfl rfl) fun a22 f22 => ?_
      clear f21 a21
      refine L.val f22 wantedN rfl (by decide) (E.assign f22 rfl) fun a23 f23 => ?_
      clear f22 a22
      refine wpList_nil (hK15 _ _ ?_)
      try clear hK15 K15
      have f24 := f23.sub (sub_cons (i := 0) rfl (sub_cons (i := 2) rfl (sub_cons (i := 3) rfl (sub_cons (i := 5) rfl (sub_cons (i := 8) rfl (sub_cons (i := 19) rfl sub_nil))))))
      clear f23
      refine C.condT f24 rfl ?_
      refine wp_seq_k fun K16 hK16 => ?_
      refine C.region ?_
      refine L.val f24 wantedN rfl (by decide) (E.assign f24 rfl) fun a25 f25 => ?_
      clear f24 a23
      refine wpList_nil (hK16 _ _ ?_)
      try clear hK16 K16
      have f26 := f25.sub (sub_cons (i := 0) rfl (sub_cons (i := 5) rfl (sub_cons (i := 8) rfl sub_nil)))
      clear f25
      refine wp_ret ?_
      try simp only [Exit.inBlock, Exit.then]
      refine C.ret (P := Try.prog) (fn := Try.f15) f26 rfl rfl ?_
      exact ⟨s, none, 0, [], rfl, hS.mod HK0 (by simp), by rw [send_none hn0 (by omega)]; rfl, ⟨rfl, rfl, rfl⟩, HK, PkAt.nil _ _ _, by simp⟩
    · clear f17
      have hlo := h7
      refine L.val f18 (f18.yes rfl rfl) rfl (by decide) (E.fieldAddr f18 Try.underlying43 rfl rfl wsz3_k) fun a19 f19 => ?_
      clear f18 a17
      refine L.val f19 (f19.yes rfl rfl) rfl (by decide) (by first | exact E.load f19 Try.underlying3 rfl rfl ((BP).cl rfl) | exact E.load f19 Try.underlying3 rfl rfl ((Bg0).cl rfl)) fun a20 f20 => ?_
      clear f19 a19
      refine L.val f20 (f20.yes rfl rfl) rfl (by decide) (E.gtr f20 rfl rfl) fun a21 f21 => ?_
      clear f20 a20
      refine L.val f21 wantedN rfl (by decide) (E.pickF f21 rfl rfl) fun a22 f22 => ?_
      clear f21 a21
      refine L.val f22 wantedN rfl (by decide) (E.assign f22 rfl) fun a23 f23 => ?_
      clear f22 a22
      refine wpList_nil (hK15 _ _ ?_)
      try clear hK15 K15
      have f24 := f23.sub (sub_cons (i := 0) rfl (sub_cons (i := 2) rfl (sub_cons (i := 3) rfl (sub_cons (i := 5) rfl (sub_cons (i := 8) rfl (sub_cons (i := 19) rfl sub_nil))))))
      clear f23
      first | refine f24.splitD 19 rfl (fun h8 f25 => ?_) (fun h8 f25 => ?_) | refine f24.splitN 19 rfl (fun h8 f25 => ?_) (fun h8 f25 => ?_) | refine f24.splitNB 19 rfl (fun h8 f25 => ?_) (fun h8 f25 => ?_) | refine f24.split 19 rfl (fun h8 f25 => ?_) (fun h8 f25 => ?_)
      · clear f24
        have hhi := h8
        refine C.condT f25 rfl ?_
        refine wp_seq_k fun K17 hK17 => ?_
        refine C.region ?_
        refine L.val f25 wantedN rfl (by decide) (E.assign f25 rfl) fun a26 f26 => ?_
        clear f25 a23
        refine wpList_nil (hK17 _ _ ?_)
        try clear hK17 K17
        have f27 := f26.sub (sub_cons (i := 0) rfl (sub_cons (i := 5) rfl (sub_cons (i := 8) rfl sub_nil)))
        clear f26
        refine wp_ret ?_
        try simp only [Exit.inBlock, Exit.then]
        refine C.ret (P := Try.prog) (fn := Try.f15) f27 rfl rfl ?_
        exact ⟨s, none, 0, [], rfl, hS.mod HK0 (by simp), by rw [send_none hn0 (by omega)]; rfl, ⟨rfl, rfl, rfl⟩, HK, PkAt.nil _ _ _, by simp⟩
      · clear f24
        have hhi := h8
        refine C.condF f25 rfl ?_
        refine wp_seq_k fun K18 hK18 => ?_
        refine C.region ?_
        refine L.val f25 wantedN rfl (by decide) (E.move f25 rfl) fun a26 f26 => ?_
        clear f25 a23
        refine L.val f26 wantedN rfl (by decide) (E.move f26 rfl) fun a27 f27 => ?_
        clear f26 a26
        first | refine f27.splitD 30 rfl (fun h9 f28 => ?_) (fun h9 f28 => ?_) | refine f27.splitN 30 rfl (fun h9 f28 => ?_) (fun h9 f28 => ?_) | refine f27.splitNB 30 rfl (fun h9 f28 => ?_) (fun h9 f28 => ?_) | refine f27.split 30 rfl (fun h9 f28 => ?_) (fun h9 f28 => ?_)
        · clear f27
          have hon4 := h9
          refine L.val f28 (f28.yes rfl rfl) rfl (by decide) (E.move f28 rfl) fun a29 f29 => ?_
          clear f28 a27
          refine L.val f29 (f29.yes rfl rfl) rfl (by decide) (E.nilCheck f29 rfl) fun a30 f30 => ?_
          clear f29 a29
          refine L.val f30 (f30.yes rfl rfl) rfl (by decide) (E.fieldAddr f30 Try.underlying57 rfl rfl wsz55_k) fun a31 f31 => ?_
          clear f30 a30
          refine L.val f31 (f31.yes rfl rfl) rfl (by decide) (by first | exact E.load f31 Try.underlying55 rfl rfl ((BP).cl rfl) | exact E.load f31 Try.underlying55 rfl rfl ((Bg0).cl rfl)) fun a32 f32 => ?_
          clear f31 a31
          refine L.val f32 (f32.yes rfl rfl) rfl (by decide) (E.lenL f32 Try.underlying55 rfl) fun a33 f33 => ?_
          clear f32 a32
          refine L.val f33 (f33.yes rfl rfl) rfl (by decide) (E.lss f33 rfl rfl) fun a34 f34 => ?_
          clear f33 a33
          refine L.val f34 wantedN rfl (by decide) (E.pickT f34 rfl rfl) fun a35 f35 => ?_
          clear f34 a34
          refine L.val f35 wantedN rfl (by decide) (E.move f35 rfl) fun a36 f36 => ?_
          clear f35 a35
          first | refine f36.splitD 38 rfl (fun h10 f37 => ?_) (fun h10 f37 => ?_) | refine f36.splitN 38 rfl (fun h10 f37 => ?_) (fun h10 f37 => ?_) | refine f36.splitNB 38 rfl (fun h10 f37 => ?_) (fun h10 f37 => ?_) | refine f36.split 38 rfl (fun h10 f37 => ?_) (fun h10 f37 => ?_)
          · clear f36
            have hlt := h10
            refine L.val f37 (f37.yes rfl rfl) rfl (by decide) (E.move f37 rfl) fun a38 f38 => ?_
            clear f37 a36
            refine L.val f38 (f38.yes rfl rfl) rfl (by decide) (E.nilCheck f38 rfl) fun a39 f39 => ?_
            clear f38 a38
            refine L.val f39 (f39.yes rfl rfl) rfl (by decide) (E.fieldAddr f39 Try.underlying57 rfl rfl wsz52_k) fun a40 f40 => ?_
            clear f39 a39
            refine L.val f40 (f40.yes rfl rfl) rfl (by decide) (by first | exact E.load f40 Try.underlying52 rfl rfl ((BP).cl rfl) | exact E.load f40 Try.underlying52 rfl rfl ((Bg0).cl rfl)) fun a41 f41 => ?_
            clear f40 a40
            refine L.call f41 (f41.yes rfl rfl) rfl (by decide) (run_call Try.call29 (args1 f41 rfl)) (quLen_any _ _ _ _ _ _ _ (hS.qu.mod HK0 (by decide)).top) ?_
            rintro e w1x ⟨rfl, rfl⟩
            refine ⟨_, rfl, fun a42 f42 => ?_⟩
            clear f41 a41
            refine L.val f42 (f42.yes rfl rfl) rfl (by decide) (E.eql f42 rfl rfl) fun a43 f43 => ?_
            clear f42 a42
            refine L.val f43 wantedN rfl (by decide) (E.pickT f43 rfl rfl) fun a44 f44 => ?_
            clear f43 a43
            refine L.val f44 wantedN rfl (by decide) (E.assign f44 rfl) fun a45 f45 => ?_
            clear f44 a44
            refine wpList_nil (hK18 _ _ ?_)
            try clear hK18 K18
            have f46 := f45.sub (sub_cons (i := 0) rfl (sub_cons (i := 3) rfl (sub_cons (i := 5) rfl (sub_cons (i := 8) rfl (sub_cons (i := 28) rfl sub_nil)))))
            clear f45
            first | refine f46.splitD 28 rfl (fun h11 f47 => ?_) (fun h11 f47 => ?_) | refine f46.splitN 28 rfl (fun h11 f47 => ?_) (fun h11 f47 => ?_) | refine f46.splitNB 28 rfl (fun h11 f47 => ?_) (fun h11 f47 => ?_) | refine f46.split 28 rfl (fun h11 f47 => ?_) (fun h11 f47 => ?_)
            · clear f46
              have hz := h11
              refine C.condT f47 rfl ?_
              refine wp_seq_k fun K19 hK19 => ?_
              refine C.region ?_
              refine L.val f47 wantedN rfl (by decide) (E.move f47 rfl) fun a48 f48 => ?_
              clear f47 a45
              refine L.val f48 wantedN rfl (by decide) (by first | exact E.loadB f48 Try.underlying43 rfl wsz43_k rfl (BP) rfl | exact E.loadB f48 Try.underlying43 rfl wsz43_k rfl (Bg0) rfl) fun a49 f49 => ?_
              clear f48 a48
              refine L.val f49 wantedN rfl (by decide) (E.move f49 rfl) fun a50 f50 => ?_
              clear f49 a49
              refine L.call f50 wantedN rfl (by decide) (run_call Try.call30 (args3 f50 rfl rfl rfl)) (rise_any B p s m Am cm now _ (hS.mod HK0 (by simp)) HP (by omega) (by omega)) ?_
              rintro e w2 ⟨u2, Ap, cp, rfl, HS2, hab, hL2, kc2, HR⟩
              refine ⟨_, rfl, fun a51 f51 => ?_⟩
              clear f50 a50
              have szw2 := kc2.size
              replace HK := HK.step kc2 (by decide) (by simp) (by omega)
              replace Bg0 := Bg0.mod kc2 (by decide)
              clear kc2
              refine L.buildSlice f51 wantedN (by decide) (parts1 f51 rfl) Try.underlying27 wzj35 rfl rfl (wpk1 ⟨riseP s.abs m, Ap, cp⟩) fun a52 w3 g2 N2 f52 => ?_
              have OWR := N2.own (k := 1) (size := 24) rfl (by decide)
              have Bg2 := N2.blk
              have kg2 := N2.kept
              have log2 := N2.lo
              have ltg2 := Bg2.lt
              have szw3 := kg2.size
              have frg2 : w.heap.size ≤ g2 := Nat.le_trans HK.size log2
              have neg0_g2 : g0 ≠ g2 := by have := Bg0.lt; omega
              replace HK := HK.trans (.of_kept0 kg2)
              replace Bg0 := Bg0.kept kg2 (by simp)
              replace HS2 := HS2.mod (Mod.of_kept0 (T := []) (M := []) (B := B) kg2) (by decide)
              replace HR := HR.mod (Mod.of_kept0 (T := []) (M := []) (B := B) kg2) (by decide)
              clear N2 kg2
              clear f51 a51
              refine L.val f52 wantedN rfl (by decide) (E.assign f52 rfl) fun a53 f53 => ?_
              clear f52 a52
              refine wpList_nil (hK19 _ _ ?_)
              try clear hK19 K19
              have f54 := f53.sub (sub_cons (i := 0) rfl (sub_cons (i := 5) rfl (sub_cons (i := 8) rfl sub_nil)))
              clear f53
              refine wp_ret ?_
              try simp only [Exit.inBlock, Exit.then]
              refine C.ret (P := Try.prog) (fn := Try.f15) f54 rfl rfl ?_
              exact ⟨u2, _, _, [⟨riseP s.abs m, Ap, cp⟩], rfl, HS2, by rw [send_rise hn0 hlo hhi hon4 hlt (by omega), hab]; rfl, hL2, HK, pk_one OWR frg2 HR, by simp⟩
            · clear f46
              have hnz := h11
              refine C.condF f47 rfl ?_
              refine wp_skip (hK1 _ _ ?_)
              try clear hK1 K1
              have f48 := f47.sub (sub_cons (i := 0) rfl (sub_cons (i := 5) rfl (sub_cons (i := 8) rfl sub_nil)))
              clear f47
              refine wp_seq_k fun K20 hK20 => ?_
              obtain ⟨MM, hMM⟩ : ∃ MM, MM = s.q :: (Value.slice s.QA s.wait.length s.qc).ownBlock.toList := ⟨_, rfl⟩
              have hpM : p ∉ MM := by rw [hMM]; exact fun hx => (List.mem_cons.1 hx).elim hS.p_ne_q (own_ne hS.qu.own hS.top (by decide))
              have hg0M : g0 ∉ MM := by rw [hMM]; exact fun hx => (List.mem_cons.1 hx).elim (fun e => by have := hS.qu.top.lt; omega) (own_old hS.qu.own frg0)
              refine R.begin (S := fun W => Kept MM w1 W) (by kernel_rfl) (by exact (Kept.refl _ _).drewN 1) ?_
              have hS7 : Kept MM w1 (w1.drewN 1) := (Kept.refl _ _).drewN 1
              have hd7 : Kept [] w1 (w1.drewN 1) := (Kept.refl _ _).drewN 1
              obtain ⟨w2, hww2⟩ : ∃ W, W = w1.drewN 1 := ⟨_, rfl⟩
              rw [← hww2] at hS7 hd7 ⊢
              clear hww2
              have szw2 := hS7.size
              replace HK0 := HK0.trans (.of_kept0 hd7)
              replace HP := HP.kept0 hd7
              refine R.take 0 f48 rfl rfl (by decide) (by kernel_rfl) (by kernel_rfl) (by kernel_rfl) (fun _ _ _ _ h => h) wantedN hS7 (fun W hW => (E.move f48 rfl)) fun a49 f49 => ?_
              clear f48 a45
              refine R.take 1 f49 rfl rfl (by decide) (by kernel_rfl) (by kernel_rfl) (by kernel_rfl) (fun _ _ _ _ h => h) wantedN hS7 (fun W hW => (E.nilCheck f49 rfl)) fun a50 f50 => ?_
              clear f49 a49
              refine R.take 2 f50 rfl rfl (by decide) (by kernel_rfl) (by kernel_rfl) (by kernel_rfl) (fun _ _ _ _ h => h) wantedN hS7 (fun W hW => (E.fieldAddr f50 Try.underlying57 rfl rfl wsz52_k)) fun a51 f51 => ?_
              clear f50 a50
              refine R.take 3 f51 rfl rfl (by decide) (by kernel_rfl) (by kernel_rfl) (by kernel_rfl) (fun _ _ _ _ h => h) wantedN hS7 (fun W hW => (by first | exact E.load f51 Try.underlying52 rfl rfl ((BP.kept hW (by assumption)).cl rfl) | exact E.load f51 Try.underlying52 rfl rfl ((Bg0.kept hW (by assumption)).cl rfl))) fun a52 f52 => ?_
              clear f51 a51
              refine R.take 4 f52 rfl rfl (by decide) (by kernel_rfl) (by kernel_rfl) (by kernel_rfl) (fun _ _ _ _ h => h) wantedN hS7 (fun W hW => (by first | exact E.loadB f52 Try.underlying43 rfl wsz43_k rfl (BP.kept hW (by assumption)) rfl | exact E.loadB f52 Try.underlying43 rfl wsz43_k rfl (Bg0.kept hW (by assumption)) rfl)) fun a53 f53 => ?_
              clear f52 a52
              refine R.call 5 f53 rfl rfl (by decide) (by kernel_rfl) wantedN (run_call Try.call31 (args2 f53 rfl rfl)) (push_any B s.q s.QA s.qc s.wait s.lost m Am cm _ (hS.qu.mod HK0 (by decide)) HP (by omega) hl) ?_
              rintro e w3 ⟨km, kc3, rfl, A2, c2, l2, HQ, hql⟩
              rw [← hMM] at kc3
              replace hS7 := hS7.trans kc3 (by exact fun x hx _ => hx)
              refine ⟨_, rfl, hS7, fun a54 f54 => ?_⟩
              clear f53 a53
              have szw3 := kc3.size
              clear kc3
              have szw3r := hS7.size
              have KM := km.mono (B' := B) (T' := [72, 43]) (M' := []) (by decide) (by simp) (Nat.le_refl _)
              replace KM := (Mod.of_kept0 hd7).trans KM
              replace HK := HK.step KM (by decide) (by simp) (by omega)
              replace HK1 := HK1.step KM (by decide) (by simp) (by omega)
              replace BP := BP.kept hS7 (by assumption)
              replace Bg0 := Bg0.kept hS7 (by assumption)
              clear hS7
              refine R.done (by kernel_rfl) (hK20 _ _ ?_)
              try clear hK20 K20
              have f55 := f54.sub (sub_cons (i := 8) rfl sub_nil)
              clear f54
              refine wp_seq_k fun K21 hK21 => ?_
              refine C.region ?_
              refine L.val f55 wantedN rfl (by decide) (E.assign f55 rfl) fun a56 f56 => ?_
              clear f55 a54
              refine wpList_nil (hK21 _ _ ?_)
              try clear hK21 K21
              have f57 := f56.sub (sub_cons (i := 8) rfl sub_nil)
              clear f56
              refine wp_ret ?_
              try simp only [Exit.inBlock, Exit.then]
              refine C.ret (P := Try.prog) (fn := Try.f15) f57 rfl rfl ?_
              exact send_fin hS HK HK1 BP HQ hql (send_push hn0 hlo hhi (fun h => hnz h.2.2))
          · clear f36
            have hge := h10
            refine L.skip f37 (f37.noT rfl rfl) rfl (by decide) fun a38 f38 => ?_
            clear f37 a36
            refine L.skip f38 (f38.noT rfl rfl) rfl (by decide) fun a39 f39 => ?_
            clear f38 a38
            refine L.skip f39 (f39.noT rfl rfl) rfl (by decide) fun a40 f40 => ?_
            clear f39 a39
            refine L.skip f40 (f40.noT rfl rfl) rfl (by decide) fun a41 f41 => ?_
            clear f40 a40
            refine L.skip f41 (f41.noT rfl rfl) rfl (by decide) fun a42 f42 => ?_
            clear f41 a41
            refine L.skip f42 (f42.noT rfl rfl) rfl (by decide) fun a43 f43 => ?_
            clear f42 a42
            refine L.val f43 wantedN rfl (by decide) (E.pickF f43 rfl rfl) fun a44 f44 => ?_
            clear f43 a43
            refine L.val f44 wantedN rfl (by decide) (E.assign f44 rfl) fun a45 f45 => ?_
            clear f44 a44
            refine wpList_nil (hK18 _ _ ?_)
            try clear hK18 K18
            have f46 := f45.sub (sub_cons (i := 0) rfl (sub_cons (i := 3) rfl (sub_cons (i := 5) rfl (sub_cons (i := 8) rfl (sub_cons (i := 28) rfl sub_nil)))))
            clear f45
            refine C.condF f46 rfl ?_
            refine wp_skip (hK1 _ _ ?_)
            try clear hK1 K1
            have f47 := f46.sub (sub_cons (i := 0) rfl (sub_cons (i := 5) rfl (sub_cons (i := 8) rfl sub_nil)))
            clear f46
            refine wp_seq_k fun K22 hK22 => ?_
            obtain ⟨MM, hMM⟩ : ∃ MM, MM = s.q :: (Value.slice s.QA s.wait.length s.qc).ownBlock.toList := ⟨_, rfl⟩
            have hpM : p ∉ MM := by rw [hMM]; exact fun hx => (List.mem_cons.1 hx).elim hS.p_ne_q (own_ne hS.qu.own hS.top (by decide))
            have hg0M : g0 ∉ MM := by rw [hMM]; exact fun hx => (List.mem_cons.1 hx).elim (fun e => by have := hS.qu.top.lt; omega) (own_old hS.qu.own frg0)
            refine R.begin (S := fun W => Kept MM w1 W) (by kernel_rfl) (by exact (Kept.refl _ _).drewN 1) ?_
            have hS7 : Kept MM w1 (w1.drewN 1) := (Kept.refl _ _).drewN 1
            have hd7 : Kept [] w1 (w1.drewN 1) := (Kept.refl _ _).drewN 1
            obtain ⟨w2, hww2⟩ : ∃ W, W = w1.drewN 1 := ⟨_, rfl⟩
            rw [← hww2] at hS7 hd7 ⊢
            clear hww2
            have szw2 := hS7.size
            replace HK0 := HK0.trans (.of_kept0 hd7)
            replace HP := HP.kept0 hd7
            refine R.take 0 f47 rfl rfl (by decide) (by kernel_rfl) (by kernel_rfl) (by kernel_rfl) (fun _ _ _ _ h => h) wantedN hS7 (fun W hW => (E.move f47 rfl)) fun a48 f48 => ?_
            clear f47 a45
            refine R.take 1 f48 rfl rfl (by decide) (by kernel_rfl) (by kernel_rfl) (by kernel_rfl) (fun _ _ _ _ h => h) wantedN hS7 (fun W hW => (E.nilCheck f48 rfl)) fun a49 f49 => ?_
            clear f48 a48
            refine R.take 2 f49 rfl rfl (by decide) (by kernel_rfl) (by kernel_rfl) (by kernel_rfl) (fun _ _ _ _ h => h) wantedN hS7 (fun W hW => (E.fieldAddr f49 Try.underlying57 rfl rfl wsz52_k)) fun a50 f50 => ?_
            clear f49 a49
            refine R.take 3 f50 rfl rfl (by decide) (by kernel_rfl) (by kernel_rfl) (by kernel_rfl) (fun _ _ _ _ h => h) wantedN hS7 (fun W hW => (by first | exact E.load f50 Try.underlying52 rfl rfl ((BP.kept hW (by assumption)).cl rfl) | exact E.load f50 Try.underlying52 rfl rfl ((Bg0.kept hW (by assumption)).cl rfl))) fun a51 f51 => ?_
            clear f50 a50
            refine R.take 4 f51 rfl rfl (by decide) (by kernel_rfl) (by kernel_rfl) (by kernel_rfl) (fun _ _ _ _ h => h) wantedN hS7 (fun W hW => (by first | exact E.loadB f51 Try.underlying43 rfl wsz43_k rfl (BP.kept hW (by assumption)) rfl | exact E.loadB f51 Try.underlying43 rfl wsz43_k rfl (Bg0.kept hW (by assumption)) rfl)) fun a52 f52 => ?_
            clear f51 a51
            refine R.call 5 f52 rfl rfl (by decide) (by kernel_rfl) wantedN (run_call Try.call31 (args2 f52 rfl rfl)) (push_any B s.q s.QA s.qc s.wait s.lost m Am cm _ (hS.qu.mod HK0 (by decide)) HP (by omega) hl) ?_
            rintro e w3 ⟨km, kc3, rfl, A2, c2, l2, HQ, hql⟩
            rw [← hMM] at kc3
            replace hS7 := hS7.trans kc3 (by exact fun x hx _ => hx)
            refine ⟨_, rfl, hS7, fun a53 f53 => ?_⟩
            clear f52 a52
            have szw3 := kc3.size
            clear kc3
            have szw3r := hS7.size
            have KM := km.mono (B' := B) (T' := [72, 43]) (M' := []) (by decide) (by simp) (Nat.le_refl _)
            replace KM := (Mod.of_kept0 hd7).trans KM
            replace HK := HK.step KM (by decide) (by simp) (by omega)
            replace HK1 := HK1.step KM (by decide) (by simp) (by omega)
            replace BP := BP.kept hS7 (by assumption)
            replace Bg0 := Bg0.kept hS7 (by assumption)
            clear hS7
            refine R.done (by kernel_rfl) (hK22 _ _ ?_)
            try clear hK22 K22
            have f54 := f53.sub (sub_cons (i := 8) rfl sub_nil)
            clear f53
            refine wp_seq_k fun K23 hK23 => ?_
            refine C.region ?_
            refine L.val f54 wantedN rfl (by decide) (E.assign f54 rfl) fun a55 f55 => ?_
            clear f54 a53
            refine wpList_nil (hK23 _ _ ?_)
            try clear hK23 K23
            have f56 := f55.sub (sub_cons (i := 8) rfl sub_nil)
            clear f55
            refine wp_ret ?_
            try simp only [Exit.inBlock, Exit.then]
            refine C.ret (P := Try.prog) (fn := Try.f15) f56 rfl rfl ?_
            exact send_fin hS HK HK1 BP HQ hql (send_push hn0 hlo hhi (fun h => hge h.2.1))
        · clear f27
          have hoff := h9
          refine L.skip f28 (f28.noT rfl rfl) rfl (by decide) fun a29 f29 => ?_
          clear f28 a27
          refine L.skip f29 (f29.noT rfl rfl) rfl (by decide) fun a30 f30 => ?_
          clear f29 a29
          refine L.skip f30 (f30.noT rfl rfl) rfl (by decide) fun a31 f31 => ?_
          clear f30 a30
          refine L.skip f31 (f31.noT rfl rfl) rfl (by decide) fun a32 f32 => ?_
          clear f31 a31
          refine L.skip f32 (f32.noT rfl rfl) rfl (by decide) fun a33 f33 => ?_
          clear f32 a32
          refine L.skip f33 (f33.noT rfl rfl) rfl (by decide) fun a34 f34 => ?_
          clear f33 a33
          refine L.val f34 wantedN rfl (by decide) (E.pickF f34 rfl rfl) fun a35 f35 => ?_
          clear f34 a34
          refine L.val f35 wantedN rfl (by decide) (E.move f35 rfl) fun a36 f36 => ?_
          clear f35 a35
          refine L.skip f36 (f36.noT rfl rfl) rfl (by decide) fun a37 f37 => ?_
          clear f36 a36
          refine L.skip f37 (f37.noT rfl rfl) rfl (by decide) fun a38 f38 => ?_
          clear f37 a37
          refine L.skip f38 (f38.noT rfl rfl) rfl (by decide) fun a39 f39 => ?_
          clear f38 a38
          refine L.skip f39 (f39.noT rfl rfl) rfl (by decide) fun a40 f40 => ?_
          clear f39 a39
          refine L.skip f40 (f40.noT rfl rfl) rfl (by decide) fun a41 f41 => ?_
          clear f40 a40
          refine L.skip f41 (f41.noT rfl rfl) rfl (by decide) fun a42 f42 => ?_
          clear f41 a41
          refine L.val f42 wantedN rfl (by decide) (E.pickF f42 rfl rfl) fun a43 f43 => ?_
          clear f42 a42
          refine L.val f43 wantedN rfl (by decide) (E.assign f43 rfl) fun a44 f44 => ?_
          clear f43 a43
          refine wpList_nil (hK18 _ _ ?_)
          try clear hK18 K18
          have f45 := f44.sub (sub_cons (i := 0) rfl (sub_cons (i := 3) rfl (sub_cons (i := 5) rfl (sub_cons (i := 8) rfl (sub_cons (i := 28) rfl sub_nil)))))
          clear f44
          refine C.condF f45 rfl ?_
          refine wp_skip (hK1 _ _ ?_)
          try clear hK1 K1
          have f46 := f45.sub (sub_cons (i := 0) rfl (sub_cons (i := 5) rfl (sub_cons (i := 8) rfl sub_nil)))
          clear f45
          refine wp_seq_k fun K24 hK24 => ?_
          obtain ⟨MM, hMM⟩ : ∃ MM, MM = s.q :: (Value.slice s.QA s.wait.length s.qc).ownBlock.toList := ⟨_, rfl⟩
          have hpM : p ∉ MM := by rw [hMM]; exact fun hx => (List.mem_cons.1 hx).elim hS.p_ne_q (own_ne hS.qu.own hS.top (by decide))
          have hg0M : g0 ∉ MM := by rw [hMM]; exact fun hx => (List.mem_cons.1 hx).elim (fun e => by have := hS.qu.top.lt; omega) (own_old hS.qu.own frg0)
          refine R.begin (S := fun W => Kept MM w1 W) (by kernel_rfl) (by exact (Kept.refl _ _).drewN 1) ?_
          have hS7 : Kept MM w1 (w1.drewN 1) := (Kept.refl _ _).drewN 1
          have hd7 : Kept [] w1 (w1.drewN 1) := (Kept.refl _ _).drewN 1
          obtain ⟨w2, hww2⟩ : ∃ W, W = w1.drewN 1 := ⟨_, rfl⟩
          rw [← hww2] at hS7 hd7 ⊢
          clear hww2
          have szw2 := hS7.size
          replace HK0 := HK0.trans (.of_kept0 hd7)
          replace HP := HP.kept0 hd7
          refine R.take 0 f46 rfl rfl (by decide) (by kernel_rfl) (by kernel_rfl) (by kernel_rfl) (fun _ _ _ _ h => h) wantedN hS7 (fun W hW => (E.move f46 rfl)) fun a47 f47 => ?_
          clear f46 a44
          refine R.take 1 f47 rfl rfl (by decide) (by kernel_rfl) (by kernel_rfl) (by kernel_rfl) (fun _ _ _ _ h => h) wantedN hS7 (fun W hW => (E.nilCheck f47 rfl)) fun a48 f48 => ?_
          clear f47 a47
          refine R.take 2 f48 rfl rfl (by decide) (by kernel_rfl) (by kernel_rfl) (by kernel_rfl) (fun _ _ _ _ h => h) wantedN hS7 (fun W hW => (E.fieldAddr f48 Try.underlying57 rfl rfl wsz52_k)) fun a49 f49 => ?_
          clear f48 a48
          refine R.take 3 f49 rfl rfl (by decide) (by kernel_rfl) (by kernel_rfl) (by kernel_rfl) (fun _ _ _ _ h => h) wantedN hS7 (fun W hW => (by first | exact E.load f49 Try.underlying52 rfl rfl ((BP.kept hW (by assumption)).cl rfl) | exact E.load f49 Try.underlying52 rfl rfl ((Bg0.kept hW (by assumption)).cl rfl))) fun a50 f50 => ?_
          clear f49 a49
          refine R.take 4 f50 rfl rfl (by decide) (by kernel_rfl) (by kernel_rfl) (by kernel_rfl) (fun _ _ _ _ h => h) wantedN hS7 (fun W hW => (by first | exact E.loadB f50 Try.underlying43 rfl wsz43_k rfl (BP.kept hW (by assumption)) rfl | exact E.loadB f50 Try.underlying43 rfl wsz43_k rfl (Bg0.kept hW (by assumption)) rfl)) fun a51 f51 => ?_
          clear f50 a50
          refine R.call 5 f51 rfl rfl (by decide) (by kernel_rfl) wantedN (run_call Try.call31 (args2 f51 rfl rfl)) (push_any B s.q s.QA s.qc s.wait s.lost m Am cm _ (hS.qu.mod HK0 (by decide)) HP (by omega) hl) ?_
          rintro e w3 ⟨km, kc3, rfl, A2, c2, l2, HQ, hql⟩
          rw [← hMM] at kc3
          replace hS7 := hS7.trans kc3 (by exact fun x hx _ => hx)
          refine ⟨_, rfl, hS7, fun a52 f52 => ?_⟩
          clear f51 a51
          have szw3 := kc3.size
          clear kc3
          have szw3r := hS7.size
          have KM := km.mono (B' := B) (T' := [72, 43]) (M' := []) (by decide) (by simp) (Nat.le_refl _)
          replace KM := (Mod.of_kept0 hd7).trans KM
          replace HK := HK.step KM (by decide) (by simp) (by omega)
          replace HK1 := HK1.step KM (by decide) (by simp) (by omega)
          replace BP := BP.kept hS7 (by assumption)
          replace Bg0 := Bg0.kept hS7 (by assumption)
          clear hS7
          refine R.done (by kernel_rfl) (hK24 _ _ ?_)
          try clear hK24 K24
          have f53 := f52.sub (sub_cons (i := 8) rfl sub_nil)
          clear f52
          refine wp_seq_k fun K25 hK25 => ?_
          refine C.region ?_
          refine L.val f53 wantedN rfl (by decide) (E.assign f53 rfl) fun a54 f54 => ?_
          clear f53 a52
          refine wpList_nil (hK25 _ _ ?_)
          try clear hK25 K25
          have f55 := f54.sub (sub_cons (i := 8) rfl sub_nil)
          clear f54
          refine wp_ret ?_
          try simp only [Exit.inBlock, Exit.then]
          refine C.ret (P := Try.prog) (fn := Try.f15) f55 rfl rfl ?_
          exact send_fin hS HK HK1 BP HQ hql (send_push hn0 hlo hhi (fun h => by rw [hoff] at h; cases h.1))

end Go.Proofs.Ytdfllmiokgoekaa
