/- Merged by program (shrink.py): contracts and plain laws that the claim's statement uses, part 6. -/
import Derived.Test.YtdfllmiokgoekaaGreatDoorMa5
set_option linter.all false
set_option maxRecDepth 100000
set_option maxHeartbeats 8000000

namespace Go.Proofs.YtdfllmiokgoekaaGreatDoor
open Go.RowKit Go.Hub Go.Lib
theorem wbl64_0_2_3_5_rk (x0 : ByteArray) (x1 : Option Addr) (x2 : Option Addr) (x3 : Option Nat) : Tryz.prog.built 64 [(0, .string x0), (2, .pointer x1), (3, .pointer x2), (5, .map x3)] = some #[.string x0, (.slice none 0 0), .pointer x1, .pointer x2, (.slice none 0 0), .map x3] := by kernel_rfl
theorem wzib66_rk : (Tryz.prog.info? 66).map (fun i => (i.zero, i.size, i.bytes)) = some (some (.agg #[(.string ⟨#[]⟩), (.int .i64 0)]), 2, 24) := by kernel_rfl
theorem wzi66_rk : (Tryz.prog.info? 66).map (fun i => (i.zero, i.size)) = some (some (.agg #[(.string ⟨#[]⟩), (.int .i64 0)]), 2) := by kernel_rfl
theorem wbs32_1_rk (x0_0 x0_1 : Value) : Instr.fill (fun i => some (i * 2, 2)) ((Array.range (1 * 2)).map fun j => (Value.cells (.agg #[(.string ⟨#[]⟩), (.int .i64 0)]))[j % (Value.cells (.agg #[(.string ⟨#[]⟩), (.int .i64 0)])).size]!) [(0, .agg #[x0_0, x0_1])] = some #[x0_0, x0_1] := by kernel_rfl
theorem wsz3_rk : (Tryz.prog.info? 3).map (·.size) = some 1 := by kernel_rfl
theorem wsz9_rk : (Tryz.prog.info? 9).map (·.size) = some 1 := by kernel_rfl
theorem wsz32_rk : (Tryz.prog.info? 32).map (·.size) = some 1 := by kernel_rfl
theorem wsz66_rk : (Tryz.prog.info? 66).map (·.size) = some 2 := by kernel_rfl
theorem wbl66_0_1_rk (x0 : ByteArray) (x1 : Int) : Tryz.prog.built 66 [(0, .string x0), (1, .int .i64 x1)] = some #[.string x0, .int .i64 x1] := by kernel_rfl
theorem scps_len (l : FE) : (l.flatMap scp).length = l.length * 2 := flat_len scp 2 (fun _ => rfl) l
theorem fl_cj {w : World} {A : Option Addr} {l : FE} {b off k : Nat} {x : ByteArray × Int} (S : Sl w A l.length 2 (l.flatMap scp)) (hA : A = some ⟨b, off, none⟩) (hf : l[k]? = some x) (j : Nat) {v : Value} (hv : (scp x)[j]? = some v) : w.cell? ⟨b, off + (k : Int).toNat * 2 + j, none⟩ = some v := by
  have hk := (List.getElem?_eq_some_iff.1 hf).1
  obtain ⟨b', off', e, hb, hc⟩ := S.2 (by omega)
  rw [hA] at e
  injection e with e
  injection e with e1 e2
  subst e1 e2
  have hj : j < 2 := (List.getElem?_eq_some_iff.1 hv).1
  rw [Int.toNat_natCast, Nat.add_assoc]
  refine hc _ v ?_
  rw [flat_get scp 2 (fun _ => rfl), show (k * 2 + j) / 2 = k by omega, show (k * 2 + j) % 2 = j by omega, hf]
  exact hv
theorem takeF_next {l : FE} {fb : ByteArray} {k : Nat} {x : ByteArray × Int} (h : ∀ p ∈ l.take k, ltF p.1 fb) (hx : l[k]? = some x) (hl : Op.bytesLess x.1.toList fb.toList = true) : ∀ p ∈ l.take (k + 1), ltF p.1 fb := fun p hp => by
  rw [List.take_add_one, hx] at hp
  rcases List.mem_append.1 hp with hp | hp
  · exact h p hp
  obtain rfl : p = x := by simpa using hp
  exact hl
theorem LsR.set {B : Nat} {w w' : World} {A : Option Addr} {c k : Nat} {l : FE} {x : ByteArray × Int} {fb : ByteArray} {q : Int} (h : LsR B w A c l) (hx : l[k]? = some x) (e : x.1 = fb) (O : Own w' 66 2 (.slice A l.length c) l.length ((l.flatMap scp).set (k * 2 + 1) (.int .i64 q))) : LsR B w' A c (l.set k (fb, q)) := by
  have hk := (List.getElem?_eq_some_iff.1 hx).1
  have h2 : (l.flatMap scp).set (k * 2 + 1) (.int .i64 q) = (l.set k (fb, q)).flatMap scp := by
    have : ∀ (l : FE) (k : Nat), l[k]? = some x → (l.flatMap scp).set (k * 2 + 1) (.int .i64 q) = (l.set k (fb, q)).flatMap scp := by
      intro l
      induction l with
      | nil => intro k hk; simp at hk
      | cons y r ih =>
        intro k hk
        cases k with
        | zero =>
          obtain rfl : y = x := by simpa using hk
          subst e
          rfl
        | succ k =>
          rw [List.set_cons_succ, List.flatMap_cons, List.flatMap_cons, ← ih k (by simpa using hk), List.set_append_right _ _ (by rw [scp_len]; omega), scp_len, show (k + 1) * 2 + 1 - 2 = k * 2 + 1 by omega]
    exact this l k hx
  rw [h2] at O
  exact ⟨by rw [List.length_set]; exact O, h.loA⟩
def NewPostR (B : Nat) (cl : ByteArray) (w : World) (e : Ending) (w' : World) : Prop := ∃ p s, e = .returned (.pointer (some ⟨p, 0, none⟩)) ∧ RefAt B w' p s ∧ s.abs = newS ∧ s.cl = cl ∧ s.ls = [] ∧ s.QA = none ∧ w.heap.size ≤ s.im ∧ w.heap.size ≤ s.gm ∧ Mod [] [] B w w'
theorem newR_fin {B : Nat} {cl : ByteArray} {w W : World} {p ip im q gm : Nat} (hB : B ≤ w.heap.size) (HK : Mod [] [] B w W) (BP : Blk W p 64 #[.string cl, .slice none 0 0, .pointer (some ⟨ip, 0, none⟩), .pointer (some ⟨q, 0, none⟩), .slice none 0 0, .map (some gm)])
    (ID : IdsR W ip im [] (mostI 65535 65535) 0) (BQ : Blk W q 76 #[.int .i64 (mostI 8 65536), .int .i64 0, .slice none 0 0]) (IG : IsSet Tryz.prog 3 4 W gm []) (h1 : w.heap.size ≤ p) (h2 : w.heap.size ≤ ip) (h3 : w.heap.size ≤ im) (h4 : w.heap.size ≤ q) (h5 : w.heap.size ≤ gm) (him : im ≠ gm) : NewPostR B cl w (.returned (.pointer (some ⟨p, 0, none⟩))) W :=
  ⟨p, ⟨cl, [], none, 0, ip, im, q, gm, [], 0, [], none, 0, [], none, 0, 0, []⟩, rfl, ⟨BP, ID, ⟨BQ, Own.nil _ _ _, by simp, Nat.le_trans hB h4, by simp, by simp⟩, ⟨Own.nil _ _ _, by simp, by simp, by simp⟩, ⟨Own.nil _ _ _, by simp⟩, IG, him, Nat.le_trans hB h1, Nat.le_trans hB h2, Nat.le_trans hB h3, Nat.le_trans hB h5, by simp, List.Perm.nil, by simp, by simp⟩, rfl, rfl, rfl, rfl, h3, h5, HK⟩
structure Rs.LikeL (s s' : Rs) : Prop where
  abs : s'.abs = s.abs
  QA : s'.QA = s.QA
  im : s'.im = s.im
  gm : s'.gm = s.gm
def SubPostR (B p : Nat) (s : Rs) (fb : ByteArray) (q : Int) (w : World) (e : Ending) (w' : World) : Prop :=
  ∃ (s' : Rs) (b : Bool), e = .returned (.bool b) ∧ RefAt B w' p s' ∧ s.LikeL s' ∧ Mod [64, 66] [] B w w' ∧ ((okF fb q ∧ s'.ls = insF s.ls fb q ∧ b = !hasF s.ls fb) ∨ (¬ okF fb q ∧ s'.ls = s.ls ∧ b = false))
theorem RefAt.lsR {B p : Nat} {w W : World} {s : Rs} {l : FE} {A : Option Addr} {c : Nat} (h : RefAt B w p s) (HK : Mod [64, 66] [] B w W) (BP : Blk W p 64 #[.string s.cl, .slice A l.length c, .pointer (some ⟨s.ip, 0, none⟩), .pointer (some ⟨s.q, 0, none⟩), .slice s.FA s.fly.length s.fc, .map (some s.gm)]) (L : LsR B W A c l) : RefAt B W p { s with ls := l, LA := A, lc := c } :=
  ⟨BP, h.ids.mod HK (by decide) (by simp), h.qu.mod HK (by decide), h.fly.mod HK (by decide), L, h.got.mod HK (by simp), h.ne, h.lop, h.loi, h.lom, h.log, h.tk, h.perm, h.ats, h.idb⟩
section
variable {B p : Nat} {w W : World} {s : Rs} {fb : ByteArray} {q : Int}
theorem subR_no (hS : RefAt B w p s) (HK : Mod [64, 66] [] B w W) (BP : Blk W p 64 s.cells) (h : ¬ okF fb q) (LS : LsR B W s.LA s.lc s.ls) : SubPostR B p s fb q w (.returned (.bool false)) W :=
  ⟨{ s with ls := s.ls, LA := s.LA, lc := s.lc }, false, rfl, hS.lsR HK BP LS, ⟨rfl, rfl, rfl, rfl⟩, HK, .inr ⟨h, rfl, rfl⟩⟩
theorem subR_old {l : FE} (hS : RefAt B w p s) (HK : Mod [64, 66] [] B w W) (BP : Blk W p 64 s.cells) (LS : LsR B W s.LA s.lc l) (hok : okF fb q) (h : insF s.ls fb q = l) (hl : l.length = s.ls.length) (hh : hasF s.ls fb = true) : SubPostR B p s fb q w (.returned (.bool false)) W :=
  ⟨{ s with ls := l, LA := s.LA, lc := s.lc }, false, rfl, hS.lsR HK (by rw [hl]; exact BP) LS, ⟨rfl, rfl, rfl, rfl⟩, HK, .inl ⟨hok, h.symm, by rw [hh]; rfl⟩⟩
theorem subR_new {A : Option Addr} {c k n : Nat} (hS : RefAt B w p s) (hB : B ≤ w.heap.size) (HK : Mod [64, 66] [] B w W) (BP : Blk W p 64 #[.string s.cl, .slice A n c, .pointer (some ⟨s.ip, 0, none⟩), .pointer (some ⟨s.q, 0, none⟩), .slice s.FA s.fly.length s.fc, .map (some s.gm)])
    {n' : Nat} (FZ : Fresh w W 66 2 A n' c ([] ++ (s.ls.flatMap scp).take (k * 2) ++ [(fb, q)].flatMap scp ++ (s.ls.flatMap scp).drop (k * 2))) (hk : k ≤ s.ls.length) (hok : okF fb q) (hn : n = n' ∧ n = s.ls.length + 1) (h : insF s.ls fb q = s.ls.take k ++ (fb, q) :: s.ls.drop k) (hh : hasF s.ls fb = false) : SubPostR B p s fb q w (.returned (.bool true)) W := by
  obtain ⟨rfl, rfl⟩ := hn
  have hx : [] ++ (s.ls.flatMap scp).take (k * 2) ++ [(fb, q)].flatMap scp ++ (s.ls.flatMap scp).drop (k * 2) = (insF s.ls fb q).flatMap scp := by
    have e1 := flat_take scp 2 (fun _ => rfl) s.ls k
    have e2 := flat_drop scp 2 (fun _ => rfl) s.ls k
    rw [h]
    simp only [List.flatMap_append, e1, e2, List.flatMap_cons, List.flatMap_nil, List.append_nil, List.nil_append, List.append_assoc]
  have hl : s.ls.length + 1 = (insF s.ls fb q).length := by rw [h]; simp; omega
  rw [hx, hl] at FZ
  rw [hl] at BP
  exact ⟨{ s with ls := insF s.ls fb q, LA := A, lc := c }, true, rfl, hS.lsR HK BP ⟨FZ.own, fun a ha => Nat.le_trans hB (FZ.from a ha)⟩, ⟨rfl, rfl, rfl, rfl⟩, HK, .inl ⟨hok, rfl, by rw [hh]; rfl⟩⟩
theorem takeN_next {l : FE} {k : Nat} {x : ByteArray × Int} (h : ∀ p ∈ l.take k, p.1 ≠ fb) (hx : l[k]? = some x) (hl : ¬ x.1 = fb) : ∀ p ∈ l.take (k + 1), p.1 ≠ fb := fun p hp => by
  rw [List.take_add_one, hx] at hp
  rcases List.mem_append.1 hp with hp | hp
  · exact h p hp
  obtain rfl : p = x := by simpa using hp
  exact hl
def UnPostR (B p : Nat) (s : Rs) (fb : ByteArray) (w : World) (e : Ending) (w' : World) : Prop :=
  ∃ s' : Rs, e = .returned (.bool (hasF s.ls fb)) ∧ RefAt B w' p s' ∧ s.LikeL s' ∧ Mod [64, 66] [] B w w' ∧ s'.ls = stF s.ls fb
theorem unR_none (hS : RefAt B w p s) (HK : Mod [64, 66] [] B w W) (BP : Blk W p 64 s.cells) (LS : LsR B W s.LA s.lc s.ls) (h : ∀ p ∈ s.ls, p.1 ≠ fb) : UnPostR B p s fb w (.returned (.bool false)) W := by
  have hh : hasF s.ls fb = false := by rw [hasF, List.any_eq_false]; intro y hy; simpa using h y hy
  exact ⟨{ s with ls := s.ls, LA := s.LA, lc := s.lc }, by rw [hh], hS.lsR HK BP LS, ⟨rfl, rfl, rfl, rfl⟩, HK, (stF_id h).symm⟩
theorem unR_found {A : Option Addr} {c k n n' : Nat} {x : ByteArray × Int} (hS : RefAt B w p s) (hB : B ≤ w.heap.size) (HK : Mod [64, 66] [] B w W) (BP : Blk W p 64 #[.string s.cl, .slice A n c, .pointer (some ⟨s.ip, 0, none⟩), .pointer (some ⟨s.q, 0, none⟩), .slice s.FA s.fly.length s.fc, .map (some s.gm)])
    (FZ : Fresh w W 66 2 A n' c ([] ++ (s.ls.flatMap scp).take (k * 2) ++ (s.ls.flatMap scp).drop (((k : Int) + 1).toNat * 2))) (hn : n = n' ∧ n = s.ls.length - 1) (hA : AscP s.ls) (hx : s.ls[k]? = some x) (hx2 : x.1 = fb) : UnPostR B p s fb w (.returned (.bool true)) W := by
  have hk := (List.getElem?_eq_some_iff.1 hx).1
  obtain ⟨rfl, hn⟩ := hn
  have he := erase_is hA hx hx2
  have hx' : [] ++ (s.ls.flatMap scp).take (k * 2) ++ (s.ls.flatMap scp).drop (((k : Int) + 1).toNat * 2) = (stF s.ls fb).flatMap scp := by
    rw [← he, List.eraseIdx_eq_take_drop_succ, List.flatMap_append, flat_take scp 2 (fun _ => rfl) s.ls k, flat_drop scp 2 (fun _ => rfl) s.ls (k + 1), show ((k : Int) + 1).toNat = k + 1 by omega]
    rfl
  have hl : n = (stF s.ls fb).length := by rw [← he, List.length_eraseIdx_of_lt hk, hn]
  rw [hx', hl] at FZ
  rw [hl] at BP
  exact ⟨{ s with ls := stF s.ls fb, LA := A, lc := c }, by rw [hasF_y hx hx2], hS.lsR HK BP ⟨FZ.own, fun a ha => Nat.le_trans hB (FZ.from a ha)⟩, ⟨rfl, rfl, rfl, rfl⟩, HK, rfl⟩
end
theorem newR_any (cl : ByteArray) (B : Nat) (w : World) (hB : B ≤ w.heap.size) : Calls Tryz.prog 6 #[.string cl] w (NewPostR B cl w) := by
 have HK : Mod [] [] B w w := .refl _ _ _ _
 refine C.enter Tryz.func6 rfl Tryz.ntmps6 rfl ?_
 intro a0 f0
 have f1 : Fr 9 a0 [(0, .string cl)] := f0
 refine C.sk fun K0 hK0 => ?_
 refine L.ag f1 fun a2 f2 => ?_
 have f3 := f2.pk [0, 2]
 refine wn hK0 (C.sk fun K1 hK1 => ?_)
 refine L.mv f3 fun a4 f4 => ?_
 refine L.cl f4 (run_call Tryz.call17 (args1 f4 rfl)) (idsNewR_any 65535 _) ?_
 clear f0 f1 a0 f2 f3 a2
 rintro e w1 ⟨ip, im, rfl, kc1, ID, loi, lom⟩
 refine ⟨_, rfl, fun a5 f5 => ?_⟩
 have szw1 := kc1.size
 replace HK := HK.trans (.of_kept0 kc1)
 clear f4 a4 kc1
 refine L.cl f5 (run_call Tryz.call18 (args1 f5 rfl)) (quNewR_any 8 _) ?_
 rintro e w2 ⟨q, rfl, kc2, BQ, loq⟩
 have hltm := (ID.mod (Mod.of_kept0 (T := []) (M := []) (B := B) kc2) (by decide) (by simp)).set.lt
 refine ⟨_, rfl, fun a6 f6 => ?_⟩
 have szw2 := kc2.size
 replace HK := HK.trans (.of_kept0 kc2)
 replace ID := ID.mod (Mod.of_kept0 (T := []) (M := []) (B := B) kc2) (by decide) (by simp)
 clear f5 a5 kc2
 refine L.makeMap f6 wantedN (by decide) 3 4 fun a7 w3 g2 Ig2 kg2 log2 f7 => ?_
 have ltg2 := Ig2.lt
 have szw3 := kg2.size
 have frg2 : w.heap.size ≤ g2 := Nat.le_trans HK.size log2
 have neq_g2 : q ≠ g2 := by have := BQ.lt; omega
 replace HK := HK.trans (.of_kept0 kg2)
 replace ID := ID.mod (Mod.of_kept0 (T := []) (M := []) (B := B) kg2) (by decide) (by simp)
 replace BQ := BQ.z kg2
 clear f6 kg2 a6
 refine L.va f7 (E.build f7 (parts4 f7 rfl rfl rfl rfl) (wbl64_0_2_3_5_rk _ _ _ _)) fun a8 f8 => ?_
 refine L.box f8 wantedN (by decide) rfl rfl fun a9 w4 g3 N3 f9 => ?_
 have Bg3 := N3.blk
 have kg3 := N3.kept
 have log3 := N3.lo
 have ltg3 := Bg3.lt
 have szw4 := kg3.size
 have frg3 : w.heap.size ≤ g3 := Nat.le_trans HK.size log3
 have neq_g3 : q ≠ g3 := by have := BQ.lt; omega
 have neg2_g3 : g2 ≠ g3 := by have := Ig2.lt; omega
 replace HK := HK.trans (.of_kept0 kg3)
 replace ID := ID.mod (Mod.of_kept0 (T := []) (M := []) (B := B) kg3) (by decide) (by simp)
 replace BQ := BQ.z kg3
 replace Ig2 := Ig2.kept kg3 (by simp)
 clear f7 a7 N3 kg3
 refine L.ag f9 fun a10 f10 => ?_
 have f11 := f10.pk [2]
 refine wn hK1 (wp_ret ?_); (try simp only [xt, xb]); refine C.ret f11 rfl rfl ?_
 have him : im ≠ g2 := by omega
 exact newR_fin (cl := cl) hB HK Bg3 ID BQ Ig2 (by omega) (by omega) (by omega) (by omega) (by omega) him
theorem subscribeR_any (B p : Nat) (s : Rs) (fb : ByteArray) (q : Int) (w : World) (hS : RefAt B w p s) (hB : B ≤ w.heap.size) (G : Glob w) (hfb : fb.size ≤ 100000) (hll : s.ls.length ≤ 1000000) (hAs : AscP s.ls) : Calls Tryz.prog 21 #[.pointer (some ⟨p, 0, none⟩), .string fb, .int .i64 q] w (SubPostR B p s fb q w) := by
 have HK : Mod [64, 66] [] B w w := .refl _ _ _ _
 have BP := hS.top
 have LS := hS.ls
 have hcap := own_capR hS.ls.own
 refine C.enter Tryz.func21 rfl Tryz.ntmps21 rfl ?_
 intro a0 f0
 have f1 : Fr 89 a0 [(0, .pointer (some ⟨p, 0, none⟩)), (1, .string fb), (2, .int .i64 q)] := f0
 refine C.sk fun K0 hK0 => ?_
 refine L.ag f1 fun a2 f2 => ?_
 refine wn hK0 ?_
 have f3 := f2.pk [0, 1, 2, 6]
 refine wp_seq_k fun K1 hK1 => C.sk fun K2 hK2 => ?_
 refine L.mv f3 fun a4 f4 => ?_
 refine L.cl f4 (run_call Tryz.call48 (args1 f4 rfl)) (filterR_any fb _ G (by omega)) ?_
 clear f0 f1 a0 f2 f3 a2
 rintro e w1 ⟨kc1, rfl⟩
 refine ⟨_, rfl, fun a5 f5 => ?_⟩
 have szw1 := kc1.size
 replace HK := HK.trans (.of_kept0 kc1)
 replace BP := BP.z kc1
 replace LS := LS.mod (Mod.of_kept0 (T := []) (M := []) (B := B) kc1) (by decide)
 clear f4 a4 kc1
 refine L.va f5 (E.not f5 rfl) fun a6 f6 => ?_
 refine L.mv f6 fun a7 f7 => ?_
 clear f5 a5 f6 a6
 refine f7.splitNB 11 rfl (fun h0 f8 => ?_) (fun h0 f8 => ?_)
 ·have h11 := h0
  refine L.run f8 (rest' := []) (by kernel_rfl) fun a9 f9 => ?_
  clear f7
  refine wn hK2 ?_
  have f10 := f9.sub (sv 18 (.bool true) (pkR f9 [0, 1, 2, 6]))
  refine C.condT f10 rfl ?_
  refine C.sk fun K3 hK3 => ?_
  refine L.ag f10 fun a11 f11 => ?_
  have f12 := f11.pk [0, 1, 2, 6]
  refine wn hK3 (wp_ret ?_); (try simp only [xt, xb]); refine C.ret f12 rfl rfl ?_
  exact subR_no hS HK BP (by rintro ⟨e1, e2, e3⟩; (simp_all; done)) LS
 have h11 := h0
 refine L.mv f8 (hw := (f8.yes rfl rfl)) fun a9 f9 => ?_
 refine L.va f9 (E.lss f9 rfl rfl) (hw := (f9.yes rfl rfl)) fun a10 f10 => ?_
 refine L.va f10 (E.pickF f10 rfl rfl) fun a11 f11 => ?_
 refine L.mv f11 fun a12 f12 => ?_
 clear f7 f8 a7 f9 a9 f10 a10 f11 a11
 refine f12.splitD 15 rfl (fun h1 f13 => ?_) (fun h1 f13 => ?_)
 ·have h15 := h1
  refine L.run f13 (rest' := []) (by kernel_rfl) fun a14 f14 => ?_
  clear f12
  refine wn hK2 ?_
  have f15 := f14.sub (sv 18 (.bool true) (pkR f14 [0, 1, 2, 6]))
  refine C.condT f15 rfl ?_
  refine C.sk fun K4 hK4 => ?_
  refine L.ag f15 fun a16 f16 => ?_
  have f17 := f16.pk [0, 1, 2, 6]
  refine wn hK4 (wp_ret ?_); (try simp only [xt, xb]); refine C.ret f17 rfl rfl ?_
  exact subR_no hS HK BP (by rintro ⟨e1, e2, e3⟩; omega) LS
 have h15 := h1
 refine L.mv f13 (hw := (f13.yes rfl rfl)) fun a14 f14 => ?_
 refine L.va f14 (E.gtr f14 rfl rfl) (hw := (f14.yes rfl rfl)) fun a15 f15 => ?_
 refine L.va f15 (E.pickF f15 rfl rfl) fun a16 f16 => ?_
 refine wn hK2 ?_
 have f17 := f16.pk [0, 1, 2, 6, 18]
 clear f12 f13 a12 f14 a14 f15 a15 f16
 refine f17.splitD 18 rfl (fun h2 f18 => ?_) (fun h2 f18 => ?_)
 ·have h18 := h2
  refine C.condT f18 rfl ?_
  refine C.sk fun K5 hK5 => ?_
  refine L.ag f18 fun a19 f19 => ?_
  have f20 := f19.pk [0, 1, 2, 6]
  refine wn hK5 (wp_ret ?_); (try simp only [xt, xb]); refine C.ret f20 rfl rfl ?_
  exact subR_no hS HK BP (by rintro ⟨e1, e2, e3⟩; omega) LS
 have h18 := h2
 refine C.condF f18 rfl ?_
 refine wp_skip (hK1 _ _ ?_)
 have f19 := f18.pk [0, 1, 2, 6]
 refine C.sk fun K6 hK6 => ?_
 refine L.ag f19 fun a20 f20 => ?_
 refine wn hK6 ?_
 have f21 := f20.pk [0, 1, 2, 6, 7]
 refine wp_seq_k fun K7 hK7 => ?_
 refine wp_block ?_
 have hok : okF fb q := ⟨by simp_all, by omega, by omega⟩
 clear f17 f18 f19 a16 f20
 refine C.loop (fun gk a W => ∃ k : Nat, k + gk = s.ls.length ∧ (∀ p ∈ s.ls.take k, ltF p.1 fb) ∧ Mod [64, 66] [] B w W ∧ Blk W p 64 s.cells ∧ LsR B W s.LA s.lc s.ls ∧ Fr 89 a [(0, .pointer (some ⟨p, 0, none⟩)), (1, .string fb), (2, .int .i64 q), (7, .int .i64 k)]) (s.ls.length) ?_ ?_
 ·exact ⟨0, by omega, by simp, HK, BP, LS, f21.sub (sx (sx (sx (sx sn))))⟩
 intro gk9 a22 w2 hI KL8 hKL8
 obtain ⟨k, hk, hpre, HK, BP, LS, f22⟩ := hI
 try clear f21
 have szk := HK.size
 refine wp_seq_k fun K9 hK9 => C.sk fun K10 hK10 => ?_
 refine L.mv f22 fun a23 f23 => ?_
 refine L.mv f23 fun a24 f24 => ?_
 refine L.va f24 (E.nilCheck f24 rfl) fun a25 f25 => ?_
 refine L.fa 1 f25 U64 rfl wsz32_rk fun a26 f26 => ?_
 refine L.va f26 (E.load f26 U32 rfl rfl ((BP).cl rfl)) fun a27 f27 => ?_
 refine L.va f27 (E.lenL f27 U32 rfl) fun a28 f28 => ?_
 refine L.va f28 (E.lss f28 rfl rfl) fun a29 f29 => ?_
 clear f22 a22 f23 a23 f24 a24 f25 a25 f26 a26 f27 a27 f28 a28
 refine L.mv f29 fun a30 f30 => ?_
 clear f29 a29
 refine f30.splitD 26 rfl (fun h3 f31 => ?_) (fun h3 f31 => ?_)
 ·have h26 := h3
  obtain ⟨x, hx⟩ : ∃ x, s.ls[k]? = some x := ⟨s.ls[k]'(by omega), List.getElem?_eq_getElem _⟩
  obtain ⟨b, off, hA⟩ := (Sl.of_own LS.own).addr (by omega)
  refine L.mv f31 (hw := (f31.yes rfl rfl)) fun a32 f32 => ?_
  refine L.va f32 (E.nilCheck f32 rfl) (hw := (f32.yes rfl rfl)) fun a33 f33 => ?_
  refine L.fa 1 f33 U64 rfl wsz32_rk (hw := (f33.yes rfl rfl)) fun a34 f34 => ?_
  refine L.va f34 (E.load f34 U32 rfl rfl ((BP).cl rfl)) (hw := (f34.yes rfl rfl)) fun a35 f35 => ?_
  refine L.mv f35 (hw := (f35.yes rfl rfl)) fun a36 f36 => ?_
  refine L.va f36 (E.indexA f36 (by assumption) U32 wsz66_rk rfl rfl (by omega) (by omega)) (hw := (f36.yes rfl rfl)) fun a37 f37 => ?_
  refine L.fa 0 f37 U66 rfl wsz9_rk (hw := (f37.yes rfl rfl)) fun a38 f38 => ?_
  clear f30 f31 a30 f32 a32 f33 a33 f34 a34 f35 a35 f36 a36 f37 a37
  refine L.va f38 (E.load f38 U9 rfl rfl ((fl_cj (Sl.of_own LS.own) hA hx 0 rfl))) (hw := (f38.yes rfl rfl)) fun a39 f39 => ?_
  refine L.mv f39 (hw := (f39.yes rfl rfl)) fun a40 f40 => ?_
  refine L.va f40 (E.lssS f40 rfl rfl) (hw := (f40.yes rfl rfl)) fun a41 f41 => ?_
  refine L.va f41 (E.pickT f41 rfl rfl) fun a42 f42 => ?_
  refine wn hK10 ?_
  have f43 := f42.pk [0, 1, 2, 7, 19, 20, 21, 22, 23, 24, 25, 26, 27, 28, 29, 30, 31, 32, 33, 34, 35, 36, 37]
  clear f38 a38 f39 a39 f40 a40 f41 a41 f42
  refine f43.split 37 rfl (fun h4 f44 => ?_) (fun h4 f44 => ?_)
  ·have h37 := h4
   refine C.condT f44 rfl ?_
   refine wp_skip (hK9 _ _ ?_)
   have f45 := f44.pk [0, 1, 2, 7, 19, 20, 21, 22, 23, 24, 25, 26, 27, 28, 29, 30, 31, 32, 33, 34, 35, 36, 37]
   refine wp_block ?_
   refine C.region ?_
   refine L.mv f45 fun a46 f46 => ?_
   refine L.va f46 (E.add f46 rfl rfl (IntWalk.i64_in _ (by omega))) fun a47 f47 => ?_
   refine L.ag f47 fun a48 f48 => ?_
   clear f43 f44 f45 a42 f46 a46 f47 a47
   refine wpList_nil (hKL8 _ _ (gk9 - 1) ?_ ?_)
   ·omega
   exact ⟨k + 1, by omega, takeF_next hpre hx h37, HK, BP, LS, f48.sub (sx (sx (sx (sx sn))))⟩
  have h37 := h4
  refine C.condF f44 rfl ?_
  refine wp_exit (hK7 _ _ ?_)
  have f45 := f44.pk [0, 1, 2, 7]
  refine wp_seq_k fun K11 hK11 => C.sk fun K12 hK12 => ?_
  refine L.mv f45 fun a46 f46 => ?_
  refine L.mv f46 fun a47 f47 => ?_
  refine L.va f47 (E.nilCheck f47 rfl) fun a48 f48 => ?_
  refine L.fa 1 f48 U64 rfl wsz32_rk fun a49 f49 => ?_
  refine L.va f49 (E.load f49 U32 rfl rfl ((BP).cl rfl)) fun a50 f50 => ?_
  refine L.va f50 (E.lenL f50 U32 rfl) fun a51 f51 => ?_
  clear f43 f44 f45 a42 f46 a46 f47 a47 f48 a48 f49 a49 f50 a50
  refine L.va f51 (E.lss f51 rfl rfl) fun a52 f52 => ?_
  refine L.mv f52 fun a53 f53 => ?_
  clear f51 a51 f52 a52
  refine f53.splitD 47 rfl (fun h5 f54 => ?_) (fun h5 f54 => ?_)
  ·have h47 := h5
   refine L.mv f54 (hw := (f54.yes rfl rfl)) fun a55 f55 => ?_
   refine L.va f55 (E.nilCheck f55 rfl) (hw := (f55.yes rfl rfl)) fun a56 f56 => ?_
   refine L.fa 1 f56 U64 rfl wsz32_rk (hw := (f56.yes rfl rfl)) fun a57 f57 => ?_
   refine L.va f57 (E.load f57 U32 rfl rfl ((BP).cl rfl)) (hw := (f57.yes rfl rfl)) fun a58 f58 => ?_
   refine L.mv f58 (hw := (f58.yes rfl rfl)) fun a59 f59 => ?_
   refine L.va f59 (E.indexA f59 (by assumption) U32 wsz66_rk rfl rfl (by omega) (by omega)) (hw := (f59.yes rfl rfl)) fun a60 f60 => ?_
   refine L.fa 0 f60 U66 rfl wsz9_rk (hw := (f60.yes rfl rfl)) fun a61 f61 => ?_
   clear f53 f54 a53 f55 a55 f56 a56 f57 a57 f58 a58 f59 a59 f60 a60
   refine L.va f61 (E.load f61 U9 rfl rfl ((fl_cj (Sl.of_own LS.own) hA hx 0 rfl))) (hw := (f61.yes rfl rfl)) fun a62 f62 => ?_
   refine L.mv f62 (hw := (f62.yes rfl rfl)) fun a63 f63 => ?_
   refine L.va f63 (E.eqlS f63 rfl rfl) (hw := (f63.yes rfl rfl)) fun a64 f64 => ?_
   refine L.va f64 (E.pickT f64 rfl rfl) fun a65 f65 => ?_
   refine wn hK12 ?_
   have f66 := f65.pk [0, 1, 2, 7, 58]
   clear f61 a61 f62 a62 f63 a63 f64 a64 f65
   refine f66.splitD 58 rfl (fun h6 f67 => ?_) (fun h6 f67 => ?_)
   ·have h58 := h6
    refine C.condT f67 rfl ?_
    refine wp_seq_k fun K13 hK13 => ?_
    have hx2 : x.1 = fb := by simpa using h58
    refine C.region ?_
    refine L.mv f67 fun a68 f68 => ?_
    refine L.va f68 (E.nilCheck f68 rfl) fun a69 f69 => ?_
    refine L.fa 1 f69 U64 rfl wsz32_rk fun a70 f70 => ?_
    refine L.va f70 (E.load f70 U32 rfl rfl ((BP).cl rfl)) fun a71 f71 => ?_
    refine L.mv f71 fun a72 f72 => ?_
    refine L.mv f72 fun a73 f73 => ?_
    refine L.va f73 (E.indexA f73 (by assumption) U32 wsz66_rk rfl rfl (by omega) (by omega)) fun a74 f74 => ?_
    clear f66 f67 a65 f68 a68 f69 a69 f70 a70 f71 a71 f72 a72 f73 a73
    refine L.fa 1 f74 U66 rfl wsz3_rk fun a75 f75 => ?_
    refine L.storeO f75 wantedN wsz3_rk (j := k * 2 + 1) hA LS.own rfl (show off + (k : Int).toNat * 2 + 1 = _ by omega) (by rw [scps_len]; omega) rfl rfl fun a76 w3 f76 OW2 ks => ?_
    have szw3 := ks.size
    have KM : Mod [66] [] B _ w3 := .of_own1 hA ks LS.own LS.loA (by simp)
    have LS2 := LS.set hx hx2 OW2
    replace HK := HK.step KM (by decide) (by simp) (by omega)
    replace BP := BP.mod KM (by decide)
    clear f74 a74 f75 a75 ks KM OW2
    have f77 := f76.pk [0, 1, 2, 7]
    refine wn hK13 (C.sk fun K14 hK14 => ?_)
    refine L.ag f77 fun a78 f78 => ?_
    have f79 := f78.pk [0, 1, 2, 6, 7]
    refine wn hK14 (wp_ret ?_); (try simp only [xt, xb]); refine C.ret f79 rfl rfl ?_
    exact subR_old hS HK BP LS2 hok (insF_eq hpre hx hx2) (by simp) (hasF_y hx hx2)
   have h58 := h6
   refine C.condF f67 rfl ?_
   refine wp_skip (hK11 _ _ ?_)
   have f68 := f67.pk [0, 1, 2, 7]
   refine wp_seq_k fun K15 hK15 => ?_
   have hge : ∀ x, s.ls[k]? = some x → ¬ ltF x.1 fb := by intro y hy; (rw [hx] at hy; obtain rfl := Option.some.inj hy; unfold ltF; rw [h37]; simp)
   have hno : ∀ x, s.ls[k]? = some x → ¬ ltF x.1 fb ∧ x.1 ≠ fb := fun y hy => ⟨hge y hy, fun e => by (rw [hx] at hy; obtain rfl := Option.some.inj hy; simp_all; done)⟩
   refine RB.begin (S := fun W => Kept [] w2 W) 20 (by kernel_rfl) (by exact (Kept.refl _ _).drewN 1) ?_
   have hS9 : Kept [] w2 (w2.drewN 1) := (Kept.refl _ _).drewN 1
   have hd9 : Kept [] w2 (w2.drewN 1) := (Kept.refl _ _).drewN 1
   obtain ⟨w3, hww3⟩ : ∃ W, W = w2.drewN 1 := ⟨_, rfl⟩
   rw [← hww3] at hS9 hd9 ⊢
   clear f66 f67 hww3
   have szw3 := hS9.size
   refine RB.tk 0 f68 rfl hS9 (fun W hW => (E.move f68 rfl)) fun a69 f69 => ?_
   refine RB.tk 1 f69 rfl hS9 (fun W hW => (E.move f69 rfl)) fun a70 f70 => ?_
   refine RB.tk 2 f70 rfl hS9 (fun W hW => (E.nilCheck f70 rfl)) fun a71 f71 => ?_
   refine RB.tk 3 f71 rfl hS9 (fun W hW => (E.fa 1 f71 U64 rfl wsz32_rk)) fun a72 f72 => ?_
   refine RB.tk 4 f72 rfl hS9 (fun W hW => (E.load f72 U32 rfl rfl ((BP.z hW).cl rfl))) fun a73 f73 => ?_
   refine RB.tk 5 f73 rfl hS9 (fun W hW => (E.move f73 rfl)) fun a74 f74 => ?_
   refine RB.tk 6 f74 rfl hS9 (fun W hW => (E.slLhi f74 U32 wsz66_rk rfl rfl (by omega) (by omega) )) fun a75 f75 => ?_
   clear f68 a65 f69 a69 f70 a70 f71 a71 f72 a72 f73 a73 f74 a74
   refine RB.tk 8 f75 rfl hS9 (fun W hW => (E.move f75 rfl)) fun a76 f76 => ?_
   refine RB.tk 9 f76 rfl hS9 (fun W hW => (E.move f76 rfl)) fun a77 f77 => ?_
   refine RB.tk 10 f77 rfl hS9 (fun W hW => (E.build f77 (parts2 f77 rfl rfl) (wbl66_0_1_rk _ _))) fun a78 f78 => ?_
   refine RB.tk 13 f78 rfl hS9 (fun W hW => (E.move f78 rfl)) fun a79 f79 => ?_
   refine RB.tk 14 f79 rfl hS9 (fun W hW => (E.nilCheck f79 rfl)) fun a80 f80 => ?_
   refine RB.tk 15 f80 rfl hS9 (fun W hW => (E.fa 1 f80 U64 rfl wsz32_rk)) fun a81 f81 => ?_
   refine RB.tk 16 f81 rfl hS9 (fun W hW => (E.load f81 U32 rfl rfl ((BP.z hW).cl rfl))) fun a82 f82 => ?_
   clear f75 a75 f76 a76 f77 a77 f78 a78 f79 a79 f80 a80 f81 a81
   refine RB.tk 17 f82 rfl hS9 (fun W hW => (E.move f82 rfl)) fun a83 f83 => ?_
   refine RB.tk 18 f83 rfl hS9 (fun W hW => (E.slLlo f83 U32 wsz66_rk rfl rfl (by omega) (by omega) )) fun a84 f84 => ?_
   clear f82 a82 f83 a83
   refine RB.two 7 11 (by kernel_rfl) (by kernel_rfl) ?_ ?_
   ·skip
    refine O.append f84 rfl wantedN (by decide) U32 wzib66_rk rfl rfl rfl rfl (Own.nil _ _ _) (Sl.of_own ((LS.mod (Mod.of_kept0 (T := []) (M := []) (B := B) hS9) (by simp)).own.head (k := k) (by omega))) (fun u hu => scp_one s.ls u (List.mem_of_mem_take hu)) (by unfold maxLen; omega) (by omega) fun a85 w4 Ax cx AP4 => ?_
    have kap4 : Kept [] w3 w4 := by simpa [Value.ownBlock] using AP4.kept
    have FX : Fresh w w4 66 2 Ax (0 + k) cx ([] ++ (s.ls.flatMap scp).take (k * 2)) := AP4.next (Fresh.nil w w3 66 2) (Nat.le_trans HK.size hS9.size)
    have FXr : Fresh w2 w4 66 2 Ax (0 + k) cx ([] ++ (s.ls.flatMap scp).take (k * 2)) := AP4.next (Fresh.nil w2 w3 66 2) hS9.size
    have hSn := hS9.trans kap4 (by simp)
    refine ⟨hSn, fun f85 => ?_⟩
    have szw4 := kap4.size
    clear f84 kap4
    replace hS9 := hSn
    clear hSn
    refine RB.one 11 (by kernel_rfl) (by kernel_rfl) ?_
    refine O.buildSlice f85 rfl wantedN (by decide) (parts1 f85 rfl) U32 wzi66_rk rfl rfl (wbs32_1_rk _ _) (fun _ hk => hS9.trans hk (by simp)) fun a86 w5 g4 N4 hSn f86 => ?_
    have Bg4 := N4.blk
    have kg4 := N4.kept
    have log4 := N4.lo
    have ltg4 := Bg4.lt
    have szw5 := kg4.size
    have szSw5 := hS9.size
    replace FX := FX.kept0 kg4
    replace FXr := FXr.kept0 kg4
    clear f85 a85 N4 kg4
    replace hS9 := hSn
    clear hSn
    refine RB.one 12 (by kernel_rfl) (by kernel_rfl) ?_
    refine O.append f86 rfl wantedN (by decide) U32 wzib66_rk rfl rfl rfl rfl (FX.own) ((sl_b1 (cell := scp) (fb, q) Bg4)) (fun v hv => scp_one [(fb, q)] v hv) (by unfold maxLen; omega) (by omega) fun a87 w6 Ay cy AP6 => ?_
    have hSn := AP6.grow FXr hS9
    have FY := AP6.next FX (Nat.le_trans HK.size hS9.size)
    have FYr := AP6.next FXr hS9.size
    refine ⟨hSn, fun f87 => ?_⟩
    have szw6 := AP6.kept.size
    replace hS9 := hSn
    clear f86 hSn
    refine RB.one 19 (by kernel_rfl) (by kernel_rfl) ?_
    refine O.append f87 rfl wantedN (by decide) U32 wzib66_rk rfl rfl rfl rfl (FY.own) (Sl.of_own ((LS.mod (Mod.of_kept0 (T := []) (M := []) (B := B) hS9) (by simp)).own.cut (k := k) (by omega))) (fun u hu => scp_one s.ls u (List.mem_of_mem_drop hu)) (by unfold maxLen; omega) (by omega) fun a88 w7 Az cz AP7 => ?_
    have hSn := AP7.grow FYr hS9
    have FZ := AP7.next FY (Nat.le_trans HK.size hS9.size)
    refine ⟨hSn, fun f88 => ?_⟩
    have szw7 := AP7.kept.size
    replace hS9 := hSn
    clear f87 hSn
    refine RB.stop (by kernel_rfl) ?_
    have szw7r := hS9.size
    replace HK := HK.trans (.of_kept0 hS9)
    replace BP := BP.z hS9
    replace LS := LS.mod (Mod.of_kept0 (T := []) (M := []) (B := B) hS9) (by decide)
    clear hS9
    refine R.t 20 f88 rfl trivial (fun W hW => (E.nilCheck f88 rfl)) fun a89 f89 => ?_
    refine R.t 21 f89 rfl trivial (fun W hW => (E.fa 1 f89 U64 rfl wsz32_rk)) fun a90 f90 => ?_
    refine R.one 22 (by kernel_rfl) ?_
    refine OT.store f90 rfl wantedN wsz32_rk rfl rfl rfl BP (by (simp [Value.cells]; done)) fun a91 w8 f91 NB8 ks8 => ?_
    have szw8 := ks8.size
    have KM := (Mod.of_blk (T := [64]) (M := []) (B := B) ks8 BP hS.lop (by simp))
    replace HK := HK.step KM (by decide) (by simp) (by omega)
    replace LS := LS.mod KM (by decide)
    replace FZ := FZ.mod KM (by decide)
    replace BP := NB8
    simp only [Value.cells, List.setIfInBounds_toArray, List.set_cons_zero, List.set_cons_succ, Nat.reduceAdd, Nat.zero_add] at BP
    clear f88 a88 f89 a89 ks8 f90 a90
    refine R.done (by kernel_rfl) (hK15 _ _ ?_)
    have f92 := f91.sub sn
    refine C.sk fun K16 hK16 => ?_
    refine L.ag f92 fun a93 f93 => ?_
    have f94 := f93.pk [6]
    refine wn hK16 (wp_ret ?_); (try simp only [xt, xb]); refine C.ret f94 rfl rfl ?_
    exact subR_new hS hB HK BP FZ (by omega) hok (by omega) (insF_new hpre hno (by omega)) (hasF_n hAs hpre hno)
   skip
   refine O.buildSlice f84 rfl wantedN (by decide) (parts1 f84 rfl) U32 wzi66_rk rfl rfl (wbs32_1_rk _ _) (fun _ hk => hS9.trans hk (by simp)) fun a85 w4 g3 N3 hSn f85 => ?_
   have Bg3 := N3.blk
   have kg3 := N3.kept
   have log3 := N3.lo
   have ltg3 := Bg3.lt
   have szw4 := kg3.size
   have szSw4 := hS9.size
   clear f84 a84 N3 kg3
   replace hS9 := hSn
   clear hSn
   refine RB.one 7 (by kernel_rfl) (by kernel_rfl) ?_
   refine O.append f85 rfl wantedN (by decide) U32 wzib66_rk rfl rfl rfl rfl (Own.nil _ _ _) (Sl.of_own ((LS.mod (Mod.of_kept0 (T := []) (M := []) (B := B) hS9) (by simp)).own.head (k := k) (by omega))) (fun u hu => scp_one s.ls u (List.mem_of_mem_take hu)) (by unfold maxLen; omega) (by omega) fun a86 w5 Ax cx AP5 => ?_
   have kap5 : Kept [] w4 w5 := by simpa [Value.ownBlock] using AP5.kept
   have FX : Fresh w w5 66 2 Ax (0 + k) cx ([] ++ (s.ls.flatMap scp).take (k * 2)) := AP5.next (Fresh.nil w w4 66 2) (Nat.le_trans HK.size hS9.size)
   have FXr : Fresh w2 w5 66 2 Ax (0 + k) cx ([] ++ (s.ls.flatMap scp).take (k * 2)) := AP5.next (Fresh.nil w2 w4 66 2) hS9.size
   have hSn := hS9.trans kap5 (by simp)
   refine ⟨hSn, fun f86 => ?_⟩
   have szw5 := kap5.size
   replace Bg3 := Bg3.z kap5
   clear f85 kap5
   replace hS9 := hSn
   clear hSn
   refine RB.one 12 (by kernel_rfl) (by kernel_rfl) ?_
   refine O.append f86 rfl wantedN (by decide) U32 wzib66_rk rfl rfl rfl rfl (FX.own) ((sl_b1 (cell := scp) (fb, q) Bg3)) (fun v hv => scp_one [(fb, q)] v hv) (by unfold maxLen; omega) (by omega) fun a87 w6 Ay cy AP6 => ?_
   have hSn := AP6.grow FXr hS9
   have FY := AP6.next FX (Nat.le_trans HK.size hS9.size)
   have FYr := AP6.next FXr hS9.size
   refine ⟨hSn, fun f87 => ?_⟩
   have szw6 := AP6.kept.size
   replace hS9 := hSn
   clear f86 hSn
   refine RB.one 19 (by kernel_rfl) (by kernel_rfl) ?_
   refine O.append f87 rfl wantedN (by decide) U32 wzib66_rk rfl rfl rfl rfl (FY.own) (Sl.of_own ((LS.mod (Mod.of_kept0 (T := []) (M := []) (B := B) hS9) (by simp)).own.cut (k := k) (by omega))) (fun u hu => scp_one s.ls u (List.mem_of_mem_drop hu)) (by unfold maxLen; omega) (by omega) fun a88 w7 Az cz AP7 => ?_
   have hSn := AP7.grow FYr hS9
   have FZ := AP7.next FY (Nat.le_trans HK.size hS9.size)
   refine ⟨hSn, fun f88 => ?_⟩
   have szw7 := AP7.kept.size
   replace hS9 := hSn
   clear f87 hSn
   refine RB.stop (by kernel_rfl) ?_
   have szw7r := hS9.size
   replace HK := HK.trans (.of_kept0 hS9)
   replace BP := BP.z hS9
   replace LS := LS.mod (Mod.of_kept0 (T := []) (M := []) (B := B) hS9) (by decide)
   clear hS9
   refine R.t 20 f88 rfl trivial (fun W hW => (E.nilCheck f88 rfl)) fun a89 f89 => ?_
   refine R.t 21 f89 rfl trivial (fun W hW => (E.fa 1 f89 U64 rfl wsz32_rk)) fun a90 f90 => ?_
   refine R.one 22 (by kernel_rfl) ?_
   refine OT.store f90 rfl wantedN wsz32_rk rfl rfl rfl BP (by (simp [Value.cells]; done)) fun a91 w8 f91 NB8 ks8 => ?_
   have szw8 := ks8.size
   have KM := (Mod.of_blk (T := [64]) (M := []) (B := B) ks8 BP hS.lop (by simp))
   replace HK := HK.step KM (by decide) (by simp) (by omega)
   replace LS := LS.mod KM (by decide)
   replace FZ := FZ.mod KM (by decide)
   replace BP := NB8
   simp only [Value.cells, List.setIfInBounds_toArray, List.set_cons_zero, List.set_cons_succ, Nat.reduceAdd, Nat.zero_add] at BP
   clear f88 a88 f89 a89 ks8 f90 a90
   refine R.done (by kernel_rfl) (hK15 _ _ ?_)
   have f92 := f91.sub sn
   refine C.sk fun K17 hK17 => ?_
   refine L.ag f92 fun a93 f93 => ?_
   have f94 := f93.pk [6]
   refine wn hK17 (wp_ret ?_); (try simp only [xt, xb]); refine C.ret f94 rfl rfl ?_
   exact subR_new hS hB HK BP FZ (by omega) hok (by omega) (insF_new hpre hno (by omega)) (hasF_n hAs hpre hno)
  clear f53
  exfalso
  omega
 have h26 := h3
 refine L.run f31 (rest' := []) (by kernel_rfl) fun a32 f32 => ?_
 clear f30
 refine wn hK10 ?_
 have f33 := f32.sub (sv 37 (.bool false) (pkR f32 [0, 1, 2, 7, 19, 20, 21, 22, 23, 24, 25, 26]))
 refine C.condF f33 rfl ?_
 refine wp_exit (hK7 _ _ ?_)
 have f34 := f33.pk [0, 1, 2, 7]
 refine wp_seq_k fun K18 hK18 => C.sk fun K19 hK19 => ?_
 refine L.mv f34 fun a35 f35 => ?_
 refine L.mv f35 fun a36 f36 => ?_
 refine L.va f36 (E.nilCheck f36 rfl) fun a37 f37 => ?_
 refine L.fa 1 f37 U64 rfl wsz32_rk fun a38 f38 => ?_
 refine L.va f38 (E.load f38 U32 rfl rfl ((BP).cl rfl)) fun a39 f39 => ?_
 refine L.va f39 (E.lenL f39 U32 rfl) fun a40 f40 => ?_
 clear f32 f31 f33 f34 a32 f35 a35 f36 a36 f37 a37 f38 a38 f39 a39
 refine L.va f40 (E.lss f40 rfl rfl) fun a41 f41 => ?_
 refine L.mv f41 fun a42 f42 => ?_
 clear f40 a40 f41 a41
 refine f42.splitD 47 rfl (fun h7 f43 => ?_) (fun h7 f43 => ?_)
 ·clear f42
  exfalso
  omega
 have h47 := h7
 refine L.run f43 (rest' := []) (by kernel_rfl) fun a44 f44 => ?_
 clear f42
 refine wn hK19 ?_
 have f45 := f44.sub (sv 58 (.bool false) (pkR f44 [0, 1, 2, 7]))
 refine C.condF f45 rfl ?_
 refine wp_skip (hK18 _ _ ?_)
 have f46 := f45.pk [0, 1, 2, 7]
 refine wp_seq_k fun K20 hK20 => ?_
 have hge : ∀ x, s.ls[k]? = some x → ¬ ltF x.1 fb := by intro y hy; (rw [List.getElem?_eq_none (by omega)] at hy; cases hy)
 have hno : ∀ x, s.ls[k]? = some x → ¬ ltF x.1 fb ∧ x.1 ≠ fb := fun y hy => ⟨hge y hy, fun e => by (rw [List.getElem?_eq_none (by omega)] at hy; cases hy)⟩
 refine RB.begin (S := fun W => Kept [] w2 W) 20 (by kernel_rfl) (by exact (Kept.refl _ _).drewN 1) ?_
 have hS9 : Kept [] w2 (w2.drewN 1) := (Kept.refl _ _).drewN 1
 have hd9 : Kept [] w2 (w2.drewN 1) := (Kept.refl _ _).drewN 1
 obtain ⟨w3, hww3⟩ : ∃ W, W = w2.drewN 1 := ⟨_, rfl⟩
 rw [← hww3] at hS9 hd9 ⊢
 clear f44 f43 f45 hww3
 have szw3 := hS9.size
 refine RB.tk 0 f46 rfl hS9 (fun W hW => (E.move f46 rfl)) fun a47 f47 => ?_
 refine RB.tk 1 f47 rfl hS9 (fun W hW => (E.move f47 rfl)) fun a48 f48 => ?_
 refine RB.tk 2 f48 rfl hS9 (fun W hW => (E.nilCheck f48 rfl)) fun a49 f49 => ?_
 refine RB.tk 3 f49 rfl hS9 (fun W hW => (E.fa 1 f49 U64 rfl wsz32_rk)) fun a50 f50 => ?_
 refine RB.tk 4 f50 rfl hS9 (fun W hW => (E.load f50 U32 rfl rfl ((BP.z hW).cl rfl))) fun a51 f51 => ?_
 refine RB.tk 5 f51 rfl hS9 (fun W hW => (E.move f51 rfl)) fun a52 f52 => ?_
 refine RB.tk 6 f52 rfl hS9 (fun W hW => (E.slLhi f52 U32 wsz66_rk rfl rfl (by omega) (by omega) )) fun a53 f53 => ?_
 clear f46 a44 f47 a47 f48 a48 f49 a49 f50 a50 f51 a51 f52 a52
 refine RB.tk 8 f53 rfl hS9 (fun W hW => (E.move f53 rfl)) fun a54 f54 => ?_
 refine RB.tk 9 f54 rfl hS9 (fun W hW => (E.move f54 rfl)) fun a55 f55 => ?_
 refine RB.tk 10 f55 rfl hS9 (fun W hW => (E.build f55 (parts2 f55 rfl rfl) (wbl66_0_1_rk _ _))) fun a56 f56 => ?_
 refine RB.tk 13 f56 rfl hS9 (fun W hW => (E.move f56 rfl)) fun a57 f57 => ?_
 refine RB.tk 14 f57 rfl hS9 (fun W hW => (E.nilCheck f57 rfl)) fun a58 f58 => ?_
 refine RB.tk 15 f58 rfl hS9 (fun W hW => (E.fa 1 f58 U64 rfl wsz32_rk)) fun a59 f59 => ?_
 refine RB.tk 16 f59 rfl hS9 (fun W hW => (E.load f59 U32 rfl rfl ((BP.z hW).cl rfl))) fun a60 f60 => ?_
 clear f53 a53 f54 a54 f55 a55 f56 a56 f57 a57 f58 a58 f59 a59
 refine RB.tk 17 f60 rfl hS9 (fun W hW => (E.move f60 rfl)) fun a61 f61 => ?_
 refine RB.tk 18 f61 rfl hS9 (fun W hW => (E.slLlo f61 U32 wsz66_rk rfl rfl (by omega) (by omega) )) fun a62 f62 => ?_
 clear f60 a60 f61 a61
 refine RB.two 7 11 (by kernel_rfl) (by kernel_rfl) ?_ ?_
 ·skip
  refine O.append f62 rfl wantedN (by decide) U32 wzib66_rk rfl rfl rfl rfl (Own.nil _ _ _) (Sl.of_own ((LS.mod (Mod.of_kept0 (T := []) (M := []) (B := B) hS9) (by simp)).own.head (k := k) (by omega))) (fun u hu => scp_one s.ls u (List.mem_of_mem_take hu)) (by unfold maxLen; omega) (by omega) fun a63 w4 Ax cx AP4 => ?_
  have kap4 : Kept [] w3 w4 := by simpa [Value.ownBlock] using AP4.kept
  have FX : Fresh w w4 66 2 Ax (0 + k) cx ([] ++ (s.ls.flatMap scp).take (k * 2)) := AP4.next (Fresh.nil w w3 66 2) (Nat.le_trans HK.size hS9.size)
  have FXr : Fresh w2 w4 66 2 Ax (0 + k) cx ([] ++ (s.ls.flatMap scp).take (k * 2)) := AP4.next (Fresh.nil w2 w3 66 2) hS9.size
  have hSn := hS9.trans kap4 (by simp)
  refine ⟨hSn, fun f63 => ?_⟩
  have szw4 := kap4.size
  clear f62 kap4
  replace hS9 := hSn
  clear hSn
  refine RB.one 11 (by kernel_rfl) (by kernel_rfl) ?_
  refine O.buildSlice f63 rfl wantedN (by decide) (parts1 f63 rfl) U32 wzi66_rk rfl rfl (wbs32_1_rk _ _) (fun _ hk => hS9.trans hk (by simp)) fun a64 w5 g4 N4 hSn f64 => ?_
  have Bg4 := N4.blk
  have kg4 := N4.kept
  have log4 := N4.lo
  have ltg4 := Bg4.lt
  have szw5 := kg4.size
  have szSw5 := hS9.size
  replace FX := FX.kept0 kg4
  replace FXr := FXr.kept0 kg4
  clear f63 a63 N4 kg4
  replace hS9 := hSn
  clear hSn
  refine RB.one 12 (by kernel_rfl) (by kernel_rfl) ?_
  refine O.append f64 rfl wantedN (by decide) U32 wzib66_rk rfl rfl rfl rfl (FX.own) ((sl_b1 (cell := scp) (fb, q) Bg4)) (fun v hv => scp_one [(fb, q)] v hv) (by unfold maxLen; omega) (by omega) fun a65 w6 Ay cy AP6 => ?_
  have hSn := AP6.grow FXr hS9
  have FY := AP6.next FX (Nat.le_trans HK.size hS9.size)
  have FYr := AP6.next FXr hS9.size
  refine ⟨hSn, fun f65 => ?_⟩
  have szw6 := AP6.kept.size
  replace hS9 := hSn
  clear f64 hSn
  refine RB.one 19 (by kernel_rfl) (by kernel_rfl) ?_
  refine O.append f65 rfl wantedN (by decide) U32 wzib66_rk rfl rfl rfl rfl (FY.own) (Sl.of_own ((LS.mod (Mod.of_kept0 (T := []) (M := []) (B := B) hS9) (by simp)).own.cut (k := k) (by omega))) (fun u hu => scp_one s.ls u (List.mem_of_mem_drop hu)) (by unfold maxLen; omega) (by omega) fun a66 w7 Az cz AP7 => ?_
  have hSn := AP7.grow FYr hS9
  have FZ := AP7.next FY (Nat.le_trans HK.size hS9.size)
  refine ⟨hSn, fun f66 => ?_⟩
  have szw7 := AP7.kept.size
  replace hS9 := hSn
  clear f65 hSn
  refine RB.stop (by kernel_rfl) ?_
  have szw7r := hS9.size
  replace HK := HK.trans (.of_kept0 hS9)
  replace BP := BP.z hS9
  replace LS := LS.mod (Mod.of_kept0 (T := []) (M := []) (B := B) hS9) (by decide)
  clear hS9
  refine R.t 20 f66 rfl trivial (fun W hW => (E.nilCheck f66 rfl)) fun a67 f67 => ?_
  refine R.t 21 f67 rfl trivial (fun W hW => (E.fa 1 f67 U64 rfl wsz32_rk)) fun a68 f68 => ?_
  refine R.one 22 (by kernel_rfl) ?_
  refine OT.store f68 rfl wantedN wsz32_rk rfl rfl rfl BP (by (simp [Value.cells]; done)) fun a69 w8 f69 NB8 ks8 => ?_
  have szw8 := ks8.size
  have KM := (Mod.of_blk (T := [64]) (M := []) (B := B) ks8 BP hS.lop (by simp))
  replace HK := HK.step KM (by decide) (by simp) (by omega)
  replace LS := LS.mod KM (by decide)
  replace FZ := FZ.mod KM (by decide)
  replace BP := NB8
  simp only [Value.cells, List.setIfInBounds_toArray, List.set_cons_zero, List.set_cons_succ, Nat.reduceAdd, Nat.zero_add] at BP
  clear f66 a66 f67 a67 ks8 f68 a68
  refine R.done (by kernel_rfl) (hK20 _ _ ?_)
  have f70 := f69.sub sn
  refine C.sk fun K21 hK21 => ?_
  refine L.ag f70 fun a71 f71 => ?_
  have f72 := f71.pk [6]
  refine wn hK21 (wp_ret ?_); (try simp only [xt, xb]); refine C.ret f72 rfl rfl ?_
  exact subR_new hS hB HK BP FZ (by omega) hok (by omega) (insF_new hpre hno (by omega)) (hasF_n hAs hpre hno)
 skip
 refine O.buildSlice f62 rfl wantedN (by decide) (parts1 f62 rfl) U32 wzi66_rk rfl rfl (wbs32_1_rk _ _) (fun _ hk => hS9.trans hk (by simp)) fun a63 w4 g3 N3 hSn f63 => ?_
 have Bg3 := N3.blk
 have kg3 := N3.kept
 have log3 := N3.lo
 have ltg3 := Bg3.lt
 have szw4 := kg3.size
 have szSw4 := hS9.size
 clear f62 a62 N3 kg3
 replace hS9 := hSn
 clear hSn
 refine RB.one 7 (by kernel_rfl) (by kernel_rfl) ?_
 refine O.append f63 rfl wantedN (by decide) U32 wzib66_rk rfl rfl rfl rfl (Own.nil _ _ _) (Sl.of_own ((LS.mod (Mod.of_kept0 (T := []) (M := []) (B := B) hS9) (by simp)).own.head (k := k) (by omega))) (fun u hu => scp_one s.ls u (List.mem_of_mem_take hu)) (by unfold maxLen; omega) (by omega) fun a64 w5 Ax cx AP5 => ?_
 have kap5 : Kept [] w4 w5 := by simpa [Value.ownBlock] using AP5.kept
 have FX : Fresh w w5 66 2 Ax (0 + k) cx ([] ++ (s.ls.flatMap scp).take (k * 2)) := AP5.next (Fresh.nil w w4 66 2) (Nat.le_trans HK.size hS9.size)
 have FXr : Fresh w2 w5 66 2 Ax (0 + k) cx ([] ++ (s.ls.flatMap scp).take (k * 2)) := AP5.next (Fresh.nil w2 w4 66 2) hS9.size
 have hSn := hS9.trans kap5 (by simp)
 refine ⟨hSn, fun f64 => ?_⟩
 have szw5 := kap5.size
 replace Bg3 := Bg3.z kap5
 clear f63 kap5
 replace hS9 := hSn
 clear hSn
 refine RB.one 12 (by kernel_rfl) (by kernel_rfl) ?_
 refine O.append f64 rfl wantedN (by decide) U32 wzib66_rk rfl rfl rfl rfl (FX.own) ((sl_b1 (cell := scp) (fb, q) Bg3)) (fun v hv => scp_one [(fb, q)] v hv) (by unfold maxLen; omega) (by omega) fun a65 w6 Ay cy AP6 => ?_
 have hSn := AP6.grow FXr hS9
 have FY := AP6.next FX (Nat.le_trans HK.size hS9.size)
 have FYr := AP6.next FXr hS9.size
 refine ⟨hSn, fun f65 => ?_⟩
 have szw6 := AP6.kept.size
 replace hS9 := hSn
 clear f64 hSn
 refine RB.one 19 (by kernel_rfl) (by kernel_rfl) ?_
 refine O.append f65 rfl wantedN (by decide) U32 wzib66_rk rfl rfl rfl rfl (FY.own) (Sl.of_own ((LS.mod (Mod.of_kept0 (T := []) (M := []) (B := B) hS9) (by simp)).own.cut (k := k) (by omega))) (fun u hu => scp_one s.ls u (List.mem_of_mem_drop hu)) (by unfold maxLen; omega) (by omega) fun a66 w7 Az cz AP7 => ?_
 have hSn := AP7.grow FYr hS9
 have FZ := AP7.next FY (Nat.le_trans HK.size hS9.size)
 refine ⟨hSn, fun f66 => ?_⟩
 have szw7 := AP7.kept.size
 replace hS9 := hSn
 clear f65 hSn
 refine RB.stop (by kernel_rfl) ?_
 have szw7r := hS9.size
 replace HK := HK.trans (.of_kept0 hS9)
 replace BP := BP.z hS9
 replace LS := LS.mod (Mod.of_kept0 (T := []) (M := []) (B := B) hS9) (by decide)
 clear hS9
 refine R.t 20 f66 rfl trivial (fun W hW => (E.nilCheck f66 rfl)) fun a67 f67 => ?_
 refine R.t 21 f67 rfl trivial (fun W hW => (E.fa 1 f67 U64 rfl wsz32_rk)) fun a68 f68 => ?_
 refine R.one 22 (by kernel_rfl) ?_
 refine OT.store f68 rfl wantedN wsz32_rk rfl rfl rfl BP (by (simp [Value.cells]; done)) fun a69 w8 f69 NB8 ks8 => ?_
 have szw8 := ks8.size
 have KM := (Mod.of_blk (T := [64]) (M := []) (B := B) ks8 BP hS.lop (by simp))
 replace HK := HK.step KM (by decide) (by simp) (by omega)
 replace LS := LS.mod KM (by decide)
 replace FZ := FZ.mod KM (by decide)
 replace BP := NB8
 simp only [Value.cells, List.setIfInBounds_toArray, List.set_cons_zero, List.set_cons_succ, Nat.reduceAdd, Nat.zero_add] at BP
 clear f66 a66 f67 a67 ks8 f68 a68
 refine R.done (by kernel_rfl) (hK20 _ _ ?_)
 have f70 := f69.sub sn
 refine C.sk fun K22 hK22 => ?_
 refine L.ag f70 fun a71 f71 => ?_
 have f72 := f71.pk [6]
 refine wn hK22 (wp_ret ?_); (try simp only [xt, xb]); refine C.ret f72 rfl rfl ?_
 exact subR_new hS hB HK BP FZ (by omega) hok (by omega) (insF_new hpre hno (by omega)) (hasF_n hAs hpre hno)
theorem unsubscribeR_any (B p : Nat) (s : Rs) (fb : ByteArray) (w : World) (hS : RefAt B w p s) (hB : B ≤ w.heap.size) (hll : s.ls.length ≤ 1000000) (hAs : AscP s.ls) : Calls Tryz.prog 23 #[.pointer (some ⟨p, 0, none⟩), .string fb] w (UnPostR B p s fb w) := by
 have HK : Mod [64, 66] [] B w w := .refl _ _ _ _
 have BP := hS.top
 have LS := hS.ls
 have hcap := own_capR hS.ls.own
 refine C.enter Tryz.func23 rfl Tryz.ntmps23 rfl ?_
 intro a0 f0
 have f1 : Fr 43 a0 [(0, .pointer (some ⟨p, 0, none⟩)), (1, .string fb)] := f0
 refine C.sk fun K0 hK0 => ?_
 refine L.ag f1 fun a2 f2 => ?_
 refine wn hK0 ?_
 have f3 := f2.pk [0, 1, 4]
 refine wp_seq_k fun K1 hK1 => C.sk fun K2 hK2 => ?_
 refine L.ag f3 fun a4 f4 => ?_
 refine wn hK2 ?_
 have f5 := f4.pk [0, 1, 4, 5]
 refine wp_block ?_
 clear f0 f1 a0 f2 f3 a2 f4
 refine C.loop (fun gk a W => ∃ k : Nat, k + gk = s.ls.length ∧ (∀ p ∈ s.ls.take k, p.1 ≠ fb) ∧ Mod [64, 66] [] B w W ∧ Blk W p 64 s.cells ∧ LsR B W s.LA s.lc s.ls ∧ Fr 43 a [(0, .pointer (some ⟨p, 0, none⟩)), (1, .string fb), (5, .int .i64 k)]) (s.ls.length) ?_ ?_
 ·exact ⟨0, by omega, by simp, HK, BP, LS, f5.sub (sx (sx (sx sn)))⟩
 intro gk4 a6 w1 hI KL3 hKL3
 obtain ⟨k, hk, hpre, HK, BP, LS, f6⟩ := hI
 try clear f5
 have szk := HK.size
 refine wp_seq_k fun K4 hK4 => C.sk fun K5 hK5 => ?_
 refine L.mv f6 fun a7 f7 => ?_
 refine L.mv f7 fun a8 f8 => ?_
 refine L.va f8 (E.nilCheck f8 rfl) fun a9 f9 => ?_
 refine L.fa 1 f9 U64 rfl wsz32_rk fun a10 f10 => ?_
 refine L.va f10 (E.load f10 U32 rfl rfl ((BP).cl rfl)) fun a11 f11 => ?_
 refine L.va f11 (E.lenL f11 U32 rfl) fun a12 f12 => ?_
 refine L.va f12 (E.lss f12 rfl rfl) fun a13 f13 => ?_
 clear f6 a6 f7 a7 f8 a8 f9 a9 f10 a10 f11 a11 f12 a12
 refine wn hK5 ?_
 have f14 := f13.pk [0, 1, 5, 6, 7, 8, 9, 10, 11, 12]
 clear f13
 refine f14.splitD 12 rfl (fun h0 f15 => ?_) (fun h0 f15 => ?_)
 ·have h12 := h0
  obtain ⟨x, hx⟩ : ∃ x, s.ls[k]? = some x := ⟨s.ls[k]'(by omega), List.getElem?_eq_getElem _⟩
  obtain ⟨b, off, hA⟩ := (Sl.of_own LS.own).addr (by omega)
  refine C.condT f15 rfl ?_
  refine wp_skip (hK4 _ _ ?_)
  have f16 := f15.pk [0, 1, 5, 6, 7, 8, 9, 10, 11, 12]
  refine wp_seq_k fun K6 hK6 => ?_
  refine wp_block ?_
  refine C.sk fun K7 hK7 => ?_
  refine L.mv f16 fun a17 f17 => ?_
  refine L.va f17 (E.nilCheck f17 rfl) fun a18 f18 => ?_
  refine L.fa 1 f18 U64 rfl wsz32_rk fun a19 f19 => ?_
  refine L.va f19 (E.load f19 U32 rfl rfl ((BP).cl rfl)) fun a20 f20 => ?_
  refine L.mv f20 fun a21 f21 => ?_
  refine L.va f21 (E.indexA f21 (by assumption) U32 wsz66_rk rfl rfl (by omega) (by omega)) fun a22 f22 => ?_
  clear f14 f15 f16 a13 f17 a17 f18 a18 f19 a19 f20 a20 f21 a21
  refine L.fa 0 f22 U66 rfl wsz9_rk fun a23 f23 => ?_
  refine L.va f23 (E.load f23 U9 rfl rfl ((fl_cj (Sl.of_own LS.own) hA hx 0 rfl))) fun a24 f24 => ?_
  refine L.mv f24 fun a25 f25 => ?_
  refine L.va f25 (E.eqlS f25 rfl rfl) fun a26 f26 => ?_
  refine wn hK7 ?_
  have f27 := f26.pk [0, 1, 5, 6, 7, 8, 9, 10, 11, 12, 15, 16, 17, 18, 19, 20, 21, 22, 23, 24]
  clear f22 a22 f23 a23 f24 a24 f25 a25 f26
  refine f27.splitD 24 rfl (fun h1 f28 => ?_) (fun h1 f28 => ?_)
  ·have hx2 := h1
   refine C.condT f28 rfl ?_
   refine wp_seq_k fun K8 hK8 => ?_
   refine RB.begin (S := fun W => Kept [] w1 W) 16 (by kernel_rfl) (by exact (Kept.refl _ _).drewN 1) ?_
   have hS5 : Kept [] w1 (w1.drewN 1) := (Kept.refl _ _).drewN 1
   have hd5 : Kept [] w1 (w1.drewN 1) := (Kept.refl _ _).drewN 1
   obtain ⟨w2, hww2⟩ : ∃ W, W = w1.drewN 1 := ⟨_, rfl⟩
   rw [← hww2] at hS5 hd5 ⊢
   clear f27 hww2
   have szw2 := hS5.size
   refine RB.tk 0 f28 rfl hS5 (fun W hW => (E.move f28 rfl)) fun a29 f29 => ?_
   refine RB.tk 1 f29 rfl hS5 (fun W hW => (E.move f29 rfl)) fun a30 f30 => ?_
   refine RB.tk 2 f30 rfl hS5 (fun W hW => (E.nilCheck f30 rfl)) fun a31 f31 => ?_
   refine RB.tk 3 f31 rfl hS5 (fun W hW => (E.fa 1 f31 U64 rfl wsz32_rk)) fun a32 f32 => ?_
   refine RB.tk 4 f32 rfl hS5 (fun W hW => (E.load f32 U32 rfl rfl ((BP.z hW).cl rfl))) fun a33 f33 => ?_
   refine RB.tk 5 f33 rfl hS5 (fun W hW => (E.move f33 rfl)) fun a34 f34 => ?_
   refine RB.tk 6 f34 rfl hS5 (fun W hW => (E.slLhi f34 U32 wsz66_rk rfl rfl (by omega) (by omega) )) fun a35 f35 => ?_
   clear f28 a26 f29 a29 f30 a30 f31 a31 f32 a32 f33 a33 f34 a34
   refine RB.tk 8 f35 rfl hS5 (fun W hW => (E.move f35 rfl)) fun a36 f36 => ?_
   refine RB.tk 9 f36 rfl hS5 (fun W hW => (E.nilCheck f36 rfl)) fun a37 f37 => ?_
   refine RB.tk 10 f37 rfl hS5 (fun W hW => (E.fa 1 f37 U64 rfl wsz32_rk)) fun a38 f38 => ?_
   refine RB.tk 11 f38 rfl hS5 (fun W hW => (E.load f38 U32 rfl rfl ((BP.z hW).cl rfl))) fun a39 f39 => ?_
   refine RB.tk 12 f39 rfl hS5 (fun W hW => (E.move f39 rfl)) fun a40 f40 => ?_
   refine RB.tk 13 f40 rfl hS5 (fun W hW => (E.add f40 rfl rfl (IntWalk.i64_in _ (by omega)))) fun a41 f41 => ?_
   refine RB.tk 14 f41 rfl hS5 (fun W hW => (E.slLlo f41 U32 wsz66_rk rfl rfl (by omega) (by omega) )) fun a42 f42 => ?_
   clear f35 a35 f36 a36 f37 a37 f38 a38 f39 a39 f40 a40 f41 a41
   refine RB.one 7 (by kernel_rfl) (by kernel_rfl) ?_
   refine O.append f42 rfl wantedN (by decide) U32 wzib66_rk rfl rfl rfl rfl (Own.nil _ _ _) (Sl.of_own ((LS.mod (Mod.of_kept0 (T := []) (M := []) (B := B) hS5) (by simp)).own.head (k := k) (by omega))) (fun u hu => scp_one s.ls u (List.mem_of_mem_take hu)) (by unfold maxLen; omega) (by omega) fun a43 w3 Ax cx AP3 => ?_
   have kap3 : Kept [] w2 w3 := by simpa [Value.ownBlock] using AP3.kept
   have FX : Fresh w w3 66 2 Ax (0 + k) cx ([] ++ (s.ls.flatMap scp).take (k * 2)) := AP3.next (Fresh.nil w w2 66 2) (Nat.le_trans HK.size hS5.size)
   have FXr : Fresh w1 w3 66 2 Ax (0 + k) cx ([] ++ (s.ls.flatMap scp).take (k * 2)) := AP3.next (Fresh.nil w1 w2 66 2) hS5.size
   have hSn := hS5.trans kap3 (by simp)
   refine ⟨hSn, fun f43 => ?_⟩
   have szw3 := kap3.size
   clear f42 kap3
   replace hS5 := hSn
   clear hSn
   refine RB.one 15 (by kernel_rfl) (by kernel_rfl) ?_
   refine O.append f43 rfl wantedN (by decide) U32 wzib66_rk rfl rfl rfl rfl (FX.own) (Sl.ct (Sl.of_own (LS.mod (Mod.of_kept0 (T := []) (M := []) (B := B) hS5) (by simp)).own) (k := ((k : Int) + 1).toNat) (by omega) hcap) (fun u hu => scp_one s.ls u (List.mem_of_mem_drop hu)) (by unfold maxLen; omega) (by omega) fun a44 w4 Az cz AP4 => ?_
   have hSn := AP4.grow FXr hS5
   have FZ := AP4.next FX (Nat.le_trans HK.size hS5.size)
   refine ⟨hSn, fun f44 => ?_⟩
   have szw4 := AP4.kept.size
   replace hS5 := hSn
   clear f43 hSn
   refine RB.stop (by kernel_rfl) ?_
   have szw4r := hS5.size
   replace HK := HK.trans (.of_kept0 hS5)
   replace BP := BP.z hS5
   replace LS := LS.mod (Mod.of_kept0 (T := []) (M := []) (B := B) hS5) (by decide)
   clear hS5
   refine R.t 16 f44 rfl trivial (fun W hW => (E.nilCheck f44 rfl)) fun a45 f45 => ?_
   refine R.t 17 f45 rfl trivial (fun W hW => (E.fa 1 f45 U64 rfl wsz32_rk)) fun a46 f46 => ?_
   refine R.one 18 (by kernel_rfl) ?_
   refine OT.store f46 rfl wantedN wsz32_rk rfl rfl rfl BP (by (simp [Value.cells]; done)) fun a47 w5 f47 NB5 ks5 => ?_
   have szw5 := ks5.size
   have KM := (Mod.of_blk (T := [64]) (M := []) (B := B) ks5 BP hS.lop (by simp))
   replace HK := HK.step KM (by decide) (by simp) (by omega)
   replace LS := LS.mod KM (by decide)
   replace FZ := FZ.mod KM (by decide)
   replace BP := NB5
   simp only [Value.cells, List.setIfInBounds_toArray, List.set_cons_zero, List.set_cons_succ, Nat.reduceAdd, Nat.zero_add] at BP
   clear f44 a44 f45 a45 ks5 f46 a46
   refine R.done (by kernel_rfl) (hK8 _ _ ?_)
   have f48 := f47.pk [0, 1, 5, 6, 7, 8, 9, 10, 11, 12, 15, 16, 17, 18, 19, 20, 21, 22, 23, 24, 25, 26, 27, 28, 29, 30, 31, 32, 33, 34, 35, 36, 37, 38, 39, 40, 41, 42]
   refine C.sk fun K9 hK9 => ?_
   refine L.ag f48 fun a49 f49 => ?_
   have f50 := f49.pk [0, 1, 4, 5, 6, 7, 8, 9, 10, 11, 12, 15, 16, 17, 18, 19, 20, 21, 22, 23, 24, 25, 26, 27, 28, 29, 30, 31, 32, 33, 34, 35, 36, 37, 38, 39, 40, 41, 42]
   refine wn hK9 (wp_ret ?_); (try simp only [xt, xb]); refine C.ret f50 rfl rfl ?_
   exact unR_found hS hB HK BP FZ (by omega) hAs hx hx2
  have hx2 := h1
  refine C.condF f28 rfl ?_
  refine wp_skip (hK6 _ _ ?_)
  have f29 := f28.pk [0, 1, 5, 6, 7, 8, 9, 10, 11, 12, 15, 16, 17, 18, 19, 20, 21, 22, 23, 24]
  refine C.region ?_
  refine L.mv f29 fun a30 f30 => ?_
  refine L.va f30 (E.add f30 rfl rfl (IntWalk.i64_in _ (by omega))) fun a31 f31 => ?_
  refine L.ag f31 fun a32 f32 => ?_
  clear f27 f28 f29 a26 f30 a30 f31 a31
  refine wpList_nil (hKL3 _ _ (gk4 - 1) ?_ ?_)
  ·omega
  exact ⟨k + 1, by omega, takeN_next hpre hx hx2, HK, BP, LS, f32.sub (sx (sx (sx sn)))⟩
 have h12 := h0
 refine C.condF f15 rfl ?_
 refine wp_exit (hK1 _ _ ?_)
 have f16 := f15.sub sn
 refine C.sk fun K10 hK10 => ?_
 refine L.ag f16 fun a17 f17 => ?_
 have f18 := f17.pk [4]
 refine wn hK10 (wp_ret ?_); (try simp only [xt, xb]); refine C.ret f18 rfl rfl ?_
 exact unR_none hS HK BP LS (by rw [List.take_of_length_le (by omega)] at hpre; exact hpre)
end Go.Proofs.YtdfllmiokgoekaaGreatDoor
namespace Go.Proofs.YtdfllmiokgoekaaGreatDoor
open Go.RowKit Go.Hub
theorem wsz3_m : (Tryz.prog.info? 3).map (·.size) = some 1 := by kernel_rfl
theorem wsz35_m : (Tryz.prog.info? 35).map (·.size) = some 24 := by kernel_rfl
theorem wbl30_0_2_m (x0 : ByteArray) (x1 : Int) : Tryz.prog.built 30 [(0, .string x0), (2, .int .i64 x1)] = some #[.string x0, (.slice none 0 0), .int .i64 x1, (.bool false)] := by kernel_rfl
theorem wbl35_0_3_4_5_m (x0 : Int) (x1 : Int) (x2 : Int) (x3 : ByteArray) : Tryz.prog.built 35 [(0, .int .i64 x0), (3, .int .i64 x1), (4, .int .i64 x2), (5, .string x3)] = some #[.int .i64 x0, (.bool false), (.bool false), .int .i64 x1, .int .i64 x2, .string x3, (.slice none 0 0), (.int .i64 0), (.string ⟨#[]⟩), (.bool false), (.int .i64 0), (.bool false), (.string ⟨#[]⟩), (.slice none 0 0), (.int .i64 0), (.bool false), (.bool false), (.bool false), (.string ⟨#[]⟩), (.slice none 0 0), (.bool false), (.int .i64 0), (.slice none 0 0), (.slice none 0 0)] := by kernel_rfl
theorem wbl35_0_4_m (x0 : Int) (x1 : Int) : Tryz.prog.built 35 [(0, .int .i64 x0), (4, .int .i64 x1)] = some #[.int .i64 x0, (.bool false), (.bool false), (.int .i64 0), .int .i64 x1, (.string ⟨#[]⟩), (.slice none 0 0), (.int .i64 0), (.string ⟨#[]⟩), (.bool false), (.int .i64 0), (.bool false), (.string ⟨#[]⟩), (.slice none 0 0), (.int .i64 0), (.bool false), (.bool false), (.bool false), (.string ⟨#[]⟩), (.slice none 0 0), (.bool false), (.int .i64 0), (.slice none 0 0), (.slice none 0 0)] := by kernel_rfl
theorem blwm {T : List TypeId} {M : List Nat} {w W W' : World} (h : Below w.heap.size w W) (hm : Mod T M w.heap.size W W') : Below w.heap.size w W' :=
  h.trans ⟨hm.os, hm.tape, hm.output, hm.size, fun k hk => hm.block k (Nat.lt_of_lt_of_le hk h.size) (.inl hk)⟩
theorem blwB {T : List TypeId} {M : List Nat} {B : Nat} {w W W' : World} (h : Below B w W) (hB : B ≤ w.heap.size) (hm : Mod T M B W W') : Below B w W' :=
  h.trans ⟨hm.os, hm.tape, hm.output, hm.size, fun k hk => hm.block k (Nat.lt_of_lt_of_le (Nat.lt_of_lt_of_le hk hB) h.size) (.inl hk)⟩
theorem one_of {l : List Pc} {x : Pa} (h : l.map (·.p) = [x]) : ∃ y : Pc, l = [y] ∧ y.p = x := by
  obtain ⟨y, rfl, hy⟩ := List.map_eq_singleton_iff.1 h
  exact ⟨y, rfl, hy⟩
theorem lost_of {s : Ses} {a : SA} (h : s.abs = a) : s.lost = a.lost := by rw [← h]; rfl
theorem got_of {s : Ses} {a : SA} (h : s.abs = a) : s.got = a.got := by rw [← h]; rfl
theorem fly_of {s : Ses} {a : SA} (h : s.abs = a) : s.fly.length = a.fly.length := by rw [← h, abs_fly]
theorem pk_cell {w : World} {A : Option Addr} {c : Nat} {l : List Pc} {b off i o : Nat} {x : Pc} (O : Own w 35 24 (.slice A l.length c) l.length (l.flatMap pcell)) (hA : A = some ⟨b, off, none⟩) (hf : l[i]? = some x) (j : Nat) {v : Value} (hv : (pcell x)[j]? = some v) (ho : o = off + i * 24 + j) : w.cell? ⟨b, o, none⟩ = some v := by
  subst ho
  have h := (List.getElem?_eq_some_iff.1 hf).1
  rw [Nat.add_assoc]
  exact (Sl.of_own O).cell (by omega) hA (flat_at pcell 24 (fun _ => rfl) l i x hf j v hv)
theorem known_any (w : World) : Calls Tryz.prog 4 #[] w (fun e w' => e = .returned (.bool true) ∧ Below w.heap.size w w') := by
 have HK : Below w.heap.size w w := Below.refl _ _
 refine C.enter Tryz.func4 rfl Tryz.ntmps4 rfl ?_
 intro a0 f0
 have f1 : Fr 80 a0 [] := f0
 refine C.sk fun K0 hK0 => ?_
 refine L.ag f1 fun a2 f2 => ?_
 have f3 := f2.pk [0]
 refine wn hK0 (C.sk fun K1 hK1 => ?_)
 refine L.cl f3 (run_call Tryz.call5 (args1 f3 rfl)) (new_any ⟨#[107]⟩ w.heap.size _ HK.size) ?_
 clear f0 f1 a0 f2
 rintro e w1 ⟨p, s, rfl, HS, hab, hcl, kc1⟩
 refine ⟨_, rfl, fun a4 f4 => ?_⟩
 have szw1 := kc1.size
 replace HK := blwm HK kc1
 clear f3 a2 kc1
 refine L.ag f4 fun a5 f5 => ?_
 refine wn hK1 ?_
 have f6 := f5.pk [0, 1]
 refine wp_seq_k fun K2 hK2 => C.sk fun K3 hK3 => ?_
 refine L.mv f6 fun a7 f7 => ?_
 refine L.va f7 (E.eqlP f7 Tryz.underlying24 rfl rfl) fun a8 f8 => ?_
 have f9 := f8.as (i := 11) (v' := .bool false) rfl (by rfl)
 refine wn hK3 ?_
 have f10 := f9.pk [0, 1, 11]
 refine C.condF f10 rfl ?_
 refine wp_skip (hK2 _ _ ?_)
 have f11 := f10.pk [0, 1]
 refine C.sk fun K4 hK4 => ?_
 refine L.mv f11 fun a12 f12 => ?_
 refine L.va f12 (E.build f12 (parts2 f12 rfl rfl) (wbl30_0_2_m _ _)) fun a13 f13 => ?_
 clear f4 a4 f5 f6 a5 f7 a7 f8 f9 f10 f11 a8 f12 a12
 have hC := send_any w.heap.size p s ⟨⟨#[97]⟩, [], 1, false⟩ none 0 true 0 w1 HS (Pay.nil _ _ _) HK.size (by rw [lost_of hab]; decide)
 rw [hab, show sendS newS ⟨⟨#[97]⟩, [], 1, false⟩ true 0 = (⟨[1], 1, [⟨⟨⟨#[97]⟩, [], 1, false⟩, 1, 0, false⟩], [], 0, []⟩, [⟨3, false, false, 1, 1, ⟨#[97]⟩, []⟩]) by kernel_rfl] at hC
 refine L.cl f13 (run_call Tryz.call10 (args4 f13 rfl rfl rfl rfl)) hC ?_
 rintro e w2 ⟨⟨s1, A1, c1, pk1, rfl, HS1, hr1, hL1, kc2, PK1, -⟩, -⟩
 injection hr1 with hab1 hp1
 obtain ⟨x1, rfl, hx1⟩ := one_of hp1
 refine ⟨_, rfl, fun a14 f14 => ?_⟩
 have szw2 := kc2.size
 replace HK := blwm HK kc2
 clear f13 a13 kc2
 refine L.ag f14 fun a15 f15 => ?_
 have f16 := f15.pk [0, 1, 2]
 refine wn hK4 (C.sk fun K5 hK5 => ?_)
 refine L.mv f16 fun a17 f17 => ?_
 refine L.cl f17 (run_call Tryz.call11 (args1 f17 rfl)) (flying_any p s1.fly.length s1.fc s1.FA _ _ _ _ _ _ HS1.top) ?_
 clear f14 a14 f15 f16 a15
 rintro e w2x ⟨rfl, rfl⟩
 refine ⟨_, rfl, fun a18 f18 => ?_⟩
 refine L.ag f18 fun a19 f19 => ?_
 have f20 := f19.pk [0, 1, 2, 3]
 refine wn hK5 (C.sk fun K6 hK6 => ?_)
 refine L.mv f20 fun a21 f21 => ?_
 refine L.va f21 (E.build f21 (parts2 f21 rfl rfl) (wbl35_0_4_m _ _)) fun a22 f22 => ?_
 have hC := ack_any w.heap.size p s1 4 1 1 #[(.int .i64 4), (.bool false), (.bool false), (.int .i64 0), (.int .i64 1), (.string ⟨#[]⟩), (.slice none 0 0), (.int .i64 0), (.string ⟨#[]⟩), (.bool false), (.int .i64 0), (.bool false), (.string ⟨#[]⟩), (.slice none 0 0), (.int .i64 0), (.bool false), (.bool false), (.bool false), (.string ⟨#[]⟩), (.slice none 0 0), (.bool false), (.int .i64 0), (.slice none 0 0), (.slice none 0 0)] rfl rfl w2 HS1 HK.size
 rw [hab1, show ackS ⟨[1], 1, [⟨⟨⟨#[97]⟩, [], 1, false⟩, 1, 0, false⟩], [], 0, []⟩ 4 1 1 = (⟨[], 1, [], [], 0, []⟩, []) by kernel_rfl] at hC
 refine L.cl f22 (run_call Tryz.call12 (args3 f22 rfl rfl rfl)) hC ?_
 clear f17 a17 f18 a18 f19 f20 a19 f21 a21
 rintro e w3 ⟨s2, A2, c2, pk2, rfl, HS2, hr2, hL2, kc3, PK2, -⟩
 injection hr2 with hab2 hp2
 obtain rfl := List.map_eq_nil_iff.1 hp2
 refine ⟨_, rfl, fun a23 f23 => ?_⟩
 have szw3 := kc3.size
 replace HK := blwm HK kc3
 replace PK1 := PK1.mod kc3 (by decide)
 clear f22 a22 kc3
 refine L.ag f23 fun a24 f24 => ?_
 have f25 := f24.pk [0, 1, 2, 3, 4]
 refine wn hK6 (C.sk fun K7 hK7 => ?_)
 refine L.mv f25 fun a26 f26 => ?_
 refine L.va f26 (E.build f26 (parts4 f26 rfl rfl rfl rfl) (wbl35_0_3_4_5_m _ _ _ _)) fun a27 f27 => ?_
 have hC := got_any w.heap.size p s2 3 2 5 #[(.int .i64 3), (.bool false), (.bool false), (.int .i64 2), (.int .i64 5), (.string ⟨#[97]⟩), (.slice none 0 0), (.int .i64 0), (.string ⟨#[]⟩), (.bool false), (.int .i64 0), (.bool false), (.string ⟨#[]⟩), (.slice none 0 0), (.int .i64 0), (.bool false), (.bool false), (.bool false), (.string ⟨#[]⟩), (.slice none 0 0), (.bool false), (.int .i64 0), (.slice none 0 0), (.slice none 0 0)] rfl rfl rfl w3 HS2 HK.size (by decide) (by rw [got_of hab2]; decide)
 rw [hab2, show gotS ⟨[], 1, [], [], 0, []⟩ 3 2 5 = (⟨[], 1, [], [], 0, [5]⟩, true, [ackP 5 5]) by kernel_rfl] at hC
 refine L.cl f27 (run_call Tryz.call13 (args2 f27 rfl rfl)) hC ?_
 clear f23 a23 f24 f25 a24 f26 a26
 rintro e w4 ⟨s3, A3, c3, pk3, rfl, HS3, hab3, hp3, hL3, kc4, PK3, -⟩
 obtain ⟨x3, rfl, hx3⟩ := one_of hp3
 refine ⟨_, rfl, fun a28 f28 => ?_⟩
 have szw4 := kc4.size
 replace HK := blwm HK kc4
 replace PK1 := PK1.mod kc4 (by decide)
 clear f27 a27 kc4
 refine L.mv f28 fun a29 f29 => ?_
 refine L.va f29 (E.extract f29 rfl rfl) fun a30 f30 => ?_
 have f31 := f30.as (i := 24) (v' := .bool true) rfl (by rfl)
 refine L.va f31 (E.extract f31 rfl rfl) fun a32 f32 => ?_
 refine L.ag f32 fun a33 f33 => ?_
 refine L.ag f33 fun a34 f34 => ?_
 have f35 := f34.pk [0, 1, 2, 3, 4, 5, 6]
 refine wn hK7 (C.sk fun K8 hK8 => ?_)
 refine L.mv f35 fun a36 f36 => ?_
 clear f28 a28 f29 a29 f30 f31 a30 f32 a32 f33 a33 f34 f35 a34
 refine L.va f36 (E.build f36 (parts4 f36 rfl rfl rfl rfl) (wbl35_0_3_4_5_m _ _ _ _)) fun a37 f37 => ?_
 have hC := got_any w.heap.size p s3 3 2 5 #[(.int .i64 3), (.bool false), (.bool false), (.int .i64 2), (.int .i64 5), (.string ⟨#[97]⟩), (.slice none 0 0), (.int .i64 0), (.string ⟨#[]⟩), (.bool false), (.int .i64 0), (.bool false), (.string ⟨#[]⟩), (.slice none 0 0), (.int .i64 0), (.bool false), (.bool false), (.bool false), (.string ⟨#[]⟩), (.slice none 0 0), (.bool false), (.int .i64 0), (.slice none 0 0), (.slice none 0 0)] rfl rfl rfl w4 HS3 HK.size (by decide) (by rw [got_of hab3]; decide)
 rw [hab3, show gotS ⟨[], 1, [], [], 0, [5]⟩ 3 2 5 = (⟨[], 1, [], [], 0, [5]⟩, false, [ackP 5 5]) by kernel_rfl] at hC
 refine L.cl f37 (run_call Tryz.call13 (args2 f37 rfl rfl)) hC ?_
 clear f36 a36
 rintro e w5 ⟨s4, A4, c4, pk4, rfl, HS4, hab4, hp4, hL4, kc5, PK4, -⟩
 refine ⟨_, rfl, fun a38 f38 => ?_⟩
 have szw5 := kc5.size
 replace HK := blwm HK kc5
 replace PK1 := PK1.mod kc5 (by decide)
 replace PK3 := PK3.mod kc5 (by decide)
 clear f37 a37 kc5
 refine L.mv f38 fun a39 f39 => ?_
 refine L.va f39 (E.extract f39 rfl rfl) fun a40 f40 => ?_
 have f41 := f40.as (i := 30) (v' := .bool false) rfl (by rfl)
 refine L.va f41 (E.extract f41 rfl rfl) fun a42 f42 => ?_
 refine L.ag f42 fun a43 f43 => ?_
 refine L.ag f43 fun a44 f44 => ?_
 refine wn hK8 ?_
 have f45 := f44.pk [0, 1, 2, 3, 4, 5, 6, 7]
 refine wp_seq_k fun K9 hK9 => ?_
 obtain ⟨b1, o1, hA1⟩ := (Sl.of_own PK1.fr.own).addr (by simp)
 obtain ⟨b3, o3, hA3⟩ := (Sl.of_own PK3.fr.own).addr (by simp)
 have hf1 := fly_of hab1
 have hf4 := fly_of hab4
 have hcl4 : s4.cl = ⟨#[107]⟩ := by rw [hL4.cl, hL3.cl, hL2.cl, hL1.cl, hcl]
 refine C.region ?_
 refine L.mv f45 fun a46 f46 => ?_
 clear f38 a38 f39 a39 f40 f41 a40 f42 a42 f43 a43 f44 f45 a44
 refine L.va f46 (E.lenL f46 U42 rfl) fun a47 f47 => ?_
 refine L.va f47 (E.eql f47 rfl rfl) fun a48 f48 => ?_
 have f49 := f48.as (i := 34) (v' := .bool true) rfl (by rfl)
 refine L.mv f49 fun a50 f50 => ?_
 refine L.mv f50 (hw := (f50.yes rfl rfl)) fun a51 f51 => ?_
 refine L.va f51 (E.indexA f51 hA1 U42 wsz35_m rfl rfl (by decide) (by simp)) (hw := (f51.yes rfl rfl)) fun a52 f52 => ?_
 refine L.fa 4 f52 U35 rfl wsz3_m (hw := (f52.yes rfl rfl)) fun a53 f53 => ?_
 refine L.va f53 (E.load f53 U3 rfl rfl (pk_cell PK1.fr.own hA1 (i := 0) (x := x1) rfl 4 rfl (show o1 + 0 * 24 + 4 = _ by omega))) (hw := (f53.yes rfl rfl)) fun a54 f54 => ?_
 clear f46 a46 f47 a47 f48 f49 a48 f50 a50 f51 a51 f52 a52 f53 a53
 refine L.va f54 (E.eql f54 rfl rfl) (hw := (f54.yes rfl rfl)) fun a55 f55 => ?_
 have f56 := f55.as (i := 40) (v' := .bool true) rfl (by rw [hx1]; rfl)
 refine L.va f56 (E.pickT f56 rfl rfl) fun a57 f57 => ?_
 refine L.mv f57 fun a58 f58 => ?_
 refine L.mv f58 (hw := (f58.yes rfl rfl)) fun a59 f59 => ?_
 refine L.va f59 (E.eql f59 rfl rfl) (hw := (f59.yes rfl rfl)) fun a60 f60 => ?_
 have f61 := f60.as (i := 44) (v' := .bool true) rfl (by rw [hf1]; rfl)
 refine L.va f61 (E.pickT f61 rfl rfl) fun a62 f62 => ?_
 clear f54 a54 f55 f56 a55 f57 a57 f58 a58 f59 a59 f60 f61 a60
 refine L.mv f62 fun a63 f63 => ?_
 refine L.mv f63 (hw := (f63.yes rfl rfl)) fun a64 f64 => ?_
 refine L.va f64 (E.lenL f64 U42 rfl) (hw := (f64.yes rfl rfl)) fun a65 f65 => ?_
 refine L.va f65 (E.eql f65 rfl rfl) (hw := (f65.yes rfl rfl)) fun a66 f66 => ?_
 have f67 := f66.as (i := 49) (v' := .bool true) rfl (by rfl)
 refine L.va f67 (E.pickT f67 rfl rfl) fun a68 f68 => ?_
 refine L.mv f68 fun a69 f69 => ?_
 refine L.mv f69 (hw := (f69.yes rfl rfl)) fun a70 f70 => ?_
 clear f62 a62 f63 a63 f64 a64 f65 a65 f66 f67 a66 f68 a68 f69 a69
 refine L.cl f70 (run_call Tryz.call11 (args1 f70 rfl)) (flying_any p s4.fly.length s4.fc s4.FA _ _ _ _ _ _ HS4.top) ?_ (hw := (f70.yes rfl rfl))
 rintro e w5x ⟨rfl, rfl⟩
 refine ⟨_, rfl, fun a71 f71 => ?_⟩
 refine L.va f71 (E.eql f71 rfl rfl) (hw := (f71.yes rfl rfl)) fun a72 f72 => ?_
 have f73 := f72.as (i := 54) (v' := .bool true) rfl (by rw [hf4]; rfl)
 refine L.va f73 (E.pickT f73 rfl rfl) fun a74 f74 => ?_
 refine L.mv f74 fun a75 f75 => ?_
 refine L.mv f75 (hw := (f75.yes rfl rfl)) fun a76 f76 => ?_
 refine L.va f76 (E.pickT f76 rfl rfl) fun a77 f77 => ?_
 refine L.mv f77 fun a78 f78 => ?_
 clear f70 a70 f71 a71 f72 f73 a72 f74 a74 f75 a75 f76 a76 f77 a77
 refine L.mv f78 (hw := (f78.yes rfl rfl)) fun a79 f79 => ?_
 refine L.va f79 (E.not f79 rfl) (hw := (f79.yes rfl rfl)) fun a80 f80 => ?_
 refine L.va f80 (E.pickT f80 rfl rfl) fun a81 f81 => ?_
 refine L.mv f81 fun a82 f82 => ?_
 refine L.mv f82 (hw := (f82.yes rfl rfl)) fun a83 f83 => ?_
 refine L.va f83 (E.lenL f83 U42 rfl) (hw := (f83.yes rfl rfl)) fun a84 f84 => ?_
 refine L.va f84 (E.eql f84 rfl rfl) (hw := (f84.yes rfl rfl)) fun a85 f85 => ?_
 clear f78 a78 f79 a79 f80 a80 f81 a81 f82 a82 f83 a83 f84 a84
 have f86 := f85.as (i := 66) (v' := .bool true) rfl (by rfl)
 refine L.va f86 (E.pickT f86 rfl rfl) fun a87 f87 => ?_
 refine L.mv f87 fun a88 f88 => ?_
 refine L.mv f88 (hw := (f88.yes rfl rfl)) fun a89 f89 => ?_
 refine L.va f89 (E.indexA f89 hA3 U42 wsz35_m rfl rfl (by decide) (by simp)) (hw := (f89.yes rfl rfl)) fun a90 f90 => ?_
 refine L.fa 0 f90 U35 rfl wsz3_m (hw := (f90.yes rfl rfl)) fun a91 f91 => ?_
 refine L.va f91 (E.load f91 U3 rfl rfl (pk_cell PK3.fr.own hA3 (i := 0) (x := x3) rfl 0 rfl (show o3 + 0 * 24 + 0 = _ by omega))) (hw := (f91.yes rfl rfl)) fun a92 f92 => ?_
 refine L.va f92 (E.eql f92 rfl rfl) (hw := (f92.yes rfl rfl)) fun a93 f93 => ?_
 clear f85 f86 a85 f87 a87 f88 a88 f89 a89 f90 a90 f91 a91 f92 a92
 have f94 := f93.as (i := 73) (v' := .bool true) rfl (by rw [hx3]; rfl)
 refine L.va f94 (E.pickT f94 rfl rfl) fun a95 f95 => ?_
 refine L.mv f95 fun a96 f96 => ?_
 refine L.mv f96 (hw := (f96.yes rfl rfl)) fun a97 f97 => ?_
 refine L.cl f97 (run_call Tryz.call14 (args1 f97 rfl)) (client_any p s4.cl _ _ _ _ _ _ HS4.top) ?_ (hw := (f97.yes rfl rfl))
 clear f93 f94 a93 f95 a95 f96 a96
 rintro e w5x ⟨rfl, rfl⟩
 refine ⟨_, rfl, fun a98 f98 => ?_⟩
 refine L.va f98 (E.eqlS f98 rfl rfl) (hw := (f98.yes rfl rfl)) fun a99 f99 => ?_
 have f100 := f99.as (i := 78) (v' := .bool true) rfl (by rw [hcl4]; rfl)
 refine L.va f100 (E.pickT f100 rfl rfl) fun a101 f101 => ?_
 refine L.ag f101 fun a102 f102 => ?_
 have f103 := f102.pk [0]
 refine wn hK9 (wp_ret ?_); (try simp only [xt, xb]); refine C.ret f103 rfl rfl ?_
 exact ⟨rfl, HK⟩
end Go.Proofs.YtdfllmiokgoekaaGreatDoor
namespace Go.Proofs.YtdfllmiokgoekaaGreatDoor
open Go.RowKit Go.Hub Go.Lib
theorem Below.kept0 {w w' : World} (h : Below w.heap.size w w') : Kept [] w w' := ⟨h.os, h.tape, h.output, h.size, fun k hk _ => h.block k hk⟩
theorem known_K (w : World) : Calls Tryz.prog 4 #[] w (fun e w' => Kept [] w w' ∧ e = .returned (.bool true)) := by
  refine (known_any w).mono ?_
  rintro e w' ⟨rfl, h⟩
  exact ⟨Below.kept0 h, rfl⟩
end Go.Proofs.YtdfllmiokgoekaaGreatDoor
namespace Go.Proofs.YtdfllmiokgoekaaGreatDoor
open Go.RowKit Go.Hub Go.Lib
theorem wbl57_0_1_2_3_4_5_rm0 (x0 : ByteArray) (x1 : Option Nat) (x2 : Option Addr) (x3 : Option Addr) (y3 z3 : Nat) (x4 : Option Addr) (x5 : Option Nat) : Tryz.prog.built 57 [(0, .string x0), (1, .map x1), (2, .pointer x2), (3, .slice x3 y3 z3), (4, .pointer x4), (5, .map x5)] = some #[.string x0, .map x1, .pointer x2, .slice x3 y3 z3, .pointer x4, .map x5] := by kernel_rfl
theorem _root_.Go.Hub.IsAss.map {M : MT} [DecidableEq M.K] {P : Program} {w : World} {m : Nat} {E : List (M.K × M.V)} (h : IsAss M P w m E) : MapB w m := by
  obtain ⟨_, _, D, ⟨es, clock, hb0, _⟩, _⟩ := h
  exact ⟨es, clock, hb0⟩
theorem _root_.Go.Hub.IsAss.mod {M : MT} [DecidableEq M.K] {P : Program} {w w' : World} {m B : Nat} {E : List (M.K × M.V)} {T : List TypeId} {MM : List Nat} (h : IsAss M P w m E) (hm : Mod T MM B w w') (hM : m ∉ MM) : IsAss M P w' m E :=
  h.of_block (hm.block m h.lt (.inr ⟨fun ht => ht.not_map h.map, fun hx => hM hx.2⟩))
def NewSPost (B : Nat) (cl : ByteArray) (w : World) (e : Ending) (w' : World) : Prop := ∃ p s gs, e = .returned (.pointer (some ⟨p, 0, none⟩)) ∧ SesAt B w' p s ∧ s.abs = newS ∧ s.sv = .map (some gs) ∧ IsAss subM Tryz.prog w' gs ([] : FE) ∧ s.QA = none ∧ w.heap.size ≤ gs ∧ w.heap.size ≤ s.im ∧ w.heap.size ≤ s.gm ∧ gs ≠ s.im ∧ gs ≠ s.gm ∧ Mod [] [] B w w'
theorem newS_fin {B : Nat} {cl : ByteArray} {w W : World} {p ip im q gs gm : Nat} (hB : B ≤ w.heap.size) (HK : Mod [] [] B w W) (BP : Blk W p 57 #[.string cl, .map (some gs), .pointer (some ⟨ip, 0, none⟩), .slice none 0 0, .pointer (some ⟨q, 0, none⟩), .map (some gm)])
    (ID : IdsAt W ip im [] (mostI 65535 65535) 0) (BQ : Blk W q 90 #[.slice none 0 0, .int .i64 (mostI 8 65536), .int .i64 0]) (IG : IsSet Tryz.prog 3 4 W gm []) (IA : IsAss subM Tryz.prog W gs ([] : FE)) (h1 : w.heap.size ≤ p) (h2 : w.heap.size ≤ ip) (h3 : w.heap.size ≤ im) (h4 : w.heap.size ≤ q) (h5 : w.heap.size ≤ gm) (h6 : w.heap.size ≤ gs) (him : im ≠ gm) (h7 : gs ≠ im) (h8 : gs ≠ gm) : NewSPost B cl w (.returned (.pointer (some ⟨p, 0, none⟩))) W :=
  ⟨p, ⟨cl, .map (some gs), ip, im, q, gm, [], 0, [], none, 0, [], none, 0, 0, []⟩, gs, rfl, ⟨BP, rfl, ID, ⟨BQ, Own.nil _ _ _, by simp, Nat.le_trans hB h4, by simp, by simp⟩, ⟨Own.nil _ _ _, by simp, by simp, by simp⟩, IG, him, Nat.le_trans hB h1, Nat.le_trans hB h2, Nat.le_trans hB h3, Nat.le_trans hB h5, by simp, List.Perm.nil, by simp, by simp⟩, rfl, rfl, IA, rfl, h6, h3, h5, h7, h8, HK⟩
theorem newS_any (cl : ByteArray) (B : Nat) (w : World) (hB : B ≤ w.heap.size) : Calls Tryz.prog 5 #[.string cl] w (NewSPost B cl w) := by
 have HK : Mod [] [] B w w := .refl _ _ _ _
 refine C.enter Tryz.func5 rfl Tryz.ntmps5 rfl ?_
 intro a0 f0
 have f1 : Fr 10 a0 [(0, .string cl)] := f0
 refine C.sk fun K0 hK0 => ?_
 refine L.ag f1 fun a2 f2 => ?_
 have f3 := f2.pk [0, 2]
 refine wn hK0 (C.sk fun K1 hK1 => ?_)
 refine L.mv f3 fun a4 f4 => ?_
 refine L.makeMapA f4 wantedN (by decide) subM Tryz.prog fun a5 w1 gs IA ks logs f5 => ?_
 have szw1 := ks.size
 have frgs : w.heap.size ≤ gs := Nat.le_trans HK.size logs
 have ltgs := IsAss.lt IA
 replace HK := HK.trans (.of_kept0 ks)
 clear f0 f1 a0 f2 f3 a2 ks f4 a4
 refine L.cl f5 (run_call Tryz.call15 (args1 f5 rfl)) (idsNew_any 65535 _) ?_
 rintro e w2 ⟨ip, im, rfl, kc2, ID, loi, lom⟩
 refine ⟨_, rfl, fun a6 f6 => ?_⟩
 have szw2 := kc2.size
 replace HK := HK.trans (.of_kept0 kc2)
 replace IA := IsAss.mod IA (Mod.of_kept0 (T := []) (M := []) (B := B) kc2) (by simp)
 clear f5 a5 kc2
 refine L.cl f6 (run_call Tryz.call16 (args1 f6 rfl)) (quNew_any 8 _) ?_
 rintro e w3 ⟨q, rfl, kc3, BQ, loq⟩
 have hltm := (ID.mod (Mod.of_kept0 (T := []) (M := []) (B := B) kc3) (by decide) (by simp)).set.lt
 refine ⟨_, rfl, fun a7 f7 => ?_⟩
 have szw3 := kc3.size
 replace HK := HK.trans (.of_kept0 kc3)
 replace IA := IsAss.mod IA (Mod.of_kept0 (T := []) (M := []) (B := B) kc3) (by simp)
 replace ID := ID.mod (Mod.of_kept0 (T := []) (M := []) (B := B) kc3) (by decide) (by simp)
 clear f6 a6 kc3
 refine L.makeMap f7 wantedN (by decide) 3 4 fun a8 w4 g3 Ig3 kg3 log3 f8 => ?_
 have ltg3 := Ig3.lt
 have szw4 := kg3.size
 have frg3 : w.heap.size ≤ g3 := Nat.le_trans HK.size log3
 have neq_g3 : q ≠ g3 := by have := BQ.lt; omega
 replace HK := HK.trans (.of_kept0 kg3)
 replace IA := IsAss.mod IA (Mod.of_kept0 (T := []) (M := []) (B := B) kg3) (by simp)
 replace ID := ID.mod (Mod.of_kept0 (T := []) (M := []) (B := B) kg3) (by decide) (by simp)
 replace BQ := BQ.z kg3
 clear f7 kg3 a7
 refine L.va f8 (E.build f8 (parts6 f8 rfl rfl rfl rfl rfl rfl) (wbl57_0_1_2_3_4_5_rm0 _ _ _ _ _ _ _ _)) fun a9 f9 => ?_
 refine L.box f9 wantedN (by decide) rfl rfl fun a10 w5 g4 N4 f10 => ?_
 have Bg4 := N4.blk
 have kg4 := N4.kept
 have log4 := N4.lo
 have ltg4 := Bg4.lt
 have szw5 := kg4.size
 have frg4 : w.heap.size ≤ g4 := Nat.le_trans HK.size log4
 have neq_g4 : q ≠ g4 := by have := BQ.lt; omega
 have neg3_g4 : g3 ≠ g4 := by have := Ig3.lt; omega
 replace HK := HK.trans (.of_kept0 kg4)
 replace IA := IsAss.mod IA (Mod.of_kept0 (T := []) (M := []) (B := B) kg4) (by simp)
 replace ID := ID.mod (Mod.of_kept0 (T := []) (M := []) (B := B) kg4) (by decide) (by simp)
 replace BQ := BQ.z kg4
 replace Ig3 := Ig3.kept kg4 (by simp)
 clear f8 a8 N4 kg4
 refine L.ag f10 fun a11 f11 => ?_
 have f12 := f11.pk [2]
 refine wn hK1 (wp_ret ?_); (try simp only [xt, xb]); refine C.ret f12 rfl rfl ?_
 have him : im ≠ g3 := by omega
 exact newS_fin (cl := cl) hB HK Bg4 ID BQ Ig3 IA (by omega) (by omega) (by omega) (by omega) (by omega) frgs him (by omega) (by omega)
end Go.Proofs.YtdfllmiokgoekaaGreatDoor
namespace Go.Proofs.YtdfllmiokgoekaaGreatDoor
open Go.RowKit Go.Hub Go.Lib
section
variable {T : List TypeId} {M : List Nat} {B : Nat} {w w' w0 : World} {A A' : Option Addr} {c p q : Nat}
theorem own_far {size n m c : Nat} {xs : List Value} (h : Own w 30 size (.slice A n c) m xs) (hq : QFar w w' A') (hne : ∀ b, A.map (·.block) = some b → A'.map (·.block) ≠ some b) : Own w' 30 size (.slice A n c) m xs := h.of_eq fun k hk => by
  obtain ⟨h1, cs, h2⟩ := h.blk k hk
  have hb := (own_block A n c k).1 hk
  exact hq k h1 ⟨cs, 30, _, h2, by simp⟩ (fun b hb2 e => hne k hb (by rw [← e]; exact hb2))
theorem QuAt.modq {l : List Mc} {lost : Int} (h : QuAt B w q A c l lost) (hm : Mod T M B w w') (hT : (90 : TypeId) ∉ T ∧ (5 : TypeId) ∉ T) (hq : QFar w w' A') (hne : ∀ b, A.map (·.block) = some b → A'.map (·.block) ≠ some b) : QuAt B w' q A c l lost :=
  ⟨h.top.mod hm hT.1, own_far h.own hq hne, fun m hx => (h.pay m hx).mod hm hT.2, h.lo, h.loA, h.len⟩
theorem QuR.modq {l : List Mc} {lost : Int} (h : QuR B w q A c l lost) (hm : Mod T M B w w') (hT : (76 : TypeId) ∉ T ∧ (5 : TypeId) ∉ T) (hq : QFar w w' A') (hne : ∀ b, A.map (·.block) = some b → A'.map (·.block) ≠ some b) : QuR B w' q A c l lost :=
  ⟨h.top.mod hm hT.1, own_far h.own hq hne, fun m hx => (h.pay m hx).mod hm hT.2, h.lo, h.loA, h.len⟩
theorem SesAt.mod2 {s : Ses} (h : SesAt B w p s) (hm : Mod T M B w w') (hT : ∀ t ∈ ([57, 88, 90, 30, 82, 5] : List TypeId), t ∉ T) (hi : s.im ∉ M) (hg : s.gm ∉ M) : SesAt B w' p s :=
  ⟨h.top.mod hm (hT _ (by simp)), h.one, h.ids.mod hm (hT _ (by simp)) hi, h.qu.mod hm ⟨hT _ (by simp), hT _ (by simp), hT _ (by simp)⟩, h.fly.mod hm ⟨hT _ (by simp), hT _ (by simp)⟩, h.got.mod hm hg, h.ne, h.lop, h.loi, h.lom, h.log, h.tk, h.perm, h.ats, h.idb⟩
theorem SesAt.modq {s : Ses} (h : SesAt B w p s) (hm : Mod T M B w w') (hT : ∀ t ∈ ([57, 88, 90, 82, 5] : List TypeId), t ∉ T) (hi : s.im ∉ M) (hg : s.gm ∉ M) (hq : QFar w w' A') (hne : ∀ b, s.QA.map (·.block) = some b → A'.map (·.block) ≠ some b) : SesAt B w' p s :=
  ⟨h.top.mod hm (hT _ (by simp)), h.one, h.ids.mod hm (hT _ (by simp)) hi, h.qu.modq hm ⟨hT _ (by simp), hT _ (by simp)⟩ hq hne, h.fly.mod hm ⟨hT _ (by simp), hT _ (by simp)⟩, h.got.mod hm hg, h.ne, h.lop, h.loi, h.lom, h.log, h.tk, h.perm, h.ats, h.idb⟩
theorem RefAt.mod2 {s : Rs} (h : RefAt B w p s) (hm : Mod T M B w w') (hT : ∀ t ∈ ([64, 92, 76, 30, 97, 66, 5] : List TypeId), t ∉ T) (hi : s.im ∉ M) (hg : s.gm ∉ M) : RefAt B w' p s :=
  ⟨h.top.mod hm (hT _ (by simp)), h.ids.mod hm (hT _ (by simp)) hi, h.qu.mod hm ⟨hT _ (by simp), hT _ (by simp), hT _ (by simp)⟩, h.fly.mod hm ⟨hT _ (by simp), hT _ (by simp)⟩, h.ls.mod hm (hT _ (by simp)), h.got.mod hm hg, h.ne, h.lop, h.loi, h.lom, h.log, h.tk, h.perm, h.ats, h.idb⟩
theorem RefAt.modq {s : Rs} (h : RefAt B w p s) (hm : Mod T M B w w') (hT : ∀ t ∈ ([64, 92, 76, 97, 66, 5] : List TypeId), t ∉ T) (hi : s.im ∉ M) (hg : s.gm ∉ M) (hq : QFar w w' A') (hne : ∀ b, s.QA.map (·.block) = some b → A'.map (·.block) ≠ some b) : RefAt B w' p s :=
  ⟨h.top.mod hm (hT _ (by simp)), h.ids.mod hm (hT _ (by simp)) hi, h.qu.modq hm ⟨hT _ (by simp), hT _ (by simp)⟩ hq hne, h.fly.mod hm ⟨hT _ (by simp), hT _ (by simp)⟩, h.ls.mod hm (hT _ (by simp)), h.got.mod hm hg, h.ne, h.lop, h.loi, h.lom, h.log, h.tk, h.perm, h.ats, h.idb⟩
end
theorem drainN_lg : ∀ (k : Nat) (a : SA) (now : Int), (drainN k a now).1.lost = a.lost ∧ (drainN k a now).1.got = a.got
  | 0, a, now => ⟨rfl, rfl⟩
  | k + 1, a, now => by
    unfold drainN
    split
    · split
      · exact ⟨rfl, rfl⟩
      rename_i m r h
      exact drainN_lg k (riseS { a with wait := r } m now) now
    exact ⟨rfl, rfl⟩
theorem drainS_lg (a : SA) (now : Int) : (drainS a now).1.lost = a.lost ∧ (drainS a now).1.got = a.got := drainN_lg 5 a now
theorem ackS_lg (a : SA) (kind id now : Int) : (ackS a kind id now).1.lost = a.lost ∧ (ackS a kind id now).1.got = a.got := by
  unfold ackS
  simp only
  split
  · exact ⟨rfl, rfl⟩
  split
  · exact ⟨rfl, rfl⟩
  split
  · unfold doneS
    exact ⟨(drainS_lg _ now).1, (drainS_lg _ now).2⟩
  split <;> exact ⟨rfl, rfl⟩
theorem resumeS_lg (a : SA) (now : Int) : (resumeS a now).1.lost = a.lost ∧ (resumeS a now).1.got = a.got := by
  unfold resumeS
  exact ⟨(drainS_lg _ now).1, (drainS_lg _ now).2⟩
theorem sendS_lg (a : SA) (m : Ms) (on : Bool) (now : Int) : (a.lost ≤ (sendS a m on now).1.lost ∧ (sendS a m on now).1.lost ≤ a.lost + 1) ∧ (sendS a m on now).1.got = a.got := by
  unfold sendS pushS riseS
  repeat' split
  all_goals (first | exact ⟨⟨Int.le_refl _, by simp only; omega⟩, rfl⟩ | exact ⟨⟨by simp only; omega, Int.le_refl _⟩, rfl⟩)
theorem insS_len (x : Int) (S : List Int) : (insS x S).length ≤ S.length + 1 := by
  unfold insS
  split <;> simp
theorem gotS_lg (a : SA) (kind qos id : Int) : (gotS a kind qos id).1.lost = a.lost ∧ (gotS a kind qos id).1.got.length ≤ a.got.length + 1 := by
  unfold gotS
  repeat' split
  all_goals (first | exact ⟨rfl, Nat.le_succ _⟩ | exact ⟨rfl, insS_len _ _⟩ | exact ⟨rfl, Nat.le_trans List.length_erase_le (Nat.le_succ _)⟩)
structure Two (B N : Nat) (w : World) (p gs pr : Nat) (s : Ses) (E : FE) (r : Rs) : Prop where
  S : SesAt B w p s
  R : RefAt B w pr r
  sv : s.sv = .map (some gs)
  ass : IsAss subM Tryz.prog w gs E
  asc : AscP r.ls
  qne : ∀ b, s.QA.map (·.block) = some b → r.QA.map (·.block) ≠ some b
  Bg : B ≤ gs
  a1 : gs ≠ s.im
  a2 : gs ≠ s.gm
  a3 : gs ≠ r.im
  a4 : gs ≠ r.gm
  a5 : s.im ≠ r.im
  a6 : s.im ≠ r.gm
  a7 : s.gm ≠ r.im
  a8 : s.gm ≠ r.gm
  G : ∀ w', Below B w w' → Glob w'
  hB : B ≤ w.heap.size
  n1 : 0 ≤ s.lost ∧ s.lost ≤ N
  n2 : 0 ≤ r.lost ∧ r.lost ≤ N
  n3 : s.got.length ≤ N
  n4 : r.got.length ≤ N
  n5 : E.length ≤ N
  n6 : r.ls.length ≤ N
abbrev TB : List TypeId := [57, 88, 82, 90, 30, 64, 92, 97, 76, 66]
section
variable {T : List TypeId} {M : List Nat} {B N : Nat} {w w' w0 : World} {p gs pr : Nat} {s s' : Ses} {E : FE} {r r' : Rs}
theorem Two.qne' (h : Two B N w p gs pr s E r) : ∀ b, r.QA.map (·.block) = some b → s.QA.map (·.block) ≠ some b := fun b hb hs => h.qne b hs hb
theorem Two.glob (h : Two B N w p gs pr s E r) : Glob w := h.G w (Below.refl _ _)
theorem row_sep {a b : Option Addr} {w : World} {sz n c m : Nat} {t : TypeId} {xs : List Value} {a' : Option Addr} (hne : ∀ k, a.map (·.block) = some k → b.map (·.block) ≠ some k) (hr : Row w a a') (ho : Own w t sz (.slice b n c) m xs) : ∀ k, a'.map (·.block) = some k → b.map (·.block) ≠ some k := fun k hk hb => by
  rcases hr k hk with h | h
  · exact hne k h hb
  have := (ho.blk k ((own_block b n c k).2 hb)).1
  omega
theorem Two.stepS (h : Two B N w p gs pr s E r) (hS : SesAt B w' p s') (hL : Ses.Like w s s') (hm : Mod T [s.im, s.gm] B w w') (hR : RefAt B w' pr r) (h1 : s.lost ≤ s'.lost ∧ s'.lost ≤ s.lost + 1) (h2 : s'.got.length ≤ s.got.length + 1) : Two B (N + 1) w' p gs pr s' E r := by
  have hn1 := h.n1; have hn2 := h.n2; have hn3 := h.n3; have hn4 := h.n4; have hn5 := h.n5; have hn6 := h.n6
  refine ⟨hS, hR, hL.sv.trans h.sv, IsAss.mod h.ass hm (by simp [h.a1, h.a2]), h.asc, row_sep h.qne hL.qa h.R.qu.own, h.Bg, ?_, ?_, h.a3, h.a4, ?_, ?_, ?_, ?_, fun w2 hb => h.G w2 ((blwB (Below.refl _ _) h.hB hm).trans hb), Nat.le_trans h.hB hm.size, by omega, by omega, by omega, by omega, by omega, by omega⟩
  all_goals simp only [hL.im, hL.gm]
  · exact h.a1
  · exact h.a2
  · exact h.a5
  · exact h.a6
  · exact h.a7
  exact h.a8
theorem Two.stepR (h : Two B N w p gs pr s E r) (hR : RefAt B w' pr r') (hi : r'.im = r.im) (hg : r'.gm = r.gm) (hq : Row w r.QA r'.QA) (hm : Mod T [r.im, r.gm] B w w') (hS : SesAt B w' p s) (h1 : r.lost ≤ r'.lost ∧ r'.lost ≤ r.lost + 1) (h2 : r'.got.length ≤ r.got.length + 1) (hasc : AscP r'.ls) (h3 : r'.ls.length ≤ r.ls.length + 1) : Two B (N + 1) w' p gs pr s E r' := by
  have hn1 := h.n1; have hn2 := h.n2; have hn3 := h.n3; have hn4 := h.n4; have hn5 := h.n5; have hn6 := h.n6
  have hqn := row_sep (fun k hk hs => h.qne k hs hk) hq h.S.qu.own
  refine ⟨hS, hR, h.sv, IsAss.mod h.ass hm (by simp [h.a3, h.a4]), hasc, fun k hk hs => hqn k hs hk, h.Bg, h.a1, h.a2, ?_, ?_, ?_, ?_, ?_, ?_, fun w2 hb => h.G w2 ((blwB (Below.refl _ _) h.hB hm).trans hb), Nat.le_trans h.hB hm.size, by omega, by omega, by omega, by omega, by omega, by omega⟩
  all_goals simp only [hi, hg]
  · exact h.a3
  · exact h.a4
  · exact h.a5
  · exact h.a6
  · exact h.a7
  exact h.a8
theorem Two.mod (h : Two B N w p gs pr s E r) (hm : Mod T [] B w w') (hT : ∀ t ∈ (TB ++ [5] : List TypeId), t ∉ T) : Two B N w' p gs pr s E r :=
  ⟨h.S.mod2 hm (fun t ht => hT t ((by decide : ∀ t ∈ ([57, 88, 90, 30, 82, 5] : List TypeId), t ∈ (TB ++ [5] : List TypeId)) t ht)) (by simp) (by simp), h.R.mod2 hm (fun t ht => hT t ((by decide : ∀ t ∈ ([64, 92, 76, 30, 97, 66, 5] : List TypeId), t ∈ (TB ++ [5] : List TypeId)) t ht)) (by simp) (by simp), h.sv, IsAss.mod h.ass hm (by simp), h.asc, h.qne, h.Bg, h.a1, h.a2, h.a3, h.a4, h.a5, h.a6, h.a7, h.a8, fun w2 hb => h.G w2 ((blwB (Below.refl _ _) h.hB hm).trans hb), Nat.le_trans h.hB hm.size, h.n1, h.n2, h.n3, h.n4, h.n5, h.n6⟩
theorem Two.kept0 (h : Two B N w p gs pr s E r) (hk : Kept [] w w') : Two B N w' p gs pr s E r := h.mod (T := []) (.of_kept0 hk) (by simp)
theorem Two.up {N' : Nat} (h : Two B N w p gs pr s E r) (hN : N ≤ N') : Two B N' w p gs pr s E r := by
  have hn1 := h.n1; have hn2 := h.n2; have hn3 := h.n3; have hn4 := h.n4; have hn5 := h.n5; have hn6 := h.n6
  exact { h with n1 := by omega, n2 := by omega, n3 := by omega, n4 := by omega, n5 := by omega, n6 := by omega }
def SPost (B N : Nat) (w : World) (p gs pr : Nat) (s : Ses) (E : FE) (r : Rs) (a : SA × List Pa) (e : Ending) (w' : World) : Prop :=
  ∃ s' A c pks M, e = .returned (.slice A (pks : List Pc).length c) ∧ Two B (N + 1) w' p gs pr s' E r ∧ (s'.abs, pks.map (·.p)) = a ∧ PkAt B w w' A c pks ∧ pks.length ≤ 10 ∧ Mod TB M B w w'
def RPost (B N : Nat) (w : World) (p gs pr : Nat) (s : Ses) (E : FE) (r : Rs) (a : SA × List Pa) (e : Ending) (w' : World) : Prop :=
  ∃ r' A c pks M, e = .returned (.slice A (pks : List Pc).length c) ∧ Two B (N + 1) w' p gs pr s E r' ∧ r'.ls = r.ls ∧ (r'.abs, pks.map (·.p)) = a ∧ PkAt B w w' A c pks ∧ pks.length ≤ 10 ∧ Mod TB M B w w'
theorem Two.outS {e : Ending} {a : SA × List Pa} (h : Two B N w p gs pr s E r) (ho : OutPost T B p s a w e w') (hR : Mod T [s.im, s.gm] B w w' → RefAt B w' pr r) (hT : ∀ t ∈ T, t ∈ TB) (hl : s.lost ≤ a.1.lost ∧ a.1.lost ≤ s.lost + 1) (hg : a.1.got = s.got) : SPost B N w p gs pr s E r a e w' := by
  obtain ⟨s', A, c, pks, rfl, hS, ha, hL, hm, PK, hk⟩ := ho
  have e1 : s'.abs = a.1 := by rw [← ha]
  have e2 : s'.lost = a.1.lost := by rw [← e1]; rfl
  have e3 : s'.got = s.got := by rw [← hg, ← e1]; rfl
  exact ⟨s', A, c, pks, _, rfl, h.stepS hS hL hm (hR hm) (by omega) (by rw [e3]; omega), ha, PK, hk, hm.mono hT (fun _ h => h) (Nat.le_refl _)⟩
theorem Two.outR {e : Ending} {a : SA × List Pa} (h : Two B N w p gs pr s E r) (ho : OutPostR T B pr r a w e w') (hS : Mod T [r.im, r.gm] B w w' → SesAt B w' p s) (hT : ∀ t ∈ T, t ∈ TB) (hl : r.lost ≤ a.1.lost ∧ a.1.lost ≤ r.lost + 1) (hg : a.1.got = r.got) : RPost B N w p gs pr s E r a e w' := by
  obtain ⟨r', A, c, pks, rfl, hR, ha, hL, hm, PK, hk⟩ := ho
  have e1 : r'.abs = a.1 := by rw [← ha]
  have e2 : r'.lost = a.1.lost := by rw [← e1]; rfl
  have e3 : r'.got = r.got := by rw [← hg, ← e1]; rfl
  exact ⟨r', A, c, pks, _, rfl, h.stepR hR hL.im hL.gm hL.qa hm (hS hm) (by omega) (by rw [e3]; omega) (by rw [hL.ls]; exact h.asc) (by rw [hL.ls]; omega), hL.ls, ha, PK, hk, hm.mono hT (fun _ h => h) (Nat.le_refl _)⟩
theorem Two.refM (h : Two B N w p gs pr s E r) (hT : ∀ t ∈ ([64, 92, 76, 30, 97, 66, 5] : List TypeId), t ∉ T) (hm : Mod T [s.im, s.gm] B w w') : RefAt B w' pr r := h.R.mod2 hm hT (by simp [Ne.symm h.a5, Ne.symm h.a7]) (by simp [Ne.symm h.a6, Ne.symm h.a8])
theorem Two.sesM (h : Two B N w p gs pr s E r) (hT : ∀ t ∈ ([57, 88, 90, 30, 82, 5] : List TypeId), t ∉ T) (hm : Mod T [r.im, r.gm] B w w') : SesAt B w' p s := h.S.mod2 hm hT (by simp [h.a5, h.a6]) (by simp [h.a7, h.a8])
def NQ (s : Ses) (r : Rs) (g : Nat) : Prop := s.QA.map (·.block) ≠ some g ∧ r.QA.map (·.block) ≠ some g
theorem qfar_blk {w w' : World} {A : Option Addr} {g : Nat} {cs : Array Value} (h : QFar w w' A) (hb : Blk w g 30 cs) (hq : A.map (·.block) ≠ some g) : Blk w' g 30 cs :=
  (h g hb.lt (hb.typ (by simp)) (fun b hb2 e => hq (by rw [← e]; exact hb2))).trans hb
theorem row_nq {w : World} {A A' : Option Addr} {g : Nat} (h : Row w A A') (hg : g < w.heap.size) (hq : A.map (·.block) ≠ some g) : A'.map (·.block) ≠ some g := fun e => by
  rcases h g e with h | h
  · exact hq h
  omega
theorem Two.nq {g : Nat} (h : Two B N w p gs pr s E r) (hg : w.heap.size ≤ g) : NQ s r g :=
  ⟨fun e => by have := (h.S.qu.own.blk g ((own_block _ _ _ _).2 e)).1; omega, fun e => by have := (h.R.qu.own.blk g ((own_block _ _ _ _).2 e)).1; omega⟩
theorem sendM (h : Two B N w p gs pr s E r) {g : Nat} {cs : Array Value} (hb : Blk w g 30 cs) (hnq : NQ s r g) (m : Ms) (Am : Option Addr) (cm : Nat) (on : Bool) (now : Int) (HP : Pay B w Am m.pay) (hN : N ≤ 1000) : Calls Tryz.prog 10 #[.pointer (some ⟨p, 0, none⟩), .agg #[.string m.tp, .slice Am m.pay.length cm, .int .i64 m.qos, .bool m.ret], .bool on, .int .i64 now] w (fun e w' =>
    ∃ s' A c pks M, e = .returned (.slice A (pks : List Pc).length c) ∧ Two B (N + 1) w' p gs pr s' E r ∧ (s'.abs, pks.map (·.p)) = sendS s.abs m on now ∧ PkAt B w w' A c pks ∧ pks.length ≤ 10 ∧ Mod TB M B w w' ∧ Blk w' g 30 cs ∧ NQ s' r g) := by
  have hn1 := h.n1
  refine (send_any B p s m Am cm on now w h.S HP h.hB ⟨hn1.1, by omega⟩).mono fun e w' ⟨ho, hq⟩ => ?_
  have hl := sendS_lg s.abs m on now
  have hb' := qfar_blk hq hb hnq.1
  have ho' := ho
  obtain ⟨s1, A1, c1, pks1, e1, hS1, ha1, hL1, hm1, PK1, hk1⟩ := ho'
  have hlo : s1.abs = (sendS s.abs m on now).1 := by rw [← ha1]
  have hR := h.R.modq hm1 (by decide) (by simp [Ne.symm h.a5, Ne.symm h.a7]) (by simp [Ne.symm h.a6, Ne.symm h.a8]) hq h.qne'
  have e2 : s1.lost = (sendS s.abs m on now).1.lost := by rw [← hlo]; rfl
  have e3 : s1.got = s.got := by rw [show s.got = s.abs.got from rfl, ← hl.2, ← hlo]; rfl
  exact ⟨s1, A1, c1, pks1, _, e1, h.stepS hS1 hL1 hm1 hR (by rw [e2]; exact hl.1) (by rw [e3]; omega), ha1, PK1, hk1, hm1.mono (by decide) (fun _ h => h) (Nat.le_refl _), hb', row_nq hL1.qa hb.lt hnq.1, hnq.2⟩
theorem sendRM (h : Two B N w p gs pr s E r) {a0 : SA} (hab : r.abs = a0) {g : Nat} {cs : Array Value} (hb : Blk w g 30 cs) (hnq : NQ s r g) (m : Ms) (Am : Option Addr) (cm : Nat) (on : Bool) (now : Int) (HP : Pay B w Am m.pay) (hN : N ≤ 1000) : Calls Tryz.prog 26 #[.pointer (some ⟨pr, 0, none⟩), .agg #[.string m.tp, .slice Am m.pay.length cm, .int .i64 m.qos, .bool m.ret], .bool on, .int .i64 now] w (fun e w' =>
    ∃ r' A c pks M, e = .returned (.slice A (pks : List Pc).length c) ∧ Two B (N + 1) w' p gs pr s E r' ∧ r'.ls = r.ls ∧ (r'.abs, pks.map (·.p)) = sendS a0 m on now ∧ PkAt B w w' A c pks ∧ pks.length ≤ 10 ∧ Mod TB M B w w' ∧ Blk w' g 30 cs ∧ NQ s r' g) := by
  subst hab
  have hn2 := h.n2
  refine (sendR_any B pr r m Am cm on now w h.R HP h.hB ⟨hn2.1, by omega⟩).mono fun e w' ⟨ho, hq⟩ => ?_
  have hl := sendS_lg r.abs m on now
  have hb' := qfar_blk hq hb hnq.2
  obtain ⟨r1, A1, c1, pks1, e1, hR1, ha1, hL1, hm1, PK1, hk1⟩ := ho
  have hlo : r1.abs = (sendS r.abs m on now).1 := by rw [← ha1]
  have hS := h.S.modq hm1 (by decide) (by simp [h.a5, h.a6]) (by simp [h.a7, h.a8]) hq h.qne
  have e2 : r1.lost = (sendS r.abs m on now).1.lost := by rw [← hlo]; rfl
  have e3 : r1.got = r.got := by rw [show r.got = r.abs.got from rfl, ← hl.2, ← hlo]; rfl
  exact ⟨r1, A1, c1, pks1, _, e1, h.stepR hR1 hL1.im hL1.gm hL1.qa hm1 hS (by rw [e2]; exact hl.1) (by rw [e3]; omega) (by rw [hL1.ls]; exact h.asc) (by rw [hL1.ls]; omega), hL1.ls, ha1, PK1, hk1, hm1.mono (by decide) (fun _ h => h) (Nat.le_refl _), hb', hnq.1, row_nq hL1.qa hb.lt hnq.2⟩
theorem ackB (h : Two B N w p gs pr s E r) (kind id now : Int) (pcs : Array Value) (hp0 : pcs.toList[0]? = some (.int .i64 kind)) (hp4 : pcs.toList[4]? = some (.int .i64 id)) : Calls Tryz.prog 12 #[.pointer (some ⟨p, 0, none⟩), .agg pcs, .int .i64 now] w (SPost B N w p gs pr s E r (ackS s.abs kind id now)) := by
  refine (ack_any B p s kind id now pcs hp0 hp4 w h.S h.hB).mono fun e w' ho => ?_
  have hl := ackS_lg s.abs kind id now
  exact h.outS ho (h.refM (by decide)) (by decide) (by rw [hl.1]; show s.lost ≤ s.lost ∧ s.lost ≤ s.lost + 1; omega) hl.2
theorem ackRB (h : Two B N w p gs pr s E r) {a0 : SA} (hab : r.abs = a0) (kind id now : Int) (pcs : Array Value) (hp0 : pcs.toList[0]? = some (.int .i64 kind)) (hp4 : pcs.toList[4]? = some (.int .i64 id)) : Calls Tryz.prog 27 #[.pointer (some ⟨pr, 0, none⟩), .agg pcs, .int .i64 now] w (RPost B N w p gs pr s E r (ackS a0 kind id now)) := by
  subst hab
  refine (ackR_any B pr r kind id now pcs hp0 hp4 w h.R h.hB).mono fun e w' ho => ?_
  have hl := ackS_lg r.abs kind id now
  exact h.outR ho (h.sesM (by decide)) (by decide) (by rw [hl.1]; show r.lost ≤ r.lost ∧ r.lost ≤ r.lost + 1; omega) hl.2
theorem againB (h : Two B N w p gs pr s E r) (now : Int) : Calls Tryz.prog 31 #[.pointer (some ⟨p, 0, none⟩), .int .i64 now] w (SPost B N w p gs pr s E r (againS s.abs now 8)) := by
  refine (Again_any B p s now w h.S h.hB).mono fun e w' ho => ?_
  exact h.outS ho (h.refM (by decide)) (by decide) (by show s.lost ≤ s.lost ∧ s.lost ≤ s.lost + 1; omega) rfl
theorem againRB (h : Two B N w p gs pr s E r) {a0 : SA} (hab : r.abs = a0) (now : Int) : Calls Tryz.prog 32 #[.pointer (some ⟨pr, 0, none⟩), .int .i64 now] w (RPost B N w p gs pr s E r (againS a0 now 8)) := by
  subst hab
  refine (AgainR_any B pr r now w h.R h.hB).mono fun e w' ho => ?_
  exact h.outR ho (h.sesM (by decide)) (by decide) (by show r.lost ≤ r.lost ∧ r.lost ≤ r.lost + 1; omega) rfl
theorem resumeB (h : Two B N w p gs pr s E r) (now : Int) : Calls Tryz.prog 29 #[.pointer (some ⟨p, 0, none⟩), .int .i64 now] w (SPost B N w p gs pr s E r (resumeS s.abs now)) := by
  refine (Resume_any B p s now w h.S h.hB).mono fun e w' ho => ?_
  have hl := resumeS_lg s.abs now
  exact h.outS ho (h.refM (by decide)) (by decide) (by rw [hl.1]; show s.lost ≤ s.lost ∧ s.lost ≤ s.lost + 1; omega) hl.2
theorem resumeRB (h : Two B N w p gs pr s E r) {a0 : SA} (hab : r.abs = a0) (now : Int) : Calls Tryz.prog 30 #[.pointer (some ⟨pr, 0, none⟩), .int .i64 now] w (RPost B N w p gs pr s E r (resumeS a0 now)) := by
  subst hab
  refine (ResumeR_any B pr r now w h.R h.hB).mono fun e w' ho => ?_
  have hl := resumeS_lg r.abs now
  exact h.outR ho (h.sesM (by decide)) (by decide) (by rw [hl.1]; show r.lost ≤ r.lost ∧ r.lost ≤ r.lost + 1; omega) hl.2
def GSPost (B N : Nat) (w : World) (p gs pr : Nat) (s : Ses) (E : FE) (r : Rs) (a : SA × Bool × List Pa) (e : Ending) (w' : World) : Prop :=
  ∃ s' A c pks M, e = .returned (.tuple #[.bool a.2.1, .slice A (pks : List Pc).length c]) ∧ Two B (N + 1) w' p gs pr s' E r ∧ s'.abs = a.1 ∧ pks.map (·.p) = a.2.2 ∧ PkAt B w w' A c pks ∧ pks.length ≤ 10 ∧ Mod TB M B w w'
def GRPost (B N : Nat) (w : World) (p gs pr : Nat) (s : Ses) (E : FE) (r : Rs) (a : SA × Bool × List Pa) (e : Ending) (w' : World) : Prop :=
  ∃ r' A c pks M, e = .returned (.tuple #[.bool a.2.1, .slice A (pks : List Pc).length c]) ∧ Two B (N + 1) w' p gs pr s E r' ∧ r'.ls = r.ls ∧ r'.abs = a.1 ∧ pks.map (·.p) = a.2.2 ∧ PkAt B w w' A c pks ∧ pks.length ≤ 10 ∧ Mod TB M B w w'
theorem gotB (h : Two B N w p gs pr s E r) (kind qos id : Int) (pcs : Array Value) (hp0 : pcs.toList[0]? = some (.int .i64 kind)) (hp4 : pcs.toList[4]? = some (.int .i64 id)) (hp3 : pcs.toList[3]? = some (.int .i64 qos)) (hwf : (Lit.int .i64 id).wf = true) (hN : N ≤ 1000) : Calls Tryz.prog 13 #[.pointer (some ⟨p, 0, none⟩), .agg pcs] w (GSPost B N w p gs pr s E r (gotS s.abs kind qos id)) := by
  have hn3 := h.n3
  refine (got_any B p s kind qos id pcs hp0 hp4 hp3 w h.S h.hB hwf (by unfold maxLen; omega)).mono ?_
  rintro e w' ⟨s', A, c, pks, rfl, hS, e1, e2, hL, hm, PK, hk⟩
  have hl := gotS_lg s.abs kind qos id
  rw [← e1] at hl
  exact ⟨s', A, c, pks, _, rfl, h.stepS hS hL hm (h.refM (by decide) hm) (by have : s'.lost = s.lost := hl.1; omega) hl.2, e1, e2, PK, by omega, hm.mono (by decide) (fun _ h => h) (Nat.le_refl _)⟩
theorem gotRB (h : Two B N w p gs pr s E r) {a0 : SA} (hab : r.abs = a0) (kind qos id : Int) (pcs : Array Value) (hp0 : pcs.toList[0]? = some (.int .i64 kind)) (hp4 : pcs.toList[4]? = some (.int .i64 id)) (hp3 : pcs.toList[3]? = some (.int .i64 qos)) (hwf : (Lit.int .i64 id).wf = true) (hN : N ≤ 1000) : Calls Tryz.prog 28 #[.pointer (some ⟨pr, 0, none⟩), .agg pcs] w (GRPost B N w p gs pr s E r (gotS a0 kind qos id)) := by
  subst hab
  have hn4 := h.n4
  refine (gotR_any B pr r kind qos id pcs hp0 hp4 hp3 w h.R h.hB hwf (by unfold maxLen; omega)).mono ?_
  rintro e w' ⟨r', A, c, pks, rfl, hR, e1, e2, hL, hm, PK, hk⟩
  have hl := gotS_lg r.abs kind qos id
  rw [← e1] at hl
  exact ⟨r', A, c, pks, _, rfl, h.stepR hR hL.im hL.gm hL.qa hm (h.sesM (by decide) hm) (by have : r'.lost = r.lost := hl.1; omega) hl.2 (by rw [hL.ls]; exact h.asc) (by rw [hL.ls]; omega), hL.ls, e1, e2, PK, by omega, hm.mono (by decide) (fun _ h => h) (Nat.le_refl _)⟩
theorem cells_sv (h : Two B N w p gs pr s E r) : Blk w p 57 #[.string s.cl, .map (some gs), .pointer (some ⟨s.ip, 0, none⟩), .slice s.FA s.fly.length s.fc, .pointer (some ⟨s.q, 0, none⟩), .map (some s.gm)] := by
  have := h.S.top
  rw [← h.sv]
  exact this
theorem Two.p_ne (h : Two B N w p gs pr s E r) : p ≠ gs := fun e => h.S.top.not_map (by rw [e]; exact h.ass.map)
theorem Two.keptG {E' : FE} (h : Two B N w p gs pr s E r) (hk : Kept [gs] w w') (IA : IsAss subM Tryz.prog w' gs E') (hE : E'.length ≤ E.length + 1) : Two B (N + 1) w' p gs pr s E' r ∧ Mod TB [gs] B w w' := by
  have hm : ∀ T, Mod T [gs] B w w' := fun T => .of_kept hk fun x hx _ => by
    obtain rfl := List.mem_singleton.1 hx
    exact ⟨h.Bg, .inr ⟨h.ass.map, by simp⟩⟩
  have hn1 := h.n1; have hn2 := h.n2; have hn3 := h.n3; have hn4 := h.n4; have hn5 := h.n5; have hn6 := h.n6
  exact ⟨⟨h.S.mod2 (hm []) (by simp) (by simp [Ne.symm h.a1]) (by simp [Ne.symm h.a2]), h.R.mod2 (hm []) (by simp) (by simp [Ne.symm h.a3]) (by simp [Ne.symm h.a4]), h.sv, IA, h.asc, h.qne, h.Bg, h.a1, h.a2, h.a3, h.a4, h.a5, h.a6, h.a7, h.a8, fun w2 hb => h.G w2 ((blwB (Below.refl _ _) h.hB (hm [])).trans hb), Nat.le_trans h.hB hk.size, by omega, by omega, by omega, by omega, by omega, by omega⟩, hm _⟩
def subE (E : FE) (f : ByteArray) (q : Int) : FE := if filterB f = true ∧ 0 ≤ q ∧ q ≤ 2 then (f, q) :: (Go.Hub.strike E f : FE) else E
def subT (E : FE) (f : ByteArray) (q : Int) : Bool := decide (filterB f = true ∧ 0 ≤ q ∧ q ≤ 2) && !(lk E f).isSome
theorem strike_le (E : FE) (f : ByteArray) : (Go.Hub.strike E f : FE).length ≤ E.length := List.length_filter_le _ _
theorem subB (h : Two B N w p gs pr s E r) (f : ByteArray) (q : Int) (hf : f.size ≤ 100000) (hN : N ≤ 1000) : Calls Tryz.prog 19 #[.pointer (some ⟨p, 0, none⟩), .string f, .int .i64 q] w (fun e w' => ∃ M, e = .returned (.bool (subT E f q)) ∧ Two B (N + 1) w' p gs pr s (subE E f q) r ∧ Mod TB M B w w') := by
  have hn5 := h.n5
  refine (subscribe_any p gs _ _ _ _ _ E w (cells_sv h) h.ass h.p_ne h.glob f q hf (by omega)).mono ?_
  rintro e w' (⟨h1, h2, h3, hk, _, rfl, IA⟩ | ⟨hn, hk, _, rfl, IA⟩)
  · obtain ⟨hT, hm⟩ := h.keptG (E' := (f, q) :: (Go.Hub.strike E f : FE)) hk IA (by have := strike_le E f; rw [List.length_cons]; omega)
    refine ⟨_, ?_, ?_, hm⟩
    · rw [subT, decide_eq_true ⟨h1, h2, h3⟩]; rfl
    rw [subE, if_pos ⟨h1, h2, h3⟩]; exact hT
  obtain ⟨hT, hm⟩ := h.keptG hk IA (by omega)
  refine ⟨_, ?_, ?_, hm⟩
  · rw [subT, decide_eq_false hn]; rfl
  rw [subE, if_neg hn]; exact hT
theorem unB (h : Two B N w p gs pr s E r) (f : ByteArray) (hf : f.size ≤ 100000) : Calls Tryz.prog 22 #[.pointer (some ⟨p, 0, none⟩), .string f] w (fun e w' => ∃ M, e = .returned (.bool (lk E f).isSome) ∧ Two B (N + 1) w' p gs pr s (Go.Hub.strike E f : FE) r ∧ Mod TB M B w w') := by
  refine (unsubscribe_any p gs _ _ _ _ _ E w (cells_sv h) h.ass h.p_ne f hf).mono ?_
  rintro e w' ⟨hk, _, rfl, IA⟩
  obtain ⟨hT, hm⟩ := h.keptG hk IA (by have := strike_le E f; omega)
  exact ⟨_, rfl, hT, hm⟩
theorem Two.likeL (h : Two B N w p gs pr s E r) (hR : RefAt B w' pr r') (hL : r.LikeL r') (hm : Mod [64, 66] [] B w w') (hasc : AscP r'.ls) (h3 : r'.ls.length ≤ r.ls.length + 1) : Two B (N + 1) w' p gs pr s E r' ∧ Mod TB [] B w w' := by
  have e1 : r'.lost = r.lost := congrArg SA.lost hL.abs
  have e2 : r'.got = r.got := congrArg SA.got hL.abs
  exact ⟨h.stepR hR hL.im hL.gm (fun b hb => .inl (by rw [← hL.QA]; exact hb)) (hm.mono (T' := [64, 66]) (M' := [r.im, r.gm]) (fun _ h => h) (by simp) (Nat.le_refl _)) (h.S.mod2 hm (by decide) (by simp) (by simp)) (by omega) (by rw [e2]; omega) hasc h3, hm.mono (by decide) (fun _ h => h) (Nat.le_refl _)⟩
theorem insF_len (l : FE) (f : ByteArray) (q : Int) (h : AscP l) : (insF l f q).length ≤ l.length + 1 := by
  rw [(insF_perm h).length_eq, List.length_cons]
  exact Nat.succ_le_succ (List.length_filter_le _ _)
theorem subRB (h : Two B N w p gs pr s E r) {E0 : FE} (hs : SubsR E0 r.ls) (f : ByteArray) (q : Int) (hf : f.size ≤ 100000) (hN : N ≤ 1000) : Calls Tryz.prog 21 #[.pointer (some ⟨pr, 0, none⟩), .string f, .int .i64 q] w (fun e w' => ∃ r' M, e = .returned (.bool (subT E0 f q)) ∧ Two B (N + 1) w' p gs pr s E r' ∧ r'.abs = r.abs ∧ SubsR (subE E0 f q) r'.ls ∧ Mod TB M B w w') := by
  have hn6 := h.n6
  refine (subscribeR_any B pr r f q w h.R h.hB h.glob hf (by omega) h.asc).mono ?_
  rintro e w' ⟨r', b, rfl, hR, hL, hm, hc⟩
  have hx : AscP r'.ls ∧ r'.ls.length ≤ r.ls.length + 1 ∧ SubsR (subE E0 f q) r'.ls ∧ b = subT E0 f q := by
    rcases hc with ⟨ok, e1, e2⟩ | ⟨no, e1, e2⟩
    · have ok : filterB f = true ∧ 0 ≤ q ∧ q ≤ 2 := ok
      rw [e1, subE, subT, if_pos ok, decide_eq_true (p := filterB f = true ∧ 0 ≤ q ∧ q ≤ 2) ok]
      exact ⟨insF_asc h.asc, insF_len _ _ _ h.asc, hs.put, by rw [e2, hs.has]; rfl⟩
    have no : ¬ (filterB f = true ∧ 0 ≤ q ∧ q ≤ 2) := no
    rw [e1, subE, subT, if_neg no, decide_eq_false (p := filterB f = true ∧ 0 ≤ q ∧ q ≤ 2) no]
    exact ⟨h.asc, Nat.le_succ _, hs, by rw [e2]; rfl⟩
  obtain ⟨h1, h2, h3, rfl⟩ := hx
  obtain ⟨hT, hm2⟩ := h.likeL hR hL hm h1 h2
  exact ⟨r', _, rfl, hT, hL.abs, h3, hm2⟩
theorem unRB (h : Two B N w p gs pr s E r) {E0 : FE} (hs : SubsR E0 r.ls) (f : ByteArray) (hN : N ≤ 1000) : Calls Tryz.prog 23 #[.pointer (some ⟨pr, 0, none⟩), .string f] w (fun e w' => ∃ r' M, e = .returned (.bool (lk E0 f).isSome) ∧ Two B (N + 1) w' p gs pr s E r' ∧ r'.abs = r.abs ∧ SubsR (Go.Hub.strike E0 f : FE) r'.ls ∧ Mod TB M B w w') := by
  have hn6 := h.n6
  refine (unsubscribeR_any B pr r f w h.R h.hB (by omega) h.asc).mono ?_
  rintro e w' ⟨r', rfl, hR, hL, hm, e1⟩
  obtain ⟨hT, hm2⟩ := h.likeL hR hL hm (by rw [e1]; exact stF_asc h.asc) (by rw [e1]; exact Nat.le_trans (List.length_filter_le _ _) (Nat.le_succ _))
  exact ⟨r', _, by rw [hs.has], hT, hL.abs, by rw [e1]; exact hs.drop, hm2⟩
theorem flyB (h : Two B N w p gs pr s E r) : Calls Tryz.prog 11 #[.pointer (some ⟨p, 0, none⟩)] w (fun e w' => w = w' ∧ e = .returned (.int .i64 s.fly.length)) := flying_any p s.fly.length s.fc s.FA _ _ _ _ _ w h.S.top
theorem waitB (h : Two B N w p gs pr s E r) : Calls Tryz.prog 36 #[.pointer (some ⟨p, 0, none⟩)] w (fun e w' => w = w' ∧ e = .returned (.int .i64 s.wait.length)) := waiting_any p s.q s.wait.length s.qc s.QA _ s.lost _ _ _ _ _ w h.S.top h.S.qu.top
theorem lostB (h : Two B N w p gs pr s E r) : Calls Tryz.prog 37 #[.pointer (some ⟨p, 0, none⟩)] w (fun e w' => w = w' ∧ e = .returned (.int .i64 s.lost)) := lost_any p s.q s.wait.length s.qc s.QA _ s.lost _ _ _ _ _ w h.S.top h.S.qu.top
theorem flyRB (h : Two B N w p gs pr s E r) : Calls Tryz.prog 35 #[.pointer (some ⟨pr, 0, none⟩)] w (fun e w' => w = w' ∧ e = .returned (.int .i64 r.fly.length)) := flyingR_any B pr r w h.R
theorem subsB (h : Two B N w p gs pr s E r) (hs : SubsR E r.ls) (hN : N ≤ 1000) : Calls Tryz.prog 34 #[.pointer (some ⟨p, 0, none⟩)] w (fun e w' => Kept [] w w' ∧ ∃ A c, e = .returned (.slice A r.ls.length c) ∧ Sl w' A r.ls.length 2 (r.ls.flatMap scp)) := by
  have hn5 := h.n5
  refine (subs_any p gs _ _ _ _ _ E w (cells_sv h) h.ass h.p_ne (by omega)).mono ?_
  rintro e w' ⟨hk, A, c, out, rfl, hp, hso, SL, _, _⟩
  have := hs.tells h.ass.nodup hp hso
  subst this
  exact ⟨hk, A, c, rfl, SL⟩
end
end Go.Proofs.YtdfllmiokgoekaaGreatDoor
namespace Go.Hub
open Go.RowKit
def Cs (E : List TypeId) (B : Nat) (w : World) (A : Option Addr) (n size : Nat) (xs : List Value) : Prop :=
  xs.length = n * size ∧ (0 < n → ∃ b off, A = some ⟨b, off, none⟩ ∧ b < w.heap.size ∧ (b < B ∨ Typ w b E) ∧ ∀ j u, xs[j]? = some u → w.cell? ⟨b, off + j, none⟩ = some u)
section
variable {E : List TypeId} {B : Nat} {w w' : World} {A : Option Addr} {n size : Nat} {xs : List Value}
theorem Cs.same (h : Cs E B w A n size xs) (hs : Same E B w w') : Cs E B w' A n size xs :=
  ⟨h.1, fun hn => by
    obtain ⟨b, off, e, hb, ht, hc⟩ := h.2 hn
    have e1 := hs.block b hb ht
    refine ⟨b, off, e, Nat.lt_of_lt_of_le hb hs.size, ?_, fun j x hx => (World.cell?_of_block (w := w) (a := ⟨b, off + j, none⟩) e1).trans (hc j x hx)⟩
    rcases ht with ht | ht
    · exact .inl ht
    · exact .inr (ht.of_eq e1)⟩
theorem Cs.rds (h : Cs E B w A n size xs) : Rds w w.heap.size size A n xs := by
  refine ⟨h.1, fun hn => ?_⟩
  obtain ⟨b, off, e, hb, _, hc⟩ := h.2 hn
  exact ⟨b, off, e, hb, hc⟩
end
structure Pk where
  kind : Int := 0
  dup : Bool := false
  retain : Bool := false
  qos : Int := 0
  id : Int := 0
  topic : ByteArray := ⟨#[]⟩
  pay : List UInt8 := []
  level : Int := 0
  client : ByteArray := ⟨#[]⟩
  clean : Bool := false
  keep : Int := 0
  hasWill : Bool := false
  wt : ByteArray := ⟨#[]⟩
  wp : List UInt8 := []
  wq : Int := 0
  wr : Bool := false
  hasUser : Bool := false
  hasPass : Bool := false
  user : ByteArray := ⟨#[]⟩
  pass : List UInt8 := []
  present : Bool := false
  code : Int := 0
  subs : List (ByteArray × Int) := []
  codes : List Int := []
def subCells (l : List (ByteArray × Int)) : List Value := l.flatMap fun s => [.string s.1, .int .i64 s.2]
def codeCells (l : List Int) : List Value := l.map (Value.int .i64)
structure Ad where
  pa : Option Addr
  pc : Nat
  wa : Option Addr
  wc : Nat
  sa : Option Addr
  sc : Nat
  ua : Option Addr
  uc : Nat
  ca : Option Addr
  cc : Nat
def Pk.cells (p : Pk) (s : Ad) : Array Value :=
  #[.int .i64 p.kind, .bool p.dup, .bool p.retain, .int .i64 p.qos, .int .i64 p.id, .string p.topic, .slice s.pa p.pay.length s.pc, .int .i64 p.level, .string p.client, .bool p.clean, .int .i64 p.keep, .bool p.hasWill,
    .string p.wt, .slice s.wa p.wp.length s.wc, .int .i64 p.wq, .bool p.wr, .bool p.hasUser, .bool p.hasPass, .string p.user, .slice s.sa p.pass.length s.sc, .bool p.present, .int .i64 p.code, .slice s.ua p.subs.length s.uc, .slice s.ca p.codes.length s.cc]
structure Pk.Ok (E : List TypeId) (B : Nat) (w : World) (p : Pk) (s : Ad) : Prop where
  pay : Bs E B w s.pa p.pay.length p.pay
  wp : Bs E B w s.wa p.wp.length p.wp
  pass : Bs E B w s.sa p.pass.length p.pass
  subs : Cs E B w s.ua p.subs.length 2 (subCells p.subs)
  codes : Cs E B w s.ca p.codes.length 1 (codeCells p.codes)
section
variable {E : List TypeId} {B : Nat} {w w' : World} {p : Pk} {s : Ad} {cs : Array Value}
theorem Pk.Ok.same (h : p.Ok E B w s) (hs : Same E B w w') : p.Ok E B w' s := ⟨h.pay.same hs, h.wp.same hs, h.pass.same hs, h.subs.same hs, h.codes.same hs⟩
end
end Go.Hub
namespace Go.Hub
open Go.RowKit
structure Pk.In (w : World) (p : Pk) (s : Ad) : Prop where
  pay : Sl w s.pa p.pay.length 1 (p.pay.map u8)
  wp : Sl w s.wa p.wp.length 1 (p.wp.map u8)
  pass : Sl w s.sa p.pass.length 1 (p.pass.map u8)
  subs : Sl w s.ua p.subs.length 2 (subCells p.subs)
  codes : Sl w s.ca p.codes.length 1 (codeCells p.codes)
section
variable {w w' : World} {p q : Pk} {s t : Ad}
theorem Pk.In.kept (h : p.In w s) (hk : Kept [] w w') : p.In w' s := ⟨h.pay.kept hk, h.wp.kept hk, h.pass.kept hk, h.subs.kept hk, h.codes.kept hk⟩
theorem subCells_at (l : List (ByteArray × Int)) (i : Nat) (x : ByteArray × Int) (h : l[i]? = some x) : (subCells l)[i * 2]? = some (.string x.1) ∧ (subCells l)[i * 2 + 1]? = some (.int .i64 x.2) := by
  have e1 := flat_at (fun s : ByteArray × Int => [Value.string s.1, .int .i64 s.2]) 2 (fun _ => rfl) l i x h 0 (.string x.1) rfl
  have e2 := flat_at (fun s : ByteArray × Int => [Value.string s.1, .int .i64 s.2]) 2 (fun _ => rfl) l i x h 1 (.int .i64 x.2) rfl
  exact ⟨e1, e2⟩
theorem codeCells_at (l : List Int) (i : Nat) (x : Int) (h : l[i]? = some x) : (codeCells l)[i]? = some (.int .i64 x) := by simp [codeCells, h]
theorem some_at {α : Type} (l : List α) (i : Nat) (h : i < l.length) : ∃ x, l[i]? = some x := ⟨l[i], by simp [h]⟩
theorem sub_row {A : Option Addr} {l : List (ByteArray × Int)} (h : Sl w A l.length 2 (subCells l)) {b off i : Nat} {x : ByteArray × Int} (hA : A = some ⟨b, off, none⟩) (hx : l[i]? = some x) : w.rangeAt b (off + i * 2) [.string x.1, .int .i64 x.2] := by
  have hi : i < l.length := (List.getElem?_eq_some_iff.1 hx).1
  refine h.row (by omega) hA fun j u hj => ?_
  obtain ⟨h1, h2⟩ := subCells_at l i x hx
  match j, hj with
  | 0, hj => simp at hj; subst hj; exact h1
  | 1, hj => simp at hj; subst hj; exact h2
  | j + 2, hj => simp at hj
theorem code_cell {A : Option Addr} {l : List Int} (h : Sl w A l.length 1 (codeCells l)) {b off i : Nat} {x : Int} (hA : A = some ⟨b, off, none⟩) (hx : l[i]? = some x) : w.cell? ⟨b, off + i, none⟩ = some (.int .i64 x) := by
  have hi : i < l.length := (List.getElem?_eq_some_iff.1 hx).1
  exact h.cell (by omega) hA (codeCells_at l i x hx)
end
theorem bytes_eq {a b : List UInt8} : (⟨a.toArray⟩ : ByteArray) = ⟨b.toArray⟩ ↔ a = b := by
  constructor
  · intro h
    have := congrArg (fun x : ByteArray => x.data.toList) h
    simpa using this
  rintro rfl; rfl
def samePk (p q : Pk) : Bool :=
  decide (p.kind = q.kind) && (p.dup == q.dup) && (p.retain == q.retain) && decide (p.qos = q.qos) && decide (p.id = q.id) && decide (p.topic = q.topic) && decide (p.pay = q.pay) &&
  (decide (p.level = q.level) && decide (p.client = q.client) && (p.clean == q.clean) && decide (p.keep = q.keep) && (p.hasWill == q.hasWill) && (p.hasUser == q.hasUser) && (p.hasPass == q.hasPass) && decide (p.user = q.user) && decide (p.pass = q.pass) && (p.present == q.present) && decide (p.code = q.code)) &&
  (decide (p.wt = q.wt) && decide (p.wp = q.wp) && decide (p.wq = q.wq) && (p.wr == q.wr)) && decide (p.subs = q.subs) && decide (p.codes = q.codes)
theorem samePk_iff {p q : Pk} : samePk p q = true ↔ p = q := by
  constructor
  · intro h
    simp only [samePk, Bool.and_eq_true, decide_eq_true_eq, beq_iff_eq] at h
    cases p; cases q
    simp only at h
    simp only [Pk.mk.injEq]
    simp only [h, and_self]
  rintro rfl
  simp [samePk]
theorem samePk_f {p q : Pk} (h : p ≠ q) : samePk p q = false := by
  cases e : samePk p q
  · rfl
  exact absurd (samePk_iff.1 e) h
end Go.Hub
namespace Go.Proofs.YtdfllmiokgoekaaGreatDoor
open Go.RowKit Go.Hub Go.Lib
theorem wsz3_wa : (Tryz.prog.info? 3).map (·.size) = some 1 := by kernel_rfl
theorem wsz4_wa : (Tryz.prog.info? 4).map (·.size) = some 1 := by kernel_rfl
theorem wsz9_wa : (Tryz.prog.info? 9).map (·.size) = some 1 := by kernel_rfl
theorem wsz28_wa : (Tryz.prog.info? 28).map (·.size) = some 1 := by kernel_rfl
def willB (p q : Pk) : Bool := decide (p.wt = q.wt) && decide (p.wp = q.wp) && decide (p.wq = q.wq) && (p.wr == q.wr)
def greetB (p q : Pk) : Bool := decide (p.level = q.level) && decide (p.client = q.client) && (p.clean == q.clean) && decide (p.keep = q.keep) && (p.hasWill == q.hasWill) && (p.hasUser == q.hasUser) && (p.hasPass == q.hasPass) && decide (p.user = q.user) && decide (p.pass = q.pass) && (p.present == q.present) && decide (p.code = q.code)
theorem fields70 : (Tryz.prog.fieldsOf 66).toList = [{ name := "Filter", type := 9, offset := 0, embedded := false, tag := "", pkgPath := "", byteOffset := 0 }, { name := "Qos", type := 3, offset := 1, embedded := false, tag := "", pkgPath := "", byteOffset := 16 }] := by kernel_rfl
theorem neqSub (x y : Operand) (a a' : ByteArray) (b b' : Int) (w : World) : (do eqGuard .neq 66 x y (.agg #[.string a, .int .i64 b]) (.agg #[.string a', .int .i64 b']); binOp .neq 66 (.agg #[.string a, .int .i64 b]) (.agg #[.string a', .int .i64 b']) : Sem Value).run Tryz.prog w = .ok (.bool (!decide ((a, b) = (a', b')))) w := by
  rw [Sem.run_bind, run_eqGuard_agg w .neq 66 x y _ _ (by kernel_rfl)]
  simp only [Result.andThen_ok]
  rw [run_neq_struct, run_equalIn_struct w 9999 66 _ _ (by kernel_rfl) (by kernel_rfl)]
  rw [fields70]
  simp [go_sem]
  by_cases h1 : a = a' <;> by_cases h2 : b = b' <;> simp [h1, h2, toList_eq_iff]
theorem code_cell1 {w : World} {A : Option Addr} {l : List Int} (h : Sl w A l.length 1 (codeCells l)) {b off i : Nat} {x : Int} (hA : A = some ⟨b, off, none⟩) (hx : l[i]? = some x) : w.cell? ⟨b, off + (i : Int).toNat * 1, none⟩ = some (.int .i64 x) := by
  rw [Int.toNat_natCast, Nat.mul_one]; exact code_cell h hA hx
theorem eq_take {α : Type} {l b : List α} {k : Nat} {d d' : α} (h : l.take k = b.take k) (hd : l[k]? = some d) (hd' : b[k]? = some d') (e : d = d') : l.take (k + 1) = b.take (k + 1) := by
  rw [List.take_add_one, List.take_add_one, h, hd, hd', e]
theorem willsR_any (p q : Pk) (s t : Ad) (w : World) (IP : p.In w s) (IQ : q.In w t) : Calls Tryz.prog 76 #[.agg #[.string p.wt, .slice s.wa p.wp.length s.wc, .int .i64 p.wq, .bool p.wr], .agg #[.string q.wt, .slice t.wa q.wp.length t.wc, .int .i64 q.wq, .bool q.wr]] w (fun e w' => Kept [] w w' ∧ e = .returned (.bool (willB p q))) := by
 have HK : Kept [] w w := Kept.refl [] w
 refine C.enter Tryz.func76 rfl Tryz.ntmps76 rfl ?_
 intro a0 f0
 have f1 : Fr 33 a0 [(0, .agg #[.string p.wt, .slice s.wa p.wp.length s.wc, .int .i64 p.wq, .bool p.wr]), (1, .agg #[.string q.wt, .slice t.wa q.wp.length t.wc, .int .i64 q.wq, .bool q.wr])] := f0
 refine C.sk fun K0 hK0 => ?_
 refine L.box f1 wantedN (by decide) rfl rfl fun a2 w1 g0 N0 f2 => ?_
 have Bg0 := N0.blk
 have kg0 := N0.kept
 have log0 := N0.lo
 have ltg0 := Bg0.lt
 have szw1 := kg0.size
 have frg0 : w.heap.size ≤ g0 := Nat.le_trans HK.size log0
 replace HK := HK.z kg0
 clear f0 N0 kg0
 refine L.box f2 wantedN (by decide) rfl rfl fun a3 w2 g1 N1 f3 => ?_
 have Bg1 := N1.blk
 have kg1 := N1.kept
 have log1 := N1.lo
 have ltg1 := Bg1.lt
 have szw2 := kg1.size
 have frg1 : w.heap.size ≤ g1 := Nat.le_trans HK.size log1
 have neg0_g1 : g0 ≠ g1 := by have := Bg0.lt; omega
 replace HK := HK.z kg1
 replace Bg0 := Bg0.z kg1
 clear f1 a0 N1 kg1
 refine L.ag f3 fun a4 f4 => ?_
 have f5 := f4.pk [2, 3, 4]
 refine wn hK0 (C.sk fun K1 hK1 => ?_)
 refine L.va f5 (E.fa 0 f5 Tryz.underlying31 rfl wsz9_wa) fun a6 f6 => ?_
 refine L.ld f6 U9 Bg0 fun a7 f7 => ?_
 refine L.va f7 (E.fa 0 f7 Tryz.underlying31 rfl wsz9_wa) fun a8 f8 => ?_
 refine L.ld f8 U9 Bg1 fun a9 f9 => ?_
 refine L.va f9 (E.eqlS f9 rfl rfl) fun a10 f10 => ?_
 clear f2 a2 f3 a3 f4 f5 a4 f6 a6 f7 a7 f8 a8 f9 a9
 refine L.mv f10 fun a11 f11 => ?_
 clear f10 a10
 refine f11.splitD 10 rfl (fun h0 f12 => ?_) (fun h0 f12 => ?_)
 ·refine L.va f12 (E.fa 1 f12 Tryz.underlying31 rfl wsz28_wa) (hw := (f12.yes rfl rfl)) fun a13 f13 => ?_
  refine L.ld f13 U28 Bg0 (hw := (f13.yes rfl rfl)) fun a14 f14 => ?_
  refine L.va f14 (E.toStr f14 rfl U28 U5 U9 (IP.wp.kept HK)) (hw := (f14.yes rfl rfl)) fun a15 f15 => ?_
  refine L.va f15 (E.fa 1 f15 Tryz.underlying31 rfl wsz28_wa) (hw := (f15.yes rfl rfl)) fun a16 f16 => ?_
  refine L.ld f16 U28 Bg1 (hw := (f16.yes rfl rfl)) fun a17 f17 => ?_
  refine L.va f17 (E.toStr f17 rfl U28 U5 U9 (IQ.wp.kept HK)) (hw := (f17.yes rfl rfl)) fun a18 f18 => ?_
  refine L.va f18 (E.eqlS f18 rfl rfl) (hw := (f18.yes rfl rfl)) fun a19 f19 => ?_
  clear f11 f12 a11 f13 a13 f14 a14 f15 a15 f16 a16 f17 a17 f18 a18
  refine L.va f19 (E.pickT f19 rfl rfl) fun a20 f20 => ?_
  refine L.mv f20 fun a21 f21 => ?_
  clear f19 a19 f20 a20
  refine f21.splitD 19 rfl (fun h1 f22 => ?_) (fun h1 f22 => ?_)
  ·refine L.va f22 (E.fa 2 f22 Tryz.underlying31 rfl wsz3_wa) (hw := (f22.yes rfl rfl)) fun a23 f23 => ?_
   refine L.ld f23 U3 Bg0 (hw := (f23.yes rfl rfl)) fun a24 f24 => ?_
   refine L.va f24 (E.fa 2 f24 Tryz.underlying31 rfl wsz3_wa) (hw := (f24.yes rfl rfl)) fun a25 f25 => ?_
   refine L.ld f25 U3 Bg1 (hw := (f25.yes rfl rfl)) fun a26 f26 => ?_
   refine L.va f26 (E.eq f26) (hw := (f26.yes rfl rfl)) fun a27 f27 => ?_
   refine L.va f27 (E.pickT f27 rfl rfl) fun a28 f28 => ?_
   refine L.mv f28 fun a29 f29 => ?_
   clear f21 f22 a21 f23 a23 f24 a24 f25 a25 f26 a26 f27 a27 f28 a28
   refine f29.splitD 26 rfl (fun h2 f30 => ?_) (fun h2 f30 => ?_)
   ·refine L.va f30 (E.fa 3 f30 Tryz.underlying31 rfl wsz4_wa) (hw := (f30.yes rfl rfl)) fun a31 f31 => ?_
    refine L.ld f31 U4 Bg0 (hw := (f31.yes rfl rfl)) fun a32 f32 => ?_
    refine L.va f32 (E.fa 3 f32 Tryz.underlying31 rfl wsz4_wa) (hw := (f32.yes rfl rfl)) fun a33 f33 => ?_
    refine L.ld f33 U4 Bg1 (hw := (f33.yes rfl rfl)) fun a34 f34 => ?_
    refine L.va f34 (E.eqlB f34 U4 rfl rfl) (hw := (f34.yes rfl rfl)) fun a35 f35 => ?_
    refine L.va f35 (E.pickT f35 rfl rfl) fun a36 f36 => ?_
    refine L.ag f36 fun a37 f37 => ?_
    clear f29 f30 a29 f31 a31 f32 a32 f33 a33 f34 a34 f35 a35 f36 a36
    have f38 := f37.pk [4]
    refine wn hK1 (wp_ret ?_); (try simp only [xt, xb]); refine C.ret f38 rfl rfl ?_
    try simp only [bytes_eq] at *
    exact ⟨HK, by simp [willB, *]⟩
   refine L.run f30 (rest' := []) (by kernel_rfl) fun a31 f31 => ?_
   clear f29
   have f32 := f31.sub (sv 4 (.bool false) sn)
   refine wn hK1 (wp_ret ?_); (try simp only [xt, xb]); refine C.ret f32 rfl rfl ?_
   try simp only [bytes_eq] at *
   exact ⟨HK, by simp [willB, *]⟩
  refine L.run f22 (rest' := []) (by kernel_rfl) fun a23 f23 => ?_
  clear f21
  have f24 := f23.sub (sv 4 (.bool false) sn)
  refine wn hK1 (wp_ret ?_); (try simp only [xt, xb]); refine C.ret f24 rfl rfl ?_
  try simp only [bytes_eq] at *
  exact ⟨HK, by simp [willB, *]⟩
 refine L.run f12 (rest' := []) (by kernel_rfl) fun a13 f13 => ?_
 clear f11
 have f14 := f13.sub (sv 4 (.bool false) sn)
 refine wn hK1 (wp_ret ?_); (try simp only [xt, xb]); refine C.ret f14 rfl rfl ?_
 try simp only [bytes_eq] at *
 exact ⟨HK, by simp [willB, *]⟩
end Go.Proofs.YtdfllmiokgoekaaGreatDoor
namespace Go.Proofs.YtdfllmiokgoekaaGreatDoor
open Go.RowKit Go.Hub Go.Lib
theorem wsz3_wb : (Tryz.prog.info? 3).map (·.size) = some 1 := by kernel_rfl
theorem wsz4_wb : (Tryz.prog.info? 4).map (·.size) = some 1 := by kernel_rfl
theorem wsz9_wb : (Tryz.prog.info? 9).map (·.size) = some 1 := by kernel_rfl
theorem wsz28_wb : (Tryz.prog.info? 28).map (·.size) = some 1 := by kernel_rfl
theorem wsz31_wb : (Tryz.prog.info? 31).map (·.size) = some 4 := by kernel_rfl
theorem wsz32_wb : (Tryz.prog.info? 32).map (·.size) = some 1 := by kernel_rfl
theorem wsz33_wb : (Tryz.prog.info? 33).map (·.size) = some 1 := by kernel_rfl
theorem wsz66_wb : (Tryz.prog.info? 66).map (·.size) = some 2 := by kernel_rfl
theorem same_eq (p q : Pk) : samePk p q = (decide (p.kind = q.kind) && (p.dup == q.dup) && (p.retain == q.retain) && decide (p.qos = q.qos) && decide (p.id = q.id) && decide (p.topic = q.topic) && decide (p.pay = q.pay) && greetB p q && willB p q && decide (p.subs = q.subs) && decide (p.codes = q.codes)) := rfl
theorem willB_refl (p : Pk) : willB p p = true := by simp [willB]
theorem will_row {w : World} {g : Nat} {t : TypeId} {p : Pk} {s : Ad} (B : Blk w g t (p.cells s)) : w.rangeAt g (0 + 12) [.string p.wt, .slice s.wa p.wp.length s.wc, .int .i64 p.wq, .bool p.wr] := fun j u hj => by
  match j, hj with
  | 0, hj => simp at hj; subst hj; exact B.cl rfl
  | 1, hj => simp at hj; subst hj; exact B.cl rfl
  | 2, hj => simp at hj; subst hj; exact B.cl rfl
  | 3, hj => simp at hj; subst hj; exact B.cl rfl
  | j + 4, hj => simp at hj
theorem sameR_any (p q : Pk) (s t : Ad) (w : World) (IP : p.In w s) (IQ : q.In w t) (hl : p.subs.length ≤ 1000000) (hl2 : p.codes.length ≤ 1000000) : Calls Tryz.prog 49 #[.agg (p.cells s), .agg (q.cells t)] w (fun e w' => Kept [] w w' ∧ e = .returned (.bool (samePk p q))) := by
 have HK : Kept [] w w := Kept.refl [] w
 refine C.enter Tryz.func49 rfl Tryz.ntmps49 rfl ?_
 intro a0 f0
 have f1 : Fr 195 a0 [(0, .agg (p.cells s)), (1, .agg (q.cells t))] := f0
 refine C.sk fun K0 hK0 => ?_
 refine L.box f1 wantedN (by decide) rfl rfl fun a2 w1 g0 N0 f2 => ?_
 have Bg0 := N0.blk
 have kg0 := N0.kept
 have log0 := N0.lo
 have ltg0 := Bg0.lt
 have szw1 := kg0.size
 have frg0 : w.heap.size ≤ g0 := Nat.le_trans HK.size log0
 replace HK := HK.z kg0
 clear f0 N0 kg0
 refine L.box f2 wantedN (by decide) rfl rfl fun a3 w2 g1 N1 f3 => ?_
 have Bg1 := N1.blk
 have kg1 := N1.kept
 have log1 := N1.lo
 have ltg1 := Bg1.lt
 have szw2 := kg1.size
 have frg1 : w.heap.size ≤ g1 := Nat.le_trans HK.size log1
 have neg0_g1 : g0 ≠ g1 := by have := Bg0.lt; omega
 replace HK := HK.z kg1
 replace Bg0 := Bg0.z kg1
 clear f1 a0 N1 kg1
 refine L.ag f3 fun a4 f4 => ?_
 refine wn hK0 ?_
 have f5 := f4.pk [2, 3]
 obtain ⟨J3, hJ3⟩ : ∃ J : Act → World → Prop, J = fun a W => Kept [] w W ∧ Blk W g0 35 (p.cells s) ∧ Blk W g1 35 (q.cells t) ∧ (p.subs.length = q.subs.length ∧ p.codes.length = q.codes.length ∧ p.pay = q.pay ∧ p.pass = q.pass ∧ willB p q = true) ∧ Fr 195 a [(2, .pointer (some ⟨g0, 0, none⟩)), (3, .pointer (some ⟨g1, 0, none⟩))] := ⟨_, rfl⟩
 clear f2 a2 f3 a3 f4
 refine C.cut J3 ?_ ?_
 ·skip
  refine C.sk fun K1 hK1 => ?_
  refine L.fa 22 f5 U35 rfl wsz32_wb fun a6 f6 => ?_
  refine L.ld f6 U32 Bg0 fun a7 f7 => ?_
  refine L.va f7 (E.lenL f7 U32 rfl) fun a8 f8 => ?_
  refine L.fa 22 f8 U35 rfl wsz32_wb fun a9 f9 => ?_
  refine L.ld f9 U32 Bg1 fun a10 f10 => ?_
  refine L.va f10 (E.lenL f10 U32 rfl) fun a11 f11 => ?_
  refine L.va f11 (E.neq f11 rfl rfl) fun a12 f12 => ?_
  clear f5 a4 f6 a6 f7 a7 f8 a8 f9 a9 f10 a10 f11 a11
  refine L.mv f12 fun a13 f13 => ?_
  clear f12 a12
  refine f13.splitN 14 rfl (fun h0 f14 => ?_) (fun h0 f14 => ?_)
  ·refine L.run f14 (rest' := []) (by kernel_rfl) fun a15 f15 => ?_
   clear f13
   refine wn hK1 ?_
   have f16 := f15.sub (sv 48 (.bool true) (pkR f15 [2, 3]))
   refine C.condT f16 rfl ?_
   refine C.sk fun K2 hK2 => ?_
   refine L.ag f16 fun a17 f17 => ?_
   have f18 := f17.pk [4]
   refine wn hK2 (wp_ret ?_); (try simp only [xt, xb]); refine C.ret f18 rfl rfl ?_
   refine ⟨HK, ?_⟩
   rw [samePk_f (p := p) (q := q) (fun e => by subst e; (apply absurd rfl; assumption))]
  refine L.fa 23 f14 U35 rfl wsz33_wb (hw := (f14.yes rfl rfl)) fun a15 f15 => ?_
  refine L.ld f15 U33 Bg0 (hw := (f15.yes rfl rfl)) fun a16 f16 => ?_
  refine L.va f16 (E.lenL f16 U33 rfl) (hw := (f16.yes rfl rfl)) fun a17 f17 => ?_
  refine L.fa 23 f17 U35 rfl wsz33_wb (hw := (f17.yes rfl rfl)) fun a18 f18 => ?_
  refine L.ld f18 U33 Bg1 (hw := (f18.yes rfl rfl)) fun a19 f19 => ?_
  refine L.va f19 (E.lenL f19 U33 rfl) (hw := (f19.yes rfl rfl)) fun a20 f20 => ?_
  refine L.va f20 (E.neq f20 rfl rfl) (hw := (f20.yes rfl rfl)) fun a21 f21 => ?_
  clear f13 f14 a13 f15 a15 f16 a16 f17 a17 f18 a18 f19 a19 f20 a20
  refine L.va f21 (E.pickF f21 rfl rfl) fun a22 f22 => ?_
  refine L.mv f22 fun a23 f23 => ?_
  clear f21 a21 f22 a22
  refine f23.splitN 23 rfl (fun h1 f24 => ?_) (fun h1 f24 => ?_)
  ·refine L.run f24 (rest' := []) (by kernel_rfl) fun a25 f25 => ?_
   clear f23
   refine wn hK1 ?_
   have f26 := f25.sub (sv 48 (.bool true) (pkR f25 [2, 3]))
   refine C.condT f26 rfl ?_
   refine C.sk fun K3 hK3 => ?_
   refine L.ag f26 fun a27 f27 => ?_
   have f28 := f27.pk [4]
   refine wn hK3 (wp_ret ?_); (try simp only [xt, xb]); refine C.ret f28 rfl rfl ?_
   refine ⟨HK, ?_⟩
   rw [samePk_f (p := p) (q := q) (fun e => by subst e; (apply absurd rfl; assumption))]
  refine L.fa 6 f24 U35 rfl wsz28_wb (hw := (f24.yes rfl rfl)) fun a25 f25 => ?_
  refine L.ld f25 U28 Bg0 (hw := (f25.yes rfl rfl)) fun a26 f26 => ?_
  refine L.va f26 (E.toStr f26 rfl U28 U5 U9 (IP.pay.kept HK)) (hw := (f26.yes rfl rfl)) fun a27 f27 => ?_
  refine L.fa 6 f27 U35 rfl wsz28_wb (hw := (f27.yes rfl rfl)) fun a28 f28 => ?_
  refine L.ld f28 U28 Bg1 (hw := (f28.yes rfl rfl)) fun a29 f29 => ?_
  refine L.va f29 (E.toStr f29 rfl U28 U5 U9 (IQ.pay.kept HK)) (hw := (f29.yes rfl rfl)) fun a30 f30 => ?_
  refine L.va f30 (E.neqS f30 rfl rfl) (hw := (f30.yes rfl rfl)) fun a31 f31 => ?_
  clear f23 f24 a23 f25 a25 f26 a26 f27 a27 f28 a28 f29 a29 f30 a30
  refine L.va f31 (E.pickF f31 rfl rfl) fun a32 f32 => ?_
  refine L.mv f32 fun a33 f33 => ?_
  clear f31 a31 f32 a32
  refine f33.splitN 32 rfl (fun h2 f34 => ?_) (fun h2 f34 => ?_)
  ·refine L.run f34 (rest' := []) (by kernel_rfl) fun a35 f35 => ?_
   clear f33
   refine wn hK1 ?_
   have f36 := f35.sub (sv 48 (.bool true) (pkR f35 [2, 3]))
   refine C.condT f36 rfl ?_
   refine C.sk fun K4 hK4 => ?_
   refine L.ag f36 fun a37 f37 => ?_
   have f38 := f37.pk [4]
   refine wn hK4 (wp_ret ?_); (try simp only [xt, xb]); refine C.ret f38 rfl rfl ?_
   refine ⟨HK, ?_⟩
   rw [samePk_f (p := p) (q := q) (fun e => by subst e; (apply absurd rfl; assumption))]
  have hpay := bytes_eq.1 h2
  refine L.fa 19 f34 U35 rfl wsz28_wb (hw := (f34.yes rfl rfl)) fun a35 f35 => ?_
  refine L.ld f35 U28 Bg0 (hw := (f35.yes rfl rfl)) fun a36 f36 => ?_
  refine L.va f36 (E.toStr f36 rfl U28 U5 U9 (IP.pass.kept HK)) (hw := (f36.yes rfl rfl)) fun a37 f37 => ?_
  refine L.fa 19 f37 U35 rfl wsz28_wb (hw := (f37.yes rfl rfl)) fun a38 f38 => ?_
  refine L.ld f38 U28 Bg1 (hw := (f38.yes rfl rfl)) fun a39 f39 => ?_
  refine L.va f39 (E.toStr f39 rfl U28 U5 U9 (IQ.pass.kept HK)) (hw := (f39.yes rfl rfl)) fun a40 f40 => ?_
  refine L.va f40 (E.neqS f40 rfl rfl) (hw := (f40.yes rfl rfl)) fun a41 f41 => ?_
  clear f33 f34 a33 f35 a35 f36 a36 f37 a37 f38 a38 f39 a39 f40 a40
  refine L.va f41 (E.pickF f41 rfl rfl) fun a42 f42 => ?_
  refine L.mv f42 fun a43 f43 => ?_
  clear f41 a41 f42 a42
  refine f43.splitN 41 rfl (fun h3 f44 => ?_) (fun h3 f44 => ?_)
  ·refine L.run f44 (rest' := []) (by kernel_rfl) fun a45 f45 => ?_
   clear f43
   refine wn hK1 ?_
   have f46 := f45.sub (sv 48 (.bool true) (pkR f45 [2, 3]))
   refine C.condT f46 rfl ?_
   refine C.sk fun K5 hK5 => ?_
   refine L.ag f46 fun a47 f47 => ?_
   have f48 := f47.pk [4]
   refine wn hK5 (wp_ret ?_); (try simp only [xt, xb]); refine C.ret f48 rfl rfl ?_
   refine ⟨HK, ?_⟩
   rw [samePk_f (p := p) (q := q) (fun e => by subst e; (apply absurd rfl; assumption))]
  have hpass := bytes_eq.1 h3
  refine L.fa 12 f44 U35 rfl wsz31_wb (hw := (f44.yes rfl rfl)) fun a45 f45 => ?_
  refine L.va f45 (E.loadR f45 Tryz.underlying31 rfl wsz31_wb rfl (will_row Bg0) rfl) (hw := (f45.yes rfl rfl)) fun a46 f46 => ?_
  refine L.fa 12 f46 U35 rfl wsz31_wb (hw := (f46.yes rfl rfl)) fun a47 f47 => ?_
  refine L.va f47 (E.loadR f47 Tryz.underlying31 rfl wsz31_wb rfl (will_row Bg1) rfl) (hw := (f47.yes rfl rfl)) fun a48 f48 => ?_
  refine L.cl f48 (run_call Tryz.call76 (args2 f48 rfl rfl)) (willsR_any p q s t _ (IP.kept HK) (IQ.kept HK)) ?_ (hw := (f48.yes rfl rfl))
  clear f43 f44 a43 f45 a45 f46 a46 f47 a47
  rintro e w3 ⟨kc3, rfl⟩
  refine ⟨_, rfl, fun a49 f49 => ?_⟩
  have szw3 := kc3.size
  replace HK := HK.z kc3
  replace Bg0 := Bg0.z kc3
  replace Bg1 := Bg1.z kc3
  clear f48 a48 kc3
  refine L.va f49 (E.not f49 rfl) (hw := (f49.yes rfl rfl)) fun a50 f50 => ?_
  refine L.va f50 (E.pickF f50 rfl rfl) fun a51 f51 => ?_
  refine wn hK1 ?_
  have f52 := f51.pk [2, 3, 48]
  clear f49 a49 f50 a50 f51
  refine f52.splitNB 48 rfl (fun h4 f53 => ?_) (fun h4 f53 => ?_)
  ·refine C.condT f53 rfl ?_
   refine C.sk fun K6 hK6 => ?_
   refine L.ag f53 fun a54 f54 => ?_
   have f55 := f54.pk [4]
   refine wn hK6 (wp_ret ?_); (try simp only [xt, xb]); refine C.ret f55 rfl rfl ?_
   refine ⟨HK, ?_⟩
   rw [samePk_f (p := p) (q := q) (fun e => by subst e; (rw [willB_refl] at *; contradiction))]
  refine C.condF f53 rfl ?_
  exact wp_skip (jK J3 (by rw [hJ3]; exact ⟨HK, Bg0, Bg1, ⟨by omega, by omega, hpay, hpass, by assumption⟩, f53.sub (sx (sx sn))⟩))
 intro a6 w3 hj
 rw [hJ3] at hj
 clear hJ3 J3
 obtain ⟨HK, Bg0, Bg1, ⟨hls, hlc, hpay, hpass, hwl⟩, f6⟩ := hj
 try clear f5
 obtain ⟨J8, hJ8⟩ : ∃ J : Act → World → Prop, J = fun a W => Kept [] w W ∧ Blk W g0 35 (p.cells s) ∧ Blk W g1 35 (q.cells t) ∧ p.subs = q.subs ∧ Fr 195 a [(2, .pointer (some ⟨g0, 0, none⟩)), (3, .pointer (some ⟨g1, 0, none⟩))] := ⟨_, rfl⟩
 refine C.cut J8 ?_ ?_
 ·skip
  refine C.sk fun K7 hK7 => ?_
  refine L.ag f6 fun a7 f7 => ?_
  refine wn hK7 ?_
  have f8 := f7.pk [2, 3, 5]
  refine wp_block ?_
  clear f6 a6 f7
  refine C.loop (fun gk a W => ∃ k : Nat, k + gk = p.subs.length ∧ Kept [] w W ∧ Blk W g0 35 (p.cells s) ∧ Blk W g1 35 (q.cells t) ∧ p.subs.take k = q.subs.take k ∧ Fr 195 a [(2, .pointer (some ⟨g0, 0, none⟩)), (3, .pointer (some ⟨g1, 0, none⟩)), (5, .int .i64 k)]) (p.subs.length) ?_ ?_
  ·exact ⟨0, by omega, HK, Bg0, Bg1, rfl, f8.sub (sx (sx (sx sn)))⟩
  intro gk9 a9 w4 hI KL8 hKL8
  obtain ⟨k, hk, HK, Bg0, Bg1, hq0, f9⟩ := hI
  try clear f8
  refine wp_seq_k fun K9 hK9 => C.sk fun K10 hK10 => ?_
  refine L.mv f9 fun a10 f10 => ?_
  refine L.fa 22 f10 U35 rfl wsz32_wb fun a11 f11 => ?_
  refine L.ld f11 U32 Bg0 fun a12 f12 => ?_
  refine L.va f12 (E.lenL f12 U32 rfl) fun a13 f13 => ?_
  refine L.va f13 (E.lss f13 rfl rfl) fun a14 f14 => ?_
  refine wn hK10 ?_
  have f15 := f14.pk [2, 3, 5, 53]
  clear f9 a9 f10 a10 f11 a11 f12 a12 f13 a13 f14
  refine f15.splitD 53 rfl (fun h5 f16 => ?_) (fun h5 f16 => ?_)
  ·obtain ⟨d, hd⟩ := some_at p.subs k (by omega)
   obtain ⟨bk, off, hA⟩ := IP.subs.addr (by omega)
   obtain ⟨d', hd'⟩ := some_at q.subs k (by omega)
   obtain ⟨bk', off', hA'⟩ := IQ.subs.addr (by omega)
   refine C.condT f16 rfl ?_
   refine wp_skip (hK9 _ _ ?_)
   have f17 := f16.pk [2, 3, 5]
   refine wp_seq_k fun K11 hK11 => ?_
   refine wp_block ?_
   refine wp_seq_k fun K12 hK12 => ?_
   refine R.beginT (S := fun W => Kept [] w4 W) (by kernel_rfl) (by kernel_rfl) (by exact (Kept.refl _ _).drewN 1) fun ht => ?_
   have hS6 : Kept [] w4 (w4.drewN 1) := (Kept.refl _ _).drewN 1
   have hd6 : Kept [] w4 (w4.drewN 1) := (Kept.refl _ _).drewN 1
   obtain ⟨w5, hww5⟩ : ∃ W, W = w4.drewN 1 := ⟨_, rfl⟩
   rw [← hww5] at hS6 hd6 ⊢
   clear f15 f16 hww5
   have szw5 := hS6.size
   refine R.u 0 f17 rfl ht hS6 (fun W hW => (E.fa 22 f17 U35 rfl wsz32_wb)) fun a18 f18 => ?_
   refine R.u 1 f18 rfl ht hS6 (fun W hW => (E.ld f18 U32 (Bg0.z hW))) fun a19 f19 => ?_
   refine R.u 2 f19 rfl ht hS6 (fun W hW => (E.move f19 rfl)) fun a20 f20 => ?_
   refine R.u 3 f20 rfl ht hS6 (fun W hW => (E.indexA f20 (by assumption) U32 wsz66_wb rfl rfl (by omega) (by omega))) fun a21 f21 => ?_
   refine R.u 4 f21 rfl ht hS6 (fun W hW => (E.loadR f21 U66 rfl wsz66_wb rfl (sub_row (IP.subs.kept (HK.z hW)) hA hd) rfl)) fun a22 f22 => ?_
   refine R.u 5 f22 rfl ht hS6 (fun W hW => (E.fa 22 f22 U35 rfl wsz32_wb)) fun a23 f23 => ?_
   refine R.u 6 f23 rfl ht hS6 (fun W hW => (E.ld f23 U32 (Bg1.z hW))) fun a24 f24 => ?_
   clear f17 a14 f18 a18 f19 a19 f20 a20 f21 a21 f22 a22 f23 a23
   refine R.u 7 f24 rfl ht hS6 (fun W hW => (E.move f24 rfl)) fun a25 f25 => ?_
   refine R.u 8 f25 rfl ht hS6 (fun W hW => (E.indexA f25 (by assumption) U32 wsz66_wb rfl rfl (by omega) (by omega))) fun a26 f26 => ?_
   refine R.u 9 f26 rfl ht hS6 (fun W hW => (E.loadR f26 U66 rfl wsz66_wb rfl (sub_row (IQ.subs.kept (HK.z hW)) hA' hd') rfl)) fun a27 f27 => ?_
   refine R.u 10 f27 rfl ht hS6 (fun W hW => (E.neqV f27 rfl rfl (neqSub _ _ _ _ _ _))) fun a28 f28 => ?_
   have szw5r := hS6.size
   replace HK := HK.trans hS6 (by simp)
   replace Bg0 := Bg0.z hS6
   replace Bg1 := Bg1.z hS6
   clear f24 a24 f25 a25 f26 a26 f27 a27 hS6
   refine R.done (by kernel_rfl) (hK12 _ _ ?_)
   have f29 := f28.pk [2, 3, 5, 66]
   clear f28
   refine f29.splitN 66 rfl (fun h6 f30 => ?_) (fun h6 f30 => ?_)
   ·refine C.condT f30 rfl ?_
    refine C.sk fun K13 hK13 => ?_
    refine L.ag f30 fun a31 f31 => ?_
    have f32 := f31.pk [4]
    refine wn hK13 (wp_ret ?_); (try simp only [xt, xb]); refine C.ret f32 rfl rfl ?_
    refine ⟨HK, ?_⟩
    rw [samePk_f (p := p) (q := q) (fun e => by subst e; (rw [hd] at hd'; cases hd'; apply absurd rfl; assumption))]
   have heq0 := h6
   refine C.condF f30 rfl ?_
   refine wp_skip (hK11 _ _ ?_)
   have f31 := f30.pk [2, 3, 5]
   refine C.region ?_
   refine L.mv f31 fun a32 f32 => ?_
   refine L.va f32 (E.add f32 rfl rfl (IntWalk.i64_in _ (by omega))) fun a33 f33 => ?_
   refine L.ag f33 fun a34 f34 => ?_
   clear f29 f30 f31 a28 f32 a32 f33 a33
   refine wpList_nil (hKL8 _ _ (gk9 - 1) ?_ ?_)
   ·omega
   exact ⟨k + 1, by omega, HK, Bg0, Bg1, eq_take hq0 hd hd' heq0, f34.sub (sx (sx (sx sn)))⟩
  have hsubs : p.subs = q.subs := by rw [List.take_of_length_le (by omega), List.take_of_length_le (by omega)] at hq0; exact hq0
  refine C.condF f16 rfl ?_
  exact wp_exit (jK J8 (by rw [hJ8]; exact ⟨HK, Bg0, Bg1, hsubs, f16.sub (sx (sx sn))⟩))
 intro a7 w4 hj
 rw [hJ8] at hj
 clear hJ8 J8
 obtain ⟨HK, Bg0, Bg1, hsubs, f7⟩ := hj
 try clear f6
 obtain ⟨J13, hJ13⟩ : ∃ J : Act → World → Prop, J = fun a W => Kept [] w W ∧ Blk W g0 35 (p.cells s) ∧ Blk W g1 35 (q.cells t) ∧ p.codes = q.codes ∧ Fr 195 a [(2, .pointer (some ⟨g0, 0, none⟩)), (3, .pointer (some ⟨g1, 0, none⟩))] := ⟨_, rfl⟩
 refine C.cut J13 ?_ ?_
 ·skip
  refine C.sk fun K14 hK14 => ?_
  refine L.ag f7 fun a8 f8 => ?_
  refine wn hK14 ?_
  have f9 := f8.pk [2, 3, 6]
  refine wp_block ?_
  clear f7 a7 f8
  refine C.loop (fun gk a W => ∃ k : Nat, k + gk = p.codes.length ∧ Kept [] w W ∧ Blk W g0 35 (p.cells s) ∧ Blk W g1 35 (q.cells t) ∧ p.codes.take k = q.codes.take k ∧ Fr 195 a [(2, .pointer (some ⟨g0, 0, none⟩)), (3, .pointer (some ⟨g1, 0, none⟩)), (6, .int .i64 k)]) (p.codes.length) ?_ ?_
  ·exact ⟨0, by omega, HK, Bg0, Bg1, rfl, f9.sub (sx (sx (sx sn)))⟩
  intro gk16 a10 w5 hI KL15 hKL15
  obtain ⟨k, hk, HK, Bg0, Bg1, hq1, f10⟩ := hI
  try clear f9
  refine wp_seq_k fun K16 hK16 => C.sk fun K17 hK17 => ?_
  refine L.mv f10 fun a11 f11 => ?_
  refine L.fa 23 f11 U35 rfl wsz33_wb fun a12 f12 => ?_
  refine L.ld f12 U33 Bg0 fun a13 f13 => ?_
  refine L.va f13 (E.lenL f13 U33 rfl) fun a14 f14 => ?_
  refine L.va f14 (E.lss f14 rfl rfl) fun a15 f15 => ?_
  refine wn hK17 ?_
  have f16 := f15.pk [2, 3, 6, 71]
  clear f10 a10 f11 a11 f12 a12 f13 a13 f14 a14 f15
  refine f16.splitD 71 rfl (fun h7 f17 => ?_) (fun h7 f17 => ?_)
  ·obtain ⟨d, hd⟩ := some_at p.codes k (by omega)
   obtain ⟨bk, off, hA⟩ := IP.codes.addr (by omega)
   obtain ⟨d', hd'⟩ := some_at q.codes k (by omega)
   obtain ⟨bk', off', hA'⟩ := IQ.codes.addr (by omega)
   refine C.condT f17 rfl ?_
   refine wp_skip (hK16 _ _ ?_)
   have f18 := f17.pk [2, 3, 6]
   refine wp_seq_k fun K18 hK18 => ?_
   refine wp_block ?_
   refine wp_seq_k fun K19 hK19 => ?_
   refine R.beginT (S := fun W => Kept [] w5 W) (by kernel_rfl) (by kernel_rfl) (by exact (Kept.refl _ _).drewN 1) fun ht => ?_
   have hS11 : Kept [] w5 (w5.drewN 1) := (Kept.refl _ _).drewN 1
   have hd11 : Kept [] w5 (w5.drewN 1) := (Kept.refl _ _).drewN 1
   obtain ⟨w6, hww6⟩ : ∃ W, W = w5.drewN 1 := ⟨_, rfl⟩
   rw [← hww6] at hS11 hd11 ⊢
   clear f16 f17 hww6
   have szw6 := hS11.size
   refine R.u 0 f18 rfl ht hS11 (fun W hW => (E.fa 23 f18 U35 rfl wsz33_wb)) fun a19 f19 => ?_
   refine R.u 1 f19 rfl ht hS11 (fun W hW => (E.ld f19 U33 (Bg0.z hW))) fun a20 f20 => ?_
   refine R.u 2 f20 rfl ht hS11 (fun W hW => (E.move f20 rfl)) fun a21 f21 => ?_
   refine R.u 3 f21 rfl ht hS11 (fun W hW => (E.indexA f21 (by assumption) U33 wsz3_wb rfl rfl (by omega) (by omega))) fun a22 f22 => ?_
   refine R.u 4 f22 rfl ht hS11 (fun W hW => (E.load f22 U3 rfl rfl (code_cell1 (IP.codes.kept (HK.z hW)) hA hd))) fun a23 f23 => ?_
   refine R.u 5 f23 rfl ht hS11 (fun W hW => (E.fa 23 f23 U35 rfl wsz33_wb)) fun a24 f24 => ?_
   refine R.u 6 f24 rfl ht hS11 (fun W hW => (E.ld f24 U33 (Bg1.z hW))) fun a25 f25 => ?_
   clear f18 a15 f19 a19 f20 a20 f21 a21 f22 a22 f23 a23 f24 a24
   refine R.u 7 f25 rfl ht hS11 (fun W hW => (E.move f25 rfl)) fun a26 f26 => ?_
   refine R.u 8 f26 rfl ht hS11 (fun W hW => (E.indexA f26 (by assumption) U33 wsz3_wb rfl rfl (by omega) (by omega))) fun a27 f27 => ?_
   refine R.u 9 f27 rfl ht hS11 (fun W hW => (E.load f27 U3 rfl rfl (code_cell1 (IQ.codes.kept (HK.z hW)) hA' hd'))) fun a28 f28 => ?_
   refine R.u 10 f28 rfl ht hS11 (fun W hW => (E.neq f28 rfl rfl)) fun a29 f29 => ?_
   have szw6r := hS11.size
   replace HK := HK.trans hS11 (by simp)
   replace Bg0 := Bg0.z hS11
   replace Bg1 := Bg1.z hS11
   clear f25 a25 f26 a26 f27 a27 f28 a28 hS11
   refine R.done (by kernel_rfl) (hK19 _ _ ?_)
   have f30 := f29.pk [2, 3, 6, 84]
   clear f29
   refine f30.splitN 84 rfl (fun h8 f31 => ?_) (fun h8 f31 => ?_)
   ·refine C.condT f31 rfl ?_
    refine C.sk fun K20 hK20 => ?_
    refine L.ag f31 fun a32 f32 => ?_
    have f33 := f32.pk [4]
    refine wn hK20 (wp_ret ?_); (try simp only [xt, xb]); refine C.ret f33 rfl rfl ?_
    refine ⟨HK, ?_⟩
    rw [samePk_f (p := p) (q := q) (fun e => by subst e; (rw [hd] at hd'; cases hd'; apply absurd rfl; assumption))]
   have heq1 := h8
   refine C.condF f31 rfl ?_
   refine wp_skip (hK18 _ _ ?_)
   have f32 := f31.pk [2, 3, 6]
   refine C.region ?_
   refine L.mv f32 fun a33 f33 => ?_
   refine L.va f33 (E.add f33 rfl rfl (IntWalk.i64_in _ (by omega))) fun a34 f34 => ?_
   refine L.ag f34 fun a35 f35 => ?_
   clear f30 f31 f32 a29 f33 a33 f34 a34
   refine wpList_nil (hKL15 _ _ (gk16 - 1) ?_ ?_)
   ·omega
   exact ⟨k + 1, by omega, HK, Bg0, Bg1, eq_take hq1 hd hd' heq1, f35.sub (sx (sx (sx sn)))⟩
  have hcodes : p.codes = q.codes := by rw [List.take_of_length_le (by omega), List.take_of_length_le (by omega)] at hq1; exact hq1
  refine C.condF f17 rfl ?_
  exact wp_exit (jK J13 (by rw [hJ13]; exact ⟨HK, Bg0, Bg1, hcodes, f17.sub (sx (sx sn))⟩))
 intro a8 w5 hj
 rw [hJ13] at hj
 clear hJ13 J13
 obtain ⟨HK, Bg0, Bg1, hcodes, f8⟩ := hj
 try clear f7
 refine C.sk fun K21 hK21 => ?_
 refine L.fa 0 f8 U35 rfl wsz3_wb fun a9 f9 => ?_
 refine L.ld f9 U3 Bg0 fun a10 f10 => ?_
 refine L.fa 0 f10 U35 rfl wsz3_wb fun a11 f11 => ?_
 refine L.ld f11 U3 Bg1 fun a12 f12 => ?_
 refine L.va f12 (E.eq f12) fun a13 f13 => ?_
 refine L.mv f13 fun a14 f14 => ?_
 clear f8 a8 f9 a9 f10 a10 f11 a11 f12 a12 f13 a13
 refine f14.splitD 90 rfl (fun h9 f15 => ?_) (fun h9 f15 => ?_)
 ·refine L.fa 1 f15 U35 rfl wsz4_wb (hw := (f15.yes rfl rfl)) fun a16 f16 => ?_
  refine L.ld f16 U4 Bg0 (hw := (f16.yes rfl rfl)) fun a17 f17 => ?_
  refine L.fa 1 f17 U35 rfl wsz4_wb (hw := (f17.yes rfl rfl)) fun a18 f18 => ?_
  refine L.ld f18 U4 Bg1 (hw := (f18.yes rfl rfl)) fun a19 f19 => ?_
  refine L.va f19 (E.eqlB f19 U4 rfl rfl) (hw := (f19.yes rfl rfl)) fun a20 f20 => ?_
  refine L.va f20 (E.pickT f20 rfl rfl) fun a21 f21 => ?_
  refine L.mv f21 fun a22 f22 => ?_
  clear f14 f15 a14 f16 a16 f17 a17 f18 a18 f19 a19 f20 a20 f21 a21
  refine f22.splitD 97 rfl (fun h10 f23 => ?_) (fun h10 f23 => ?_)
  ·refine L.fa 2 f23 U35 rfl wsz4_wb (hw := (f23.yes rfl rfl)) fun a24 f24 => ?_
   refine L.ld f24 U4 Bg0 (hw := (f24.yes rfl rfl)) fun a25 f25 => ?_
   refine L.fa 2 f25 U35 rfl wsz4_wb (hw := (f25.yes rfl rfl)) fun a26 f26 => ?_
   refine L.ld f26 U4 Bg1 (hw := (f26.yes rfl rfl)) fun a27 f27 => ?_
   refine L.va f27 (E.eqlB f27 U4 rfl rfl) (hw := (f27.yes rfl rfl)) fun a28 f28 => ?_
   refine L.va f28 (E.pickT f28 rfl rfl) fun a29 f29 => ?_
   refine L.mv f29 fun a30 f30 => ?_
   clear f22 f23 a22 f24 a24 f25 a25 f26 a26 f27 a27 f28 a28 f29 a29
   refine f30.splitD 104 rfl (fun h11 f31 => ?_) (fun h11 f31 => ?_)
   ·refine L.fa 3 f31 U35 rfl wsz3_wb (hw := (f31.yes rfl rfl)) fun a32 f32 => ?_
    refine L.ld f32 U3 Bg0 (hw := (f32.yes rfl rfl)) fun a33 f33 => ?_
    refine L.fa 3 f33 U35 rfl wsz3_wb (hw := (f33.yes rfl rfl)) fun a34 f34 => ?_
    refine L.ld f34 U3 Bg1 (hw := (f34.yes rfl rfl)) fun a35 f35 => ?_
    refine L.va f35 (E.eq f35) (hw := (f35.yes rfl rfl)) fun a36 f36 => ?_
    refine L.va f36 (E.pickT f36 rfl rfl) fun a37 f37 => ?_
    refine L.mv f37 fun a38 f38 => ?_
    clear f30 f31 a30 f32 a32 f33 a33 f34 a34 f35 a35 f36 a36 f37 a37
    refine f38.splitD 111 rfl (fun h12 f39 => ?_) (fun h12 f39 => ?_)
    ·refine L.fa 4 f39 U35 rfl wsz3_wb (hw := (f39.yes rfl rfl)) fun a40 f40 => ?_
     refine L.ld f40 U3 Bg0 (hw := (f40.yes rfl rfl)) fun a41 f41 => ?_
     refine L.fa 4 f41 U35 rfl wsz3_wb (hw := (f41.yes rfl rfl)) fun a42 f42 => ?_
     refine L.ld f42 U3 Bg1 (hw := (f42.yes rfl rfl)) fun a43 f43 => ?_
     refine L.va f43 (E.eq f43) (hw := (f43.yes rfl rfl)) fun a44 f44 => ?_
     refine L.va f44 (E.pickT f44 rfl rfl) fun a45 f45 => ?_
     refine L.mv f45 fun a46 f46 => ?_
     clear f38 f39 a38 f40 a40 f41 a41 f42 a42 f43 a43 f44 a44 f45 a45
     refine f46.splitD 118 rfl (fun h13 f47 => ?_) (fun h13 f47 => ?_)
     ·refine L.fa 5 f47 U35 rfl wsz9_wb (hw := (f47.yes rfl rfl)) fun a48 f48 => ?_
      refine L.ld f48 U9 Bg0 (hw := (f48.yes rfl rfl)) fun a49 f49 => ?_
      refine L.fa 5 f49 U35 rfl wsz9_wb (hw := (f49.yes rfl rfl)) fun a50 f50 => ?_
      refine L.ld f50 U9 Bg1 (hw := (f50.yes rfl rfl)) fun a51 f51 => ?_
      refine L.va f51 (E.eqlS f51 rfl rfl) (hw := (f51.yes rfl rfl)) fun a52 f52 => ?_
      refine L.va f52 (E.pickT f52 rfl rfl) fun a53 f53 => ?_
      refine L.mv f53 fun a54 f54 => ?_
      clear f46 f47 a46 f48 a48 f49 a49 f50 a50 f51 a51 f52 a52 f53 a53
      refine f54.splitD 125 rfl (fun h14 f55 => ?_) (fun h14 f55 => ?_)
      ·refine L.fa 7 f55 U35 rfl wsz3_wb (hw := (f55.yes rfl rfl)) fun a56 f56 => ?_
       refine L.ld f56 U3 Bg0 (hw := (f56.yes rfl rfl)) fun a57 f57 => ?_
       refine L.fa 7 f57 U35 rfl wsz3_wb (hw := (f57.yes rfl rfl)) fun a58 f58 => ?_
       refine L.ld f58 U3 Bg1 (hw := (f58.yes rfl rfl)) fun a59 f59 => ?_
       refine L.va f59 (E.eq f59) (hw := (f59.yes rfl rfl)) fun a60 f60 => ?_
       refine L.va f60 (E.pickT f60 rfl rfl) fun a61 f61 => ?_
       refine L.mv f61 fun a62 f62 => ?_
       clear f54 f55 a54 f56 a56 f57 a57 f58 a58 f59 a59 f60 a60 f61 a61
       refine f62.splitD 132 rfl (fun h15 f63 => ?_) (fun h15 f63 => ?_)
       ·refine L.fa 8 f63 U35 rfl wsz9_wb (hw := (f63.yes rfl rfl)) fun a64 f64 => ?_
        refine L.ld f64 U9 Bg0 (hw := (f64.yes rfl rfl)) fun a65 f65 => ?_
        refine L.fa 8 f65 U35 rfl wsz9_wb (hw := (f65.yes rfl rfl)) fun a66 f66 => ?_
        refine L.ld f66 U9 Bg1 (hw := (f66.yes rfl rfl)) fun a67 f67 => ?_
        refine L.va f67 (E.eqlS f67 rfl rfl) (hw := (f67.yes rfl rfl)) fun a68 f68 => ?_
        refine L.va f68 (E.pickT f68 rfl rfl) fun a69 f69 => ?_
        refine L.mv f69 fun a70 f70 => ?_
        clear f62 f63 a62 f64 a64 f65 a65 f66 a66 f67 a67 f68 a68 f69 a69
        refine f70.splitD 139 rfl (fun h16 f71 => ?_) (fun h16 f71 => ?_)
        ·refine L.fa 9 f71 U35 rfl wsz4_wb (hw := (f71.yes rfl rfl)) fun a72 f72 => ?_
         refine L.ld f72 U4 Bg0 (hw := (f72.yes rfl rfl)) fun a73 f73 => ?_
         refine L.fa 9 f73 U35 rfl wsz4_wb (hw := (f73.yes rfl rfl)) fun a74 f74 => ?_
         refine L.ld f74 U4 Bg1 (hw := (f74.yes rfl rfl)) fun a75 f75 => ?_
         refine L.va f75 (E.eqlB f75 U4 rfl rfl) (hw := (f75.yes rfl rfl)) fun a76 f76 => ?_
         refine L.va f76 (E.pickT f76 rfl rfl) fun a77 f77 => ?_
         refine L.mv f77 fun a78 f78 => ?_
         clear f70 f71 a70 f72 a72 f73 a73 f74 a74 f75 a75 f76 a76 f77 a77
         refine f78.splitD 146 rfl (fun h17 f79 => ?_) (fun h17 f79 => ?_)
         ·refine L.fa 10 f79 U35 rfl wsz3_wb (hw := (f79.yes rfl rfl)) fun a80 f80 => ?_
          refine L.ld f80 U3 Bg0 (hw := (f80.yes rfl rfl)) fun a81 f81 => ?_
          refine L.fa 10 f81 U35 rfl wsz3_wb (hw := (f81.yes rfl rfl)) fun a82 f82 => ?_
          refine L.ld f82 U3 Bg1 (hw := (f82.yes rfl rfl)) fun a83 f83 => ?_
          refine L.va f83 (E.eq f83) (hw := (f83.yes rfl rfl)) fun a84 f84 => ?_
          refine L.va f84 (E.pickT f84 rfl rfl) fun a85 f85 => ?_
          refine L.mv f85 fun a86 f86 => ?_
          clear f78 f79 a78 f80 a80 f81 a81 f82 a82 f83 a83 f84 a84 f85 a85
          refine f86.splitD 153 rfl (fun h18 f87 => ?_) (fun h18 f87 => ?_)
          ·refine L.fa 11 f87 U35 rfl wsz4_wb (hw := (f87.yes rfl rfl)) fun a88 f88 => ?_
           refine L.ld f88 U4 Bg0 (hw := (f88.yes rfl rfl)) fun a89 f89 => ?_
           refine L.fa 11 f89 U35 rfl wsz4_wb (hw := (f89.yes rfl rfl)) fun a90 f90 => ?_
           refine L.ld f90 U4 Bg1 (hw := (f90.yes rfl rfl)) fun a91 f91 => ?_
           refine L.va f91 (E.eqlB f91 U4 rfl rfl) (hw := (f91.yes rfl rfl)) fun a92 f92 => ?_
           refine L.va f92 (E.pickT f92 rfl rfl) fun a93 f93 => ?_
           refine L.mv f93 fun a94 f94 => ?_
           clear f86 f87 a86 f88 a88 f89 a89 f90 a90 f91 a91 f92 a92 f93 a93
           refine f94.splitD 160 rfl (fun h19 f95 => ?_) (fun h19 f95 => ?_)
           ·refine L.fa 16 f95 U35 rfl wsz4_wb (hw := (f95.yes rfl rfl)) fun a96 f96 => ?_
            refine L.ld f96 U4 Bg0 (hw := (f96.yes rfl rfl)) fun a97 f97 => ?_
            refine L.fa 16 f97 U35 rfl wsz4_wb (hw := (f97.yes rfl rfl)) fun a98 f98 => ?_
            refine L.ld f98 U4 Bg1 (hw := (f98.yes rfl rfl)) fun a99 f99 => ?_
            refine L.va f99 (E.eqlB f99 U4 rfl rfl) (hw := (f99.yes rfl rfl)) fun a100 f100 => ?_
            refine L.va f100 (E.pickT f100 rfl rfl) fun a101 f101 => ?_
            refine L.mv f101 fun a102 f102 => ?_
            clear f94 f95 a94 f96 a96 f97 a97 f98 a98 f99 a99 f100 a100 f101 a101
            refine f102.splitD 167 rfl (fun h20 f103 => ?_) (fun h20 f103 => ?_)
            ·refine L.fa 17 f103 U35 rfl wsz4_wb (hw := (f103.yes rfl rfl)) fun a104 f104 => ?_
             refine L.ld f104 U4 Bg0 (hw := (f104.yes rfl rfl)) fun a105 f105 => ?_
             refine L.fa 17 f105 U35 rfl wsz4_wb (hw := (f105.yes rfl rfl)) fun a106 f106 => ?_
             refine L.ld f106 U4 Bg1 (hw := (f106.yes rfl rfl)) fun a107 f107 => ?_
             refine L.va f107 (E.eqlB f107 U4 rfl rfl) (hw := (f107.yes rfl rfl)) fun a108 f108 => ?_
             refine L.va f108 (E.pickT f108 rfl rfl) fun a109 f109 => ?_
             refine L.mv f109 fun a110 f110 => ?_
             clear f102 f103 a102 f104 a104 f105 a105 f106 a106 f107 a107 f108 a108 f109 a109
             refine f110.splitD 174 rfl (fun h21 f111 => ?_) (fun h21 f111 => ?_)
             ·refine L.fa 18 f111 U35 rfl wsz9_wb (hw := (f111.yes rfl rfl)) fun a112 f112 => ?_
              refine L.ld f112 U9 Bg0 (hw := (f112.yes rfl rfl)) fun a113 f113 => ?_
              refine L.fa 18 f113 U35 rfl wsz9_wb (hw := (f113.yes rfl rfl)) fun a114 f114 => ?_
              refine L.ld f114 U9 Bg1 (hw := (f114.yes rfl rfl)) fun a115 f115 => ?_
              refine L.va f115 (E.eqlS f115 rfl rfl) (hw := (f115.yes rfl rfl)) fun a116 f116 => ?_
              refine L.va f116 (E.pickT f116 rfl rfl) fun a117 f117 => ?_
              refine L.mv f117 fun a118 f118 => ?_
              clear f110 f111 a110 f112 a112 f113 a113 f114 a114 f115 a115 f116 a116 f117 a117
              refine f118.splitD 181 rfl (fun h22 f119 => ?_) (fun h22 f119 => ?_)
              ·refine L.fa 20 f119 U35 rfl wsz4_wb (hw := (f119.yes rfl rfl)) fun a120 f120 => ?_
               refine L.ld f120 U4 Bg0 (hw := (f120.yes rfl rfl)) fun a121 f121 => ?_
               refine L.fa 20 f121 U35 rfl wsz4_wb (hw := (f121.yes rfl rfl)) fun a122 f122 => ?_
               refine L.ld f122 U4 Bg1 (hw := (f122.yes rfl rfl)) fun a123 f123 => ?_
               refine L.va f123 (E.eqlB f123 U4 rfl rfl) (hw := (f123.yes rfl rfl)) fun a124 f124 => ?_
               refine L.va f124 (E.pickT f124 rfl rfl) fun a125 f125 => ?_
               refine L.mv f125 fun a126 f126 => ?_
               clear f118 f119 a118 f120 a120 f121 a121 f122 a122 f123 a123 f124 a124 f125 a125
               refine f126.splitD 188 rfl (fun h23 f127 => ?_) (fun h23 f127 => ?_)
               ·refine L.fa 21 f127 U35 rfl wsz3_wb (hw := (f127.yes rfl rfl)) fun a128 f128 => ?_
                refine L.ld f128 U3 Bg0 (hw := (f128.yes rfl rfl)) fun a129 f129 => ?_
                refine L.fa 21 f129 U35 rfl wsz3_wb (hw := (f129.yes rfl rfl)) fun a130 f130 => ?_
                refine L.ld f130 U3 Bg1 (hw := (f130.yes rfl rfl)) fun a131 f131 => ?_
                refine L.va f131 (E.eq f131) (hw := (f131.yes rfl rfl)) fun a132 f132 => ?_
                refine L.va f132 (E.pickT f132 rfl rfl) fun a133 f133 => ?_
                refine L.ag f133 fun a134 f134 => ?_
                clear f126 f127 a126 f128 a128 f129 a129 f130 a130 f131 a131 f132 a132 f133 a133
                have f135 := f134.pk [4]
                refine wn hK21 (wp_ret ?_); (try simp only [xt, xb]); refine C.ret f135 rfl rfl ?_
                exact ⟨HK, by rw [same_eq]; simp [greetB, *]⟩
               refine L.run f127 (rest' := []) (by kernel_rfl) fun a128 f128 => ?_
               clear f126
               have f129 := f128.sub (sv 4 (.bool false) sn)
               refine wn hK21 (wp_ret ?_); (try simp only [xt, xb]); refine C.ret f129 rfl rfl ?_
               exact ⟨HK, by rw [same_eq]; simp [greetB, *]⟩
              refine L.run f119 (rest' := []) (by kernel_rfl) fun a120 f120 => ?_
              clear f118
              have f121 := f120.sub (sv 4 (.bool false) sn)
              refine wn hK21 (wp_ret ?_); (try simp only [xt, xb]); refine C.ret f121 rfl rfl ?_
              exact ⟨HK, by rw [same_eq]; simp [greetB, *]⟩
             refine L.run f111 (rest' := []) (by kernel_rfl) fun a112 f112 => ?_
             clear f110
             have f113 := f112.sub (sv 4 (.bool false) sn)
             refine wn hK21 (wp_ret ?_); (try simp only [xt, xb]); refine C.ret f113 rfl rfl ?_
             exact ⟨HK, by rw [same_eq]; simp [greetB, *]⟩
            refine L.run f103 (rest' := []) (by kernel_rfl) fun a104 f104 => ?_
            clear f102
            have f105 := f104.sub (sv 4 (.bool false) sn)
            refine wn hK21 (wp_ret ?_); (try simp only [xt, xb]); refine C.ret f105 rfl rfl ?_
            exact ⟨HK, by rw [same_eq]; simp [greetB, *]⟩
           refine L.run f95 (rest' := []) (by kernel_rfl) fun a96 f96 => ?_
           clear f94
           have f97 := f96.sub (sv 4 (.bool false) sn)
           refine wn hK21 (wp_ret ?_); (try simp only [xt, xb]); refine C.ret f97 rfl rfl ?_
           exact ⟨HK, by rw [same_eq]; simp [greetB, *]⟩
          refine L.run f87 (rest' := []) (by kernel_rfl) fun a88 f88 => ?_
          clear f86
          have f89 := f88.sub (sv 4 (.bool false) sn)
          refine wn hK21 (wp_ret ?_); (try simp only [xt, xb]); refine C.ret f89 rfl rfl ?_
          exact ⟨HK, by rw [same_eq]; simp [greetB, *]⟩
         refine L.run f79 (rest' := []) (by kernel_rfl) fun a80 f80 => ?_
         clear f78
         have f81 := f80.sub (sv 4 (.bool false) sn)
         refine wn hK21 (wp_ret ?_); (try simp only [xt, xb]); refine C.ret f81 rfl rfl ?_
         exact ⟨HK, by rw [same_eq]; simp [greetB, *]⟩
        refine L.run f71 (rest' := []) (by kernel_rfl) fun a72 f72 => ?_
        clear f70
        have f73 := f72.sub (sv 4 (.bool false) sn)
        refine wn hK21 (wp_ret ?_); (try simp only [xt, xb]); refine C.ret f73 rfl rfl ?_
        exact ⟨HK, by rw [same_eq]; simp [greetB, *]⟩
       refine L.run f63 (rest' := []) (by kernel_rfl) fun a64 f64 => ?_
       clear f62
       have f65 := f64.sub (sv 4 (.bool false) sn)
       refine wn hK21 (wp_ret ?_); (try simp only [xt, xb]); refine C.ret f65 rfl rfl ?_
       exact ⟨HK, by rw [same_eq]; simp [greetB, *]⟩
      refine L.run f55 (rest' := []) (by kernel_rfl) fun a56 f56 => ?_
      clear f54
      have f57 := f56.sub (sv 4 (.bool false) sn)
      refine wn hK21 (wp_ret ?_); (try simp only [xt, xb]); refine C.ret f57 rfl rfl ?_
      exact ⟨HK, by rw [same_eq]; simp [greetB, *]⟩
     refine L.run f47 (rest' := []) (by kernel_rfl) fun a48 f48 => ?_
     clear f46
     have f49 := f48.sub (sv 4 (.bool false) sn)
     refine wn hK21 (wp_ret ?_); (try simp only [xt, xb]); refine C.ret f49 rfl rfl ?_
     exact ⟨HK, by rw [same_eq]; simp [greetB, *]⟩
    refine L.run f39 (rest' := []) (by kernel_rfl) fun a40 f40 => ?_
    clear f38
    have f41 := f40.sub (sv 4 (.bool false) sn)
    refine wn hK21 (wp_ret ?_); (try simp only [xt, xb]); refine C.ret f41 rfl rfl ?_
    exact ⟨HK, by rw [same_eq]; simp [greetB, *]⟩
   refine L.run f31 (rest' := []) (by kernel_rfl) fun a32 f32 => ?_
   clear f30
   have f33 := f32.sub (sv 4 (.bool false) sn)
   refine wn hK21 (wp_ret ?_); (try simp only [xt, xb]); refine C.ret f33 rfl rfl ?_
   exact ⟨HK, by rw [same_eq]; simp [greetB, *]⟩
  refine L.run f23 (rest' := []) (by kernel_rfl) fun a24 f24 => ?_
  clear f22
  have f25 := f24.sub (sv 4 (.bool false) sn)
  refine wn hK21 (wp_ret ?_); (try simp only [xt, xb]); refine C.ret f25 rfl rfl ?_
  exact ⟨HK, by rw [same_eq]; simp [greetB, *]⟩
 refine L.run f15 (rest' := []) (by kernel_rfl) fun a16 f16 => ?_
 clear f14
 have f17 := f16.sub (sv 4 (.bool false) sn)
 refine wn hK21 (wp_ret ?_); (try simp only [xt, xb]); refine C.ret f17 rfl rfl ?_
 exact ⟨HK, by rw [same_eq]; simp [greetB, *]⟩
end Go.Proofs.YtdfllmiokgoekaaGreatDoor
namespace Go.Proofs.YtdfllmiokgoekaaGreatDoor
open Go.RowKit Go.Hub Go.Lib
theorem wzi9_rn : (Tryz.prog.info? 9).map (fun i => (i.zero, i.size)) = some (some (.string ⟨#[]⟩), 1) := by kernel_rfl
theorem wbs94_7_rn (x0 : ByteArray) (x1 : ByteArray) (x2 : ByteArray) (x3 : ByteArray) (x4 : ByteArray) (x5 : ByteArray) (x6 : ByteArray) : Instr.fill (fun i => some (i * 1, 1)) ((Array.range (7 * 1)).map fun j => (Value.cells (.string ⟨#[]⟩))[j % (Value.cells (.string ⟨#[]⟩)).size]!) [(0, .string x0), (1, .string x1), (2, .string x2), (3, .string x3), (4, .string x4), (5, .string x5), (6, .string x6)] = some #[.string x0, .string x1, .string x2, .string x3, .string x4, .string x5, .string x6] := by kernel_rfl
theorem wsz9_rn : (Tryz.prog.info? 9).map (·.size) = some 1 := by kernel_rfl
theorem wsz28_rn : (Tryz.prog.info? 28).map (·.size) = some 1 := by kernel_rfl
theorem wsz31_rn : (Tryz.prog.info? 31).map (·.size) = some 4 := by kernel_rfl
theorem wsz32_rn : (Tryz.prog.info? 32).map (·.size) = some 1 := by kernel_rfl
theorem wsz33_rn : (Tryz.prog.info? 33).map (·.size) = some 1 := by kernel_rfl
theorem wsz66_rn : (Tryz.prog.info? 66).map (·.size) = some 2 := by kernel_rfl
theorem wsz35_rn : (Tryz.prog.info? 35).map (·.size) = some 24 := by kernel_rfl
def p7 : List ByteArray := [⟨#[97]⟩, ⟨#[97, 47, 98]⟩, ⟨#[98, 47, 99]⟩, ⟨#[36, 115, 47, 97]⟩, ⟨#[97, 47, 47, 98]⟩, ⟨#[195, 169, 47, 97]⟩, ⟨#[99]⟩]
theorem p7_at (k : Int) (h : 0 ≤ k) : ∃ x, p7[Int.toNat (k % 7)]? = some x := list_at p7 _ (by show _ < 7; omega)
theorem p10_all : ∀ x ∈ p10, x.size ≤ 10 := by decide +kernel
def placeI (x m : Int) : Int := if x.tmod m < 0 then x.tmod m + m else x.tmod m
def _root_.Go.Hub.Pk.Reach (p : Pk) : Prop := p.topic.size ≤ 140737488355328 ∧ p.pay.length ≤ 140737488355328 ∧ p.client.size ≤ 140737488355328 ∧ p.user.size ≤ 140737488355328 ∧ p.pass.length ≤ 140737488355328 ∧ p.wt.size ≤ 140737488355328 ∧ p.wp.length ≤ 140737488355328
theorem sub_cell0 {A : Option Addr} {l : List (ByteArray × Int)} {w : World} (h : Sl w A l.length 2 (subCells l)) {b off i : Nat} {x : ByteArray × Int} (hA : A = some ⟨b, off, none⟩) (hx : l[i]? = some x) : w.cell? ⟨b, off + (i : Int).toNat * 2 + 0, none⟩ = some (.string x.1) := by
  have hr := sub_row h hA hx
  rw [Int.toNat_natCast]
  exact hr 0 _ rfl
def Pa.pk (x : Pa) : Pk := { kind := x.kind, dup := x.dup, retain := x.ret, qos := x.qos, id := x.id, topic := x.tp, pay := x.pay }
def adp (A : Option Addr) (c : Nat) : Ad := ⟨A, c, none, 0, none, 0, none, 0, none, 0⟩
theorem pcell_is (x : Pc) : (pcell x).toArray = x.p.pk.cells (adp x.A x.c) := rfl
theorem pk_in {w : World} {x : Pc} (h : Sl w x.A x.p.pay.length 1 (x.p.pay.map u8)) : x.p.pk.In w (adp x.A x.c) := ⟨h, Sl.nil _ _ _, Sl.nil _ _ _, Sl.nil _ _ _, Sl.nil _ _ _⟩
theorem samePc_any (x y : Pc) (w : World) (h : x.p = y.p) (hx : Sl w x.A x.p.pay.length 1 (x.p.pay.map u8)) (hy : Sl w y.A y.p.pay.length 1 (y.p.pay.map u8)) : Calls Tryz.prog 49 #[.agg (pcell x).toArray, .agg (pcell y).toArray] w (fun e w' => Kept [] w w' ∧ e = .returned (.bool true)) := by
  rw [pcell_is, pcell_is]
  refine (sameR_any x.p.pk y.p.pk (adp x.A x.c) (adp y.A y.c) w (pk_in hx) (pk_in hy) (by show 0 ≤ _; omega) (by show 0 ≤ _; omega)).mono ?_
  rintro e w' ⟨hk, rfl⟩
  exact ⟨hk, by rw [samePk_iff.2 (by rw [h])]⟩
theorem pc_row {w w1 : World} {A : Option Addr} {b off i : Nat} {l : List Pc} {x : Pc} (hk : Kept [] w w1) (hA : A = some ⟨b, off, none⟩) (hx : l[i]? = some x) (S : Sl w A l.length 24 (l.flatMap pcell)) : w1.rangeAt b (off + (i : Int).toNat * 24) (pcell x) :=
  Sl.row (i := i) (cs := pcell x) (S.kept hk) (Nat.lt_of_le_of_lt (Nat.zero_le _) (List.getElem?_eq_some_iff.1 hx).1) hA (flat_at pcell 24 (fun _ => rfl) l i x hx)
theorem ss_r2 {w w1 : World} {A : Option Addr} {b off i : Nat} {l : FE} {x : ByteArray × Int} (hk : Kept [] w w1) (hA : A = some ⟨b, off, none⟩) (hx : l[i]? = some x) (S : Sl w A l.length 2 (l.flatMap scp)) : w1.rangeAt b (off + (i : Int).toNat * 2) (scp x) :=
  Sl.row (i := i) (cs := scp x) (S.kept hk) (Nat.lt_of_le_of_lt (Nat.zero_le _) (List.getElem?_eq_some_iff.1 hx).1) hA (flat_at scp 2 (fun _ => rfl) l i x hx)
theorem stopic_any (k : Int) (w : World) (h0 : 0 ≤ k) (h1 : k < 256) : Calls Tryz.prog 24 #[.int .u8 k] w (fun e w' => Kept [] w w' ∧ e = .returned (.string (p7.getD (k % 7).toNat ⟨#[]⟩))) := by
 have HK : Kept [] w w := Kept.refl [] w
 refine C.enter Tryz.func24 rfl Tryz.ntmps24 rfl ?_
 intro a0 f0
 have f1 : Fr 8 a0 [(0, .int .u8 k)] := f0
 refine C.sk fun K0 hK0 => ?_
 refine L.ag f1 fun a2 f2 => ?_
 refine wn hK0 ?_
 have f3 := f2.pk [0, 2]
 refine wp_seq_k fun K1 hK1 => ?_
 obtain ⟨x, hx⟩ := p7_at k h0
 refine C.region ?_
 refine L.buildSlice f3 wantedN (by decide) (parts7 f3 rfl rfl rfl rfl rfl rfl rfl) Tryz.underlying94 wzi9_rn rfl rfl (wbs94_7_rn _ _ _ _ _ _ _) fun a4 w1 g0 N0 f4 => ?_
 have SL := ss_blk (l := p7) N0.blk
 have Bg0 := N0.blk
 have kg0 := N0.kept
 have log0 := N0.lo
 have ltg0 := Bg0.lt
 have szw1 := kg0.size
 have frg0 : w.heap.size ≤ g0 := Nat.le_trans HK.size log0
 replace HK := HK.z kg0
 clear f0 f1 a0 f2 N0 kg0
 refine L.mv f4 fun a5 f5 => ?_
 refine L.va f5 (E.rem f5 rfl rfl (by omega) (Int.tmod_eq_emod_of_nonneg (by omega))) fun a6 f6 => ?_
 refine L.va f6 (E.indexA f6 (by rfl) Tryz.underlying94 wsz9_rn rfl rfl (by omega) (by omega)) fun a7 f7 => ?_
 refine L.va f7 (E.load f7 U9 rfl rfl (ss_cellI SL rfl hx)) fun a8 f8 => ?_
 refine L.ag f8 fun a9 f9 => ?_
 have f10 := f9.pk [2]
 refine wn hK1 (wp_ret ?_); (try simp only [xt, xb]); refine C.ret f10 rfl rfl ?_
 exact ⟨HK, by rw [List.getD_eq_getElem?_getD, hx]; rfl⟩
theorem place_any (x m : Int) (w : World) (hm : 0 < m ∧ m ≤ 100) : Calls Tryz.prog 8 #[.int .i64 x, .int .i64 m] w (fun e w' => w = w' ∧ e = .returned (.int .i64 (placeI x m))) := by
 have b1 := Int.lt_tmod_of_pos x hm.1
 have b2 := Int.tmod_lt_of_pos x hm.1
 refine C.enter Tryz.func8 rfl Tryz.ntmps8 rfl ?_
 intro a0 f0
 have f1 : Fr 14 a0 [(0, .int .i64 x), (1, .int .i64 m)] := f0
 refine C.sk fun K0 hK0 => ?_
 refine L.ag f1 fun a2 f2 => ?_
 have f3 := f2.pk [0, 1, 4]
 refine wn hK0 (C.sk fun K1 hK1 => ?_)
 refine L.mv f3 fun a4 f4 => ?_
 refine L.mv f4 fun a5 f5 => ?_
 refine L.va f5 (E.rem f5 rfl rfl (by omega) rfl) fun a6 f6 => ?_
 refine L.ag f6 fun a7 f7 => ?_
 refine wn hK1 ?_
 have f8 := f7.pk [0, 1, 4]
 refine wp_seq_k fun K2 hK2 => C.sk fun K3 hK3 => ?_
 refine L.mv f8 fun a9 f9 => ?_
 clear f0 f1 a0 f2 f3 a2 f4 a4 f5 a5 f6 a6 f7 f8 a7
 refine L.va f9 (E.lss f9 rfl rfl) fun a10 f10 => ?_
 refine wn hK3 ?_
 have f11 := f10.pk [0, 1, 4, 9]
 clear f9 a9 f10
 refine f11.splitD 9 rfl (fun h0 f12 => ?_) (fun h0 f12 => ?_)
 ·refine C.condT f12 rfl ?_
  refine C.region ?_
  refine L.mv f12 fun a13 f13 => ?_
  refine L.mv f13 fun a14 f14 => ?_
  refine L.va f14 (E.add f14 rfl rfl (IntWalk.i64_in _ (by omega))) fun a15 f15 => ?_
  refine L.ag f15 fun a16 f16 => ?_
  have f17 := f16.pk [0, 4]
  refine wn hK2 (C.sk fun K4 hK4 => ?_)
  refine L.mv f17 fun a18 f18 => ?_
  refine L.ag f18 fun a19 f19 => ?_
  clear f11 f12 a10 f13 a13 f14 a14 f15 a15 f16 f17 a16 f18 a18
  have f20 := f19.pk [4]
  refine wn hK4 (wp_ret ?_); (try simp only [xt, xb]); refine C.ret f20 rfl rfl ?_
  exact ⟨rfl, by simp [placeI, *]⟩
 refine C.condF f12 rfl ?_
 refine wp_skip (hK2 _ _ ?_)
 have f13 := f12.pk [0, 4]
 refine C.sk fun K5 hK5 => ?_
 refine L.mv f13 fun a14 f14 => ?_
 refine L.ag f14 fun a15 f15 => ?_
 have f16 := f15.pk [4]
 refine wn hK5 (wp_ret ?_); (try simp only [xt, xb]); refine C.ret f16 rfl rfl ?_
 exact ⟨rfl, by simp [placeI, *]⟩
theorem light_any (p : Pk) (s : Ad) (w : World) (IP : p.In w s) (hr : p.Reach) : Calls Tryz.prog 7 #[.agg (p.cells s)] w (fun e w' => Kept [] w w' ∧ ∃ b, e = .returned (.bool b)) := by
 have HK : Kept [] w w := Kept.refl [] w
 obtain ⟨r1, r2, r3, r4, r5, r6, r7⟩ := hr
 refine C.enter Tryz.func7 rfl Tryz.ntmps7 rfl ?_
 intro a0 f0
 have f1 : Fr 61 a0 [(0, .agg (p.cells s))] := f0
 refine C.sk fun K0 hK0 => ?_
 refine L.box f1 wantedN (by decide) rfl rfl fun a2 w1 g0 N0 f2 => ?_
 have Bg0 := N0.blk
 have kg0 := N0.kept
 have log0 := N0.lo
 have ltg0 := Bg0.lt
 have szw1 := kg0.size
 have frg0 : w.heap.size ≤ g0 := Nat.le_trans HK.size log0
 replace HK := HK.z kg0
 clear f0 N0 kg0
 refine L.ag f2 fun a3 f3 => ?_
 refine wn hK0 ?_
 have f4 := f3.pk [1, 2]
 refine wp_seq_k fun K1 hK1 => ?_
 refine wp_seq_k fun K2 hK2 => ?_
 replace Bg0 : Blk w1 g0 35 #[.int .i64 p.kind, .bool p.dup, .bool p.retain, .int .i64 p.qos, .int .i64 p.id, .string p.topic, .slice s.pa p.pay.length s.pc, .int .i64 p.level, .string p.client, .bool p.clean, .int .i64 p.keep, .bool p.hasWill, .string p.wt, .slice s.wa p.wp.length s.wc, .int .i64 p.wq, .bool p.wr, .bool p.hasUser, .bool p.hasPass, .string p.user, .slice s.sa p.pass.length s.sc, .bool p.present, .int .i64 p.code, .slice s.ua p.subs.length s.uc, .slice s.ca p.codes.length s.cc] := Bg0
 refine C.region ?_
 refine L.fa 22 f4 U35 rfl wsz32_rn fun a5 f5 => ?_
 refine L.va f5 (E.load f5 U32 rfl rfl ((Bg0).cl rfl)) fun a6 f6 => ?_
 refine L.va f6 (E.lenL f6 U32 rfl) fun a7 f7 => ?_
 refine L.va f7 (E.gtr f7 rfl rfl) fun a8 f8 => ?_
 refine L.mv f8 fun a9 f9 => ?_
 clear f1 a0 f2 a2 f3 f4 a3 f5 a5 f6 a6 f7 a7 f8 a8
 refine f9.splitD 8 rfl (fun h0 f10 => ?_) (fun h0 f10 => ?_)
 ·refine L.run f10 (rest' := []) (by kernel_rfl) fun a11 f11 => ?_
  clear f9
  refine wn hK2 ?_
  have f12 := f11.sub (sv 45 (.bool true) (pkR f11 [1, 2]))
  refine C.condT f12 rfl ?_
  refine C.sk fun K3 hK3 => ?_
  refine L.ag f12 fun a13 f13 => ?_
  have f14 := f13.pk [1, 2]
  refine wn hK3 (wp_ret ?_); (try simp only [xt, xb]); refine C.ret f14 rfl rfl ?_
  exact ⟨HK, _, rfl⟩
 refine L.fa 23 f10 U35 rfl wsz33_rn (hw := (f10.yes rfl rfl)) fun a11 f11 => ?_
 refine L.va f11 (E.load f11 U33 rfl rfl ((Bg0).cl rfl)) (hw := (f11.yes rfl rfl)) fun a12 f12 => ?_
 refine L.va f12 (E.lenL f12 U33 rfl) (hw := (f12.yes rfl rfl)) fun a13 f13 => ?_
 refine L.va f13 (E.gtr f13 rfl rfl) (hw := (f13.yes rfl rfl)) fun a14 f14 => ?_
 refine L.va f14 (E.pickF f14 rfl rfl) fun a15 f15 => ?_
 refine L.mv f15 fun a16 f16 => ?_
 clear f9 f10 a9 f11 a11 f12 a12 f13 a13 f14 a14 f15 a15
 refine f16.splitD 14 rfl (fun h1 f17 => ?_) (fun h1 f17 => ?_)
 ·refine L.run f17 (rest' := []) (by kernel_rfl) fun a18 f18 => ?_
  clear f16
  refine wn hK2 ?_
  have f19 := f18.sub (sv 45 (.bool true) (pkR f18 [1, 2]))
  refine C.condT f19 rfl ?_
  refine C.sk fun K4 hK4 => ?_
  refine L.ag f19 fun a20 f20 => ?_
  have f21 := f20.pk [1, 2]
  refine wn hK4 (wp_ret ?_); (try simp only [xt, xb]); refine C.ret f21 rfl rfl ?_
  exact ⟨HK, _, rfl⟩
 refine L.fa 5 f17 U35 rfl wsz9_rn (hw := (f17.yes rfl rfl)) fun a18 f18 => ?_
 refine L.va f18 (E.load f18 U9 rfl rfl ((Bg0).cl rfl)) (hw := (f18.yes rfl rfl)) fun a19 f19 => ?_
 refine L.va f19 (E.lenS f19 U9 rfl) (hw := (f19.yes rfl rfl)) fun a20 f20 => ?_
 refine L.fa 6 f20 U35 rfl wsz28_rn (hw := (f20.yes rfl rfl)) fun a21 f21 => ?_
 refine L.va f21 (E.load f21 U28 rfl rfl ((Bg0).cl rfl)) (hw := (f21.yes rfl rfl)) fun a22 f22 => ?_
 refine L.va f22 (E.lenL f22 U28 rfl) (hw := (f22.yes rfl rfl)) fun a23 f23 => ?_
 refine L.va f23 (E.add f23 rfl rfl (IntWalk.i64_in _ (by omega))) (hw := (f23.yes rfl rfl)) fun a24 f24 => ?_
 clear f16 f17 a16 f18 a18 f19 a19 f20 a20 f21 a21 f22 a22 f23 a23
 refine L.fa 8 f24 U35 rfl wsz9_rn (hw := (f24.yes rfl rfl)) fun a25 f25 => ?_
 refine L.va f25 (E.load f25 U9 rfl rfl ((Bg0).cl rfl)) (hw := (f25.yes rfl rfl)) fun a26 f26 => ?_
 refine L.va f26 (E.lenS f26 U9 rfl) (hw := (f26.yes rfl rfl)) fun a27 f27 => ?_
 refine L.va f27 (E.add f27 rfl rfl (IntWalk.i64_in _ (by omega))) (hw := (f27.yes rfl rfl)) fun a28 f28 => ?_
 refine L.fa 18 f28 U35 rfl wsz9_rn (hw := (f28.yes rfl rfl)) fun a29 f29 => ?_
 refine L.va f29 (E.load f29 U9 rfl rfl ((Bg0).cl rfl)) (hw := (f29.yes rfl rfl)) fun a30 f30 => ?_
 refine L.va f30 (E.lenS f30 U9 rfl) (hw := (f30.yes rfl rfl)) fun a31 f31 => ?_
 clear f24 a24 f25 a25 f26 a26 f27 a27 f28 a28 f29 a29 f30 a30
 refine L.va f31 (E.add f31 rfl rfl (IntWalk.i64_in _ (by omega))) (hw := (f31.yes rfl rfl)) fun a32 f32 => ?_
 refine L.fa 19 f32 U35 rfl wsz28_rn (hw := (f32.yes rfl rfl)) fun a33 f33 => ?_
 refine L.va f33 (E.load f33 U28 rfl rfl ((Bg0).cl rfl)) (hw := (f33.yes rfl rfl)) fun a34 f34 => ?_
 refine L.va f34 (E.lenL f34 U28 rfl) (hw := (f34.yes rfl rfl)) fun a35 f35 => ?_
 refine L.va f35 (E.add f35 rfl rfl (IntWalk.i64_in _ (by omega))) (hw := (f35.yes rfl rfl)) fun a36 f36 => ?_
 refine L.fa 12 f36 U35 rfl wsz31_rn (hw := (f36.yes rfl rfl)) fun a37 f37 => ?_
 refine L.va f37 (E.fa 0 f37 Tryz.underlying31 rfl wsz9_rn) (hw := (f37.yes rfl rfl)) fun a38 f38 => ?_
 clear f31 a31 f32 a32 f33 a33 f34 a34 f35 a35 f36 a36 f37 a37
 refine L.va f38 (E.load f38 U9 rfl rfl ((Bg0).cl rfl)) (hw := (f38.yes rfl rfl)) fun a39 f39 => ?_
 refine L.va f39 (E.lenS f39 U9 rfl) (hw := (f39.yes rfl rfl)) fun a40 f40 => ?_
 refine L.va f40 (E.add f40 rfl rfl (IntWalk.i64_in _ (by omega))) (hw := (f40.yes rfl rfl)) fun a41 f41 => ?_
 refine L.fa 12 f41 U35 rfl wsz31_rn (hw := (f41.yes rfl rfl)) fun a42 f42 => ?_
 refine L.va f42 (E.fa 1 f42 Tryz.underlying31 rfl wsz28_rn) (hw := (f42.yes rfl rfl)) fun a43 f43 => ?_
 refine L.va f43 (E.load f43 U28 rfl rfl ((Bg0).cl rfl)) (hw := (f43.yes rfl rfl)) fun a44 f44 => ?_
 refine L.va f44 (E.lenL f44 U28 rfl) (hw := (f44.yes rfl rfl)) fun a45 f45 => ?_
 clear f38 a38 f39 a39 f40 a40 f41 a41 f42 a42 f43 a43 f44 a44
 refine L.va f45 (E.add f45 rfl rfl (IntWalk.i64_in _ (by omega))) (hw := (f45.yes rfl rfl)) fun a46 f46 => ?_
 refine L.va f46 (E.gtr f46 rfl rfl) (hw := (f46.yes rfl rfl)) fun a47 f47 => ?_
 refine L.va f47 (E.pickF f47 rfl rfl) fun a48 f48 => ?_
 refine wn hK2 ?_
 have f49 := f48.pk [1, 2, 45]
 clear f45 a45 f46 a46 f47 a47 f48
 refine f49.splitD 45 rfl (fun h2 f50 => ?_) (fun h2 f50 => ?_)
 ·refine C.condT f50 rfl ?_
  refine C.sk fun K5 hK5 => ?_
  refine L.ag f50 fun a51 f51 => ?_
  have f52 := f51.pk [1, 2]
  refine wn hK5 (wp_ret ?_); (try simp only [xt, xb]); refine C.ret f52 rfl rfl ?_
  exact ⟨HK, _, rfl⟩
 refine C.condF f50 rfl ?_
 refine wp_skip (hK1 _ _ ?_)
 have f51 := f50.pk [1, 2]
 refine wp_seq_k fun K6 hK6 => C.sk fun K7 hK7 => ?_
 refine L.ag f51 fun a52 f52 => ?_
 refine wn hK7 ?_
 have f53 := f52.pk [1, 2, 3]
 refine wp_block ?_
 clear f49 f50 f51 a48 f52
 refine C.loop (fun gk a W => ∃ i : Nat, i + gk = p.subs.length ∧ Kept [] w W ∧ Blk W g0 35 #[.int .i64 p.kind, .bool p.dup, .bool p.retain, .int .i64 p.qos, .int .i64 p.id, .string p.topic, .slice s.pa p.pay.length s.pc, .int .i64 p.level, .string p.client, .bool p.clean, .int .i64 p.keep, .bool p.hasWill, .string p.wt, .slice s.wa p.wp.length s.wc, .int .i64 p.wq, .bool p.wr, .bool p.hasUser, .bool p.hasPass, .string p.user, .slice s.sa p.pass.length s.sc, .bool p.present, .int .i64 p.code, .slice s.ua p.subs.length s.uc, .slice s.ca p.codes.length s.cc] ∧ Fr 61 a [(1, .pointer (some ⟨g0, 0, none⟩)), (3, .int .i64 i)]) (p.subs.length) ?_ ?_
 ·exact ⟨0, by omega, HK, Bg0, f53.sub (sx (sx sn))⟩
 intro gk9 a54 w2 hI KL8 hKL8
 obtain ⟨i, hi, HK, Bg0, f54⟩ := hI
 try clear f53
 refine wp_seq_k fun K9 hK9 => C.sk fun K10 hK10 => ?_
 refine L.mv f54 fun a55 f55 => ?_
 refine L.fa 22 f55 U35 rfl wsz32_rn fun a56 f56 => ?_
 refine L.va f56 (E.load f56 U32 rfl rfl ((Bg0).cl rfl)) fun a57 f57 => ?_
 refine L.va f57 (E.lenL f57 U32 rfl) fun a58 f58 => ?_
 refine L.va f58 (E.lss f58 rfl rfl) fun a59 f59 => ?_
 refine wn hK10 ?_
 have f60 := f59.pk [1, 3, 46, 47, 48, 49, 50]
 clear f54 a54 f55 a55 f56 a56 f57 a57 f58 a58 f59
 refine f60.splitD 50 rfl (fun h3 f61 => ?_) (fun h3 f61 => ?_)
 ·obtain ⟨d, hd⟩ := some_at p.subs i (by omega)
  obtain ⟨bk, off, hA⟩ := IP.subs.addr (by omega)
  refine C.condT f61 rfl ?_
  refine wp_skip (hK9 _ _ ?_)
  have f62 := f61.pk [1, 3, 46, 47, 48, 49, 50]
  refine wp_seq_k fun K11 hK11 => ?_
  refine wp_block ?_
  refine C.sk fun K12 hK12 => ?_
  refine L.fa 22 f62 U35 rfl wsz32_rn fun a63 f63 => ?_
  refine L.va f63 (E.load f63 U32 rfl rfl ((Bg0).cl rfl)) fun a64 f64 => ?_
  refine L.mv f64 fun a65 f65 => ?_
  refine L.va f65 (E.indexA f65 (by assumption) U32 wsz66_rn rfl rfl (by omega) (by omega)) fun a66 f66 => ?_
  refine L.fa 0 f66 U66 rfl wsz9_rn fun a67 f67 => ?_
  refine L.va f67 (E.load f67 U9 rfl rfl (sub_cell0 (IP.subs.kept HK) hA hd)) fun a68 f68 => ?_
  clear f60 f61 f62 a59 f63 a63 f64 a64 f65 a65 f66 a66 f67 a67
  refine L.va f68 (E.lenS f68 U9 rfl) fun a69 f69 => ?_
  refine L.va f69 (E.gtr f69 rfl rfl) fun a70 f70 => ?_
  refine wn hK12 ?_
  have f71 := f70.pk [1, 3, 46, 47, 48, 49, 50, 53, 54, 55, 56, 57, 58, 59, 60]
  clear f68 a68 f69 a69 f70
  refine f71.splitD 60 rfl (fun h4 f72 => ?_) (fun h4 f72 => ?_)
  ·refine C.condT f72 rfl ?_
   refine C.sk fun K13 hK13 => ?_
   refine L.ag f72 fun a73 f73 => ?_
   have f74 := f73.pk [1, 2, 3, 46, 47, 48, 49, 50, 53, 54, 55, 56, 57, 58, 59, 60]
   refine wn hK13 (wp_ret ?_); (try simp only [xt, xb]); refine C.ret f74 rfl rfl ?_
   exact ⟨HK, _, rfl⟩
  refine C.condF f72 rfl ?_
  refine wp_skip (hK11 _ _ ?_)
  have f73 := f72.pk [1, 3, 46, 47, 48, 49, 50, 53, 54, 55, 56, 57, 58, 59, 60]
  refine C.region ?_
  refine L.mv f73 fun a74 f74 => ?_
  refine L.va f74 (E.add f74 rfl rfl (IntWalk.i64_in _ (by omega))) fun a75 f75 => ?_
  refine L.ag f75 fun a76 f76 => ?_
  clear f71 f72 f73 a70 f74 a74 f75 a75
  refine wpList_nil (hKL8 _ _ (gk9 - 1) ?_ ?_)
  ·omega
  exact ⟨i + 1, by omega, HK, Bg0, f76.sub (sx (sx sn))⟩
 refine C.condF f61 rfl ?_
 refine wp_exit (hK6 _ _ ?_)
 have f62 := f61.sub sn
 refine C.sk fun K14 hK14 => ?_
 refine L.ag f62 fun a63 f63 => ?_
 have f64 := f63.pk [2]
 refine wn hK14 (wp_ret ?_); (try simp only [xt, xb]); refine C.ret f64 rfl rfl ?_
 exact ⟨HK, _, rfl⟩
theorem packets_any (l l' : List Pc) (A A' : Option Addr) (c c' : Nat) (w : World) (S1 : Sl w A l.length 24 (l.flatMap pcell)) (S2 : Sl w A' l'.length 24 (l'.flatMap pcell)) (P1 : ∀ x ∈ l, Sl w x.A x.p.pay.length 1 (x.p.pay.map u8)) (P2 : ∀ x ∈ l', Sl w x.A x.p.pay.length 1 (x.p.pay.map u8)) (he : l.map (·.p) = l'.map (·.p)) (hlm : l.length ≤ 1000000) : Calls Tryz.prog 25 #[.slice A l.length c, .slice A' l'.length c'] w (fun e w' => Kept [] w w' ∧ e = .returned (.bool true)) := by
 have HK : Kept [] w w := Kept.refl [] w
 have hll : l.length = l'.length := by have := congrArg List.length he; simpa using this
 refine C.enter Tryz.func25 rfl Tryz.ntmps25 rfl ?_
 intro a0 f0
 have f1 : Fr 27 a0 [(0, .slice A l.length c), (1, .slice A' l'.length c')] := f0
 refine C.sk fun K0 hK0 => ?_
 refine L.ag f1 fun a2 f2 => ?_
 refine wn hK0 ?_
 have f3 := f2.pk [0, 1, 4]
 refine wp_seq_k fun K1 hK1 => C.sk fun K2 hK2 => ?_
 refine L.mv f3 fun a4 f4 => ?_
 refine L.va f4 (E.lenL f4 U42 rfl) fun a5 f5 => ?_
 refine L.mv f5 fun a6 f6 => ?_
 refine L.va f6 (E.lenL f6 U42 rfl) fun a7 f7 => ?_
 refine L.va f7 (E.neq f7 rfl rfl) fun a8 f8 => ?_
 clear f0 f1 a0 f2 f3 a2 f4 a4 f5 a5 f6 a6 f7 a7
 refine wn hK2 ?_
 have f9 := f8.pk [0, 1, 4, 10]
 clear f8
 refine f9.splitN 10 rfl (fun h0 f10 => ?_) (fun h0 f10 => ?_)
 ·clear f9
  exfalso
  omega
 refine C.condF f10 rfl ?_
 refine wp_skip (hK1 _ _ ?_)
 have f11 := f10.pk [0, 1, 4]
 refine wp_seq_k fun K3 hK3 => C.sk fun K4 hK4 => ?_
 refine L.ag f11 fun a12 f12 => ?_
 refine wn hK4 ?_
 have f13 := f12.pk [0, 1, 4, 5]
 refine wp_block ?_
 clear f9 f10 f11 a8 f12
 refine C.loop (fun gk a W => ∃ i : Nat, i + gk = l.length ∧ Kept [] w W ∧ Fr 27 a [(0, .slice A l.length c), (1, .slice A' l'.length c'), (5, .int .i64 i)]) (l.length) ?_ ?_
 ·exact ⟨0, by omega, HK, f13.sub (sx (sx (sx sn)))⟩
 intro gk6 a14 w1 hI KL5 hKL5
 obtain ⟨i, hi, HK, f14⟩ := hI
 try clear f13
 refine wp_seq_k fun K6 hK6 => C.sk fun K7 hK7 => ?_
 refine L.mv f14 fun a15 f15 => ?_
 refine L.mv f15 fun a16 f16 => ?_
 refine L.va f16 (E.lenL f16 U42 rfl) fun a17 f17 => ?_
 refine L.va f17 (E.lss f17 rfl rfl) fun a18 f18 => ?_
 refine wn hK7 ?_
 have f19 := f18.pk [0, 1, 5, 11, 12, 13, 14]
 clear f14 a14 f15 a15 f16 a16 f17 a17 f18
 refine f19.splitD 14 rfl (fun h1 f20 => ?_) (fun h1 f20 => ?_)
 ·obtain ⟨x, hx⟩ := some_at l i (by omega)
  obtain ⟨y, hy⟩ := some_at l' i (by omega)
  have hxy : x.p = y.p := by have := congrArg (fun z => z[i]?) he; simpa [hx, hy] using this
  obtain ⟨b1, o1, hA1⟩ := S1.addr (by omega)
  obtain ⟨b2, o2, hA2⟩ := S2.addr (by omega)
  have px := P1 x (List.mem_of_getElem? hx)
  have py := P2 y (List.mem_of_getElem? hy)
  refine C.condT f20 rfl ?_
  refine wp_skip (hK6 _ _ ?_)
  have f21 := f20.pk [0, 1, 5, 11, 12, 13, 14]
  refine wp_seq_k fun K8 hK8 => ?_
  refine wp_block ?_
  refine wp_seq_k fun K9 hK9 => ?_
  have hd6 : Kept [] w1 (w1.drewN 1) := (Kept.refl _ _).drewN 1
  refine R.begin (S := fun W => (Kept [] w W)) (by kernel_rfl) (HK.z hd6) ?_
  obtain ⟨w2, hww2⟩ : ∃ W, W = w1.drewN 1 := ⟨_, rfl⟩
  rw [← hww2] at hd6 ⊢
  clear f19 f20 hww2
  have szw2 := hd6.size
  replace HK := HK.z hd6
  clear hd6
  refine R.t 0 f21 rfl HK (fun W hW => (E.move f21 rfl)) fun a22 f22 => ?_
  refine R.t 1 f22 rfl HK (fun W hW => (E.move f22 rfl)) fun a23 f23 => ?_
  refine R.t 2 f23 rfl HK (fun W hW => (E.indexA f23 (by assumption) U42 wsz35_rn rfl rfl (by omega) (by omega))) fun a24 f24 => ?_
  refine R.t 3 f24 rfl HK (fun W hW => (E.loadR f24 U35 rfl wsz35_rn rfl (pc_row hW hA1 hx S1) rfl)) fun a25 f25 => ?_
  refine R.t 4 f25 rfl HK (fun W hW => (E.move f25 rfl)) fun a26 f26 => ?_
  refine R.t 5 f26 rfl HK (fun W hW => (E.move f26 rfl)) fun a27 f27 => ?_
  refine R.t 6 f27 rfl HK (fun W hW => (E.indexA f27 (by assumption) U42 wsz35_rn rfl rfl (by omega) (by omega))) fun a28 f28 => ?_
  clear f21 a18 f22 a22 f23 a23 f24 a24 f25 a25 f26 a26 f27 a27
  refine R.t 7 f28 rfl HK (fun W hW => (E.loadR f28 U35 rfl wsz35_rn rfl (pc_row hW hA2 hy S2) rfl)) fun a29 f29 => ?_
  refine R.call 8 f29 rfl rfl (by decide) (by kernel_rfl) wantedN (run_call Tryz.call49 (args2 f29 rfl rfl)) (samePc_any x y _ hxy (px.kept HK) (py.kept HK)) ?_
  clear f28 a28
  rintro e w3 ⟨kc3, rfl⟩
  have szw3 := kc3.size
  replace HK := HK.z kc3
  refine ⟨_, rfl, HK, fun a30 f30 => ?_⟩
  clear f29 a29 kc3
  refine R.t 9 f30 rfl HK (fun W hW => (E.not f30 rfl)) fun a31 f31 => ?_
  refine R.done (by kernel_rfl) (hK9 _ _ ?_)
  have f32 := f31.pk [0, 1, 5, 11, 12, 13, 14, 17, 18, 19, 20, 21, 22, 23, 24, 25, 26]
  refine C.condF f32 rfl ?_
  refine wp_skip (hK8 _ _ ?_)
  have f33 := f32.pk [0, 1, 5, 11, 12, 13, 14, 17, 18, 19, 20, 21, 22, 23, 24, 25, 26]
  refine C.region ?_
  refine L.mv f33 fun a34 f34 => ?_
  refine L.va f34 (E.add f34 rfl rfl (IntWalk.i64_in _ (by omega))) fun a35 f35 => ?_
  refine L.ag f35 fun a36 f36 => ?_
  clear f30 a30 f31 f32 f33 a31 f34 a34 f35 a35
  refine wpList_nil (hKL5 _ _ (gk6 - 1) ?_ ?_)
  ·omega
  exact ⟨i + 1, by omega, HK, f36.sub (sx (sx (sx sn)))⟩
 refine C.condF f20 rfl ?_
 refine wp_exit (hK3 _ _ ?_)
 have f21 := f20.sub sn
 refine C.sk fun K10 hK10 => ?_
 refine L.ag f21 fun a22 f22 => ?_
 have f23 := f22.pk [4]
 refine wn hK10 (wp_ret ?_); (try simp only [xt, xb]); refine C.ret f23 rfl rfl ?_
 exact ⟨HK, rfl⟩
theorem subsEq_any (l : FE) (A A' : Option Addr) (c c' : Nat) (w : World) (S1 : Sl w A l.length 2 (l.flatMap scp)) (S2 : Sl w A' l.length 2 (l.flatMap scp)) (hlm : l.length ≤ 1000000) : Calls Tryz.prog 33 #[.slice A l.length c, .slice A' l.length c'] w (fun e w' => Kept [] w w' ∧ e = .returned (.bool true)) := by
 have HK : Kept [] w w := Kept.refl [] w
 refine C.enter Tryz.func33 rfl Tryz.ntmps33 rfl ?_
 intro a0 f0
 have f1 : Fr 26 a0 [(0, .slice A l.length c), (1, .slice A' l.length c')] := f0
 refine C.sk fun K0 hK0 => ?_
 refine L.ag f1 fun a2 f2 => ?_
 refine wn hK0 ?_
 have f3 := f2.pk [0, 1, 4]
 refine wp_seq_k fun K1 hK1 => C.sk fun K2 hK2 => ?_
 refine L.mv f3 fun a4 f4 => ?_
 refine L.va f4 (E.lenL f4 U32 rfl) fun a5 f5 => ?_
 refine L.mv f5 fun a6 f6 => ?_
 refine L.va f6 (E.lenL f6 U32 rfl) fun a7 f7 => ?_
 refine L.va f7 (E.neq f7 rfl rfl) fun a8 f8 => ?_
 clear f0 f1 a0 f2 f3 a2 f4 a4 f5 a5 f6 a6 f7 a7
 refine wn hK2 ?_
 have f9 := f8.pk [0, 1, 4, 10]
 clear f8
 refine f9.splitN 10 rfl (fun h0 f10 => ?_) (fun h0 f10 => ?_)
 ·clear f9
  exfalso
  omega
 refine C.condF f10 rfl ?_
 refine wp_skip (hK1 _ _ ?_)
 have f11 := f10.pk [0, 1, 4]
 refine wp_seq_k fun K3 hK3 => C.sk fun K4 hK4 => ?_
 refine L.ag f11 fun a12 f12 => ?_
 refine wn hK4 ?_
 have f13 := f12.pk [0, 1, 4, 5]
 refine wp_block ?_
 clear f9 f10 f11 a8 f12
 refine C.loop (fun gk a W => ∃ i : Nat, i + gk = l.length ∧ Kept [] w W ∧ Fr 26 a [(0, .slice A l.length c), (1, .slice A' l.length c'), (5, .int .i64 i)]) (l.length) ?_ ?_
 ·exact ⟨0, by omega, HK, f13.sub (sx (sx (sx sn)))⟩
 intro gk6 a14 w1 hI KL5 hKL5
 obtain ⟨i, hi, HK, f14⟩ := hI
 try clear f13
 refine wp_seq_k fun K6 hK6 => C.sk fun K7 hK7 => ?_
 refine L.mv f14 fun a15 f15 => ?_
 refine L.mv f15 fun a16 f16 => ?_
 refine L.va f16 (E.lenL f16 U32 rfl) fun a17 f17 => ?_
 refine L.va f17 (E.lss f17 rfl rfl) fun a18 f18 => ?_
 refine wn hK7 ?_
 have f19 := f18.pk [0, 1, 5, 11, 12, 13, 14]
 clear f14 a14 f15 a15 f16 a16 f17 a17 f18
 refine f19.splitD 14 rfl (fun h1 f20 => ?_) (fun h1 f20 => ?_)
 ·obtain ⟨x, hx⟩ := some_at l i (by omega)
  obtain ⟨b1, o1, hA1⟩ := S1.addr (by omega)
  obtain ⟨b2, o2, hA2⟩ := S2.addr (by omega)
  refine C.condT f20 rfl ?_
  refine wp_skip (hK6 _ _ ?_)
  have f21 := f20.pk [0, 1, 5, 11, 12, 13, 14]
  refine wp_seq_k fun K8 hK8 => ?_
  refine wp_block ?_
  refine wp_seq_k fun K9 hK9 => ?_
  have hd6 : Kept [] w1 (w1.drewN 1) := (Kept.refl _ _).drewN 1
  refine R.begin (S := fun W => (Kept [] w W)) (by kernel_rfl) (HK.z hd6) ?_
  obtain ⟨w2, hww2⟩ : ∃ W, W = w1.drewN 1 := ⟨_, rfl⟩
  rw [← hww2] at hd6 ⊢
  clear f19 f20 hww2
  have szw2 := hd6.size
  replace HK := HK.z hd6
  clear hd6
  refine R.t 0 f21 rfl HK (fun W hW => (E.move f21 rfl)) fun a22 f22 => ?_
  refine R.t 1 f22 rfl HK (fun W hW => (E.move f22 rfl)) fun a23 f23 => ?_
  refine R.t 2 f23 rfl HK (fun W hW => (E.indexA f23 (by assumption) U32 wsz66_rn rfl rfl (by omega) (by omega))) fun a24 f24 => ?_
  refine R.t 3 f24 rfl HK (fun W hW => (E.loadR f24 U66 rfl wsz66_rn rfl (ss_r2 hW hA1 hx S1) rfl)) fun a25 f25 => ?_
  refine R.t 4 f25 rfl HK (fun W hW => (E.move f25 rfl)) fun a26 f26 => ?_
  refine R.t 5 f26 rfl HK (fun W hW => (E.move f26 rfl)) fun a27 f27 => ?_
  refine R.t 6 f27 rfl HK (fun W hW => (E.indexA f27 (by assumption) U32 wsz66_rn rfl rfl (by omega) (by omega))) fun a28 f28 => ?_
  clear f21 a18 f22 a22 f23 a23 f24 a24 f25 a25 f26 a26 f27 a27
  refine R.t 7 f28 rfl HK (fun W hW => (E.loadR f28 U66 rfl wsz66_rn rfl (ss_r2 hW hA2 hx S2) rfl)) fun a29 f29 => ?_
  refine R.t 8 f29 rfl HK (fun W hW => (E.neqV f29 rfl rfl (neqSub _ _ _ _ _ _))) fun a30 f30 => ?_
  have f31 := f30.as (i := 25) (v' := .bool false) rfl (by simp)
  refine R.done (by kernel_rfl) (hK9 _ _ ?_)
  have f32 := f31.pk [0, 1, 5, 11, 12, 13, 14, 17, 18, 19, 20, 21, 22, 23, 24, 25]
  refine C.condF f32 rfl ?_
  refine wp_skip (hK8 _ _ ?_)
  have f33 := f32.pk [0, 1, 5, 11, 12, 13, 14, 17, 18, 19, 20, 21, 22, 23, 24, 25]
  refine C.region ?_
  refine L.mv f33 fun a34 f34 => ?_
  refine L.va f34 (E.add f34 rfl rfl (IntWalk.i64_in _ (by omega))) fun a35 f35 => ?_
  refine L.ag f35 fun a36 f36 => ?_
  clear f28 a28 f29 a29 f30 f31 f32 f33 a30 f34 a34 f35 a35
  refine wpList_nil (hKL5 _ _ (gk6 - 1) ?_ ?_)
  ·omega
  exact ⟨i + 1, by omega, HK, f36.sub (sx (sx (sx sn)))⟩
 refine C.condF f20 rfl ?_
 refine wp_exit (hK3 _ _ ?_)
 have f21 := f20.sub sn
 refine C.sk fun K10 hK10 => ?_
 refine L.ag f21 fun a22 f22 => ?_
 have f23 := f22.pk [4]
 refine wn hK10 (wp_ret ?_); (try simp only [xt, xb]); refine C.ret f23 rfl rfl ?_
 exact ⟨HK, rfl⟩
end Go.Proofs.YtdfllmiokgoekaaGreatDoor
