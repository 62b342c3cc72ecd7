/- Contracts: Ack, Got. -/
import Derived.Test.YtdfllmiokgoekaaSl2
set_option linter.all false
namespace Go.Proofs.Ytdfllmiokgoekaa
open Go.RowKit Go.Hub
theorem wsz3_l : (Try.prog.info? 3).map (·.size) = some 1 := by kernel_rfl
theorem wsz4_l : (Try.prog.info? 4).map (·.size) = some 1 := by kernel_rfl
theorem wsz43_l : (Try.prog.info? 43).map (·.size) = some 4 := by kernel_rfl
theorem wsz55_l : (Try.prog.info? 55).map (·.size) = some 1 := by kernel_rfl
theorem wsz61_l : (Try.prog.info? 61).map (·.size) = some 7 := by kernel_rfl
theorem wsz54_l : (Try.prog.info? 54).map (·.size) = some 1 := by kernel_rfl

theorem idx_spec' : ∀ {l : List Fc} {id k : Int}, ¬ idxI (l.map (·.id)) id k = -1 → ∃ (i : Nat) (x : Fc), idxI (l.map (·.id)) id k = k + i ∧ l[i]? = some x ∧ x.id = id
  | [], _, _, h => absurd rfl h
  | y :: r, id, k, h => by
    simp only [List.map_cons, idxI] at h ⊢
    by_cases hy : y.id = id
    · exact ⟨0, y, by rw [if_pos hy]; simp, rfl, hy⟩
    · rw [if_neg hy] at h ⊢
      obtain ⟨i, x, h1, h2, h3⟩ := idx_spec' h
      exact ⟨i + 1, x, by rw [h1]; omega, by simpa using h2, h3⟩
theorem idx_spec {l : List Fc} {id : Int} (h : ¬ idxI (l.map (·.id)) id 0 < 0) : ∃ (i : Nat) (x : Fc), idxI (l.map (·.id)) id 0 = i ∧ l[i]? = some x ∧ x.id = id := by
  obtain ⟨i, x, h1, h2⟩ := idx_spec' (l := l) (id := id) (k := 0) (by omega)
  exact ⟨i, x, by omega, h2⟩
theorem set_at {l : List Fc} {i : Nat} {f' : Fc} (h : i < l.length) : (l.set i f')[i]? = some f' := by simp [h]
theorem set_cell : ∀ {l : List Fc} {i j : Nat} {f : Fc}, l[i]? = some f → j < 7 → ∀ v, (l.flatMap fcell).set (i * 7 + j) v = setSeg (l.flatMap fcell) (i * 7) ((fcell f).set j v)
  | l, i, j, f, hf, hj, v => by
    have hi := (List.getElem?_eq_some_iff.1 hf).1
    have hn : i * 7 + 7 ≤ l.length * 7 := by omega
    apply List.ext_getElem?
    intro q
    rw [setSeg_at _ _ _ _ (by rw [List.length_set, fcell_len]; exact hn), List.getElem?_set, List.length_set]
    simp only [fcell, List.length_cons, List.length_nil]
    rw [fcell_len]
    by_cases hq : i * 7 ≤ q ∧ q < i * 7 + (0 + 1 + 1 + 1 + 1 + 1 + 1 + 1)
    · rw [if_pos hq, List.getElem?_set]
      by_cases hqj : i * 7 + j = q
      · rw [if_pos hqj, if_pos (by omega), if_pos (by omega), if_pos (by simp; omega)]
      · rw [if_neg hqj, if_neg (by omega)]
        obtain ⟨d, rfl⟩ : ∃ d, q = i * 7 + d := ⟨q - i * 7, by omega⟩
        have hd : d < (fcell f).length := by simp only [fcell, List.length_cons, List.length_nil]; omega
        rw [show i * 7 + d - i * 7 = d by omega]
        have := flat_at fcell 7 (fun _ => rfl) l i f hf d (fcell f)[d] (List.getElem?_eq_getElem hd)
        rw [this]
        exact (List.getElem?_eq_getElem hd).symm
    · rw [if_neg hq, if_neg (by omega)]
theorem FlyAt.set {B : Nat} {w w' : World} {A : Option Addr} {c i j : Nat} {l : List Fc} {f f' : Fc} {v : Value} (h : FlyAt B w A c l) (hf : l[i]? = some f) (hm : Mod [61] [] B w w') (O : Own w' 61 7 (.slice A l.length c) l.length ((l.flatMap fcell).set (i * 7 + j) v)) (hv : fcell f' = (fcell f).set j v) (hp : f'.x = f.x) (hj : j < 7 := by decide) : FlyAt B w' A c (l.set i f') := by
  have hi := (List.getElem?_eq_some_iff.1 hf).1
  have hx : (l.flatMap fcell).set (i * 7 + j) v = (l.set i f').flatMap fcell := by
    have h1 := set_cell (l := l) (i := i) (f := f) hf hj v
    rw [h1, ← hv, flat_seg fcell 7 (fun _ => rfl) (by decide) l i f' hi]
  have hl : l.length = (l.set i f').length := by simp
  rw [hx, hl] at O
  refine ⟨O, fun g hg => ?_, h.loA, by rw [← hl]; exact h.len⟩
  rcases List.mem_or_eq_of_mem_set hg with hg | rfl
  · exact (h.pay g hg).mod hm (by decide)
  · rw [hp]; exact (h.pay f (List.mem_of_getElem? hf)).mod hm (by decide)
section
variable {s : Ses} {kind id now : Int} {i : Nat} {x : Fc}
theorem abs_ids (s : Ses) : s.abs.fly.map (·.id) = s.fly.map (·.id) := by simp [Ses.abs, Fc.abs]
theorem ack_no (h : idxI (s.fly.map (·.id)) id 0 < 0) : ackS s.abs kind id now = (s.abs, []) := by
  unfold ackS
  simp only
  rw [abs_ids]
  split
  · rfl
  · rw [if_pos h]
theorem ack_at (h : idxI (s.fly.map (·.id)) id 0 = i) (hf : s.fly[i]? = some x) : ackS s.abs kind id now = if (kind = 4 ∧ x.x.m.qos = 1) ∨ (kind = 7 ∧ x.rc = true) then doneS s.abs i x.id now
    else if kind = 5 ∧ x.x.m.qos = 2 then ({ s.abs with fly := s.abs.fly.set i { x.abs with rc := true, at_ := nearI now } }, [ackP 6 x.id]) else (s.abs, []) := by
  have h1 : s.abs.fly[(i : Int).toNat]? = some x.abs := by simp [Ses.abs, hf]
  unfold ackS
  simp only
  rw [abs_ids, h, h1]
  simp only
  rw [if_neg (by omega)]
  rfl
end
theorem done_len {s : SA} {i : Nat} {id now : Int} {pks : List Pc} (h : pks.map (·.p) = (doneS s i id now).2) : pks.length ≤ 10 := by
  have h1 := congrArg List.length h
  rw [List.length_map] at h1
  have := drainS_len { s with used := s.used.erase id, fly := s.fly.eraseIdx i } now
  unfold doneS at h1
  omega
theorem one_ack {B g : Nat} {w W : World} {k id : Int} (B9 : Blk W g 35 (ackCells k id)) (hg : w.heap.size ≤ g) : PkAt B w W (some ⟨g, 0, none⟩) 1 [⟨ackP k id, none, 0⟩] :=
  pk_one (x := ⟨ackP k id, none, 0⟩) ⟨rfl, .inr ⟨g, 0, 1, _, rfl, B9, Nat.le_refl _, by decide, Nat.le_refl 24, fun j u hu => by rw [Nat.zero_add, ← Array.getElem?_toList]; exact hu⟩⟩ hg (Pay.nil _ _ _)
theorem set_same {α : Type} {l : List α} {i : Nat} {v : α} (h : l[i]? = some v) : l.set i v = l := by
  apply List.ext_getElem?
  intro j
  rw [List.getElem?_set]
  by_cases hj : i = j
  · subst hj
    rw [if_pos rfl, if_pos (List.getElem?_eq_some_iff.1 h).1, h]
  · rw [if_neg hj]
theorem ack_fin {B p i g : Nat} {s : Ses} {x : Fc} {w W : World} {r : SA × List Pa} {now : Int} (hS : SesAt B w p s) (hf : s.fly[i]? = some x) (HK : Mod [57, 69, 61, 72, 43] [s.im, s.gm] B w W) (HK1 : Mod [61] [] B w W) (BP : Blk W p 57 s.cells) (FL : FlyAt B W s.FA s.fc ((s.fly.set i { x with rc := true }).set i { x with rc := true, at_ := nearI now }))
    (h : r = ({ s.abs with fly := s.abs.fly.set i { x.abs with rc := true, at_ := nearI now } }, [ackP 6 x.id])) (B9 : Blk W g 35 (ackCells 6 x.id)) (hg : w.heap.size ≤ g) (hB : B ≤ w.heap.size) : OutPost [57, 69, 61, 72, 43] B p s r w (.returned (.slice (some ⟨g, 0, none⟩) 1 1)) W := by
  have hi := (List.getElem?_eq_some_iff.1 hf).1
  have hx := (List.getElem?_eq_some_iff.1 hf).2
  rw [List.set_set] at FL
  refine ⟨{ s with fly := s.fly.set i { x with rc := true, at_ := nearI now } }, some ⟨g, 0, none⟩, 1, [⟨ackP 6 x.id, none, 0⟩], rfl, ⟨?_, hS.one, hS.ids.mod HK1 (by decide) (by simp), hS.qu.mod HK1 (by decide), FL, hS.got.mod HK1 (by simp), hS.ne, hS.lop, hS.loi, hS.lom, hS.log, hS.tk, ?_, ?_, ?_⟩, ?_, ⟨rfl, rfl, rfl⟩, HK, one_ack B9 hg, by simp⟩
  · simpa [Ses.cells] using BP
  · show s.used.Perm ((s.fly.set i { x with rc := true, at_ := nearI now }).map (·.id))
    have h1 : (s.fly.set i { x with rc := true, at_ := nearI now }).map (·.id) = s.fly.map (·.id) := by
      rw [List.map_set]
      exact set_same (by simp [hf])
    rw [h1]
    exact hS.perm
  · intro y hy
    rcases List.mem_or_eq_of_mem_set hy with hy | rfl
    · exact hS.ats y hy
    · exact near_bd now
  · intro y hy
    rcases List.mem_or_eq_of_mem_set hy with hy | rfl
    · exact hS.idb y hy
    · exact hS.idb x (List.mem_of_getElem? hf)
  · rw [h]
    simp [Ses.abs, List.map_set, Fc.abs]
def GotPost (B p : Nat) (s : Ses) (r : SA × Bool × List Pa) (w : World) (e : Ending) (w' : World) : Prop :=
  ∃ s' A c pks, e = .returned (.tuple #[.bool r.2.1, .slice A pks.length c]) ∧ SesAt B w' p s' ∧ s'.abs = r.1 ∧ pks.map (·.p) = r.2.2 ∧ s.Like s' ∧ Mod [] [s.im, s.gm] B w w' ∧ PkAt B w w' A c pks ∧ pks.length ≤ 1
section
variable {B p g : Nat} {s : Ses} {w W : World} {r : SA × Bool × List Pa} {b : Bool} {k id : Int} {S : List Int}
theorem got_nil (hS : SesAt B w p s) (HK : Mod [] [s.im, s.gm] B w W) (HK0 : Mod [] [] B w W) (h : r = (s.abs, b, [])) : GotPost B p s r w (.returned (.tuple #[.bool b, .slice none 0 0])) W := by
  subst h
  exact ⟨s, none, 0, [], rfl, hS.mod HK0 (by simp), rfl, rfl, ⟨rfl, rfl, rfl⟩, HK, PkAt.nil _ _ _, by simp⟩
theorem got_one (hS : SesAt B w p s) (HK : Mod [] [s.im, s.gm] B w W) (HK0 : Mod [] [] B w W) (h : r = (s.abs, b, [ackP k id])) (B9 : Blk W g 35 (ackCells k id)) (hg : w.heap.size ≤ g) : GotPost B p s r w (.returned (.tuple #[.bool b, .slice (some ⟨g, 0, none⟩) 1 1])) W := by
  subst h
  exact ⟨s, _, _, [⟨ackP k id, none, 0⟩], rfl, hS.mod HK0 (by simp), rfl, rfl, ⟨rfl, rfl, rfl⟩, HK, one_ack B9 hg, by simp⟩
theorem got_fin (hS : SesAt B w p s) (HK : Mod [] [s.im, s.gm] B w W) (HK2 : Mod [] [s.gm] B w W) (IN : IsSet Try.prog 3 4 W s.gm S) (h : r = ({ s.abs with got := S }, b, [ackP k id])) (B9 : Blk W g 35 (ackCells k id)) (hg : w.heap.size ≤ g) : GotPost B p s r w (.returned (.tuple #[.bool b, .slice (some ⟨g, 0, none⟩) 1 1])) W := by
  subst h
  exact ⟨{ s with got := S }, _, _, [⟨ackP k id, none, 0⟩], rfl, ⟨hS.top.mod HK2 (by simp), hS.one, hS.ids.mod HK2 (by simp) (by simpa using hS.ne), hS.qu.mod HK2 (by simp), hS.fly.mod HK2 (by simp), IN, hS.ne, hS.lop, hS.loi, hS.lom, hS.log, hS.tk, hS.perm, hS.ats, hS.idb⟩, rfl, rfl, ⟨rfl, rfl, rfl⟩, HK, one_ack B9 hg, by simp⟩
end

set_option maxHeartbeats 1000000 in
theorem ack_any (B p : Nat) (s : Ses) (kind id now : Int) (pcs : Array Value) (hp0 : pcs.toList[0]? = some (.int .i64 kind)) (hp4 : pcs.toList[4]? = some (.int .i64 id)) (w : World) (hS : SesAt B w p s) (hB : B ≤ w.heap.size) : Calls Try.prog 13 #[.pointer (some ⟨p, 0, none⟩), .agg pcs, .int .i64 now] w (OutPost [57, 69, 61, 72, 43] B p s (ackS s.abs kind id now) w) := by
  have HK : Mod [57, 69, 61, 72, 43] [s.im, s.gm] B w w := .refl _ _ _ _
  have HK0 : Mod [] [] B w w := .refl _ _ _ _
  have HK1 : Mod [61] [] B w w := .refl _ _ _ _
  have BP := hS.top
  have FL := hS.fly
  have hl4 := hS.fly.len
  refine C.enter Try.func13 rfl Try.ntmps13 rfl ?_
  intro a0 f0
  have f1 : Fr 73 a0 [(0, .pointer (some ⟨p, 0, none⟩)), (1, .agg pcs), (2, .int .i64 now)] := f0
  clear f0
  refine wp_seq_k fun K0 hK0 => ?_
  refine C.region ?_
  refine L.box f1 wantedN (by decide) rfl rfl fun a2 w1 g0 N0 f2 => ?_
  have Bg0 := N0.blk
  have kg0 := N0.kept
  have log0 := N0.lo
  have ltg0 := Bg0.lt
  have szw1 := kg0.size
  have frg0 : w.heap.size ≤ g0 := Nat.le_trans HK.size log0
  have nep_g0 : p ≠ g0 := by have := BP.lt; omega
  replace HK := HK.trans (.of_kept0 kg0)
  replace HK0 := HK0.trans (.of_kept0 kg0)
  replace HK1 := HK1.trans (.of_kept0 kg0)
  replace BP := BP.kept kg0 (by simp)
  replace FL := FL.mod (Mod.of_kept0 (T := []) (M := []) (B := B) kg0) (by decide)
  clear N0 kg0
  clear f1 a0
  refine L.val f2 wantedN rfl (by decide) (E.assign f2 rfl) fun a3 f3 => ?_
  clear f2 a2
  refine wpList_nil (hK0 _ _ ?_)
  try clear hK0 K0
  have f4 := f3.sub (sub_cons (i := 0) rfl (sub_cons (i := 2) rfl (sub_cons (i := 4) rfl (sub_cons (i := 6) rfl sub_nil))))
  clear f3
  refine wp_seq_k fun K1 hK1 => ?_
  refine C.region ?_
  refine L.val f4 wantedN rfl (by decide) (E.move f4 rfl) fun a5 f5 => ?_
  clear f4 a3
  refine L.val f5 wantedN rfl (by decide) (E.nilCheck f5 rfl) fun a6 f6 => ?_
  clear f5 a5
  refine L.val f6 wantedN rfl (by decide) (E.fieldAddr f6 Try.underlying57 rfl rfl wsz55_l) fun a7 f7 => ?_
  clear f6 a6
  refine L.val f7 wantedN rfl (by decide) (by first | exact E.load f7 Try.underlying55 rfl rfl ((BP).cl rfl) | exact E.load f7 Try.underlying55 rfl rfl ((Bg0).cl rfl) | exact E.load f7 Try.underlying55 rfl rfl (Bg0.cl hp0) | exact E.load f7 Try.underlying55 rfl rfl (Bg0.cl hp4)) fun a8 f8 => ?_
  clear f7 a7
  refine L.val f8 wantedN rfl (by decide) (E.makeFunc1 f8 rfl) fun a9 f9 => ?_
  clear f8 a8
  refine L.call f9 wantedN rfl (by decide) (run_call Try.call24 (args2 f9 rfl rfl)) (idx_any s.FA s.fc s.fly g0 pcs id _ FL.own Bg0 hp4 hS.fly.len) ?_
  rintro e w2 ⟨rfl, kc2⟩
  refine ⟨_, rfl, fun a10 f10 => ?_⟩
  clear f9 a9
  have szw2 := kc2.size
  replace HK := HK.trans (.of_kept0 kc2)
  replace HK0 := HK0.trans (.of_kept0 kc2)
  replace HK1 := HK1.trans (.of_kept0 kc2)
  replace BP := BP.kept kc2 (by simp)
  replace FL := FL.mod (Mod.of_kept0 (T := []) (M := []) (B := B) kc2) (by decide)
  replace Bg0 := Bg0.kept kc2 (by simp)
  clear kc2
  refine L.val f10 wantedN rfl (by decide) (E.assign f10 rfl) fun a11 f11 => ?_
  clear f10 a10
  refine wpList_nil (hK1 _ _ ?_)
  try clear hK1 K1
  have f12 := f11.sub (sub_cons (i := 0) rfl (sub_cons (i := 2) rfl (sub_cons (i := 4) rfl (sub_cons (i := 6) rfl (sub_cons (i := 7) rfl sub_nil)))))
  clear f11
  refine wp_seq_k fun K2 hK2 => ?_
  refine wp_seq_k fun K3 hK3 => ?_
  refine C.region ?_
  refine L.val f12 wantedN rfl (by decide) (E.move f12 rfl) fun a13 f13 => ?_
  clear f12 a11
  refine L.val f13 wantedN rfl (by decide) (E.lss f13 rfl rfl) fun a14 f14 => ?_
  clear f13 a13
  refine wpList_nil (hK3 _ _ ?_)
  try clear hK3 K3
  have f15 := f14.sub (sub_cons (i := 0) rfl (sub_cons (i := 2) rfl (sub_cons (i := 4) rfl (sub_cons (i := 6) rfl (sub_cons (i := 7) rfl (sub_cons (i := 16) rfl sub_nil))))))
  clear f14
  first | refine f15.splitD 16 rfl (fun h0 f16 => ?_) (fun h0 f16 => ?_) | refine f15.splitN 16 rfl (fun h0 f16 => ?_) (fun h0 f16 => ?_) | refine f15.splitNB 16 rfl (fun h0 f16 => ?_) (fun h0 f16 => ?_) | refine f15.split 16 rfl (fun h0 f16 => ?_) (fun h0 f16 => ?_)
  · clear f15
    have hneg := h0
    refine C.condT f16 rfl ?_
    refine wp_seq_k fun K4 hK4 => ?_
    refine C.region ?_
    refine L.val f16 wantedN rfl (by decide) (E.assign f16 rfl) fun a17 f17 => ?_
    clear f16 a14
    refine wpList_nil (hK4 _ _ ?_)
    try clear hK4 K4
    have f18 := f17.sub (sub_cons (i := 0) rfl (sub_cons (i := 2) rfl (sub_cons (i := 4) rfl (sub_cons (i := 6) rfl (sub_cons (i := 7) rfl sub_nil)))))
    clear f17
    refine wp_ret ?_
    try simp only [Exit.inBlock, Exit.then]
    refine C.ret (P := Try.prog) (fn := Try.f13) f18 rfl rfl ?_
    exact ⟨s, none, 0, [], rfl, hS.mod HK0 (by simp), by rw [ack_no hneg]; rfl, ⟨rfl, rfl, rfl⟩, HK, PkAt.nil _ _ _, by simp⟩
  · clear f15
    have hpos := h0
    obtain ⟨i, x, hri, hf, hid⟩ := idx_spec (l := s.fly) (id := id) hpos
    rw [hri] at f16
    have hi4 := (List.getElem?_eq_some_iff.1 hf).1
    obtain ⟨b, off, hA⟩ := (Sl.of_own hS.fly.own).addr (by omega)
    refine C.condF f16 rfl ?_
    refine wp_skip (hK2 _ _ ?_)
    try clear hK2 K2
    have f17 := f16.sub (sub_cons (i := 0) rfl (sub_cons (i := 2) rfl (sub_cons (i := 4) rfl (sub_cons (i := 6) rfl (sub_cons (i := 7) rfl sub_nil)))))
    clear f16
    refine wp_seq_k fun K5 hK5 => ?_
    refine wp_seq_k fun K6 hK6 => ?_
    refine C.region ?_
    refine L.val f17 wantedN rfl (by decide) (E.move f17 rfl) fun a18 f18 => ?_
    clear f17 a14
    refine L.val f18 wantedN rfl (by decide) (E.nilCheck f18 rfl) fun a19 f19 => ?_
    clear f18 a18
    refine L.val f19 wantedN rfl (by decide) (E.fieldAddr f19 Try.underlying57 rfl rfl wsz55_l) fun a20 f20 => ?_
    clear f19 a19
    refine L.val f20 wantedN rfl (by decide) (by first | exact E.load f20 Try.underlying55 rfl rfl ((BP).cl rfl) | exact E.load f20 Try.underlying55 rfl rfl ((Bg0).cl rfl) | exact E.load f20 Try.underlying55 rfl rfl (Bg0.cl hp0) | exact E.load f20 Try.underlying55 rfl rfl (Bg0.cl hp4)) fun a21 f21 => ?_
    clear f20 a20
    refine L.val f21 wantedN rfl (by decide) (E.move f21 rfl) fun a22 f22 => ?_
    clear f21 a21
    refine L.val f22 wantedN rfl (by decide) (E.indexA f22 (by first | rfl | assumption) Try.underlying55 wsz61_l rfl rfl (by omega) (by omega)) fun a23 f23 => ?_
    clear f22 a22
    refine L.val f23 wantedN rfl (by decide) (E.assign f23 rfl) fun a24 f24 => ?_
    clear f23 a23
    refine wpList_nil (hK6 _ _ ?_)
    try clear hK6 K6
    have f25 := f24.sub (sub_cons (i := 0) rfl (sub_cons (i := 2) rfl (sub_cons (i := 4) rfl (sub_cons (i := 6) rfl (sub_cons (i := 7) rfl (sub_cons (i := 8) rfl sub_nil))))))
    clear f24
    refine wp_block ?_
    refine wp_seq_k fun K7 hK7 => ?_
    refine wp_seq_k fun K8 hK8 => ?_
    refine C.region ?_
    refine L.val f25 wantedN rfl (by decide) (E.fieldAddr f25 Try.underlying35 rfl rfl wsz3_l) fun a26 f26 => ?_
    clear f25 a24
    refine L.val f26 wantedN rfl (by decide) (by first | exact E.load f26 Try.underlying3 rfl rfl ((BP).cl rfl) | exact E.load f26 Try.underlying3 rfl rfl ((Bg0).cl rfl) | exact E.load f26 Try.underlying3 rfl rfl (Bg0.cl hp0) | exact E.load f26 Try.underlying3 rfl rfl (Bg0.cl hp4)) fun a27 f27 => ?_
    clear f26 a26
    refine L.val f27 wantedN rfl (by decide) (E.eql f27 rfl rfl) fun a28 f28 => ?_
    clear f27 a27
    refine L.val f28 wantedN rfl (by decide) (E.move f28 rfl) fun a29 f29 => ?_
    clear f28 a28
    first | refine f29.splitD 27 rfl (fun h1 f30 => ?_) (fun h1 f30 => ?_) | refine f29.splitN 27 rfl (fun h1 f30 => ?_) (fun h1 f30 => ?_) | refine f29.splitNB 27 rfl (fun h1 f30 => ?_) (fun h1 f30 => ?_) | refine f29.split 27 rfl (fun h1 f30 => ?_) (fun h1 f30 => ?_)
    · clear f29
      refine L.val f30 (f30.yes rfl rfl) rfl (by decide) (E.move f30 rfl) fun a31 f31 => ?_
      clear f30 a29
      refine L.val f31 (f31.yes rfl rfl) rfl (by decide) (E.nilCheck f31 rfl) fun a32 f32 => ?_
      clear f31 a31
      refine L.val f32 (f32.yes rfl rfl) rfl (by decide) (E.fieldAddr f32 Try.underlying61 rfl rfl wsz43_l) fun a33 f33 => ?_
      clear f32 a32
      refine L.val f33 (f33.yes rfl rfl) rfl (by decide) (E.fieldAddr f33 Try.underlying43 rfl rfl wsz3_l) fun a34 f34 => ?_
      clear f33 a33
      refine L.val f34 (f34.yes rfl rfl) rfl (by decide) (E.load f34 Try.underlying3 rfl rfl (fly_cell (Sl.of_own FL.own) hA hf 2 rfl (show off + i * 7 + 0 + 2 = _ by omega))) fun a35 f35 => ?_
      clear f34 a34
      refine L.val f35 (f35.yes rfl rfl) rfl (by decide) (E.eql f35 rfl rfl) fun a36 f36 => ?_
      clear f35 a35
      refine L.val f36 wantedN rfl (by decide) (E.pickT f36 rfl rfl) fun a37 f37 => ?_
      clear f36 a36
      refine L.val f37 wantedN rfl (by decide) (E.assign f37 rfl) fun a38 f38 => ?_
      clear f37 a37
      refine wpList_nil (hK8 _ _ ?_)
      try clear hK8 K8
      have f39 := f38.sub (sub_cons (i := 0) rfl (sub_cons (i := 2) rfl (sub_cons (i := 4) rfl (sub_cons (i := 6) rfl (sub_cons (i := 7) rfl (sub_cons (i := 8) rfl (sub_cons (i := 23) rfl sub_nil)))))))
      clear f38
      first | refine f39.splitD 23 rfl (fun h2 f40 => ?_) (fun h2 f40 => ?_) | refine f39.splitN 23 rfl (fun h2 f40 => ?_) (fun h2 f40 => ?_) | refine f39.splitNB 23 rfl (fun h2 f40 => ?_) (fun h2 f40 => ?_) | refine f39.split 23 rfl (fun h2 f40 => ?_) (fun h2 f40 => ?_)
      · clear f39
        refine C.condT f40 rfl ?_
        refine wp_skip (hK7 _ _ ?_)
        try clear hK7 K7
        have f41 := f40.sub (sub_cons (i := 0) rfl (sub_cons (i := 2) rfl (sub_cons (i := 4) rfl (sub_cons (i := 6) rfl (sub_cons (i := 7) rfl (sub_cons (i := 8) rfl (sub_cons (i := 23) rfl sub_nil)))))))
        clear f40
        refine C.condT f41 rfl ?_
        refine wp_seq_k fun K9 hK9 => ?_
        refine C.region ?_
        refine L.val f41 wantedN rfl (by decide) (E.move f41 rfl) fun a42 f42 => ?_
        clear f41 a38
        refine L.val f42 wantedN rfl (by decide) (E.move f42 rfl) fun a43 f43 => ?_
        clear f42 a42
        refine L.val f43 wantedN rfl (by decide) (E.move f43 rfl) fun a44 f44 => ?_
        clear f43 a43
        refine L.call f44 wantedN rfl (by decide) (run_call Try.call26 (args3 f44 rfl rfl rfl)) (done_any B p s i x now _ (hS.mod HK0 (by simp)) hf (by omega)) ?_
        rintro e w3 ⟨s2, A2, c2, pks, rfl, HS2, hab, hpp, hL2, kc3, PK⟩
        have hl10 := done_len hpp
        have szz := HK.size
        replace PK := PK.lower (w1 := w) szz
        refine ⟨_, rfl, fun a45 f45 => ?_⟩
        clear f44 a44
        have szw3 := kc3.size
        replace HK := HK.step kc3 (by decide) (by simp) (by omega)
        clear kc3
        refine L.val f45 wantedN rfl (by decide) (E.assign f45 rfl) fun a46 f46 => ?_
        clear f45 a45
        refine wpList_nil (hK9 _ _ ?_)
        try clear hK9 K9
        have f47 := f46.sub (sub_cons (i := 6) rfl sub_nil)
        clear f46
        refine wp_ret ?_
        try simp only [Exit.inBlock, Exit.then]
        refine C.ret (P := Try.prog) (fn := Try.f13) f47 rfl rfl ?_
        exact ⟨s2, A2, c2, pks, rfl, HS2, by rw [ack_at hri hf, if_pos (by simp_all), hab, hpp], hL2, HK, PK, hl10⟩
      · clear f39
        refine C.condF f40 rfl ?_
        refine C.region ?_
        refine L.val f40 wantedN rfl (by decide) (E.fieldAddr f40 Try.underlying35 rfl rfl wsz3_l) fun a41 f41 => ?_
        clear f40 a38
        refine L.val f41 wantedN rfl (by decide) (by first | exact E.load f41 Try.underlying3 rfl rfl ((BP).cl rfl) | exact E.load f41 Try.underlying3 rfl rfl ((Bg0).cl rfl) | exact E.load f41 Try.underlying3 rfl rfl (Bg0.cl hp0) | exact E.load f41 Try.underlying3 rfl rfl (Bg0.cl hp4)) fun a42 f42 => ?_
        clear f41 a41
        refine L.val f42 wantedN rfl (by decide) (E.eql f42 rfl rfl) fun a43 f43 => ?_
        clear f42 a42
        refine L.val f43 wantedN rfl (by decide) (E.move f43 rfl) fun a44 f44 => ?_
        clear f43 a43
        first | refine f44.splitD 38 rfl (fun h3 f45 => ?_) (fun h3 f45 => ?_) | refine f44.splitN 38 rfl (fun h3 f45 => ?_) (fun h3 f45 => ?_) | refine f44.splitNB 38 rfl (fun h3 f45 => ?_) (fun h3 f45 => ?_) | refine f44.split 38 rfl (fun h3 f45 => ?_) (fun h3 f45 => ?_)
        · clear f44
          refine L.val f45 (f45.yes rfl rfl) rfl (by decide) (E.move f45 rfl) fun a46 f46 => ?_
          clear f45 a44
          refine L.val f46 (f46.yes rfl rfl) rfl (by decide) (E.nilCheck f46 rfl) fun a47 f47 => ?_
          clear f46 a46
          refine L.val f47 (f47.yes rfl rfl) rfl (by decide) (E.fieldAddr f47 Try.underlying61 rfl rfl wsz4_l) fun a48 f48 => ?_
          clear f47 a47
          refine L.val f48 (f48.yes rfl rfl) rfl (by decide) (E.load f48 Try.underlying4 rfl rfl (fly_cell (Sl.of_own FL.own) hA hf 6 rfl (show off + i * 7 + 6 = _ by omega))) fun a49 f49 => ?_
          clear f48 a48
          refine L.val f49 wantedN rfl (by decide) (E.pickT f49 rfl rfl) fun a50 f50 => ?_
          clear f49 a49
          refine L.val f50 wantedN rfl (by decide) (E.assign f50 rfl) fun a51 f51 => ?_
          clear f50 a50
          refine wpList_nil (hK7 _ _ ?_)
          try clear hK7 K7
          have f52 := f51.sub (sub_cons (i := 0) rfl (sub_cons (i := 2) rfl (sub_cons (i := 4) rfl (sub_cons (i := 6) rfl (sub_cons (i := 7) rfl (sub_cons (i := 8) rfl (sub_cons (i := 23) rfl sub_nil)))))))
          clear f51
          first | refine f52.splitD 23 rfl (fun h4 f53 => ?_) (fun h4 f53 => ?_) | refine f52.splitN 23 rfl (fun h4 f53 => ?_) (fun h4 f53 => ?_) | refine f52.splitNB 23 rfl (fun h4 f53 => ?_) (fun h4 f53 => ?_) | refine f52.split 23 rfl (fun h4 f53 => ?_) (fun h4 f53 => ?_)
          · clear f52
            refine C.condT f53 rfl ?_
            refine wp_seq_k fun K10 hK10 => ?_
            refine C.region ?_
            refine L.val f53 wantedN rfl (by decide) (E.move f53 rfl) fun a54 f54 => ?_
            clear f53 a51
            refine L.val f54 wantedN rfl (by decide) (E.move f54 rfl) fun a55 f55 => ?_
            clear f54 a54
            refine L.val f55 wantedN rfl (by decide) (E.move f55 rfl) fun a56 f56 => ?_
            clear f55 a55
            refine L.call f56 wantedN rfl (by decide) (run_call Try.call26 (args3 f56 rfl rfl rfl)) (done_any B p s i x now _ (hS.mod HK0 (by simp)) hf (by omega)) ?_
            rintro e w3 ⟨s2, A2, c2, pks, rfl, HS2, hab, hpp, hL2, kc3, PK⟩
            have hl10 := done_len hpp
            have szz := HK.size
            replace PK := PK.lower (w1 := w) szz
            refine ⟨_, rfl, fun a57 f57 => ?_⟩
            clear f56 a56
            have szw3 := kc3.size
            replace HK := HK.step kc3 (by decide) (by simp) (by omega)
            clear kc3
            refine L.val f57 wantedN rfl (by decide) (E.assign f57 rfl) fun a58 f58 => ?_
            clear f57 a57
            refine wpList_nil (hK10 _ _ ?_)
            try clear hK10 K10
            have f59 := f58.sub (sub_cons (i := 6) rfl sub_nil)
            clear f58
            refine wp_ret ?_
            try simp only [Exit.inBlock, Exit.then]
            refine C.ret (P := Try.prog) (fn := Try.f13) f59 rfl rfl ?_
            exact ⟨s2, A2, c2, pks, rfl, HS2, by rw [ack_at hri hf, if_pos (by simp_all), hab, hpp], hL2, HK, PK, hl10⟩
          · clear f52
            refine C.condF f53 rfl ?_
            refine wp_seq_k fun K11 hK11 => ?_
            refine C.region ?_
            refine L.val f53 wantedN rfl (by decide) (E.fieldAddr f53 Try.underlying35 rfl rfl wsz3_l) fun a54 f54 => ?_
            clear f53 a51
            refine L.val f54 wantedN rfl (by decide) (by first | exact E.load f54 Try.underlying3 rfl rfl ((BP).cl rfl) | exact E.load f54 Try.underlying3 rfl rfl ((Bg0).cl rfl) | exact E.load f54 Try.underlying3 rfl rfl (Bg0.cl hp0) | exact E.load f54 Try.underlying3 rfl rfl (Bg0.cl hp4)) fun a55 f55 => ?_
            clear f54 a54
            refine L.val f55 wantedN rfl (by decide) (E.eql f55 rfl rfl) fun a56 f56 => ?_
            clear f55 a55
            refine L.val f56 wantedN rfl (by decide) (E.move f56 rfl) fun a57 f57 => ?_
            clear f56 a56
            first | refine f57.splitD 52 rfl (fun h5 f58 => ?_) (fun h5 f58 => ?_) | refine f57.splitN 52 rfl (fun h5 f58 => ?_) (fun h5 f58 => ?_) | refine f57.splitNB 52 rfl (fun h5 f58 => ?_) (fun h5 f58 => ?_) | refine f57.split 52 rfl (fun h5 f58 => ?_) (fun h5 f58 => ?_)
            · clear f57
              refine L.val f58 (f58.yes rfl rfl) rfl (by decide) (E.move f58 rfl) fun a59 f59 => ?_
              clear f58 a57
              refine L.val f59 (f59.yes rfl rfl) rfl (by decide) (E.nilCheck f59 rfl) fun a60 f60 => ?_
              clear f59 a59
              refine L.val f60 (f60.yes rfl rfl) rfl (by decide) (E.fieldAddr f60 Try.underlying61 rfl rfl wsz43_l) fun a61 f61 => ?_
              clear f60 a60
              refine L.val f61 (f61.yes rfl rfl) rfl (by decide) (E.fieldAddr f61 Try.underlying43 rfl rfl wsz3_l) fun a62 f62 => ?_
              clear f61 a61
              refine L.val f62 (f62.yes rfl rfl) rfl (by decide) (E.load f62 Try.underlying3 rfl rfl (fly_cell (Sl.of_own FL.own) hA hf 2 rfl (show off + i * 7 + 0 + 2 = _ by omega))) fun a63 f63 => ?_
              clear f62 a62
              refine L.val f63 (f63.yes rfl rfl) rfl (by decide) (E.eql f63 rfl rfl) fun a64 f64 => ?_
              clear f63 a63
              refine L.val f64 wantedN rfl (by decide) (E.pickT f64 rfl rfl) fun a65 f65 => ?_
              clear f64 a64
              refine L.val f65 wantedN rfl (by decide) (E.assign f65 rfl) fun a66 f66 => ?_
              clear f65 a65
              refine wpList_nil (hK11 _ _ ?_)
              try clear hK11 K11
              have f67 := f66.sub (sub_cons (i := 2) rfl (sub_cons (i := 6) rfl (sub_cons (i := 8) rfl (sub_cons (i := 48) rfl sub_nil))))
              clear f66
              first | refine f67.splitD 48 rfl (fun h6 f68 => ?_) (fun h6 f68 => ?_) | refine f67.splitN 48 rfl (fun h6 f68 => ?_) (fun h6 f68 => ?_) | refine f67.splitNB 48 rfl (fun h6 f68 => ?_) (fun h6 f68 => ?_) | refine f67.split 48 rfl (fun h6 f68 => ?_) (fun h6 f68 => ?_)
              · clear f67
                refine C.condT f68 rfl ?_
                refine wp_seq_k fun K12 hK12 => ?_
                refine C.region ?_
                refine L.val f68 wantedN rfl (by decide) (E.move f68 rfl) fun a69 f69 => ?_
                clear f68 a66
                refine L.val f69 wantedN rfl (by decide) (E.move f69 rfl) fun a70 f70 => ?_
                clear f69 a69
                refine L.val f70 wantedN rfl (by decide) (E.move f70 rfl) fun a71 f71 => ?_
                clear f70 a70
                refine L.call f71 wantedN rfl (by decide) (run_call Try.call27 (args1 f71 rfl)) (near_any now _) ?_
                rintro e w2x ⟨rfl, rfl⟩
                refine ⟨_, rfl, fun a72 f72 => ?_⟩
                clear f71 a71
                refine L.val f72 wantedN rfl (by decide) (E.nilCheck f72 rfl) fun a73 f73 => ?_
                clear f72 a72
                refine L.val f73 wantedN rfl (by decide) (E.fieldAddr f73 Try.underlying61 rfl rfl wsz4_l) fun a74 f74 => ?_
                clear f73 a73
                refine L.storeO f74 wantedN wsz4_l (j := i * 7 + 6) hA FL.own rfl (show off + i * 7 + 6 = _ by omega) (by rw [fcell_len]; first | omega | (simp; omega)) rfl rfl fun a75 w3 f75 OW2 ks => ?_
                have szw3 := ks.size
                have KM : Mod [61] [] B _ w3 := .of_own1 hA ks FL.own hS.fly.loA (by simp)
                have FL1 := FL.set hf (f' := { x with rc := true }) KM OW2 rfl rfl
                replace HK := HK.step KM (by decide) (by simp) (by omega)
                replace HK1 := HK1.step KM (by decide) (by simp) (by omega)
                replace BP := BP.mod KM (by decide)
                replace Bg0 := Bg0.mod KM (by decide)
                clear f74 a74 ks KM OW2
                refine L.val f75 wantedN rfl (by decide) (E.nilCheck f75 rfl) fun a76 f76 => ?_
                clear f75 a75
                refine L.val f76 wantedN rfl (by decide) (E.fieldAddr f76 Try.underlying61 rfl rfl wsz3_l) fun a77 f77 => ?_
                clear f76 a76
                refine L.storeO f77 wantedN wsz3_l (j := i * 7 + 5) hA FL1.own rfl (show off + i * 7 + 5 = _ by omega) (by rw [fcell_len]; first | omega | (simp; omega)) rfl rfl fun a78 w4 f78 OW2 ks => ?_
                have szw4 := ks.size
                have KM : Mod [61] [] B _ w4 := .of_own1 hA ks FL1.own hS.fly.loA (by simp)
                have FL2 := FL1.set (set_at hi4 (f' := { x with rc := true })) (f' := { x with rc := true, at_ := nearI now }) KM OW2 rfl rfl
                replace HK := HK.step KM (by decide) (by simp) (by omega)
                replace HK1 := HK1.step KM (by decide) (by simp) (by omega)
                replace BP := BP.mod KM (by decide)
                replace Bg0 := Bg0.mod KM (by decide)
                clear f77 a77 ks KM OW2
                refine wpList_nil (hK12 _ _ ?_)
                try clear hK12 K12
                have f79 := f78.sub (sub_cons (i := 6) rfl (sub_cons (i := 8) rfl sub_nil))
                clear f78
                refine wp_seq_k fun K13 hK13 => ?_
                refine C.region ?_
                refine L.val f79 wantedN rfl (by decide) (E.move f79 rfl) fun a80 f80 => ?_
                clear f79 a78
                refine L.val f80 wantedN rfl (by decide) (E.nilCheck f80 rfl) fun a81 f81 => ?_
                clear f80 a80
                refine L.val f81 wantedN rfl (by decide) (E.fieldAddr f81 Try.underlying61 rfl rfl wsz3_l) fun a82 f82 => ?_
                clear f81 a81
                refine L.val f82 wantedN rfl (by decide) (E.load f82 Try.underlying3 rfl rfl (fly_cell (Sl.of_own FL2.own) hA (set_at (l := s.fly.set i { x with rc := true }) (by simp; omega) (f' := { x with rc := true, at_ := nearI now })) 4 rfl (show off + i * 7 + 4 = _ by omega))) fun a83 f83 => ?_
                clear f82 a82
                refine L.call f83 wantedN rfl (by decide) (run_call Try.call23 (args2 f83 rfl rfl)) (reply_any 6 x.id _) ?_
                rintro e w5 ⟨g9, rfl, kc5, B9, lo9⟩
                have lo9' : w.heap.size ≤ g9 := by have := HK.size; omega
                refine ⟨_, rfl, fun a84 f84 => ?_⟩
                clear f83 a83
                have szw5 := kc5.size
                replace HK := HK.trans (.of_kept0 kc5)
                replace HK1 := HK1.trans (.of_kept0 kc5)
                replace BP := BP.kept kc5 (by simp)
                replace Bg0 := Bg0.kept kc5 (by simp)
                replace FL2 := FL2.mod (Mod.of_kept0 (T := []) (M := []) (B := B) kc5) (by decide)
                clear kc5
                refine L.val f84 wantedN rfl (by decide) (E.assign f84 rfl) fun a85 f85 => ?_
                clear f84 a84
                refine wpList_nil (hK13 _ _ ?_)
                try clear hK13 K13
                have f86 := f85.sub (sub_cons (i := 6) rfl sub_nil)
                clear f85
                refine wp_ret ?_
                try simp only [Exit.inBlock, Exit.then]
                refine C.ret (P := Try.prog) (fn := Try.f13) f86 rfl rfl ?_
                exact ack_fin hS hf HK HK1 BP FL2 (by rw [ack_at hri hf, if_neg (by simp_all), if_pos (by simp_all)]) B9 lo9' (by omega)
              · clear f67
                refine C.condF f68 rfl ?_
                refine wp_skip (hK5 _ _ ?_)
                try clear hK5 K5
                have f69 := f68.sub (sub_cons (i := 6) rfl sub_nil)
                clear f68
                refine wp_seq_k fun K14 hK14 => ?_
                refine C.region ?_
                refine L.val f69 wantedN rfl (by decide) (E.assign f69 rfl) fun a70 f70 => ?_
                clear f69 a66
                refine wpList_nil (hK14 _ _ ?_)
                try clear hK14 K14
                have f71 := f70.sub (sub_cons (i := 6) rfl sub_nil)
                clear f70
                refine wp_ret ?_
                try simp only [Exit.inBlock, Exit.then]
                refine C.ret (P := Try.prog) (fn := Try.f13) f71 rfl rfl ?_
                exact ⟨s, none, 0, [], rfl, hS.mod HK0 (by simp), by rw [ack_at hri hf, if_neg (by simp_all), if_neg (by simp_all)]; rfl, ⟨rfl, rfl, rfl⟩, HK, PkAt.nil _ _ _, by simp⟩
            · clear f57
              refine L.skip f58 (f58.noT rfl rfl) rfl (by decide) fun a59 f59 => ?_
              clear f58 a57
              refine L.skip f59 (f59.noT rfl rfl) rfl (by decide) fun a60 f60 => ?_
              clear f59 a59
              refine L.skip f60 (f60.noT rfl rfl) rfl (by decide) fun a61 f61 => ?_
              clear f60 a60
              refine L.skip f61 (f61.noT rfl rfl) rfl (by decide) fun a62 f62 => ?_
              clear f61 a61
              refine L.skip f62 (f62.noT rfl rfl) rfl (by decide) fun a63 f63 => ?_
              clear f62 a62
              refine L.skip f63 (f63.noT rfl rfl) rfl (by decide) fun a64 f64 => ?_
              clear f63 a63
              refine L.val f64 wantedN rfl (by decide) (E.pickF f64 rfl rfl) fun a65 f65 => ?_
              clear f64 a64
              refine L.val f65 wantedN rfl (by decide) (E.assign f65 rfl) fun a66 f66 => ?_
              clear f65 a65
              refine wpList_nil (hK11 _ _ ?_)
              try clear hK11 K11
              have f67 := f66.sub (sub_cons (i := 2) rfl (sub_cons (i := 6) rfl (sub_cons (i := 8) rfl (sub_cons (i := 48) rfl sub_nil))))
              clear f66
              refine C.condF f67 rfl ?_
              refine wp_skip (hK5 _ _ ?_)
              try clear hK5 K5
              have f68 := f67.sub (sub_cons (i := 6) rfl sub_nil)
              clear f67
              refine wp_seq_k fun K15 hK15 => ?_
              refine C.region ?_
              refine L.val f68 wantedN rfl (by decide) (E.assign f68 rfl) fun a69 f69 => ?_
              clear f68 a66
              refine wpList_nil (hK15 _ _ ?_)
              try clear hK15 K15
              have f70 := f69.sub (sub_cons (i := 6) rfl sub_nil)
              clear f69
              refine wp_ret ?_
              try simp only [Exit.inBlock, Exit.then]
              refine C.ret (P := Try.prog) (fn := Try.f13) f70 rfl rfl ?_
              exact ⟨s, none, 0, [], rfl, hS.mod HK0 (by simp), by rw [ack_at hri hf, if_neg (by simp_all), if_neg (by simp_all)]; rfl, ⟨rfl, rfl, rfl⟩, HK, PkAt.nil _ _ _, by simp⟩
        · clear f44
          refine L.skip f45 (f45.noT rfl rfl) rfl (by decide) fun a46 f46 => ?_
          clear f45 a44
          refine L.skip f46 (f46.noT rfl rfl) rfl (by decide) fun a47 f47 => ?_
          clear f46 a46
          refine L.skip f47 (f47.noT rfl rfl) rfl (by decide) fun a48 f48 => ?_
          clear f47 a47
          refine L.skip f48 (f48.noT rfl rfl) rfl (by decide) fun a49 f49 => ?_
          clear f48 a48
          refine L.val f49 wantedN rfl (by decide) (E.pickF f49 rfl rfl) fun a50 f50 => ?_
          clear f49 a49
          refine L.val f50 wantedN rfl (by decide) (E.assign f50 rfl) fun a51 f51 => ?_
          clear f50 a50
          refine wpList_nil (hK7 _ _ ?_)
          try clear hK7 K7
          have f52 := f51.sub (sub_cons (i := 0) rfl (sub_cons (i := 2) rfl (sub_cons (i := 4) rfl (sub_cons (i := 6) rfl (sub_cons (i := 7) rfl (sub_cons (i := 8) rfl (sub_cons (i := 23) rfl sub_nil)))))))
          clear f51
          refine C.condF f52 rfl ?_
          refine wp_seq_k fun K16 hK16 => ?_
          refine C.region ?_
          refine L.val f52 wantedN rfl (by decide) (E.fieldAddr f52 Try.underlying35 rfl rfl wsz3_l) fun a53 f53 => ?_
          clear f52 a51
          refine L.val f53 wantedN rfl (by decide) (by first | exact E.load f53 Try.underlying3 rfl rfl ((BP).cl rfl) | exact E.load f53 Try.underlying3 rfl rfl ((Bg0).cl rfl) | exact E.load f53 Try.underlying3 rfl rfl (Bg0.cl hp0) | exact E.load f53 Try.underlying3 rfl rfl (Bg0.cl hp4)) fun a54 f54 => ?_
          clear f53 a53
          refine L.val f54 wantedN rfl (by decide) (E.eql f54 rfl rfl) fun a55 f55 => ?_
          clear f54 a54
          refine L.val f55 wantedN rfl (by decide) (E.move f55 rfl) fun a56 f56 => ?_
          clear f55 a55
          first | refine f56.splitD 52 rfl (fun h7 f57 => ?_) (fun h7 f57 => ?_) | refine f56.splitN 52 rfl (fun h7 f57 => ?_) (fun h7 f57 => ?_) | refine f56.splitNB 52 rfl (fun h7 f57 => ?_) (fun h7 f57 => ?_) | refine f56.split 52 rfl (fun h7 f57 => ?_) (fun h7 f57 => ?_)
          · clear f56
            refine L.val f57 (f57.yes rfl rfl) rfl (by decide) (E.move f57 rfl) fun a58 f58 => ?_
            clear f57 a56
            refine L.val f58 (f58.yes rfl rfl) rfl (by decide) (E.nilCheck f58 rfl) fun a59 f59 => ?_
            clear f58 a58
            refine L.val f59 (f59.yes rfl rfl) rfl (by decide) (E.fieldAddr f59 Try.underlying61 rfl rfl wsz43_l) fun a60 f60 => ?_
            clear f59 a59
            refine L.val f60 (f60.yes rfl rfl) rfl (by decide) (E.fieldAddr f60 Try.underlying43 rfl rfl wsz3_l) fun a61 f61 => ?_
            clear f60 a60
            refine L.val f61 (f61.yes rfl rfl) rfl (by decide) (E.load f61 Try.underlying3 rfl rfl (fly_cell (Sl.of_own FL.own) hA hf 2 rfl (show off + i * 7 + 0 + 2 = _ by omega))) fun a62 f62 => ?_
            clear f61 a61
            refine L.val f62 (f62.yes rfl rfl) rfl (by decide) (E.eql f62 rfl rfl) fun a63 f63 => ?_
            clear f62 a62
            refine L.val f63 wantedN rfl (by decide) (E.pickT f63 rfl rfl) fun a64 f64 => ?_
            clear f63 a63
            refine L.val f64 wantedN rfl (by decide) (E.assign f64 rfl) fun a65 f65 => ?_
            clear f64 a64
            refine wpList_nil (hK16 _ _ ?_)
            try clear hK16 K16
            have f66 := f65.sub (sub_cons (i := 2) rfl (sub_cons (i := 6) rfl (sub_cons (i := 8) rfl (sub_cons (i := 48) rfl sub_nil))))
            clear f65
            first | refine f66.splitD 48 rfl (fun h8 f67 => ?_) (fun h8 f67 => ?_) | refine f66.splitN 48 rfl (fun h8 f67 => ?_) (fun h8 f67 => ?_) | refine f66.splitNB 48 rfl (fun h8 f67 => ?_) (fun h8 f67 => ?_) | refine f66.split 48 rfl (fun h8 f67 => ?_) (fun h8 f67 => ?_)
            · clear f66
              refine C.condT f67 rfl ?_
              refine wp_seq_k fun K17 hK17 => ?_
              refine C.region ?_
              refine L.val f67 wantedN rfl (by decide) (E.move f67 rfl) fun a68 f68 => ?_
              clear f67 a65
              refine L.val f68 wantedN rfl (by decide) (E.move f68 rfl) fun a69 f69 => ?_
              clear f68 a68
              refine L.val f69 wantedN rfl (by decide) (E.move f69 rfl) fun a70 f70 => ?_
              clear f69 a69
              refine L.call f70 wantedN rfl (by decide) (run_call Try.call27 (args1 f70 rfl)) (near_any now _) ?_
              rintro e w2x ⟨rfl, rfl⟩
              refine ⟨_, rfl, fun a71 f71 => ?_⟩
              clear f70 a70
              refine L.val f71 wantedN rfl (by decide) (E.nilCheck f71 rfl) fun a72 f72 => ?_
              clear f71 a71
              refine L.val f72 wantedN rfl (by decide) (E.fieldAddr f72 Try.underlying61 rfl rfl wsz4_l) fun a73 f73 => ?_
              clear f72 a72
              refine L.storeO f73 wantedN wsz4_l (j := i * 7 + 6) hA FL.own rfl (show off + i * 7 + 6 = _ by omega) (by rw [fcell_len]; first | omega | (simp; omega)) rfl rfl fun a74 w3 f74 OW2 ks => ?_
              have szw3 := ks.size
              have KM : Mod [61] [] B _ w3 := .of_own1 hA ks FL.own hS.fly.loA (by simp)
              have FL1 := FL.set hf (f' := { x with rc := true }) KM OW2 rfl rfl
              replace HK := HK.step KM (by decide) (by simp) (by omega)
              replace HK1 := HK1.step KM (by decide) (by simp) (by omega)
              replace BP := BP.mod KM (by decide)
              replace Bg0 := Bg0.mod KM (by decide)
              clear f73 a73 ks KM OW2
              refine L.val f74 wantedN rfl (by decide) (E.nilCheck f74 rfl) fun a75 f75 => ?_
              clear f74 a74
              refine L.val f75 wantedN rfl (by decide) (E.fieldAddr f75 Try.underlying61 rfl rfl wsz3_l) fun a76 f76 => ?_
              clear f75 a75
              refine L.storeO f76 wantedN wsz3_l (j := i * 7 + 5) hA FL1.own rfl (show off + i * 7 + 5 = _ by omega) (by rw [fcell_len]; first | omega | (simp; omega)) rfl rfl fun a77 w4 f77 OW2 ks => ?_
              have szw4 := ks.size
              have KM : Mod [61] [] B _ w4 := .of_own1 hA ks FL1.own hS.fly.loA (by simp)
              have FL2 := FL1.set (set_at hi4 (f' := { x with rc := true })) (f' := { x with rc := true, at_ := nearI now }) KM OW2 rfl rfl
              replace HK := HK.step KM (by decide) (by simp) (by omega)
              replace HK1 := HK1.step KM (by decide) (by simp) (by omega)
              replace BP := BP.mod KM (by decide)
              replace Bg0 := Bg0.mod KM (by decide)
              clear f76 a76 ks KM OW2
              refine wpList_nil (hK17 _ _ ?_)
              try clear hK17 K17
              have f78 := f77.sub (sub_cons (i := 6) rfl (sub_cons (i := 8) rfl sub_nil))
              clear f77
              refine wp_seq_k fun K18 hK18 => ?_
              refine C.region ?_
              refine L.val f78 wantedN rfl (by decide) (E.move f78 rfl) fun a79 f79 => ?_
              clear f78 a77
              refine L.val f79 wantedN rfl (by decide) (E.nilCheck f79 rfl) fun a80 f80 => ?_
              clear f79 a79
              refine L.val f80 wantedN rfl (by decide) (E.fieldAddr f80 Try.underlying61 rfl rfl wsz3_l) fun a81 f81 => ?_
              clear f80 a80
              refine L.val f81 wantedN rfl (by decide) (E.load f81 Try.underlying3 rfl rfl (fly_cell (Sl.of_own FL2.own) hA (set_at (l := s.fly.set i { x with rc := true }) (by simp; omega) (f' := { x with rc := true, at_ := nearI now })) 4 rfl (show off + i * 7 + 4 = _ by omega))) fun a82 f82 => ?_
              clear f81 a81
              refine L.call f82 wantedN rfl (by decide) (run_call Try.call23 (args2 f82 rfl rfl)) (reply_any 6 x.id _) ?_
              rintro e w5 ⟨g9, rfl, kc5, B9, lo9⟩
              have lo9' : w.heap.size ≤ g9 := by have := HK.size; omega
              refine ⟨_, rfl, fun a83 f83 => ?_⟩
              clear f82 a82
              have szw5 := kc5.size
              replace HK := HK.trans (.of_kept0 kc5)
              replace HK1 := HK1.trans (.of_kept0 kc5)
              replace BP := BP.kept kc5 (by simp)
              replace Bg0 := Bg0.kept kc5 (by simp)
              replace FL2 := FL2.mod (Mod.of_kept0 (T := []) (M := []) (B := B) kc5) (by decide)
              clear kc5
              refine L.val f83 wantedN rfl (by decide) (E.assign f83 rfl) fun a84 f84 => ?_
              clear f83 a83
              refine wpList_nil (hK18 _ _ ?_)
              try clear hK18 K18
              have f85 := f84.sub (sub_cons (i := 6) rfl sub_nil)
              clear f84
              refine wp_ret ?_
              try simp only [Exit.inBlock, Exit.then]
              refine C.ret (P := Try.prog) (fn := Try.f13) f85 rfl rfl ?_
              exact ack_fin hS hf HK HK1 BP FL2 (by rw [ack_at hri hf, if_neg (by simp_all), if_pos (by simp_all)]) B9 lo9' (by omega)
            · clear f66
              refine C.condF f67 rfl ?_
              refine wp_skip (hK5 _ _ ?_)
              try clear hK5 K5
              have f68 := f67.sub (sub_cons (i := 6) rfl sub_nil)
              clear f67
              refine wp_seq_k fun K19 hK19 => ?_
              refine C.region ?_
              refine L.val f68 wantedN rfl (by decide) (E.assign f68 rfl) fun a69 f69 => ?_
              clear f68 a65
              refine wpList_nil (hK19 _ _ ?_)
              try clear hK19 K19
              have f70 := f69.sub (sub_cons (i := 6) rfl sub_nil)
              clear f69
              refine wp_ret ?_
              try simp only [Exit.inBlock, Exit.then]
              refine C.ret (P := Try.prog) (fn := Try.f13) f70 rfl rfl ?_
              exact ⟨s, none, 0, [], rfl, hS.mod HK0 (by simp), by rw [ack_at hri hf, if_neg (by simp_all), if_neg (by simp_all)]; rfl, ⟨rfl, rfl, rfl⟩, HK, PkAt.nil _ _ _, by simp⟩
          · clear f56
            refine L.skip f57 (f57.noT rfl rfl) rfl (by decide) fun a58 f58 => ?_
            clear f57 a56
            refine L.skip f58 (f58.noT rfl rfl) rfl (by decide) fun a59 f59 => ?_
            clear f58 a58
            refine L.skip f59 (f59.noT rfl rfl) rfl (by decide) fun a60 f60 => ?_
            clear f59 a59
            refine L.skip f60 (f60.noT rfl rfl) rfl (by decide) fun a61 f61 => ?_
            clear f60 a60
            refine L.skip f61 (f61.noT rfl rfl) rfl (by decide) fun a62 f62 => ?_
            clear f61 a61
            refine L.skip f62 (f62.noT rfl rfl) rfl (by decide) fun a63 f63 => ?_
            clear f62 a62
            refine L.val f63 wantedN rfl (by decide) (E.pickF f63 rfl rfl) fun a64 f64 => ?_
            clear f63 a63
            refine L.val f64 wantedN rfl (by decide) (E.assign f64 rfl) fun a65 f65 => ?_
            clear f64 a64
            refine wpList_nil (hK16 _ _ ?_)
            try clear hK16 K16
            have f66 := f65.sub (sub_cons (i := 2) rfl (sub_cons (i := 6) rfl (sub_cons (i := 8) rfl (sub_cons (i := 48) rfl sub_nil))))
            clear f65
            refine C.condF f66 rfl ?_
            refine wp_skip (hK5 _ _ ?_)
            try clear hK5 K5
            have f67 := f66.sub (sub_cons (i := 6) rfl sub_nil)
            clear f66
            refine wp_seq_k fun K20 hK20 => ?_
            refine C.region ?_
            refine L.val f67 wantedN rfl (by decide) (E.assign f67 rfl) fun a68 f68 => ?_
            clear f67 a65
            refine wpList_nil (hK20 _ _ ?_)
            try clear hK20 K20
            have f69 := f68.sub (sub_cons (i := 6) rfl sub_nil)
            clear f68
            refine wp_ret ?_
            try simp only [Exit.inBlock, Exit.then]
            refine C.ret (P := Try.prog) (fn := Try.f13) f69 rfl rfl ?_
            exact ⟨s, none, 0, [], rfl, hS.mod HK0 (by simp), by rw [ack_at hri hf, if_neg (by simp_all), if_neg (by simp_all)]; rfl, ⟨rfl, rfl, rfl⟩, HK, PkAt.nil _ _ _, by simp⟩
    · clear f29
      refine L.skip f30 (f30.noT rfl rfl) rfl (by decide) fun a31 f31 => ?_
      clear f30 a29
      refine L.skip f31 (f31.noT rfl rfl) rfl (by decide) fun a32 f32 => ?_
      clear f31 a31
      refine L.skip f32 (f32.noT rfl rfl) rfl (by decide) fun a33 f33 => ?_
      clear f32 a32
      refine L.skip f33 (f33.noT rfl rfl) rfl (by decide) fun a34 f34 => ?_
      clear f33 a33
      refine L.skip f34 (f34.noT rfl rfl) rfl (by decide) fun a35 f35 => ?_
      clear f34 a34
      refine L.skip f35 (f35.noT rfl rfl) rfl (by decide) fun a36 f36 => ?_
      clear f35 a35
      refine L.val f36 wantedN rfl (by decide) (E.pickF f36 rfl rfl) fun a37 f37 => ?_
      clear f36 a36
      refine L.val f37 wantedN rfl (by decide) (E.assign f37 rfl) fun a38 f38 => ?_
      clear f37 a37
      refine wpList_nil (hK8 _ _ ?_)
      try clear hK8 K8
      have f39 := f38.sub (sub_cons (i := 0) rfl (sub_cons (i := 2) rfl (sub_cons (i := 4) rfl (sub_cons (i := 6) rfl (sub_cons (i := 7) rfl (sub_cons (i := 8) rfl (sub_cons (i := 23) rfl sub_nil)))))))
      clear f38
      refine C.condF f39 rfl ?_
      refine C.region ?_
      refine L.val f39 wantedN rfl (by decide) (E.fieldAddr f39 Try.underlying35 rfl rfl wsz3_l) fun a40 f40 => ?_
      clear f39 a38
      refine L.val f40 wantedN rfl (by decide) (by first | exact E.load f40 Try.underlying3 rfl rfl ((BP).cl rfl) | exact E.load f40 Try.underlying3 rfl rfl ((Bg0).cl rfl) | exact E.load f40 Try.underlying3 rfl rfl (Bg0.cl hp0) | exact E.load f40 Try.underlying3 rfl rfl (Bg0.cl hp4)) fun a41 f41 => ?_
      clear f40 a40
      refine L.val f41 wantedN rfl (by decide) (E.eql f41 rfl rfl) fun a42 f42 => ?_
      clear f41 a41
      refine L.val f42 wantedN rfl (by decide) (E.move f42 rfl) fun a43 f43 => ?_
      clear f42 a42
      first | refine f43.splitD 38 rfl (fun h9 f44 => ?_) (fun h9 f44 => ?_) | refine f43.splitN 38 rfl (fun h9 f44 => ?_) (fun h9 f44 => ?_) | refine f43.splitNB 38 rfl (fun h9 f44 => ?_) (fun h9 f44 => ?_) | refine f43.split 38 rfl (fun h9 f44 => ?_) (fun h9 f44 => ?_)
      · clear f43
        refine L.val f44 (f44.yes rfl rfl) rfl (by decide) (E.move f44 rfl) fun a45 f45 => ?_
        clear f44 a43
        refine L.val f45 (f45.yes rfl rfl) rfl (by decide) (E.nilCheck f45 rfl) fun a46 f46 => ?_
        clear f45 a45
        refine L.val f46 (f46.yes rfl rfl) rfl (by decide) (E.fieldAddr f46 Try.underlying61 rfl rfl wsz4_l) fun a47 f47 => ?_
        clear f46 a46
        refine L.val f47 (f47.yes rfl rfl) rfl (by decide) (E.load f47 Try.underlying4 rfl rfl (fly_cell (Sl.of_own FL.own) hA hf 6 rfl (show off + i * 7 + 6 = _ by omega))) fun a48 f48 => ?_
        clear f47 a47
        refine L.val f48 wantedN rfl (by decide) (E.pickT f48 rfl rfl) fun a49 f49 => ?_
        clear f48 a48
        refine L.val f49 wantedN rfl (by decide) (E.assign f49 rfl) fun a50 f50 => ?_
        clear f49 a49
        refine wpList_nil (hK7 _ _ ?_)
        try clear hK7 K7
        have f51 := f50.sub (sub_cons (i := 0) rfl (sub_cons (i := 2) rfl (sub_cons (i := 4) rfl (sub_cons (i := 6) rfl (sub_cons (i := 7) rfl (sub_cons (i := 8) rfl (sub_cons (i := 23) rfl sub_nil)))))))
        clear f50
        first | refine f51.splitD 23 rfl (fun h10 f52 => ?_) (fun h10 f52 => ?_) | refine f51.splitN 23 rfl (fun h10 f52 => ?_) (fun h10 f52 => ?_) | refine f51.splitNB 23 rfl (fun h10 f52 => ?_) (fun h10 f52 => ?_) | refine f51.split 23 rfl (fun h10 f52 => ?_) (fun h10 f52 => ?_)
        · clear f51
          refine C.condT f52 rfl ?_
          refine wp_seq_k fun K21 hK21 => ?_
          refine C.region ?_
          refine L.val f52 wantedN rfl (by decide) (E.move f52 rfl) fun a53 f53 => ?_
          clear f52 a50
          refine L.val f53 wantedN rfl (by decide) (E.move f53 rfl) fun a54 f54 => ?_
          clear f53 a53
          refine L.val f54 wantedN rfl (by decide) (E.move f54 rfl) fun a55 f55 => ?_
          clear f54 a54
          refine L.call f55 wantedN rfl (by decide) (run_call Try.call26 (args3 f55 rfl rfl rfl)) (done_any B p s i x now _ (hS.mod HK0 (by simp)) hf (by omega)) ?_
          rintro e w3 ⟨s2, A2, c2, pks, rfl, HS2, hab, hpp, hL2, kc3, PK⟩
          have hl10 := done_len hpp
          have szz := HK.size
          replace PK := PK.lower (w1 := w) szz
          refine ⟨_, rfl, fun a56 f56 => ?_⟩
          clear f55 a55
          have szw3 := kc3.size
          replace HK := HK.step kc3 (by decide) (by simp) (by omega)
          clear kc3
          refine L.val f56 wantedN rfl (by decide) (E.assign f56 rfl) fun a57 f57 => ?_
          clear f56 a56
          refine wpList_nil (hK21 _ _ ?_)
          try clear hK21 K21
          have f58 := f57.sub (sub_cons (i := 6) rfl sub_nil)
          clear f57
          refine wp_ret ?_
          try simp only [Exit.inBlock, Exit.then]
          refine C.ret (P := Try.prog) (fn := Try.f13) f58 rfl rfl ?_
          exact ⟨s2, A2, c2, pks, rfl, HS2, by rw [ack_at hri hf, if_pos (by simp_all), hab, hpp], hL2, HK, PK, hl10⟩
        · clear f51
          refine C.condF f52 rfl ?_
          refine wp_seq_k fun K22 hK22 => ?_
          refine C.region ?_
          refine L.val f52 wantedN rfl (by decide) (E.fieldAddr f52 Try.underlying35 rfl rfl wsz3_l) fun a53 f53 => ?_
          clear f52 a50
          refine L.val f53 wantedN rfl (by decide) (by first | exact E.load f53 Try.underlying3 rfl rfl ((BP).cl rfl) | exact E.load f53 Try.underlying3 rfl rfl ((Bg0).cl rfl) | exact E.load f53 Try.underlying3 rfl rfl (Bg0.cl hp0) | exact E.load f53 Try.underlying3 rfl rfl (Bg0.cl hp4)) fun a54 f54 => ?_
          clear f53 a53
          refine L.val f54 wantedN rfl (by decide) (E.eql f54 rfl rfl) fun a55 f55 => ?_
          clear f54 a54
          refine L.val f55 wantedN rfl (by decide) (E.move f55 rfl) fun a56 f56 => ?_
          clear f55 a55
          first | refine f56.splitD 52 rfl (fun h11 f57 => ?_) (fun h11 f57 => ?_) | refine f56.splitN 52 rfl (fun h11 f57 => ?_) (fun h11 f57 => ?_) | refine f56.splitNB 52 rfl (fun h11 f57 => ?_) (fun h11 f57 => ?_) | refine f56.split 52 rfl (fun h11 f57 => ?_) (fun h11 f57 => ?_)
          · clear f56
            refine L.val f57 (f57.yes rfl rfl) rfl (by decide) (E.move f57 rfl) fun a58 f58 => ?_
            clear f57 a56
            refine L.val f58 (f58.yes rfl rfl) rfl (by decide) (E.nilCheck f58 rfl) fun a59 f59 => ?_
            clear f58 a58
            refine L.val f59 (f59.yes rfl rfl) rfl (by decide) (E.fieldAddr f59 Try.underlying61 rfl rfl wsz43_l) fun a60 f60 => ?_
            clear f59 a59
            refine L.val f60 (f60.yes rfl rfl) rfl (by decide) (E.fieldAddr f60 Try.underlying43 rfl rfl wsz3_l) fun a61 f61 => ?_
            clear f60 a60
            refine L.val f61 (f61.yes rfl rfl) rfl (by decide) (E.load f61 Try.underlying3 rfl rfl (fly_cell (Sl.of_own FL.own) hA hf 2 rfl (show off + i * 7 + 0 + 2 = _ by omega))) fun a62 f62 => ?_
            clear f61 a61
            refine L.val f62 (f62.yes rfl rfl) rfl (by decide) (E.eql f62 rfl rfl) fun a63 f63 => ?_
            clear f62 a62
            refine L.val f63 wantedN rfl (by decide) (E.pickT f63 rfl rfl) fun a64 f64 => ?_
            clear f63 a63
            refine L.val f64 wantedN rfl (by decide) (E.assign f64 rfl) fun a65 f65 => ?_
            clear f64 a64
            refine wpList_nil (hK22 _ _ ?_)
            try clear hK22 K22
            have f66 := f65.sub (sub_cons (i := 2) rfl (sub_cons (i := 6) rfl (sub_cons (i := 8) rfl (sub_cons (i := 48) rfl sub_nil))))
            clear f65
            first | refine f66.splitD 48 rfl (fun h12 f67 => ?_) (fun h12 f67 => ?_) | refine f66.splitN 48 rfl (fun h12 f67 => ?_) (fun h12 f67 => ?_) | refine f66.splitNB 48 rfl (fun h12 f67 => ?_) (fun h12 f67 => ?_) | refine f66.split 48 rfl (fun h12 f67 => ?_) (fun h12 f67 => ?_)
            · clear f66
              refine C.condT f67 rfl ?_
              refine wp_seq_k fun K23 hK23 => ?_
              refine C.region ?_
              refine L.val f67 wantedN rfl (by decide) (E.move f67 rfl) fun a68 f68 => ?_
              clear f67 a65
              refine L.val f68 wantedN rfl (by decide) (E.move f68 rfl) fun a69 f69 => ?_
              clear f68 a68
              refine L.val f69 wantedN rfl (by decide) (E.move f69 rfl) fun a70 f70 => ?_
              clear f69 a69
              refine L.call f70 wantedN rfl (by decide) (run_call Try.call27 (args1 f70 rfl)) (near_any now _) ?_
              rintro e w2x ⟨rfl, rfl⟩
              refine ⟨_, rfl, fun a71 f71 => ?_⟩
              clear f70 a70
              refine L.val f71 wantedN rfl (by decide) (E.nilCheck f71 rfl) fun a72 f72 => ?_
              clear f71 a71
              refine L.val f72 wantedN rfl (by decide) (E.fieldAddr f72 Try.underlying61 rfl rfl wsz4_l) fun a73 f73 => ?_
              clear f72 a72
              refine L.storeO f73 wantedN wsz4_l (j := i * 7 + 6) hA FL.own rfl (show off + i * 7 + 6 = _ by omega) (by rw [fcell_len]; first | omega | (simp; omega)) rfl rfl fun a74 w3 f74 OW2 ks => ?_
              have szw3 := ks.size
              have KM : Mod [61] [] B _ w3 := .of_own1 hA ks FL.own hS.fly.loA (by simp)
              have FL1 := FL.set hf (f' := { x with rc := true }) KM OW2 rfl rfl
              replace HK := HK.step KM (by decide) (by simp) (by omega)
              replace HK1 := HK1.step KM (by decide) (by simp) (by omega)
              replace BP := BP.mod KM (by decide)
              replace Bg0 := Bg0.mod KM (by decide)
              clear f73 a73 ks KM OW2
              refine L.val f74 wantedN rfl (by decide) (E.nilCheck f74 rfl) fun a75 f75 => ?_
              clear f74 a74
              refine L.val f75 wantedN rfl (by decide) (E.fieldAddr f75 Try.underlying61 rfl rfl wsz3_l) fun a76 f76 => ?_
              clear f75 a75
              refine L.storeO f76 wantedN wsz3_l (j := i * 7 + 5) hA FL1.own rfl (show off + i * 7 + 5 = _ by omega) (by rw [fcell_len]; first | omega | (simp; omega)) rfl rfl fun a77 w4 f77 OW2 ks => ?_
              have szw4 := ks.size
              have KM : Mod [61] [] B _ w4 := .of_own1 hA ks FL1.own hS.fly.loA (by simp)
              have FL2 := FL1.set (set_at hi4 (f' := { x with rc := true })) (f' := { x with rc := true, at_ := nearI now }) KM OW2 rfl rfl
              replace HK := HK.step KM (by decide) (by simp) (by omega)
              replace HK1 := HK1.step KM (by decide) (by simp) (by omega)
              replace BP := BP.mod KM (by decide)
              replace Bg0 := Bg0.mod KM (by decide)
              clear f76 a76 ks KM OW2
              refine wpList_nil (hK23 _ _ ?_)
              try clear hK23 K23
              have f78 := f77.sub (sub_cons (i := 6) rfl (sub_cons (i := 8) rfl sub_nil))
              clear f77
              refine wp_seq_k fun K24 hK24 => ?_
              refine C.region ?_
              refine L.val f78 wantedN rfl (by decide) (E.move f78 rfl) fun a79 f79 => ?_
              clear f78 a77
              refine L.val f79 wantedN rfl (by decide) (E.nilCheck f79 rfl) fun a80 f80 => ?_
              clear f79 a79
              refine L.val f80 wantedN rfl (by decide) (E.fieldAddr f80 Try.underlying61 rfl rfl wsz3_l) fun a81 f81 => ?_
              clear f80 a80
              refine L.val f81 wantedN rfl (by decide) (E.load f81 Try.underlying3 rfl rfl (fly_cell (Sl.of_own FL2.own) hA (set_at (l := s.fly.set i { x with rc := true }) (by simp; omega) (f' := { x with rc := true, at_ := nearI now })) 4 rfl (show off + i * 7 + 4 = _ by omega))) fun a82 f82 => ?_
              clear f81 a81
              refine L.call f82 wantedN rfl (by decide) (run_call Try.call23 (args2 f82 rfl rfl)) (reply_any 6 x.id _) ?_
              rintro e w5 ⟨g9, rfl, kc5, B9, lo9⟩
              have lo9' : w.heap.size ≤ g9 := by have := HK.size; omega
              refine ⟨_, rfl, fun a83 f83 => ?_⟩
              clear f82 a82
              have szw5 := kc5.size
              replace HK := HK.trans (.of_kept0 kc5)
              replace HK1 := HK1.trans (.of_kept0 kc5)
              replace BP := BP.kept kc5 (by simp)
              replace Bg0 := Bg0.kept kc5 (by simp)
              replace FL2 := FL2.mod (Mod.of_kept0 (T := []) (M := []) (B := B) kc5) (by decide)
              clear kc5
              refine L.val f83 wantedN rfl (by decide) (E.assign f83 rfl) fun a84 f84 => ?_
              clear f83 a83
              refine wpList_nil (hK24 _ _ ?_)
              try clear hK24 K24
              have f85 := f84.sub (sub_cons (i := 6) rfl sub_nil)
              clear f84
              refine wp_ret ?_
              try simp only [Exit.inBlock, Exit.then]
              refine C.ret (P := Try.prog) (fn := Try.f13) f85 rfl rfl ?_
              exact ack_fin hS hf HK HK1 BP FL2 (by rw [ack_at hri hf, if_neg (by simp_all), if_pos (by simp_all)]) B9 lo9' (by omega)
            · clear f66
              refine C.condF f67 rfl ?_
              refine wp_skip (hK5 _ _ ?_)
              try clear hK5 K5
              have f68 := f67.sub (sub_cons (i := 6) rfl sub_nil)
              clear f67
              refine wp_seq_k fun K25 hK25 => ?_
              refine C.region ?_
              refine L.val f68 wantedN rfl (by decide) (E.assign f68 rfl) fun a69 f69 => ?_
              clear f68 a65
              refine wpList_nil (hK25 _ _ ?_)
              try clear hK25 K25
              have f70 := f69.sub (sub_cons (i := 6) rfl sub_nil)
              clear f69
              refine wp_ret ?_
              try simp only [Exit.inBlock, Exit.then]
              refine C.ret (P := Try.prog) (fn := Try.f13) f70 rfl rfl ?_
              exact ⟨s, none, 0, [], rfl, hS.mod HK0 (by simp), by rw [ack_at hri hf, if_neg (by simp_all), if_neg (by simp_all)]; rfl, ⟨rfl, rfl, rfl⟩, HK, PkAt.nil _ _ _, by simp⟩
          · clear f56
            refine L.skip f57 (f57.noT rfl rfl) rfl (by decide) fun a58 f58 => ?_
            clear f57 a56
            refine L.skip f58 (f58.noT rfl rfl) rfl (by decide) fun a59 f59 => ?_
            clear f58 a58
            refine L.skip f59 (f59.noT rfl rfl) rfl (by decide) fun a60 f60 => ?_
            clear f59 a59
            refine L.skip f60 (f60.noT rfl rfl) rfl (by decide) fun a61 f61 => ?_
            clear f60 a60
            refine L.skip f61 (f61.noT rfl rfl) rfl (by decide) fun a62 f62 => ?_
            clear f61 a61
            refine L.skip f62 (f62.noT rfl rfl) rfl (by decide) fun a63 f63 => ?_
            clear f62 a62
            refine L.val f63 wantedN rfl (by decide) (E.pickF f63 rfl rfl) fun a64 f64 => ?_
            clear f63 a63
            refine L.val f64 wantedN rfl (by decide) (E.assign f64 rfl) fun a65 f65 => ?_
            clear f64 a64
            refine wpList_nil (hK22 _ _ ?_)
            try clear hK22 K22
            have f66 := f65.sub (sub_cons (i := 2) rfl (sub_cons (i := 6) rfl (sub_cons (i := 8) rfl (sub_cons (i := 48) rfl sub_nil))))
            clear f65
            refine C.condF f66 rfl ?_
            refine wp_skip (hK5 _ _ ?_)
            try clear hK5 K5
            have f67 := f66.sub (sub_cons (i := 6) rfl sub_nil)
            clear f66
            refine wp_seq_k fun K26 hK26 => ?_
            refine C.region ?_
            refine L.val f67 wantedN rfl (by decide) (E.assign f67 rfl) fun a68 f68 => ?_
            clear f67 a65
            refine wpList_nil (hK26 _ _ ?_)
            try clear hK26 K26
            have f69 := f68.sub (sub_cons (i := 6) rfl sub_nil)
            clear f68
            refine wp_ret ?_
            try simp only [Exit.inBlock, Exit.then]
            refine C.ret (P := Try.prog) (fn := Try.f13) f69 rfl rfl ?_
            exact ⟨s, none, 0, [], rfl, hS.mod HK0 (by simp), by rw [ack_at hri hf, if_neg (by simp_all), if_neg (by simp_all)]; rfl, ⟨rfl, rfl, rfl⟩, HK, PkAt.nil _ _ _, by simp⟩
      · clear f43
        refine L.skip f44 (f44.noT rfl rfl) rfl (by decide) fun a45 f45 => ?_
        clear f44 a43
        refine L.skip f45 (f45.noT rfl rfl) rfl (by decide) fun a46 f46 => ?_
        clear f45 a45
        refine L.skip f46 (f46.noT rfl rfl) rfl (by decide) fun a47 f47 => ?_
        clear f46 a46
        refine L.skip f47 (f47.noT rfl rfl) rfl (by decide) fun a48 f48 => ?_
        clear f47 a47
        refine L.val f48 wantedN rfl (by decide) (E.pickF f48 rfl rfl) fun a49 f49 => ?_
        clear f48 a48
        refine L.val f49 wantedN rfl (by decide) (E.assign f49 rfl) fun a50 f50 => ?_
        clear f49 a49
        refine wpList_nil (hK7 _ _ ?_)
        try clear hK7 K7
        have f51 := f50.sub (sub_cons (i := 0) rfl (sub_cons (i := 2) rfl (sub_cons (i := 4) rfl (sub_cons (i := 6) rfl (sub_cons (i := 7) rfl (sub_cons (i := 8) rfl (sub_cons (i := 23) rfl sub_nil)))))))
        clear f50
        refine C.condF f51 rfl ?_
        refine wp_seq_k fun K27 hK27 => ?_
        refine C.region ?_
        refine L.val f51 wantedN rfl (by decide) (E.fieldAddr f51 Try.underlying35 rfl rfl wsz3_l) fun a52 f52 => ?_
        clear f51 a50
        refine L.val f52 wantedN rfl (by decide) (by first | exact E.load f52 Try.underlying3 rfl rfl ((BP).cl rfl) | exact E.load f52 Try.underlying3 rfl rfl ((Bg0).cl rfl) | exact E.load f52 Try.underlying3 rfl rfl (Bg0.cl hp0) | exact E.load f52 Try.underlying3 rfl rfl (Bg0.cl hp4)) fun a53 f53 => ?_
        clear f52 a52
        refine L.val f53 wantedN rfl (by decide) (E.eql f53 rfl rfl) fun a54 f54 => ?_
        clear f53 a53
        refine L.val f54 wantedN rfl (by decide) (E.move f54 rfl) fun a55 f55 => ?_
        clear f54 a54
        first | refine f55.splitD 52 rfl (fun h13 f56 => ?_) (fun h13 f56 => ?_) | refine f55.splitN 52 rfl (fun h13 f56 => ?_) (fun h13 f56 => ?_) | refine f55.splitNB 52 rfl (fun h13 f56 => ?_) (fun h13 f56 => ?_) | refine f55.split 52 rfl (fun h13 f56 => ?_) (fun h13 f56 => ?_)
        · clear f55
          refine L.val f56 (f56.yes rfl rfl) rfl (by decide) (E.move f56 rfl) fun a57 f57 => ?_
          clear f56 a55
          refine L.val f57 (f57.yes rfl rfl) rfl (by decide) (E.nilCheck f57 rfl) fun a58 f58 => ?_
          clear f57 a57
          refine L.val f58 (f58.yes rfl rfl) rfl (by decide) (E.fieldAddr f58 Try.underlying61 rfl rfl wsz43_l) fun a59 f59 => ?_
          clear f58 a58
          refine L.val f59 (f59.yes rfl rfl) rfl (by decide) (E.fieldAddr f59 Try.underlying43 rfl rfl wsz3_l) fun a60 f60 => ?_
          clear f59 a59
          refine L.val f60 (f60.yes rfl rfl) rfl (by decide) (E.load f60 Try.underlying3 rfl rfl (fly_cell (Sl.of_own FL.own) hA hf 2 rfl (show off + i * 7 + 0 + 2 = _ by omega))) fun a61 f61 => ?_
          clear f60 a60
          refine L.val f61 (f61.yes rfl rfl) rfl (by decide) (E.eql f61 rfl rfl) fun a62 f62 => ?_
          clear f61 a61
          refine L.val f62 wantedN rfl (by decide) (E.pickT f62 rfl rfl) fun a63 f63 => ?_
          clear f62 a62
          refine L.val f63 wantedN rfl (by decide) (E.assign f63 rfl) fun a64 f64 => ?_
          clear f63 a63
          refine wpList_nil (hK27 _ _ ?_)
          try clear hK27 K27
          have f65 := f64.sub (sub_cons (i := 2) rfl (sub_cons (i := 6) rfl (sub_cons (i := 8) rfl (sub_cons (i := 48) rfl sub_nil))))
          clear f64
          first | refine f65.splitD 48 rfl (fun h14 f66 => ?_) (fun h14 f66 => ?_) | refine f65.splitN 48 rfl (fun h14 f66 => ?_) (fun h14 f66 => ?_) | refine f65.splitNB 48 rfl (fun h14 f66 => ?_) (fun h14 f66 => ?_) | refine f65.split 48 rfl (fun h14 f66 => ?_) (fun h14 f66 => ?_)
          · clear f65
            refine C.condT f66 rfl ?_
            refine wp_seq_k fun K28 hK28 => ?_
            refine C.region ?_
            refine L.val f66 wantedN rfl (by decide) (E.move f66 rfl) fun a67 f67 => ?_
            clear f66 a64
            refine L.val f67 wantedN rfl (by decide) (E.move f67 rfl) fun a68 f68 => ?_
            clear f67 a67
            refine L.val f68 wantedN rfl (by decide) (E.move f68 rfl) fun a69 f69 => ?_
            clear f68 a68
            refine L.call f69 wantedN rfl (by decide) (run_call Try.call27 (args1 f69 rfl)) (near_any now _) ?_
            rintro e w2x ⟨rfl, rfl⟩
            refine ⟨_, rfl, fun a70 f70 => ?_⟩
            clear f69 a69
            refine L.val f70 wantedN rfl (by decide) (E.nilCheck f70 rfl) fun a71 f71 => ?_
            clear f70 a70
            refine L.val f71 wantedN rfl (by decide) (E.fieldAddr f71 Try.underlying61 rfl rfl wsz4_l) fun a72 f72 => ?_
            clear f71 a71
            refine L.storeO f72 wantedN wsz4_l (j := i * 7 + 6) hA FL.own rfl (show off + i * 7 + 6 = _ by omega) (by rw [fcell_len]; first | omega | (simp; omega)) rfl rfl fun a73 w3 f73 OW2 ks => ?_
            have szw3 := ks.size
            have KM : Mod [61] [] B _ w3 := .of_own1 hA ks FL.own hS.fly.loA (by simp)
            have FL1 := FL.set hf (f' := { x with rc := true }) KM OW2 rfl rfl
            replace HK := HK.step KM (by decide) (by simp) (by omega)
            replace HK1 := HK1.step KM (by decide) (by simp) (by omega)
            replace BP := BP.mod KM (by decide)
            replace Bg0 := Bg0.mod KM (by decide)
            clear f72 a72 ks KM OW2
            refine L.val f73 wantedN rfl (by decide) (E.nilCheck f73 rfl) fun a74 f74 => ?_
            clear f73 a73
            refine L.val f74 wantedN rfl (by decide) (E.fieldAddr f74 Try.underlying61 rfl rfl wsz3_l) fun a75 f75 => ?_
            clear f74 a74
            refine L.storeO f75 wantedN wsz3_l (j := i * 7 + 5) hA FL1.own rfl (show off + i * 7 + 5 = _ by omega) (by rw [fcell_len]; first | omega | (simp; omega)) rfl rfl fun a76 w4 f76 OW2 ks => ?_
            have szw4 := ks.size
            have KM : Mod [61] [] B _ w4 := .of_own1 hA ks FL1.own hS.fly.loA (by simp)
            have FL2 := FL1.set (set_at hi4 (f' := { x with rc := true })) (f' := { x with rc := true, at_ := nearI now }) KM OW2 rfl rfl
            replace HK := HK.step KM (by decide) (by simp) (by omega)
            replace HK1 := HK1.step KM (by decide) (by simp) (by omega)
            replace BP := BP.mod KM (by decide)
            replace Bg0 := Bg0.mod KM (by decide)
            clear f75 a75 ks KM OW2
            refine wpList_nil (hK28 _ _ ?_)
            try clear hK28 K28
            have f77 := f76.sub (sub_cons (i := 6) rfl (sub_cons (i := 8) rfl sub_nil))
            clear f76
            refine wp_seq_k fun K29 hK29 => ?_
            refine C.region ?_
            refine L.val f77 wantedN rfl (by decide) (E.move f77 rfl) fun a78 f78 => ?_
            clear f77 a76
            refine L.val f78 wantedN rfl (by decide) (E.nilCheck f78 rfl) fun a79 f79 => ?_
            clear f78 a78
            refine L.val f79 wantedN rfl (by decide) (E.fieldAddr f79 Try.underlying61 rfl rfl wsz3_l) fun a80 f80 => ?_
            clear f79 a79
            refine L.val f80 wantedN rfl (by decide) (E.load f80 Try.underlying3 rfl rfl (fly_cell (Sl.of_own FL2.own) hA (set_at (l := s.fly.set i { x with rc := true }) (by simp; omega) (f' := { x with rc := true, at_ := nearI now })) 4 rfl (show off + i * 7 + 4 = _ by omega))) fun a81 f81 => ?_
            clear f80 a80
            refine L.call f81 wantedN rfl (by decide) (run_call Try.call23 (args2 f81 rfl rfl)) (reply_any 6 x.id _) ?_
            rintro e w5 ⟨g9, rfl, kc5, B9, lo9⟩
            have lo9' : w.heap.size ≤ g9 := by have := HK.size; omega
            refine ⟨_, rfl, fun a82 f82 => ?_⟩
            clear f81 a81
            have szw5 := kc5.size
            replace HK := HK.trans (.of_kept0 kc5)
            replace HK1 := HK1.trans (.of_kept0 kc5)
            replace BP := BP.kept kc5 (by simp)
            replace Bg0 := Bg0.kept kc5 (by simp)
            replace FL2 := FL2.mod (Mod.of_kept0 (T := []) (M := []) (B := B) kc5) (by decide)
            clear kc5
            refine L.val f82 wantedN rfl (by decide) (E.assign f82 rfl) fun a83 f83 => ?_
            clear f82 a82
            refine wpList_nil (hK29 _ _ ?_)
            try clear hK29 K29
            have f84 := f83.sub (sub_cons (i := 6) rfl sub_nil)
            clear f83
            refine wp_ret ?_
            try simp only [Exit.inBlock, Exit.then]
            refine C.ret (P := Try.prog) (fn := Try.f13) f84 rfl rfl ?_
            exact ack_fin hS hf HK HK1 BP FL2 (by rw [ack_at hri hf, if_neg (by simp_all), if_pos (by simp_all)]) B9 lo9' (by omega)
          · clear f65
            refine C.condF f66 rfl ?_
            refine wp_skip (hK5 _ _ ?_)
            try clear hK5 K5
            have f67 := f66.sub (sub_cons (i := 6) rfl sub_nil)
            clear f66
            refine wp_seq_k fun K30 hK30 => ?_
            refine C.region ?_
            refine L.val f67 wantedN rfl (by decide) (E.assign f67 rfl) fun a68 f68 => ?_
            clear f67 a64
            refine wpList_nil (hK30 _ _ ?_)
            try clear hK30 K30
            have f69 := f68.sub (sub_cons (i := 6) rfl sub_nil)
            clear f68
            refine wp_ret ?_
            try simp only [Exit.inBlock, Exit.then]
            refine C.ret (P := Try.prog) (fn := Try.f13) f69 rfl rfl ?_
            exact ⟨s, none, 0, [], rfl, hS.mod HK0 (by simp), by rw [ack_at hri hf, if_neg (by simp_all), if_neg (by simp_all)]; rfl, ⟨rfl, rfl, rfl⟩, HK, PkAt.nil _ _ _, by simp⟩
        · clear f55
          refine L.skip f56 (f56.noT rfl rfl) rfl (by decide) fun a57 f57 => ?_
          clear f56 a55
          refine L.skip f57 (f57.noT rfl rfl) rfl (by decide) fun a58 f58 => ?_
          clear f57 a57
          refine L.skip f58 (f58.noT rfl rfl) rfl (by decide) fun a59 f59 => ?_
          clear f58 a58
          refine L.skip f59 (f59.noT rfl rfl) rfl (by decide) fun a60 f60 => ?_
          clear f59 a59
          refine L.skip f60 (f60.noT rfl rfl) rfl (by decide) fun a61 f61 => ?_
          clear f60 a60
          refine L.skip f61 (f61.noT rfl rfl) rfl (by decide) fun a62 f62 => ?_
          clear f61 a61
          refine L.val f62 wantedN rfl (by decide) (E.pickF f62 rfl rfl) fun a63 f63 => ?_
          clear f62 a62
          refine L.val f63 wantedN rfl (by decide) (E.assign f63 rfl) fun a64 f64 => ?_
          clear f63 a63
          refine wpList_nil (hK27 _ _ ?_)
          try clear hK27 K27
          have f65 := f64.sub (sub_cons (i := 2) rfl (sub_cons (i := 6) rfl (sub_cons (i := 8) rfl (sub_cons (i := 48) rfl sub_nil))))
          clear f64
          refine C.condF f65 rfl ?_
          refine wp_skip (hK5 _ _ ?_)
          try clear hK5 K5
          have f66 := f65.sub (sub_cons (i := 6) rfl sub_nil)
          clear f65
          refine wp_seq_k fun K31 hK31 => ?_
          refine C.region ?_
          refine L.val f66 wantedN rfl (by decide) (E.assign f66 rfl) fun a67 f67 => ?_
          clear f66 a64
          refine wpList_nil (hK31 _ _ ?_)
          try clear hK31 K31
          have f68 := f67.sub (sub_cons (i := 6) rfl sub_nil)
          clear f67
          refine wp_ret ?_
          try simp only [Exit.inBlock, Exit.then]
          refine C.ret (P := Try.prog) (fn := Try.f13) f68 rfl rfl ?_
          exact ⟨s, none, 0, [], rfl, hS.mod HK0 (by simp), by rw [ack_at hri hf, if_neg (by simp_all), if_neg (by simp_all)]; rfl, ⟨rfl, rfl, rfl⟩, HK, PkAt.nil _ _ _, by simp⟩

set_option maxHeartbeats 1000000 in
theorem got_any (B p : Nat) (s : Ses) (kind qos id : Int) (pcs : Array Value) (hp0 : pcs.toList[0]? = some (.int .i64 kind)) (hp4 : pcs.toList[4]? = some (.int .i64 id)) (hp3 : pcs.toList[3]? = some (.int .i64 qos)) (w : World) (hS : SesAt B w p s) (hB : B ≤ w.heap.size) (hwf : (Lit.int .i64 id).wf = true) (hgl : s.got.length < maxLen) : Calls Try.prog 11 #[.pointer (some ⟨p, 0, none⟩), .agg pcs] w (GotPost B p s (gotS s.abs kind qos id) w) := by
  have HK : Mod [] [s.im, s.gm] B w w := .refl _ _ _ _
  have HK2 : Mod [] [s.gm] B w w := .refl _ _ _ _
  have HK0 : Mod [] [] B w w := .refl _ _ _ _
  have BP := hS.top
  have IG := hS.got
  have hmap := hS.got.map
  have hpg : p ≠ s.gm := fun h => hS.top.not_map (h ▸ hmap)
  refine C.enter Try.func11 rfl Try.ntmps11 rfl ?_
  intro a0 f0
  have f1 : Fr 63 a0 [(0, .pointer (some ⟨p, 0, none⟩)), (1, .agg pcs)] := f0
  clear f0
  refine wp_seq_k fun K0 hK0 => ?_
  refine C.region ?_
  refine L.box f1 wantedN (by decide) rfl rfl fun a2 w1 g0 N0 f2 => ?_
  have Bg0 := N0.blk
  have kg0 := N0.kept
  have log0 := N0.lo
  have ltg0 := Bg0.lt
  have szw1 := kg0.size
  have frg0 : w.heap.size ≤ g0 := Nat.le_trans HK.size log0
  have nep_g0 : p ≠ g0 := by have := BP.lt; omega
  replace HK := HK.trans (.of_kept0 kg0)
  replace HK2 := HK2.trans (.of_kept0 kg0)
  replace HK0 := HK0.trans (.of_kept0 kg0)
  replace BP := BP.kept kg0 (by simp)
  replace IG := IG.mod (Mod.of_kept0 (T := []) (M := []) (B := B) kg0) (by simp)
  clear N0 kg0
  clear f1 a0
  refine L.val f2 wantedN rfl (by decide) (E.assign f2 rfl) fun a3 f3 => ?_
  clear f2 a2
  refine L.val f3 wantedN rfl (by decide) (E.assign f3 rfl) fun a4 f4 => ?_
  clear f3 a3
  refine wpList_nil (hK0 _ _ ?_)
  try clear hK0 K0
  have f5 := f4.sub (sub_cons (i := 0) rfl (sub_cons (i := 3) rfl (sub_cons (i := 4) rfl (sub_cons (i := 5) rfl sub_nil))))
  clear f4
  refine wp_seq_k fun K1 hK1 => ?_
  refine wp_block ?_
  refine wp_seq_k fun K2 hK2 => ?_
  refine C.region ?_
  refine L.val f5 wantedN rfl (by decide) (E.fieldAddr f5 Try.underlying35 rfl rfl wsz3_l) fun a6 f6 => ?_
  clear f5 a4
  refine L.val f6 wantedN rfl (by decide) (by first | exact E.load f6 Try.underlying3 rfl rfl ((BP).cl rfl) | exact E.load f6 Try.underlying3 rfl rfl ((Bg0).cl rfl) | exact E.load f6 Try.underlying3 rfl rfl (Bg0.cl hp0) | exact E.load f6 Try.underlying3 rfl rfl (Bg0.cl hp3) | exact E.load f6 Try.underlying3 rfl rfl (Bg0.cl hp4)) fun a7 f7 => ?_
  clear f6 a6
  refine L.val f7 wantedN rfl (by decide) (E.eql f7 rfl rfl) fun a8 f8 => ?_
  clear f7 a7
  refine L.val f8 wantedN rfl (by decide) (E.assign f8 rfl) fun a9 f9 => ?_
  clear f8 a8
  refine wpList_nil (hK2 _ _ ?_)
  try clear hK2 K2
  have f10 := f9.sub (sub_cons (i := 0) rfl (sub_cons (i := 3) rfl (sub_cons (i := 4) rfl (sub_cons (i := 5) rfl (sub_cons (i := 7) rfl sub_nil)))))
  clear f9
  first | refine f10.splitD 7 rfl (fun h0 f11 => ?_) (fun h0 f11 => ?_) | refine f10.splitN 7 rfl (fun h0 f11 => ?_) (fun h0 f11 => ?_) | refine f10.splitNB 7 rfl (fun h0 f11 => ?_) (fun h0 f11 => ?_) | refine f10.split 7 rfl (fun h0 f11 => ?_) (fun h0 f11 => ?_)
  · clear f10
    have hk6 := h0
    refine C.condT f11 rfl ?_
    refine wp_seq_k fun K3 hK3 => ?_
    have KN := Kept.refl [] w1
    have hg0g : g0 ≠ s.gm := by have := hS.got.lt; omega
    refine R.begin (S := fun W => Kept [s.gm] w1 W) (by kernel_rfl) (by exact (Kept.refl _ _).drewN 1) ?_
    have hS2 : Kept [s.gm] w1 (w1.drewN 1) := (Kept.refl _ _).drewN 1
    have hd2 : Kept [] w1 (w1.drewN 1) := (Kept.refl _ _).drewN 1
    obtain ⟨w2, hww2⟩ : ∃ W, W = w1.drewN 1 := ⟨_, rfl⟩
    rw [← hww2] at hS2 hd2 ⊢
    clear hww2
    have szw2 := hS2.size
    replace KN := KN.trans hd2 (by simp)
    refine R.take 0 f11 rfl rfl (by decide) (by kernel_rfl) (by kernel_rfl) (by kernel_rfl) (fun _ _ _ _ h => h) wantedN hS2 (fun W hW => (E.move f11 rfl)) fun a12 f12 => ?_
    clear f11 a9
    refine R.take 1 f12 rfl rfl (by decide) (by kernel_rfl) (by kernel_rfl) (by kernel_rfl) (fun _ _ _ _ h => h) wantedN hS2 (fun W hW => (E.nilCheck f12 rfl)) fun a13 f13 => ?_
    clear f12 a12
    refine R.take 2 f13 rfl rfl (by decide) (by kernel_rfl) (by kernel_rfl) (by kernel_rfl) (fun _ _ _ _ h => h) wantedN hS2 (fun W hW => (E.fieldAddr f13 Try.underlying57 rfl rfl wsz54_l)) fun a14 f14 => ?_
    clear f13 a13
    refine R.take 3 f14 rfl rfl (by decide) (by kernel_rfl) (by kernel_rfl) (by kernel_rfl) (fun _ _ _ _ h => h) wantedN hS2 (fun W hW => (by first | exact E.load f14 Try.underlying54 rfl rfl ((BP.kept hW (by first | simpa using hpg | simpa using hg0g)).cl rfl) | exact E.load f14 Try.underlying54 rfl rfl ((Bg0.kept hW (by first | simpa using hpg | simpa using hg0g)).cl rfl) | exact E.load f14 Try.underlying54 rfl rfl ((Bg0.kept hW (by simpa using hg0g)).cl hp4))) fun a15 f15 => ?_
    clear f14 a14
    refine R.take 4 f15 rfl rfl (by decide) (by kernel_rfl) (by kernel_rfl) (by kernel_rfl) (fun _ _ _ _ h => h) wantedN hS2 (fun W hW => (E.fieldAddr f15 Try.underlying35 rfl rfl wsz3_l)) fun a16 f16 => ?_
    clear f15 a15
    refine R.take 5 f16 rfl rfl (by decide) (by kernel_rfl) (by kernel_rfl) (by kernel_rfl) (fun _ _ _ _ h => h) wantedN hS2 (fun W hW => (by first | exact E.load f16 Try.underlying3 rfl rfl ((BP.kept hW (by first | simpa using hpg | simpa using hg0g)).cl rfl) | exact E.load f16 Try.underlying3 rfl rfl ((Bg0.kept hW (by first | simpa using hpg | simpa using hg0g)).cl rfl) | exact E.load f16 Try.underlying3 rfl rfl ((Bg0.kept hW (by simpa using hg0g)).cl hp4))) fun a17 f17 => ?_
    clear f16 a16
    refine R.one 6 (by kernel_rfl) ?_
    refine O.mapDrop f17 rfl wantedN (IG.kept KN (by simp)) Try.underlying3 Try.underlying54 rfl rfl hwf (fun _ hk => hS2.trans hk (by simp)) fun a18 w3 IN ks f18 => ?_
    replace hS2 := hS2.trans ks (by simp)
    have szw3 := ks.size
    clear f17 a17 ks
    have szw3r := hS2.size
    have KM : Mod [] [s.gm] B _ w3 := Mod.of_kept hS2 (fun x hx _ => by obtain rfl := List.mem_singleton.1 hx; exact ⟨hS.log, .inr ⟨IG.map, by simp⟩⟩)
    replace HK := HK.step KM (by decide) (by simp) (by omega)
    replace HK2 := HK2.step KM (by decide) (by simp) (by omega)
    replace BP := BP.kept hS2 (by first | simpa using hpg | simpa using hg0g)
    replace Bg0 := Bg0.kept hS2 (by first | simpa using hpg | simpa using hg0g)
    clear hS2
    refine R.done (by kernel_rfl) (hK3 _ _ ?_)
    try clear hK3 K3
    have f19 := f18.sub (sub_cons (i := 0) rfl (sub_cons (i := 3) rfl (sub_cons (i := 4) rfl (sub_cons (i := 5) rfl sub_nil))))
    clear f18
    refine wp_seq_k fun K4 hK4 => ?_
    refine C.region ?_
    refine L.val f19 wantedN rfl (by decide) (E.fieldAddr f19 Try.underlying35 rfl rfl wsz3_l) fun a20 f20 => ?_
    clear f19 a18
    refine L.val f20 wantedN rfl (by decide) (by first | exact E.load f20 Try.underlying3 rfl rfl ((BP).cl rfl) | exact E.load f20 Try.underlying3 rfl rfl ((Bg0).cl rfl) | exact E.load f20 Try.underlying3 rfl rfl (Bg0.cl hp0) | exact E.load f20 Try.underlying3 rfl rfl (Bg0.cl hp3) | exact E.load f20 Try.underlying3 rfl rfl (Bg0.cl hp4)) fun a21 f21 => ?_
    clear f20 a20
    refine L.call f21 wantedN rfl (by decide) (run_call Try.call23 (args2 f21 rfl rfl)) (reply_any 7 id _) ?_
    rintro e w4 ⟨g9, rfl, kc4, B9, lo9⟩
    have lo9' : w.heap.size ≤ g9 := by have := HK.size; omega
    refine ⟨_, rfl, fun a22 f22 => ?_⟩
    clear f21 a21
    have szw4 := kc4.size
    replace HK := HK.trans (.of_kept0 kc4)
    replace HK2 := HK2.trans (.of_kept0 kc4)
    replace BP := BP.kept kc4 (by simp)
    replace Bg0 := Bg0.kept kc4 (by simp)
    replace IN := IN.mod (Mod.of_kept0 (T := []) (M := []) (B := B) kc4) (by simp)
    clear kc4
    refine L.val f22 wantedN rfl (by decide) (E.assign f22 rfl) fun a23 f23 => ?_
    clear f22 a22
    refine L.val f23 wantedN rfl (by decide) (E.assign f23 rfl) fun a24 f24 => ?_
    clear f23 a23
    refine wpList_nil (hK4 _ _ ?_)
    try clear hK4 K4
    have f25 := f24.sub (sub_cons (i := 0) rfl (sub_cons (i := 3) rfl (sub_cons (i := 4) rfl (sub_cons (i := 5) rfl sub_nil))))
    clear f24
    refine wp_ret ?_
    try simp only [Exit.inBlock, Exit.then]
    refine C.ret2 (P := Try.prog) (fn := Try.f11) f25 rfl rfl rfl ?_
    exact got_fin hS HK HK2 IN (k := 7) (b := false) (by rw [gotS, if_pos hk6]; rfl) B9 (by omega)
  · clear f10
    have hk6 := h0
    refine C.condF f11 rfl ?_
    refine wp_seq_k fun K5 hK5 => ?_
    refine C.region ?_
    refine L.val f11 wantedN rfl (by decide) (E.fieldAddr f11 Try.underlying35 rfl rfl wsz3_l) fun a12 f12 => ?_
    clear f11 a9
    refine L.val f12 wantedN rfl (by decide) (by first | exact E.load f12 Try.underlying3 rfl rfl ((BP).cl rfl) | exact E.load f12 Try.underlying3 rfl rfl ((Bg0).cl rfl) | exact E.load f12 Try.underlying3 rfl rfl (Bg0.cl hp0) | exact E.load f12 Try.underlying3 rfl rfl (Bg0.cl hp3) | exact E.load f12 Try.underlying3 rfl rfl (Bg0.cl hp4)) fun a13 f13 => ?_
    clear f12 a12
    refine L.val f13 wantedN rfl (by decide) (E.neq f13 rfl rfl) fun a14 f14 => ?_
    clear f13 a13
    refine L.val f14 wantedN rfl (by decide) (E.move f14 rfl) fun a15 f15 => ?_
    clear f14 a14
    first | refine f15.splitD 24 rfl (fun h1 f16 => ?_) (fun h1 f16 => ?_) | refine f15.splitN 24 rfl (fun h1 f16 => ?_) (fun h1 f16 => ?_) | refine f15.splitNB 24 rfl (fun h1 f16 => ?_) (fun h1 f16 => ?_) | refine f15.split 24 rfl (fun h1 f16 => ?_) (fun h1 f16 => ?_)
    · clear f15
      refine L.skip f16 (f16.noF rfl rfl) rfl (by decide) fun a17 f17 => ?_
      clear f16 a15
      refine L.skip f17 (f17.noF rfl rfl) rfl (by decide) fun a18 f18 => ?_
      clear f17 a17
      refine L.skip f18 (f18.noF rfl rfl) rfl (by decide) fun a19 f19 => ?_
      clear f18 a18
      refine L.val f19 wantedN rfl (by decide) (E.pickT f19 rfl rfl) fun a20 f20 => ?_
      clear f19 a19
      refine L.val f20 wantedN rfl (by decide) (E.move f20 rfl) fun a21 f21 => ?_
      clear f20 a20
      refine L.skip f21 (f21.noF rfl rfl) rfl (by decide) fun a22 f22 => ?_
      clear f21 a21
      refine L.skip f22 (f22.noF rfl rfl) rfl (by decide) fun a23 f23 => ?_
      clear f22 a22
      refine L.skip f23 (f23.noF rfl rfl) rfl (by decide) fun a24 f24 => ?_
      clear f23 a23
      refine L.val f24 wantedN rfl (by decide) (E.pickT f24 rfl rfl) fun a25 f25 => ?_
      clear f24 a24
      refine L.val f25 wantedN rfl (by decide) (E.assign f25 rfl) fun a26 f26 => ?_
      clear f25 a25
      refine wpList_nil (hK5 _ _ ?_)
      try clear hK5 K5
      have f27 := f26.sub (sub_cons (i := 0) rfl (sub_cons (i := 3) rfl (sub_cons (i := 4) rfl (sub_cons (i := 5) rfl (sub_cons (i := 20) rfl sub_nil)))))
      clear f26
      refine C.condT f27 rfl ?_
      refine wp_seq_k fun K6 hK6 => ?_
      refine C.region ?_
      refine L.val f27 wantedN rfl (by decide) (E.assign f27 rfl) fun a28 f28 => ?_
      clear f27 a26
      refine L.val f28 wantedN rfl (by decide) (E.assign f28 rfl) fun a29 f29 => ?_
      clear f28 a28
      refine wpList_nil (hK6 _ _ ?_)
      try clear hK6 K6
      have f30 := f29.sub (sub_cons (i := 0) rfl (sub_cons (i := 3) rfl (sub_cons (i := 4) rfl (sub_cons (i := 5) rfl sub_nil))))
      clear f29
      refine wp_ret ?_
      try simp only [Exit.inBlock, Exit.then]
      refine C.ret2 (P := Try.prog) (fn := Try.f11) f30 rfl rfl rfl ?_
      exact got_nil hS HK HK0 (b := false) (by rw [gotS, if_neg hk6, if_pos (by omega)])
    · clear f15
      refine L.val f16 (f16.yes rfl rfl) rfl (by decide) (E.fieldAddr f16 Try.underlying35 rfl rfl wsz3_l) fun a17 f17 => ?_
      clear f16 a15
      refine L.val f17 (f17.yes rfl rfl) rfl (by decide) (by first | exact E.load f17 Try.underlying3 rfl rfl ((BP).cl rfl) | exact E.load f17 Try.underlying3 rfl rfl ((Bg0).cl rfl) | exact E.load f17 Try.underlying3 rfl rfl (Bg0.cl hp0) | exact E.load f17 Try.underlying3 rfl rfl (Bg0.cl hp3) | exact E.load f17 Try.underlying3 rfl rfl (Bg0.cl hp4)) fun a18 f18 => ?_
      clear f17 a17
      refine L.val f18 (f18.yes rfl rfl) rfl (by decide) (E.lss f18 rfl rfl) fun a19 f19 => ?_
      clear f18 a18
      refine L.val f19 wantedN rfl (by decide) (E.pickF f19 rfl rfl) fun a20 f20 => ?_
      clear f19 a19
      refine L.val f20 wantedN rfl (by decide) (E.move f20 rfl) fun a21 f21 => ?_
      clear f20 a20
      first | refine f21.splitD 29 rfl (fun h2 f22 => ?_) (fun h2 f22 => ?_) | refine f21.splitN 29 rfl (fun h2 f22 => ?_) (fun h2 f22 => ?_) | refine f21.splitNB 29 rfl (fun h2 f22 => ?_) (fun h2 f22 => ?_) | refine f21.split 29 rfl (fun h2 f22 => ?_) (fun h2 f22 => ?_)
      · clear f21
        refine L.skip f22 (f22.noF rfl rfl) rfl (by decide) fun a23 f23 => ?_
        clear f22 a21
        refine L.skip f23 (f23.noF rfl rfl) rfl (by decide) fun a24 f24 => ?_
        clear f23 a23
        refine L.skip f24 (f24.noF rfl rfl) rfl (by decide) fun a25 f25 => ?_
        clear f24 a24
        refine L.val f25 wantedN rfl (by decide) (E.pickT f25 rfl rfl) fun a26 f26 => ?_
        clear f25 a25
        refine L.val f26 wantedN rfl (by decide) (E.assign f26 rfl) fun a27 f27 => ?_
        clear f26 a26
        refine wpList_nil (hK5 _ _ ?_)
        try clear hK5 K5
        have f28 := f27.sub (sub_cons (i := 0) rfl (sub_cons (i := 3) rfl (sub_cons (i := 4) rfl (sub_cons (i := 5) rfl (sub_cons (i := 20) rfl sub_nil)))))
        clear f27
        refine C.condT f28 rfl ?_
        refine wp_seq_k fun K7 hK7 => ?_
        refine C.region ?_
        refine L.val f28 wantedN rfl (by decide) (E.assign f28 rfl) fun a29 f29 => ?_
        clear f28 a27
        refine L.val f29 wantedN rfl (by decide) (E.assign f29 rfl) fun a30 f30 => ?_
        clear f29 a29
        refine wpList_nil (hK7 _ _ ?_)
        try clear hK7 K7
        have f31 := f30.sub (sub_cons (i := 0) rfl (sub_cons (i := 3) rfl (sub_cons (i := 4) rfl (sub_cons (i := 5) rfl sub_nil))))
        clear f30
        refine wp_ret ?_
        try simp only [Exit.inBlock, Exit.then]
        refine C.ret2 (P := Try.prog) (fn := Try.f11) f31 rfl rfl rfl ?_
        exact got_nil hS HK HK0 (b := false) (by rw [gotS, if_neg hk6, if_pos (by omega)])
      · clear f21
        refine L.val f22 (f22.yes rfl rfl) rfl (by decide) (E.fieldAddr f22 Try.underlying35 rfl rfl wsz3_l) fun a23 f23 => ?_
        clear f22 a21
        refine L.val f23 (f23.yes rfl rfl) rfl (by decide) (by first | exact E.load f23 Try.underlying3 rfl rfl ((BP).cl rfl) | exact E.load f23 Try.underlying3 rfl rfl ((Bg0).cl rfl) | exact E.load f23 Try.underlying3 rfl rfl (Bg0.cl hp0) | exact E.load f23 Try.underlying3 rfl rfl (Bg0.cl hp3) | exact E.load f23 Try.underlying3 rfl rfl (Bg0.cl hp4)) fun a24 f24 => ?_
        clear f23 a23
        refine L.val f24 (f24.yes rfl rfl) rfl (by decide) (E.gtr f24 rfl rfl) fun a25 f25 => ?_
        clear f24 a24
        refine L.val f25 wantedN rfl (by decide) (E.pickF f25 rfl rfl) fun a26 f26 => ?_
        clear f25 a25
        refine L.val f26 wantedN rfl (by decide) (E.assign f26 rfl) fun a27 f27 => ?_
        clear f26 a26
        refine wpList_nil (hK5 _ _ ?_)
        try clear hK5 K5
        have f28 := f27.sub (sub_cons (i := 0) rfl (sub_cons (i := 3) rfl (sub_cons (i := 4) rfl (sub_cons (i := 5) rfl (sub_cons (i := 20) rfl sub_nil)))))
        clear f27
        first | refine f28.splitD 20 rfl (fun h3 f29 => ?_) (fun h3 f29 => ?_) | refine f28.splitN 20 rfl (fun h3 f29 => ?_) (fun h3 f29 => ?_) | refine f28.splitNB 20 rfl (fun h3 f29 => ?_) (fun h3 f29 => ?_) | refine f28.split 20 rfl (fun h3 f29 => ?_) (fun h3 f29 => ?_)
        · clear f28
          refine C.condT f29 rfl ?_
          refine wp_seq_k fun K8 hK8 => ?_
          refine C.region ?_
          refine L.val f29 wantedN rfl (by decide) (E.assign f29 rfl) fun a30 f30 => ?_
          clear f29 a27
          refine L.val f30 wantedN rfl (by decide) (E.assign f30 rfl) fun a31 f31 => ?_
          clear f30 a30
          refine wpList_nil (hK8 _ _ ?_)
          try clear hK8 K8
          have f32 := f31.sub (sub_cons (i := 0) rfl (sub_cons (i := 3) rfl (sub_cons (i := 4) rfl (sub_cons (i := 5) rfl sub_nil))))
          clear f31
          refine wp_ret ?_
          try simp only [Exit.inBlock, Exit.then]
          refine C.ret2 (P := Try.prog) (fn := Try.f11) f32 rfl rfl rfl ?_
          exact got_nil hS HK HK0 (b := false) (by rw [gotS, if_neg hk6, if_pos (by omega)])
        · clear f28
          refine C.condF f29 rfl ?_
          refine wp_seq_k fun K9 hK9 => ?_
          refine C.region ?_
          refine L.val f29 wantedN rfl (by decide) (E.fieldAddr f29 Try.underlying35 rfl rfl wsz3_l) fun a30 f30 => ?_
          clear f29 a27
          refine L.val f30 wantedN rfl (by decide) (by first | exact E.load f30 Try.underlying3 rfl rfl ((BP).cl rfl) | exact E.load f30 Try.underlying3 rfl rfl ((Bg0).cl rfl) | exact E.load f30 Try.underlying3 rfl rfl (Bg0.cl hp0) | exact E.load f30 Try.underlying3 rfl rfl (Bg0.cl hp3) | exact E.load f30 Try.underlying3 rfl rfl (Bg0.cl hp4)) fun a31 f31 => ?_
          clear f30 a30
          refine L.val f31 wantedN rfl (by decide) (E.eql f31 rfl rfl) fun a32 f32 => ?_
          clear f31 a31
          refine L.val f32 wantedN rfl (by decide) (E.assign f32 rfl) fun a33 f33 => ?_
          clear f32 a32
          refine wpList_nil (hK9 _ _ ?_)
          try clear hK9 K9
          have f34 := f33.sub (sub_cons (i := 0) rfl (sub_cons (i := 3) rfl (sub_cons (i := 4) rfl (sub_cons (i := 5) rfl (sub_cons (i := 34) rfl sub_nil)))))
          clear f33
          first | refine f34.splitD 34 rfl (fun h4 f35 => ?_) (fun h4 f35 => ?_) | refine f34.splitN 34 rfl (fun h4 f35 => ?_) (fun h4 f35 => ?_) | refine f34.splitNB 34 rfl (fun h4 f35 => ?_) (fun h4 f35 => ?_) | refine f34.split 34 rfl (fun h4 f35 => ?_) (fun h4 f35 => ?_)
          · clear f34
            have hq0 := h4
            refine C.condT f35 rfl ?_
            refine wp_seq_k fun K10 hK10 => ?_
            refine C.region ?_
            refine L.val f35 wantedN rfl (by decide) (E.assign f35 rfl) fun a36 f36 => ?_
            clear f35 a33
            refine L.val f36 wantedN rfl (by decide) (E.assign f36 rfl) fun a37 f37 => ?_
            clear f36 a36
            refine wpList_nil (hK10 _ _ ?_)
            try clear hK10 K10
            have f38 := f37.sub (sub_cons (i := 0) rfl (sub_cons (i := 3) rfl (sub_cons (i := 4) rfl (sub_cons (i := 5) rfl sub_nil))))
            clear f37
            refine wp_ret ?_
            try simp only [Exit.inBlock, Exit.then]
            refine C.ret2 (P := Try.prog) (fn := Try.f11) f38 rfl rfl rfl ?_
            exact got_nil hS HK HK0 (b := true) (by rw [gotS, if_neg hk6, if_neg (by omega), if_pos hq0])
          · clear f34
            have hq0 := h4
            refine C.condF f35 rfl ?_
            refine wp_seq_k fun K11 hK11 => ?_
            refine C.region ?_
            refine L.val f35 wantedN rfl (by decide) (E.fieldAddr f35 Try.underlying35 rfl rfl wsz3_l) fun a36 f36 => ?_
            clear f35 a33
            refine L.val f36 wantedN rfl (by decide) (by first | exact E.load f36 Try.underlying3 rfl rfl ((BP).cl rfl) | exact E.load f36 Try.underlying3 rfl rfl ((Bg0).cl rfl) | exact E.load f36 Try.underlying3 rfl rfl (Bg0.cl hp0) | exact E.load f36 Try.underlying3 rfl rfl (Bg0.cl hp3) | exact E.load f36 Try.underlying3 rfl rfl (Bg0.cl hp4)) fun a37 f37 => ?_
            clear f36 a36
            refine L.val f37 wantedN rfl (by decide) (E.eql f37 rfl rfl) fun a38 f38 => ?_
            clear f37 a37
            refine L.val f38 wantedN rfl (by decide) (E.assign f38 rfl) fun a39 f39 => ?_
            clear f38 a38
            refine wpList_nil (hK11 _ _ ?_)
            try clear hK11 K11
            have f40 := f39.sub (sub_cons (i := 0) rfl (sub_cons (i := 3) rfl (sub_cons (i := 4) rfl (sub_cons (i := 5) rfl (sub_cons (i := 38) rfl sub_nil)))))
            clear f39
            first | refine f40.splitD 38 rfl (fun h5 f41 => ?_) (fun h5 f41 => ?_) | refine f40.splitN 38 rfl (fun h5 f41 => ?_) (fun h5 f41 => ?_) | refine f40.splitNB 38 rfl (fun h5 f41 => ?_) (fun h5 f41 => ?_) | refine f40.split 38 rfl (fun h5 f41 => ?_) (fun h5 f41 => ?_)
            · clear f40
              have hq1 := h5
              refine C.condT f41 rfl ?_
              refine wp_seq_k fun K12 hK12 => ?_
              refine C.region ?_
              refine L.val f41 wantedN rfl (by decide) (E.fieldAddr f41 Try.underlying35 rfl rfl wsz3_l) fun a42 f42 => ?_
              clear f41 a39
              refine L.val f42 wantedN rfl (by decide) (by first | exact E.load f42 Try.underlying3 rfl rfl ((BP).cl rfl) | exact E.load f42 Try.underlying3 rfl rfl ((Bg0).cl rfl) | exact E.load f42 Try.underlying3 rfl rfl (Bg0.cl hp0) | exact E.load f42 Try.underlying3 rfl rfl (Bg0.cl hp3) | exact E.load f42 Try.underlying3 rfl rfl (Bg0.cl hp4)) fun a43 f43 => ?_
              clear f42 a42
              refine L.call f43 wantedN rfl (by decide) (run_call Try.call23 (args2 f43 rfl rfl)) (reply_any 4 id _) ?_
              rintro e w2 ⟨g9, rfl, kc2, B9, lo9⟩
              have lo9' : w.heap.size ≤ g9 := by have := HK.size; omega
              refine ⟨_, rfl, fun a44 f44 => ?_⟩
              clear f43 a43
              have szw2 := kc2.size
              replace HK := HK.trans (.of_kept0 kc2)
              replace HK2 := HK2.trans (.of_kept0 kc2)
              replace HK0 := HK0.trans (.of_kept0 kc2)
              replace BP := BP.kept kc2 (by simp)
              replace IG := IG.mod (Mod.of_kept0 (T := []) (M := []) (B := B) kc2) (by simp)
              replace Bg0 := Bg0.kept kc2 (by simp)
              clear kc2
              refine L.val f44 wantedN rfl (by decide) (E.assign f44 rfl) fun a45 f45 => ?_
              clear f44 a44
              refine L.val f45 wantedN rfl (by decide) (E.assign f45 rfl) fun a46 f46 => ?_
              clear f45 a45
              refine wpList_nil (hK12 _ _ ?_)
              try clear hK12 K12
              have f47 := f46.sub (sub_cons (i := 0) rfl (sub_cons (i := 3) rfl (sub_cons (i := 4) rfl (sub_cons (i := 5) rfl sub_nil))))
              clear f46
              refine wp_ret ?_
              try simp only [Exit.inBlock, Exit.then]
              refine C.ret2 (P := Try.prog) (fn := Try.f11) f47 rfl rfl rfl ?_
              exact got_one hS HK HK0 (k := 4) (b := true) (by rw [gotS, if_neg hk6, if_neg (by omega), if_neg hq0, if_pos hq1]) B9 (by omega)
            · clear f40
              have hq1 := h5
              refine C.condF f41 rfl ?_
              refine wp_skip (hK1 _ _ ?_)
              try clear hK1 K1
              have f42 := f41.sub (sub_cons (i := 0) rfl (sub_cons (i := 3) rfl (sub_cons (i := 4) rfl (sub_cons (i := 5) rfl sub_nil))))
              clear f41
              refine wp_seq_k fun K13 hK13 => ?_
              have hg0g : g0 ≠ s.gm := by have := hS.got.lt; omega
              refine R.begin (S := fun W => Kept [] w1 W) (by kernel_rfl) (by exact (Kept.refl _ _).drewN 1) ?_
              have hS10 : Kept [] w1 (w1.drewN 1) := (Kept.refl _ _).drewN 1
              have hd10 : Kept [] w1 (w1.drewN 1) := (Kept.refl _ _).drewN 1
              obtain ⟨w2, hww2⟩ : ∃ W, W = w1.drewN 1 := ⟨_, rfl⟩
              rw [← hww2] at hS10 hd10 ⊢
              clear hww2
              have szw2 := hS10.size
              refine R.take 0 f42 rfl rfl (by decide) (by kernel_rfl) (by kernel_rfl) (by kernel_rfl) (fun _ _ _ _ h => h) wantedN hS10 (fun W hW => (E.move f42 rfl)) fun a43 f43 => ?_
              clear f42 a39
              refine R.take 1 f43 rfl rfl (by decide) (by kernel_rfl) (by kernel_rfl) (by kernel_rfl) (fun _ _ _ _ h => h) wantedN hS10 (fun W hW => (E.nilCheck f43 rfl)) fun a44 f44 => ?_
              clear f43 a43
              refine R.take 2 f44 rfl rfl (by decide) (by kernel_rfl) (by kernel_rfl) (by kernel_rfl) (fun _ _ _ _ h => h) wantedN hS10 (fun W hW => (E.fieldAddr f44 Try.underlying57 rfl rfl wsz54_l)) fun a45 f45 => ?_
              clear f44 a44
              refine R.take 3 f45 rfl rfl (by decide) (by kernel_rfl) (by kernel_rfl) (by kernel_rfl) (fun _ _ _ _ h => h) wantedN hS10 (fun W hW => (by first | exact E.load f45 Try.underlying54 rfl rfl ((BP.kept hW (by simp)).cl rfl) | exact E.load f45 Try.underlying54 rfl rfl ((Bg0.kept hW (by simp)).cl rfl) | exact E.load f45 Try.underlying54 rfl rfl ((Bg0.kept hW (by simp)).cl hp4))) fun a46 f46 => ?_
              clear f45 a45
              refine R.take 4 f46 rfl rfl (by decide) (by kernel_rfl) (by kernel_rfl) (by kernel_rfl) (fun _ _ _ _ h => h) wantedN hS10 (fun W hW => (E.fieldAddr f46 Try.underlying35 rfl rfl wsz3_l)) fun a47 f47 => ?_
              clear f46 a46
              refine R.take 5 f47 rfl rfl (by decide) (by kernel_rfl) (by kernel_rfl) (by kernel_rfl) (fun _ _ _ _ h => h) wantedN hS10 (fun W hW => (by first | exact E.load f47 Try.underlying3 rfl rfl ((BP.kept hW (by simp)).cl rfl) | exact E.load f47 Try.underlying3 rfl rfl ((Bg0.kept hW (by simp)).cl rfl) | exact E.load f47 Try.underlying3 rfl rfl ((Bg0.kept hW (by simp)).cl hp4))) fun a48 f48 => ?_
              clear f47 a47
              refine R.take 6 f48 rfl rfl (by decide) (by kernel_rfl) (by kernel_rfl) (by kernel_rfl) (fun _ _ _ _ h => h) wantedN hS10 (fun W hW => (E.look f48 (IG.kept hW (by simp)) Try.underlying3 Try.underlying4 Try.underlying54 (fun _ => by kernel_rfl) rfl rfl hwf)) fun a49 f49 => ?_
              clear f48 a48
              refine R.take 7 f49 rfl rfl (by decide) (by kernel_rfl) (by kernel_rfl) (by kernel_rfl) (fun _ _ _ _ h => h) wantedN hS10 (fun W hW => (E.assign f49 rfl)) fun a50 f50 => ?_
              clear f49 a49
              have szw2r := hS10.size
              replace HK := HK.trans (.of_kept0 hS10)
              replace HK2 := HK2.trans (.of_kept0 hS10)
              replace HK0 := HK0.trans (.of_kept0 hS10)
              replace BP := BP.kept hS10 (by simp)
              replace IG := IG.mod (Mod.of_kept0 (T := []) (M := []) (B := B) hS10) (by simp)
              replace Bg0 := Bg0.kept hS10 (by simp)
              clear hS10
              refine R.done (by kernel_rfl) (hK13 _ _ ?_)
              try clear hK13 K13
              have f51 := f50.sub (sub_cons (i := 0) rfl (sub_cons (i := 3) rfl (sub_cons (i := 4) rfl (sub_cons (i := 5) rfl (sub_cons (i := 6) rfl sub_nil)))))
              clear f50
              refine wp_seq_k fun K14 hK14 => ?_
              have KN := Kept.refl [] w2
              refine R.begin (S := fun W => Kept [s.gm] w2 W) (by kernel_rfl) (by exact (Kept.refl _ _).drewN 1) ?_
              have hS11 : Kept [s.gm] w2 (w2.drewN 1) := (Kept.refl _ _).drewN 1
              have hd11 : Kept [] w2 (w2.drewN 1) := (Kept.refl _ _).drewN 1
              obtain ⟨w3, hww3⟩ : ∃ W, W = w2.drewN 1 := ⟨_, rfl⟩
              rw [← hww3] at hS11 hd11 ⊢
              clear hww3
              have szw3 := hS11.size
              replace KN := KN.trans hd11 (by simp)
              refine R.take 0 f51 rfl rfl (by decide) (by kernel_rfl) (by kernel_rfl) (by kernel_rfl) (fun _ _ _ _ h => h) wantedN hS11 (fun W hW => (E.move f51 rfl)) fun a52 f52 => ?_
              clear f51 a50
              refine R.take 1 f52 rfl rfl (by decide) (by kernel_rfl) (by kernel_rfl) (by kernel_rfl) (fun _ _ _ _ h => h) wantedN hS11 (fun W hW => (E.nilCheck f52 rfl)) fun a53 f53 => ?_
              clear f52 a52
              refine R.take 2 f53 rfl rfl (by decide) (by kernel_rfl) (by kernel_rfl) (by kernel_rfl) (fun _ _ _ _ h => h) wantedN hS11 (fun W hW => (E.fieldAddr f53 Try.underlying57 rfl rfl wsz54_l)) fun a54 f54 => ?_
              clear f53 a53
              refine R.take 3 f54 rfl rfl (by decide) (by kernel_rfl) (by kernel_rfl) (by kernel_rfl) (fun _ _ _ _ h => h) wantedN hS11 (fun W hW => (by first | exact E.load f54 Try.underlying54 rfl rfl ((BP.kept hW (by first | simpa using hpg | simpa using hg0g)).cl rfl) | exact E.load f54 Try.underlying54 rfl rfl ((Bg0.kept hW (by first | simpa using hpg | simpa using hg0g)).cl rfl) | exact E.load f54 Try.underlying54 rfl rfl ((Bg0.kept hW (by simpa using hg0g)).cl hp4))) fun a55 f55 => ?_
              clear f54 a54
              refine R.take 4 f55 rfl rfl (by decide) (by kernel_rfl) (by kernel_rfl) (by kernel_rfl) (fun _ _ _ _ h => h) wantedN hS11 (fun W hW => (E.fieldAddr f55 Try.underlying35 rfl rfl wsz3_l)) fun a56 f56 => ?_
              clear f55 a55
              refine R.take 5 f56 rfl rfl (by decide) (by kernel_rfl) (by kernel_rfl) (by kernel_rfl) (fun _ _ _ _ h => h) wantedN hS11 (fun W hW => (by first | exact E.load f56 Try.underlying3 rfl rfl ((BP.kept hW (by first | simpa using hpg | simpa using hg0g)).cl rfl) | exact E.load f56 Try.underlying3 rfl rfl ((Bg0.kept hW (by first | simpa using hpg | simpa using hg0g)).cl rfl) | exact E.load f56 Try.underlying3 rfl rfl ((Bg0.kept hW (by simpa using hg0g)).cl hp4))) fun a57 f57 => ?_
              clear f56 a56
              refine R.one 6 (by kernel_rfl) ?_
              refine O.mapPut f57 rfl wantedN (IG.kept KN (by simp)) Try.underlying3 Try.underlying4 Try.underlying54 rfl rfl rfl hwf hgl (fun _ hk => hS11.trans hk (by simp)) fun a58 w4 IN ks f58 => ?_
              replace hS11 := hS11.trans ks (by simp)
              have szw4 := ks.size
              clear f57 a57 ks
              have szw4r := hS11.size
              have KM : Mod [] [s.gm] B _ w4 := Mod.of_kept hS11 (fun x hx _ => by obtain rfl := List.mem_singleton.1 hx; exact ⟨hS.log, .inr ⟨IG.map, by simp⟩⟩)
              replace HK := HK.step KM (by decide) (by simp) (by omega)
              replace HK2 := HK2.step KM (by decide) (by simp) (by omega)
              replace BP := BP.kept hS11 (by first | simpa using hpg | simpa using hg0g)
              replace Bg0 := Bg0.kept hS11 (by first | simpa using hpg | simpa using hg0g)
              clear hS11
              refine R.done (by kernel_rfl) (hK14 _ _ ?_)
              try clear hK14 K14
              have f59 := f58.sub (sub_cons (i := 3) rfl (sub_cons (i := 4) rfl (sub_cons (i := 5) rfl (sub_cons (i := 6) rfl sub_nil))))
              clear f58
              refine wp_seq_k fun K15 hK15 => ?_
              refine C.region ?_
              refine L.val f59 wantedN rfl (by decide) (E.move f59 rfl) fun a60 f60 => ?_
              clear f59 a58
              refine L.val f60 wantedN rfl (by decide) (E.not f60 rfl) fun a61 f61 => ?_
              clear f60 a60
              refine L.val f61 wantedN rfl (by decide) (E.fieldAddr f61 Try.underlying35 rfl rfl wsz3_l) fun a62 f62 => ?_
              clear f61 a61
              refine L.val f62 wantedN rfl (by decide) (by first | exact E.load f62 Try.underlying3 rfl rfl ((BP).cl rfl) | exact E.load f62 Try.underlying3 rfl rfl ((Bg0).cl rfl) | exact E.load f62 Try.underlying3 rfl rfl (Bg0.cl hp0) | exact E.load f62 Try.underlying3 rfl rfl (Bg0.cl hp3) | exact E.load f62 Try.underlying3 rfl rfl (Bg0.cl hp4)) fun a63 f63 => ?_
              clear f62 a62
              refine L.call f63 wantedN rfl (by decide) (run_call Try.call23 (args2 f63 rfl rfl)) (reply_any 5 id _) ?_
              rintro e w5 ⟨g9, rfl, kc5, B9, lo9⟩
              have lo9' : w.heap.size ≤ g9 := by have := HK.size; omega
              refine ⟨_, rfl, fun a64 f64 => ?_⟩
              clear f63 a63
              have szw5 := kc5.size
              replace HK := HK.trans (.of_kept0 kc5)
              replace HK2 := HK2.trans (.of_kept0 kc5)
              replace BP := BP.kept kc5 (by simp)
              replace Bg0 := Bg0.kept kc5 (by simp)
              replace IN := IN.mod (Mod.of_kept0 (T := []) (M := []) (B := B) kc5) (by simp)
              clear kc5
              refine L.val f64 wantedN rfl (by decide) (E.assign f64 rfl) fun a65 f65 => ?_
              clear f64 a64
              refine L.val f65 wantedN rfl (by decide) (E.assign f65 rfl) fun a66 f66 => ?_
              clear f65 a65
              refine wpList_nil (hK15 _ _ ?_)
              try clear hK15 K15
              have f67 := f66.sub (sub_cons (i := 4) rfl (sub_cons (i := 5) rfl sub_nil))
              clear f66
              refine wp_ret ?_
              try simp only [Exit.inBlock, Exit.then]
              refine C.ret2 (P := Try.prog) (fn := Try.f11) f67 rfl rfl rfl ?_
              exact got_fin hS HK HK2 IN (k := 5) (b := !decide (id ∈ s.got)) (by rw [gotS, if_neg hk6, if_neg (by omega), if_neg hq0, if_neg hq1]; rfl) B9 (by omega)

end Go.Proofs.Ytdfllmiokgoekaa
