/- Contracts: drain. -/
import Derived.Test.YtdfllmiokgoekaaSi
set_option linter.all false
namespace Go.Proofs.Ytdfllmiokgoekaa
open Go.RowKit Go.Hub
theorem wzib35_i : (Try.prog.info? 35).map (fun i => (i.zero, i.size, i.bytes)) = some (some (.agg #[(.int .i64 0), (.bool false), (.bool false), (.int .i64 0), (.int .i64 0), (.string ⟨#[]⟩), (.slice none 0 0), (.int .i64 0), (.string ⟨#[]⟩), (.bool false), (.int .i64 0), (.bool false), (.string ⟨#[]⟩), (.slice none 0 0), (.int .i64 0), (.bool false), (.bool false), (.bool false), (.string ⟨#[]⟩), (.slice none 0 0), (.bool false), (.int .i64 0), (.slice none 0 0), (.slice none 0 0)]), 24, 288) := by kernel_rfl
theorem wsz43_i : (Try.prog.info? 43).map (·.size) = some 4 := by kernel_rfl
theorem wsz52_i : (Try.prog.info? 52).map (·.size) = some 1 := by kernel_rfl
theorem wsz55_i : (Try.prog.info? 55).map (·.size) = some 1 := by kernel_rfl

theorem wpk1 (x : Pc) : Instr.fill (fun i => some (i * 24, 24)) ((Array.range (1 * 24)).map fun j => (Value.cells (.agg #[(.int .i64 0), (.bool false), (.bool false), (.int .i64 0), (.int .i64 0), (.string ⟨#[]⟩), (.slice none 0 0), (.int .i64 0), (.string ⟨#[]⟩), (.bool false), (.int .i64 0), (.bool false), (.string ⟨#[]⟩), (.slice none 0 0), (.int .i64 0), (.bool false), (.bool false), (.bool false), (.string ⟨#[]⟩), (.slice none 0 0), (.bool false), (.int .i64 0), (.slice none 0 0), (.slice none 0 0)]))[j % (Value.cells (.agg #[(.int .i64 0), (.bool false), (.bool false), (.int .i64 0), (.int .i64 0), (.string ⟨#[]⟩), (.slice none 0 0), (.int .i64 0), (.string ⟨#[]⟩), (.bool false), (.int .i64 0), (.bool false), (.string ⟨#[]⟩), (.slice none 0 0), (.int .i64 0), (.bool false), (.bool false), (.bool false), (.string ⟨#[]⟩), (.slice none 0 0), (.bool false), (.int .i64 0), (.slice none 0 0), (.slice none 0 0)])).size]!) [(0, .agg (pcell x).toArray)] = some (pcell x).toArray := by kernel_rfl
theorem wzj35 : (Try.prog.info? 35).map (fun i => (i.zero, i.size)) = some (some (.agg #[(.int .i64 0), (.bool false), (.bool false), (.int .i64 0), (.int .i64 0), (.string ⟨#[]⟩), (.slice none 0 0), (.int .i64 0), (.string ⟨#[]⟩), (.bool false), (.int .i64 0), (.bool false), (.string ⟨#[]⟩), (.slice none 0 0), (.int .i64 0), (.bool false), (.bool false), (.bool false), (.string ⟨#[]⟩), (.slice none 0 0), (.bool false), (.int .i64 0), (.slice none 0 0), (.slice none 0 0)]), 24) := by kernel_rfl
theorem pcell_one (x : Pc) : ∀ u ∈ pcell x, u.oneCell' = true := by simp [pcell, Value.oneCell']
theorem Ses.Like.trans {s t u : Ses} (h : s.Like t) (k : t.Like u) : s.Like u := ⟨k.im.trans h.im, k.gm.trans h.gm, k.cl.trans h.cl⟩
theorem PkAt.push {B : Nat} {w0 w w' : World} {A A' : Option Addr} {c c' : Nat} {l : List Pc} {x : Pc} (h : PkAt B w0 w A c l) (ap : App w w' 35 24 A l.length c (l.flatMap pcell) (pcell x) 1 A' c') (hw : w0.heap.size ≤ w.heap.size) (hB : B ≤ w0.heap.size) (hp : Pay B w x.A x.p.pay) : PkAt B w0 w' A' c' (l ++ [x]) := by
  have hm : Mod [35] [] B w w' := .of_app ap h.fr.own (fun a ha => Nat.le_trans hB (h.fr.from a ha)) (by simp)
  refine ⟨by simpa using ap.next h.fr hw, fun y hy => ?_⟩
  rcases List.mem_append.1 hy with hy | hy
  · exact (h.pay y hy).mod hm (by decide)
  · obtain rfl := List.mem_singleton.1 hy
    exact hp.mod hm (by decide)
theorem SesAt.popped {B p : Nat} {w w' : World} {u : Ses} {A' : Option Addr} {c' : Nat} {r : List Mc} (h : SesAt B w p u) (hk : Mod [72] [] B w w') (HQ : QuAt B w' u.q A' c' r u.lost) : ∃ v : Ses, SesAt B w' p v ∧ v.abs = { u.abs with wait := r.map (·.m) } ∧ u.Like v ∧ v.fly = u.fly :=
  ⟨{ u with wait := r, QA := A', qc := c' }, ⟨h.top.mod hk (by decide), h.one, h.ids.mod hk (by decide) (by simp), HQ, h.fly.mod hk (by decide), h.got.mod hk (by simp), h.ne, h.lop, h.loi, h.lom, h.log, h.tk, h.perm, h.ats, h.idb⟩, rfl, ⟨rfl, rfl, rfl⟩, rfl⟩
theorem pop_got {l : List Mc} {x : Mc} {r : List Mc} (hnon : (!l.isEmpty) = true) (hor : l = x :: r ∨ l = [] ∧ r = []) : l = x :: r := by
  rcases hor with h | h
  · exact h
  · rw [h.1] at hnon; cases hnon
def DrainPost (B p : Nat) (s : Ses) (now : Int) (w : World) (e : Ending) (w' : World) : Prop :=
  ∃ s' A c pks, e = .returned (.slice A pks.length c) ∧ SesAt B w' p s' ∧ s'.abs = (drainS s.abs now).1 ∧ pks.map (·.p) = (drainS s.abs now).2 ∧ s.Like s' ∧ Mod [57, 69, 61, 72] [s.im] B w w' ∧ PkAt B w w' A c pks
section
variable {B p : Nat} {s u v u2 : Ses} {now : Int} {w W : World} {x : Mc} {r : List Mc} {gk : Nat} {pks : List Pc} {A : Option Addr} {c : Nat}
theorem abs_fly (s : Ses) : s.abs.fly.length = s.fly.length := by simp [Ses.abs]
theorem drain_more (hab : u2.abs = riseS v.abs x.m now) (hva : v.abs = { u.abs with wait := r.map (·.m) }) (h : 4 < gk + u.fly.length) : 4 < gk - 1 + u2.fly.length := by
  have h1 : u2.abs.fly.length = u.fly.length + 1 := by rw [hab, hva]; simp [riseS, Ses.abs]
  rw [abs_fly] at h1
  omega
theorem drain_next (hab : u2.abs = riseS v.abs x.m now) (hva : v.abs = { u.abs with wait := r.map (·.m) }) (hwt : u.wait = x :: r) (h : 4 < gk + u.fly.length) (h4 : u.fly.length < 4) (pks : List Pc) {Ap : Option Addr} {cp : Nat} :
    ((drainN gk u.abs now).1, pks.map (·.p) ++ (drainN gk u.abs now).2) = ((drainN (gk - 1) u2.abs now).1, (pks ++ [(⟨riseP v.abs x.m, Ap, cp⟩ : Pc)]).map (·.p) ++ (drainN (gk - 1) u2.abs now).2) := by
  obtain ⟨k, rfl⟩ : ∃ k, gk = k + 1 := ⟨gk - 1, by omega⟩
  have h4' : u.abs.fly.length < 4 := by rw [abs_fly]; exact h4
  have hw : u.abs.wait = x.m :: r.map (·.m) := by simp [Ses.abs, hwt]
  rw [hab, hva, Nat.add_sub_cancel]
  rw [drainN, if_pos h4', hw]
  simp
theorem drain_a (hS : SesAt B w p s) (HS : SesAt B W p u) (hL : s.Like u) (hq : drainN 5 s.abs now = ((drainN gk u.abs now).1, pks.map (·.p) ++ (drainN gk u.abs now).2)) (PK : PkAt B w W A c pks) (HK : Mod [57, 69, 61, 72] [s.im] B w W) (h : ¬ u.fly.length < 4) :
    DrainPost B p s now w (.returned (.slice A pks.length c)) W := by
  have h0 : drainN gk u.abs now = (u.abs, []) := by
    cases gk with
    | zero => rfl
    | succ k => rw [drainN, if_neg (by rw [abs_fly]; exact h)]
  rw [h0, List.append_nil] at hq
  exact ⟨u, A, c, pks, rfl, HS, by rw [drainS, hq], by rw [drainS, hq], hL, HK, PK⟩
theorem drain_b (hS : SesAt B w p s) (HS : SesAt B W p v) (hL : s.Like v) (hva : v.abs = { u.abs with wait := r.map (·.m) }) (hemp : (!u.wait.isEmpty) = false) (hor : u.wait = x :: r ∨ u.wait = [] ∧ r = []) (hq : drainN 5 s.abs now = ((drainN gk u.abs now).1, pks.map (·.p) ++ (drainN gk u.abs now).2)) (PK : PkAt B w W A c pks) (HK : Mod [57, 69, 61, 72] [s.im] B w W) :
    DrainPost B p s now w (.returned (.slice A pks.length c)) W := by
  have hw : u.wait = [] ∧ r = [] := by
    rcases hor with h | h
    · rw [h] at hemp; cases hemp
    · exact h
  have hv : v.abs = u.abs := by rw [hva, hw.2]; simp [Ses.abs, hw.1]
  have h0 : drainN gk u.abs now = (u.abs, []) := by
    cases gk with
    | zero => rfl
    | succ k =>
      rw [drainN, show u.abs.wait = [] by simp [Ses.abs, hw.1]]
      split <;> rfl
  rw [h0, List.append_nil] at hq
  exact ⟨v, A, c, pks, rfl, HS, by rw [drainS, hq, hv], by rw [drainS, hq], hL, HK, PK⟩
end

set_option maxHeartbeats 1000000 in
theorem drain_any (B p : Nat) (s : Ses) (now : Int) (w : World) (hS : SesAt B w p s) (hB : B ≤ w.heap.size) : Calls Try.prog 34 #[.pointer (some ⟨p, 0, none⟩), .int .i64 now] w (DrainPost B p s now w) := by
  have HK : Mod [57, 69, 61, 72] [s.im] B w w := .refl _ _ _ _
  refine C.enter Try.func34 rfl Try.ntmps34 rfl ?_
  intro a0 f0
  have f1 : Fr 32 a0 [(0, .pointer (some ⟨p, 0, none⟩)), (1, .int .i64 now)] := f0
  clear f0
  refine wp_seq_k fun K0 hK0 => ?_
  refine C.region ?_
  refine L.val f1 wantedN rfl (by decide) (E.assign f1 rfl) fun a2 f2 => ?_
  clear f1 a0
  refine wpList_nil (hK0 _ _ ?_)
  try clear hK0 K0
  have f3 := f2.sub (sub_cons (i := 0) rfl (sub_cons (i := 1) rfl (sub_cons (i := 4) rfl sub_nil)))
  clear f2
  refine wp_seq_k fun K1 hK1 => ?_
  refine C.region ?_
  refine L.val f3 wantedN rfl (by decide) (E.assign f3 rfl) fun a4 f4 => ?_
  clear f3 a2
  refine wpList_nil (hK1 _ _ ?_)
  try clear hK1 K1
  have f5 := f4.sub (sub_cons (i := 0) rfl (sub_cons (i := 1) rfl (sub_cons (i := 4) rfl (sub_cons (i := 5) rfl sub_nil))))
  clear f4
  refine wp_seq_k fun K2 hK2 => ?_
  refine wp_block ?_
  refine C.loop (fun gk a W => ∃ (u : Ses) (Ao : Option Addr) (co : Nat) (pks : List Pc), SesAt B W p u ∧ s.Like u ∧ 4 < gk + u.fly.length ∧ drainN 5 s.abs now = ((drainN gk u.abs now).1, pks.map (·.p) ++ (drainN gk u.abs now).2) ∧ PkAt B w W Ao co pks ∧ pks.length + gk ≤ 5 ∧ Mod [57, 69, 61, 72] [s.im] B w W ∧ Fr 32 a [(0, .pointer (some ⟨p, 0, none⟩)), (1, .int .i64 now), (5, .slice Ao pks.length co)]) (5) ?_ ?_
  · exact ⟨s, none, 0, [], hS, ⟨rfl, rfl, rfl⟩, by omega, rfl, PkAt.nil _ _ _, by simp, HK, f5.sub (sub_cons rfl (sub_cons rfl (sub_cons rfl sub_nil)))⟩
  · intro gk4 a6 w1 hI KL3 hKL3
    obtain ⟨u, Ao, co, pks, HS, hL, hgk, hq, PK, hpk, HK, f6⟩ := hI
    try clear f5
    have BP := HS.top
    have szw1x := HK.size
    have hu4 := HS.fly.len
    refine wp_seq_k fun K4 hK4 => ?_
    refine wp_seq_k fun K5 hK5 => ?_
    refine C.region ?_
    refine L.val f6 wantedN rfl (by decide) (E.move f6 rfl) fun a7 f7 => ?_
    clear f6 a6
    refine L.val f7 wantedN rfl (by decide) (E.nilCheck f7 rfl) fun a8 f8 => ?_
    clear f7 a7
    refine L.val f8 wantedN rfl (by decide) (E.fieldAddr f8 Try.underlying57 rfl rfl wsz55_i) fun a9 f9 => ?_
    clear f8 a8
    refine L.val f9 wantedN rfl (by decide) (by exact E.load f9 Try.underlying55 rfl rfl ((BP).cl rfl)) fun a10 f10 => ?_
    clear f9 a9
    refine L.val f10 wantedN rfl (by decide) (E.lenL f10 Try.underlying55 rfl) fun a11 f11 => ?_
    clear f10 a10
    refine L.val f11 wantedN rfl (by decide) (E.lss f11 rfl rfl) fun a12 f12 => ?_
    clear f11 a11
    refine wpList_nil (hK5 _ _ ?_)
    try clear hK5 K5
    have f13 := f12.sub (sub_cons (i := 0) rfl (sub_cons (i := 1) rfl (sub_cons (i := 5) rfl (sub_cons (i := 8) rfl (sub_cons (i := 9) rfl (sub_cons (i := 10) rfl (sub_cons (i := 11) rfl (sub_cons (i := 12) rfl (sub_cons (i := 13) rfl sub_nil)))))))))
    clear f12
    first | refine f13.splitD 13 rfl (fun h0 f14 => ?_) (fun h0 f14 => ?_) | refine f13.splitN 13 rfl (fun h0 f14 => ?_) (fun h0 f14 => ?_) | refine f13.splitNB 13 rfl (fun h0 f14 => ?_) (fun h0 f14 => ?_) | refine f13.split 13 rfl (fun h0 f14 => ?_) (fun h0 f14 => ?_)
    · clear f13
      have hlt := h0
      refine C.condT f14 rfl ?_
      refine wp_skip (hK4 _ _ ?_)
      try clear hK4 K4
      have f15 := f14.sub (sub_cons (i := 0) rfl (sub_cons (i := 1) rfl (sub_cons (i := 5) rfl (sub_cons (i := 8) rfl (sub_cons (i := 9) rfl (sub_cons (i := 10) rfl (sub_cons (i := 11) rfl (sub_cons (i := 12) rfl (sub_cons (i := 13) rfl sub_nil)))))))))
      clear f14
      refine wp_block ?_
      refine wp_seq_k fun K6 hK6 => ?_
      refine C.region ?_
      refine L.val f15 wantedN rfl (by decide) (E.move f15 rfl) fun a16 f16 => ?_
      clear f15 a12
      refine L.val f16 wantedN rfl (by decide) (E.nilCheck f16 rfl) fun a17 f17 => ?_
      clear f16 a16
      refine L.val f17 wantedN rfl (by decide) (E.fieldAddr f17 Try.underlying57 rfl rfl wsz52_i) fun a18 f18 => ?_
      clear f17 a17
      refine L.val f18 wantedN rfl (by decide) (by exact E.load f18 Try.underlying52 rfl rfl ((BP).cl rfl)) fun a19 f19 => ?_
      clear f18 a18
      refine L.call f19 wantedN rfl (by decide) (run_call Try.call40 (args1 f19 rfl)) (pop_any B u.q u.QA u.qc u.wait u.lost _ HS.qu (by omega)) ?_
      rintro e w2 ⟨kc2, x, Aq, cq, r, rfl, HQ, HX, hor⟩
      obtain ⟨v, HV, hva, hvL, hvf⟩ := HS.popped kc2 HQ
      have HKp := Mod.refl [] [] B w2
      refine ⟨_, rfl, fun a20 f20 => ?_⟩
      clear f19 a19
      have szw2 := kc2.size
      replace HK := HK.step kc2 (by decide) (by simp) (by omega)
      replace BP := BP.mod kc2 (by decide)
      replace PK := PK.mod kc2 (by decide)
      clear kc2
      refine L.val f20 wantedN rfl (by decide) (E.move f20 rfl) fun a21 f21 => ?_
      clear f20 a20
      refine L.val f21 wantedN rfl (by decide) (E.extract f21 rfl rfl) fun a22 f22 => ?_
      clear f21 a21
      refine L.val f22 wantedN rfl (by decide) (E.extract f22 rfl rfl) fun a23 f23 => ?_
      clear f22 a22
      refine L.alloc f23 wantedN (by decide) (z := (.agg #[(.string ⟨#[]⟩), (.slice none 0 0), (.int .i64 0), (.bool false)])) (fun _ => by kernel_rfl) rfl fun a24 w3 g2 N2 f24 => ?_
      have Bg2 := N2.blk
      have kg2 := N2.kept
      have log2 := N2.lo
      have ltg2 := Bg2.lt
      have szw3 := kg2.size
      have frg2 : w.heap.size ≤ g2 := Nat.le_trans HK.size log2
      have nep_g2 : p ≠ g2 := by have := BP.lt; omega
      replace HK := HK.trans (.of_kept0 kg2)
      replace BP := BP.kept kg2 (by simp)
      replace PK := PK.mod (Mod.of_kept0 (T := []) (M := []) (B := B) kg2) (by decide)
      replace HKp := HKp.trans (.of_kept0 kg2)
      replace HX := HX.mod (Mod.of_kept0 (T := []) (M := []) (B := B) kg2) (by decide)
      clear N2 kg2
      clear f23 a23
      refine L.storeR f24 wantedN wsz43_i rfl rfl rfl Bg2 rfl rfl fun a25 w4 f25 NB4 ks4 => ?_
      have szw4 := ks4.size
      replace HK := HK.kept_new ks4 (by simp; omega)
      replace BP := BP.kept ks4 (by simp; omega)
      replace PK := PK.mod (Mod.of_blk1 (M := []) (B := B) ks4 Bg2 (by omega)) (by decide)
      replace HKp := HKp.kept_new ks4 (by simp; omega)
      replace HX := HX.mod (Mod.of_blk1 (M := []) (B := B) ks4 Bg2 (by omega)) (by decide)
      replace Bg2 := NB4
      clear ks4 f24 a24
      refine L.val f25 wantedN rfl (by decide) (E.assign f25 rfl) fun a26 f26 => ?_
      clear f25 a25
      refine wpList_nil (hK6 _ _ ?_)
      try clear hK6 K6
      have f27 := f26.sub (sub_cons (i := 0) rfl (sub_cons (i := 1) rfl (sub_cons (i := 5) rfl (sub_cons (i := 6) rfl (sub_cons (i := 7) rfl (sub_cons (i := 8) rfl (sub_cons (i := 9) rfl (sub_cons (i := 10) rfl (sub_cons (i := 11) rfl (sub_cons (i := 12) rfl (sub_cons (i := 13) rfl (sub_cons (i := 14) rfl (sub_cons (i := 15) rfl (sub_cons (i := 16) rfl (sub_cons (i := 17) rfl (sub_cons (i := 18) rfl (sub_cons (i := 19) rfl (sub_cons (i := 20) rfl (sub_cons (i := 21) rfl sub_nil)))))))))))))))))))
      clear f26
      refine wp_seq_k fun K7 hK7 => ?_
      refine wp_seq_k fun K8 hK8 => ?_
      refine C.region ?_
      refine L.val f27 wantedN rfl (by decide) (E.move f27 rfl) fun a28 f28 => ?_
      clear f27 a26
      refine L.val f28 wantedN rfl (by decide) (E.not f28 rfl) fun a29 f29 => ?_
      clear f28 a28
      refine wpList_nil (hK8 _ _ ?_)
      try clear hK8 K8
      have f30 := f29.sub (sub_cons (i := 0) rfl (sub_cons (i := 1) rfl (sub_cons (i := 5) rfl (sub_cons (i := 6) rfl (sub_cons (i := 7) rfl (sub_cons (i := 8) rfl (sub_cons (i := 9) rfl (sub_cons (i := 10) rfl (sub_cons (i := 11) rfl (sub_cons (i := 12) rfl (sub_cons (i := 13) rfl (sub_cons (i := 14) rfl (sub_cons (i := 15) rfl (sub_cons (i := 16) rfl (sub_cons (i := 17) rfl (sub_cons (i := 18) rfl (sub_cons (i := 19) rfl (sub_cons (i := 20) rfl (sub_cons (i := 21) rfl (sub_cons (i := 22) rfl (sub_cons (i := 23) rfl sub_nil)))))))))))))))))))))
      clear f29
      first | refine f30.splitD 23 rfl (fun h1 f31 => ?_) (fun h1 f31 => ?_) | refine f30.splitN 23 rfl (fun h1 f31 => ?_) (fun h1 f31 => ?_) | refine f30.splitNB 23 rfl (fun h1 f31 => ?_) (fun h1 f31 => ?_) | refine f30.split 23 rfl (fun h1 f31 => ?_) (fun h1 f31 => ?_)
      · clear f30
        have hemp := h1
        refine C.condT f31 rfl ?_
        refine wp_exit (hK2 _ _ ?_)
        try clear hK2 K2
        have f32 := f31.sub (sub_cons (i := 5) rfl sub_nil)
        clear f31
        refine wp_seq_k fun K9 hK9 => ?_
        refine C.region ?_
        refine L.val f32 wantedN rfl (by decide) (E.move f32 rfl) fun a33 f33 => ?_
        clear f32 a29
        refine L.val f33 wantedN rfl (by decide) (E.assign f33 rfl) fun a34 f34 => ?_
        clear f33 a33
        refine wpList_nil (hK9 _ _ ?_)
        try clear hK9 K9
        have f35 := f34.sub (sub_cons (i := 4) rfl sub_nil)
        clear f34
        refine wp_ret ?_
        try simp only [Exit.inBlock, Exit.then]
        refine C.ret (P := Try.prog) (fn := Try.f34) f35 rfl rfl ?_
        exact drain_b hS (HV.mod HKp (by simp)) (hL.trans hvL) hva hemp hor hq PK HK
      · clear f30
        have hnon := h1
        have hwt := pop_got hnon hor
        refine C.condF f31 rfl ?_
        refine wp_skip (hK7 _ _ ?_)
        try clear hK7 K7
        have f32 := f31.sub (sub_cons (i := 0) rfl (sub_cons (i := 1) rfl (sub_cons (i := 5) rfl (sub_cons (i := 6) rfl (sub_cons (i := 7) rfl (sub_cons (i := 8) rfl (sub_cons (i := 9) rfl (sub_cons (i := 10) rfl (sub_cons (i := 11) rfl (sub_cons (i := 12) rfl (sub_cons (i := 13) rfl (sub_cons (i := 14) rfl (sub_cons (i := 15) rfl (sub_cons (i := 16) rfl (sub_cons (i := 17) rfl (sub_cons (i := 18) rfl (sub_cons (i := 19) rfl (sub_cons (i := 20) rfl (sub_cons (i := 21) rfl (sub_cons (i := 22) rfl (sub_cons (i := 23) rfl sub_nil)))))))))))))))))))))
        clear f31
        refine C.region ?_
        refine L.val f32 wantedN rfl (by decide) (E.move f32 rfl) fun a33 f33 => ?_
        clear f32 a29
        refine L.val f33 wantedN rfl (by decide) (E.move f33 rfl) fun a34 f34 => ?_
        clear f33 a33
        refine L.val f34 wantedN rfl (by decide) (by first | exact E.loadB f34 Try.underlying43 rfl wsz43_i rfl (BP) rfl | exact E.loadB f34 Try.underlying43 rfl wsz43_i rfl (Bg2) rfl) fun a35 f35 => ?_
        clear f34 a34
        refine L.val f35 wantedN rfl (by decide) (E.move f35 rfl) fun a36 f36 => ?_
        clear f35 a35
        refine L.call f36 wantedN rfl (by decide) (run_call Try.call30 (args3 f36 rfl rfl rfl)) (rise_any B p v x.m x.A x.c now _ (HV.mod HKp (by simp)) HX (by omega) (by rw [hvf]; omega)) ?_
        rintro e w5 ⟨u2, Ap, cp, rfl, HS2, hab, hL2, kc5, HR⟩
        replace kc5 : Mod [57, 69, 61] [v.im] B _ _ := kc5
        rw [hvL.im, hL.im] at kc5
        refine ⟨_, rfl, fun a37 f37 => ?_⟩
        clear f36 a36
        have szw5 := kc5.size
        replace HK := HK.step kc5 (by decide) (by simp) (by omega)
        replace PK := PK.mod kc5 (by decide)
        replace Bg2 := Bg2.mod kc5 (by decide)
        clear kc5
        refine L.buildSlice f37 wantedN (by decide) (parts1 f37 rfl) Try.underlying27 wzj35 rfl rfl (wpk1 _) fun a38 w6 g5 N5 f38 => ?_
        have Bg5 := N5.blk
        have kg5 := N5.kept
        have log5 := N5.lo
        have ltg5 := Bg5.lt
        have szw6 := kg5.size
        have frg5 : w.heap.size ≤ g5 := Nat.le_trans HK.size log5
        have neg2_g5 : g2 ≠ g5 := by have := Bg2.lt; omega
        replace HK := HK.trans (.of_kept0 kg5)
        replace PK := PK.mod (Mod.of_kept0 (T := []) (M := []) (B := B) kg5) (by decide)
        replace Bg2 := Bg2.kept kg5 (by simp)
        replace HS2 := HS2.mod (Mod.of_kept0 (T := []) (M := []) (B := B) kg5) (by decide)
        replace HR := HR.mod (Mod.of_kept0 (T := []) (M := []) (B := B) kg5) (by decide)
        clear N5 kg5
        clear f37 a37
        refine L.append f38 wantedN (by decide) Try.underlying27 wzib35_i rfl rfl rfl rfl (PK.fr.own) ((show Sl _ _ 1 24 (pcell ⟨riseP v.abs x.m, Ap, cp⟩) from sl_blk Bg5 rfl)) (pcell_one _) (by unfold maxLen; omega) (by omega) fun a39 w7 A2 c2 AP7 f39 => ?_
        clear f38 a38
        have kap7 : Mod [35] [] B w6 w7 := .of_app AP7 PK.fr.own (fun a ha => Nat.le_trans hB (PK.fr.from a ha)) (by simp)
        have PK2 := PK.push (x := ⟨riseP v.abs x.m, Ap, cp⟩) AP7 HK.size hB HR
        replace HK := HK.app_new AP7 PK.fr
        have szw7 := kap7.size
        replace Bg2 := Bg2.mod kap7 (by decide)
        replace HS2 := HS2.mod kap7 (by decide)
        clear kap7
        refine L.val f39 wantedN rfl (by decide) (E.assign f39 rfl) fun a40 f40 => ?_
        clear f39 a39
        refine wpList_nil (hKL3 _ _ (gk4 - 1) ?_ ?_)
        · omega
        · exact ⟨u2, A2, c2, pks ++ [⟨riseP v.abs x.m, Ap, cp⟩], HS2, (hL.trans hvL).trans hL2, drain_more hab hva hgk, by rw [hq]; exact drain_next hab hva hwt hgk (by omega) pks, by simpa using PK2, by simp; omega, HK, by simpa using f40.sub (sub_cons rfl (sub_cons rfl (sub_cons rfl sub_nil)))⟩
    · clear f13
      have hge := h0
      refine C.condF f14 rfl ?_
      refine wp_exit (hK2 _ _ ?_)
      try clear hK2 K2
      have f15 := f14.sub (sub_cons (i := 5) rfl sub_nil)
      clear f14
      refine wp_seq_k fun K10 hK10 => ?_
      refine C.region ?_
      refine L.val f15 wantedN rfl (by decide) (E.move f15 rfl) fun a16 f16 => ?_
      clear f15 a12
      refine L.val f16 wantedN rfl (by decide) (E.assign f16 rfl) fun a17 f17 => ?_
      clear f16 a16
      refine wpList_nil (hK10 _ _ ?_)
      try clear hK10 K10
      have f18 := f17.sub (sub_cons (i := 4) rfl sub_nil)
      clear f17
      refine wp_ret ?_
      try simp only [Exit.inBlock, Exit.then]
      refine C.ret (P := Try.prog) (fn := Try.f34) f18 rfl rfl ?_
      exact drain_a hS HS hL hq PK HK (by omega)

end Go.Proofs.Ytdfllmiokgoekaa
