/- Contracts: IndexFunc, rise. -/
import Derived.Test.YtdfllmiokgoekaaSh
set_option linter.all false
namespace Go.Proofs.Ytdfllmiokgoekaa
open Go.RowKit Go.Hub
theorem wsz3_h : (Try.prog.info? 3).map (·.size) = some 1 := by kernel_rfl
theorem wsz61_h : (Try.prog.info? 61).map (·.size) = some 7 := by kernel_rfl
theorem wzib61_h : (Try.prog.info? 61).map (fun i => (i.zero, i.size, i.bytes)) = some (some (.agg #[(.string ⟨#[]⟩), (.slice none 0 0), (.int .i64 0), (.bool false), (.int .i64 0), (.int .i64 0), (.bool false)]), 7, 80) := by kernel_rfl
theorem wzi61_h : (Try.prog.info? 61).map (fun i => (i.zero, i.size)) = some (some (.agg #[(.string ⟨#[]⟩), (.slice none 0 0), (.int .i64 0), (.bool false), (.int .i64 0), (.int .i64 0), (.bool false)]), 7) := by kernel_rfl
theorem wbs55_1_h (x0_0 x0_1 x0_2 x0_3 x0_4 x0_5 x0_6 : Value) : Instr.fill (fun i => some (i * 7, 7)) ((Array.range (1 * 7)).map fun j => (Value.cells (.agg #[(.string ⟨#[]⟩), (.slice none 0 0), (.int .i64 0), (.bool false), (.int .i64 0), (.int .i64 0), (.bool false)]))[j % (Value.cells (.agg #[(.string ⟨#[]⟩), (.slice none 0 0), (.int .i64 0), (.bool false), (.int .i64 0), (.int .i64 0), (.bool false)])).size]!) [(0, .agg #[x0_0, x0_1, x0_2, x0_3, x0_4, x0_5, x0_6])] = some #[x0_0, x0_1, x0_2, x0_3, x0_4, x0_5, x0_6] := by kernel_rfl
theorem wsz22_h : (Try.prog.info? 22).map (·.size) = some 1 := by kernel_rfl
theorem wsz35_h : (Try.prog.info? 35).map (·.size) = some 24 := by kernel_rfl
theorem wsz43_h : (Try.prog.info? 43).map (·.size) = some 4 := by kernel_rfl
theorem wsz50_h : (Try.prog.info? 50).map (·.size) = some 1 := by kernel_rfl
theorem wsz55_h : (Try.prog.info? 55).map (·.size) = some 1 := by kernel_rfl
theorem wbl61_0_1_2_h (x0_0 x0_1 x0_2 x0_3 : Value) (x1 : Int) (x2 : Int) : Try.prog.built 61 [(0, .agg #[x0_0, x0_1, x0_2, x0_3]), (1, .int .i64 x1), (2, .int .i64 x2)] = some #[x0_0, x0_1, x0_2, x0_3, .int .i64 x1, .int .i64 x2, (.bool false)] := by kernel_rfl

theorem idx_next {l : List Fc} {id : Int} {k : Nat} {f : Fc} (hf : l[k]? = some f) (h : ¬ f.id = id) : idxI ((l.drop k).map (·.id)) id k = idxI ((l.drop (k + 1)).map (·.id)) id ((k + 1 : Nat) : Int) := by
  obtain ⟨h1, h2⟩ := List.getElem?_eq_some_iff.1 hf
  rw [List.drop_eq_getElem_cons h1, h2]
  simp [idxI, h]
theorem idx_hit {l : List Fc} {id : Int} {k : Nat} {f : Fc} (hf : l[k]? = some f) (h : f.id = id) : idxI ((l.drop k).map (·.id)) id k = k := by
  obtain ⟨h1, h2⟩ := List.getElem?_eq_some_iff.1 hf
  rw [List.drop_eq_getElem_cons h1, h2]
  simp [idxI, h]
theorem SesAt.used_lt {B p : Nat} {w : World} {s : Ses} (h : SesAt B w p s) : s.used.length < 65535 := by
  have h1 := h.perm.length_eq
  have h2 := h.fly.len
  rw [List.length_map] at h1
  omega
theorem take_ok (B ip im : Nat) (S : List Int) (taken : Int) (w : World) (A : IdsAt w ip im S 65535 taken) (hS : S.length < 65535) (ht : 0 ≤ taken) (h1 : B ≤ ip) (h2 : B ≤ im) :
    Calls Try.prog 38 #[.pointer (some ⟨ip, 0, none⟩)] w fun e w' => e = .returned (.tuple #[.int .i64 (Go.Ids.nxt S taken), .bool true]) ∧ Mod [69] [im] B w w' ∧ IdsAt w' ip im (insS (Go.Ids.nxt S taken) S) 65535 (Go.Ids.nxt S taken) ∧ Go.Ids.nxt S taken ∉ S ∧ 1 ≤ Go.Ids.nxt S taken ∧ Go.Ids.nxt S taken ≤ 65535 := by
  refine (take_any ip im S 65535 taken w A ht (by omega)).mono ?_
  rintro e w' ⟨hk, h⟩
  rw [if_neg (by omega)] at h
  refine ⟨h.1, .of_kept hk ?_, h.2, Go.Ids.nxt_spec S taken ht hS⟩
  intro x hx _
  simp only [List.mem_cons, List.not_mem_nil, or_false] at hx
  rcases hx with rfl | rfl
  · exact ⟨h1, .inl (A.top.typ (by simp))⟩
  · exact ⟨h2, .inr ⟨A.set.map, by simp⟩⟩
def RisePost (B p : Nat) (s : Ses) (m : Ms) (now : Int) (w : World) (e : Ending) (w' : World) : Prop :=
  ∃ s' A c, e = .returned (.agg (pcell ⟨riseP s.abs m, A, c⟩).toArray) ∧ SesAt B w' p s' ∧ s'.abs = riseS s.abs m now ∧ s.Like s' ∧ Mod [57, 69, 61] [s.im] B w w' ∧ Pay B w' A m.pay
theorem near_bd (x : Int) : -1099511627776 ≤ nearI x ∧ nearI x ≤ 1099511627776 := by unfold nearI; omega
theorem rise_fin {B p : Nat} {s : Ses} {m : Ms} {now : Int} {w W : World} {A2 Ac Ap : Option Addr} {c2 cc cp : Nat} (hS : SesAt B w p s) (htn : 1 ≤ Go.Ids.nxt s.used s.taken ∧ Go.Ids.nxt s.used s.taken ≤ 65535) (hti : Go.Ids.nxt s.used s.taken ∉ s.used) (h4 : s.fly.length < 4) (HK : Mod [57, 69, 61] [s.im] B w W)
    (BP : Blk W p 57 #[.string s.cl, s.sv, .pointer (some ⟨s.ip, 0, none⟩), .slice A2 (s.fly.length + 1) c2, .pointer (some ⟨s.q, 0, none⟩), .map (some s.gm)]) (IDN : IdsAt W s.ip s.im (insS (Go.Ids.nxt s.used s.taken) s.used) 65535 (Go.Ids.nxt s.used s.taken))
    (RX : Own W 61 7 (.slice A2 (s.fly.length + 1) c2) (s.fly.length + 1) (s.fly.flatMap fcell ++ [.string m.tp, .slice Ac m.pay.length cc, .int .i64 m.qos, .bool m.ret, .int .i64 (Go.Ids.nxt s.used s.taken), .int .i64 (nearI now), .bool false])) (HC : Pay B W Ac m.pay) (LX : ∀ a, A2 = some a → B ≤ a.block) (HR : Pay B W Ap m.pay) :
    RisePost B p s m now w (.returned (.agg (pubCells m.tp Ap m.pay.length cp m.qos m.ret (Go.Ids.nxt s.used s.taken) false))) W := by
  have hlen : (s.fly ++ [(⟨⟨m, Ac, cc⟩, Go.Ids.nxt s.used s.taken, nearI now, false⟩ : Fc)]).length = s.fly.length + 1 := by simp
  refine ⟨{ s with used := insS (Go.Ids.nxt s.used s.taken) s.used, taken := Go.Ids.nxt s.used s.taken, fly := s.fly ++ [⟨⟨m, Ac, cc⟩, Go.Ids.nxt s.used s.taken, nearI now, false⟩], FA := A2, fc := c2 }, Ap, cp, rfl, ?_, ?_, ⟨rfl, rfl, rfl⟩, HK, HR⟩
  · refine ⟨by simpa [Ses.cells] using BP, hS.one, IDN, hS.qu.mod HK (by decide), ⟨?_, ?_, LX, by show (s.fly ++ [_]).length ≤ 4; rw [hlen]; omega⟩, hS.got.mod HK (by simpa using Ne.symm hS.ne), hS.ne, hS.lop, hS.loi, hS.lom, hS.log, ⟨by show 0 ≤ Go.Ids.nxt s.used s.taken; omega, htn.2⟩, ?_, ?_, ?_⟩
    · simp only [hlen, List.flatMap_append]
      exact RX
    · intro f hf
      rcases List.mem_append.1 hf with hf | hf
      · exact (hS.fly.pay f hf).mod HK (by decide)
      · obtain rfl := List.mem_singleton.1 hf
        exact HC
    · show (insS (Go.Ids.nxt s.used s.taken) s.used).Perm _
      rw [insS, if_neg hti, List.map_append]
      exact (List.Perm.cons _ hS.perm).trans (List.perm_append_singleton _ _).symm
    · intro f hf
      rcases List.mem_append.1 hf with hf | hf
      · exact hS.ats f hf
      · obtain rfl := List.mem_singleton.1 hf
        exact near_bd now
    · intro f hf
      rcases List.mem_append.1 hf with hf | hf
      · exact hS.idb f hf
      · obtain rfl := List.mem_singleton.1 hf
        exact htn
  · simp [Ses.abs, riseS, Fc.abs]

set_option maxHeartbeats 1000000 in
theorem clos_any (f : Fc) (g : Nat) (pcs : Array Value) (id : Int) (w : World) (BQ : Blk w g 35 pcs) (h4 : pcs.toList[4]? = some (.int .i64 id)) : Calls Try.prog 25 #[.agg (fcell f).toArray, .pointer (some ⟨g, 0, none⟩)] w (fun e w' => e = .returned (.bool (decide (f.id = id))) ∧ Kept [] w w') := by
  have HK : Kept [] w w := Kept.refl [] w
  refine C.enter Try.func25 rfl Try.ntmps25 rfl ?_
  intro a0 f0
  have f1 : Fr 9 a0 [(0, .agg (fcell f).toArray), (1, .pointer (some ⟨g, 0, none⟩))] := f0
  clear f0
  refine wp_seq_k fun K0 hK0 => ?_
  refine C.region ?_
  refine L.box f1 wantedN (by decide) rfl rfl fun a2 w1 g0 N0 f2 => ?_
  have Bg0 := N0.blk
  have kg0 := N0.kept
  have log0 := N0.lo
  have ltg0 := Bg0.lt
  have szw1 := kg0.size
  have frg0 : w.heap.size ≤ g0 := Nat.le_trans HK.size log0
  have neg_g0 : g ≠ g0 := by have := BQ.lt; omega
  replace HK := HK.trans kg0 (by simp)
  replace BQ := BQ.kept kg0 (by simp)
  clear N0 kg0
  clear f1 a0
  refine L.val f2 wantedN rfl (by decide) (E.assign f2 rfl) fun a3 f3 => ?_
  clear f2 a2
  refine wpList_nil (hK0 _ _ ?_)
  try clear hK0 K0
  have f4 := f3.sub (sub_cons (i := 1) rfl (sub_cons (i := 2) rfl (sub_cons (i := 3) rfl sub_nil)))
  clear f3
  refine wp_seq_k fun K1 hK1 => ?_
  refine C.region ?_
  refine L.val f4 wantedN rfl (by decide) (E.fieldAddr f4 Try.underlying61 rfl rfl wsz3_h) fun a5 f5 => ?_
  clear f4 a3
  refine L.val f5 wantedN rfl (by decide) (by first | exact E.load f5 Try.underlying3 rfl rfl ((BQ).cl rfl) | exact E.load f5 Try.underlying3 rfl rfl ((Bg0).cl rfl) | exact E.load f5 Try.underlying3 rfl rfl (BQ.cl h4)) fun a6 f6 => ?_
  clear f5 a5
  refine L.val f6 wantedN rfl (by decide) (E.fieldAddr f6 Try.underlying35 rfl rfl wsz3_h) fun a7 f7 => ?_
  clear f6 a6
  refine L.val f7 wantedN rfl (by decide) (by first | exact E.load f7 Try.underlying3 rfl rfl ((BQ).cl rfl) | exact E.load f7 Try.underlying3 rfl rfl ((Bg0).cl rfl) | exact E.load f7 Try.underlying3 rfl rfl (BQ.cl h4)) fun a8 f8 => ?_
  clear f7 a7
  refine L.val f8 wantedN rfl (by decide) (E.eql f8 rfl rfl) fun a9 f9 => ?_
  clear f8 a8
  refine L.val f9 wantedN rfl (by decide) (E.assign f9 rfl) fun a10 f10 => ?_
  clear f9 a9
  refine wpList_nil (hK1 _ _ ?_)
  try clear hK1 K1
  have f11 := f10.sub (sub_cons (i := 3) rfl sub_nil)
  clear f10
  refine wp_ret ?_
  try simp only [Exit.inBlock, Exit.then]
  refine C.ret (P := Try.prog) (fn := Try.f25) f11 rfl rfl ?_
  exact ⟨rfl, HK⟩

set_option maxHeartbeats 1000000 in
theorem idx_any (A : Option Addr) (c : Nat) (l : List Fc) (g : Nat) (pcs : Array Value) (id : Int) (w : World) (OWN : Own w 61 7 (.slice A l.length c) l.length (l.flatMap fcell)) (BQ : Blk w g 35 pcs) (h4 : pcs.toList[4]? = some (.int .i64 id)) (hlen : l.length ≤ 4) : Calls Try.prog 24 #[.slice A l.length c, .func (.func 25) #[] #[.pointer (some ⟨g, 0, none⟩)]] w (fun e w' => e = .returned (.int .i64 (idxI (l.map (·.id)) id 0)) ∧ Kept [] w w') := by
  have HK : Kept [] w w := Kept.refl [] w
  have SLF := Sl.of_own OWN
  refine C.enter Try.func24 rfl Try.ntmps24 rfl ?_
  intro a0 f0
  have f1 : Fr 19 a0 [(0, .slice A l.length c), (1, .func (.func 25) #[] #[.pointer (some ⟨g, 0, none⟩)])] := f0
  clear f0
  refine wp_seq_k fun K0 hK0 => ?_
  refine C.region ?_
  refine L.val f1 wantedN rfl (by decide) (E.assign f1 rfl) fun a2 f2 => ?_
  clear f1 a0
  refine wpList_nil (hK0 _ _ ?_)
  try clear hK0 K0
  have f3 := f2.sub (sub_cons (i := 0) rfl (sub_cons (i := 1) rfl (sub_cons (i := 4) rfl sub_nil)))
  clear f2
  refine wp_seq_k fun K1 hK1 => ?_
  refine wp_seq_k fun K2 hK2 => ?_
  refine C.region ?_
  refine L.val f3 wantedN rfl (by decide) (E.move f3 rfl) fun a4 f4 => ?_
  clear f3 a2
  refine L.val f4 wantedN rfl (by decide) (E.lenL f4 Try.underlying55 rfl) fun a5 f5 => ?_
  clear f4 a4
  refine L.val f5 wantedN rfl (by decide) (E.move f5 rfl) fun a6 f6 => ?_
  clear f5 a5
  refine wpList_nil (hK2 _ _ ?_)
  try clear hK2 K2
  have f7 := f6.sub (sub_cons (i := 0) rfl (sub_cons (i := 1) rfl (sub_cons (i := 4) rfl (sub_cons (i := 7) rfl (sub_cons (i := 8) rfl sub_nil)))))
  clear f6
  refine wp_block ?_
  refine C.loop (fun gk a W => ∃ k : Nat, k + gk = l.length ∧ idxI (l.map (·.id)) id 0 = idxI ((l.drop k).map (·.id)) id k ∧ Kept [] w W ∧ Fr 19 a [(0, .slice A l.length c), (1, .func (.func 25) #[] #[.pointer (some ⟨g, 0, none⟩)]), (7, .int .i64 l.length), (8, .int .i64 k)]) (l.length) ?_ ?_
  · exact ⟨0, by omega, rfl, HK, f7.sub (sub_cons rfl (sub_cons rfl (sub_cons rfl (sub_cons rfl sub_nil))))⟩
  · intro gk4 a8 w1 hI KL3 hKL3
    obtain ⟨k, hk, hq, HK, f8⟩ := hI
    try clear f7
    refine wp_seq_k fun K4 hK4 => ?_
    refine C.region ?_
    refine L.val f8 wantedN rfl (by decide) (E.lss f8 rfl rfl) fun a9 f9 => ?_
    clear f8 a8
    refine wpList_nil (hK4 _ _ ?_)
    try clear hK4 K4
    have f10 := f9.sub (sub_cons (i := 0) rfl (sub_cons (i := 1) rfl (sub_cons (i := 7) rfl (sub_cons (i := 8) rfl (sub_cons (i := 9) rfl sub_nil)))))
    clear f9
    refine wp_seq_k fun K5 hK5 => ?_
    first | refine f10.splitD 9 rfl (fun h0 f11 => ?_) (fun h0 f11 => ?_) | refine f10.splitN 9 rfl (fun h0 f11 => ?_) (fun h0 f11 => ?_) | refine f10.splitNB 9 rfl (fun h0 f11 => ?_) (fun h0 f11 => ?_) | refine f10.split 9 rfl (fun h0 f11 => ?_) (fun h0 f11 => ?_)
    · clear f10
      obtain ⟨b, off, hA⟩ := SLF.addr (by omega)
      obtain ⟨f, hf⟩ : ∃ f, l[k]? = some f := ⟨l[k]'(by omega), List.getElem?_eq_getElem _⟩
      refine C.condT f11 rfl ?_
      refine wp_skip (hK5 _ _ ?_)
      try clear hK5 K5
      have f12 := f11.sub (sub_cons (i := 0) rfl (sub_cons (i := 1) rfl (sub_cons (i := 7) rfl (sub_cons (i := 8) rfl (sub_cons (i := 9) rfl sub_nil)))))
      clear f11
      refine wp_seq_k fun K6 hK6 => ?_
      refine wp_block ?_
      refine wp_seq_k fun K7 hK7 => ?_
      refine C.region ?_
      refine L.val f12 wantedN rfl (by decide) (E.move f12 rfl) fun a13 f13 => ?_
      clear f12 a9
      refine L.val f13 wantedN rfl (by decide) (E.assign f13 rfl) fun a14 f14 => ?_
      clear f13 a13
      refine wpList_nil (hK7 _ _ ?_)
      try clear hK7 K7
      have f15 := f14.sub (sub_cons (i := 0) rfl (sub_cons (i := 1) rfl (sub_cons (i := 5) rfl (sub_cons (i := 7) rfl (sub_cons (i := 8) rfl (sub_cons (i := 9) rfl (sub_cons (i := 10) rfl sub_nil)))))))
      clear f14
      refine wp_seq_k fun K8 hK8 => ?_
      refine C.region ?_
      refine L.val f15 wantedN rfl (by decide) (E.move f15 rfl) fun a16 f16 => ?_
      clear f15 a14
      refine L.val f16 wantedN rfl (by decide) (E.move f16 rfl) fun a17 f17 => ?_
      clear f16 a16
      refine L.val f17 wantedN rfl (by decide) (E.move f17 rfl) fun a18 f18 => ?_
      clear f17 a17
      refine L.val f18 wantedN rfl (by decide) (E.indexA f18 (by first | rfl | assumption) Try.underlying55 wsz61_h rfl rfl (by omega) (by omega)) fun a19 f19 => ?_
      clear f18 a18
      refine L.val f19 wantedN rfl (by decide) (by exact E.loadR f19 Try.underlying61 rfl wsz61_h rfl (Sl.row (i := k) (cs := fcell f) (SLF.kept HK) (by omega) hA (flat_at fcell 7 (fun _ => rfl) l k f hf)) rfl) fun a20 f20 => ?_
      clear f19 a19
      refine L.call f20 wantedN rfl (by decide) (cv1_1 f20 rfl Try.call25 rfl) (clos_any f g pcs id _ (BQ.kept HK (by simp)) h4) ?_
      rintro e w2 ⟨rfl, kc2⟩
      refine ⟨_, rfl, fun a21 f21 => ?_⟩
      clear f20 a20
      have szw2 := kc2.size
      replace HK := HK.trans kc2 (by simp)
      clear kc2
      refine wpList_nil (hK8 _ _ ?_)
      try clear hK8 K8
      have f22 := f21.sub (sub_cons (i := 0) rfl (sub_cons (i := 1) rfl (sub_cons (i := 5) rfl (sub_cons (i := 7) rfl (sub_cons (i := 8) rfl (sub_cons (i := 9) rfl (sub_cons (i := 10) rfl (sub_cons (i := 11) rfl (sub_cons (i := 12) rfl (sub_cons (i := 13) rfl (sub_cons (i := 14) rfl (sub_cons (i := 15) rfl (sub_cons (i := 16) rfl sub_nil)))))))))))))
      clear f21
      first | refine f22.splitD 16 rfl (fun h1 f23 => ?_) (fun h1 f23 => ?_) | refine f22.splitN 16 rfl (fun h1 f23 => ?_) (fun h1 f23 => ?_) | refine f22.splitNB 16 rfl (fun h1 f23 => ?_) (fun h1 f23 => ?_) | refine f22.split 16 rfl (fun h1 f23 => ?_) (fun h1 f23 => ?_)
      · clear f22
        have hyes := h1
        refine C.condT f23 rfl ?_
        refine wp_seq_k fun K9 hK9 => ?_
        refine C.region ?_
        refine L.val f23 wantedN rfl (by decide) (E.move f23 rfl) fun a24 f24 => ?_
        clear f23 a21
        refine L.val f24 wantedN rfl (by decide) (E.assign f24 rfl) fun a25 f25 => ?_
        clear f24 a24
        refine wpList_nil (hK9 _ _ ?_)
        try clear hK9 K9
        have f26 := f25.sub (sub_cons (i := 0) rfl (sub_cons (i := 1) rfl (sub_cons (i := 4) rfl (sub_cons (i := 5) rfl (sub_cons (i := 7) rfl (sub_cons (i := 8) rfl (sub_cons (i := 9) rfl (sub_cons (i := 10) rfl (sub_cons (i := 11) rfl (sub_cons (i := 12) rfl (sub_cons (i := 13) rfl (sub_cons (i := 14) rfl (sub_cons (i := 15) rfl (sub_cons (i := 16) rfl (sub_cons (i := 17) rfl sub_nil)))))))))))))))
        clear f25
        refine wp_ret ?_
        try simp only [Exit.inBlock, Exit.then]
        refine C.ret (P := Try.prog) (fn := Try.f24) f26 rfl rfl ?_
        exact ⟨by rw [hq, idx_hit hf hyes], HK⟩
      · clear f22
        have hno := h1
        refine C.condF f23 rfl ?_
        refine wp_skip (hK6 _ _ ?_)
        try clear hK6 K6
        have f24 := f23.sub (sub_cons (i := 0) rfl (sub_cons (i := 1) rfl (sub_cons (i := 5) rfl (sub_cons (i := 7) rfl (sub_cons (i := 8) rfl (sub_cons (i := 9) rfl (sub_cons (i := 10) rfl (sub_cons (i := 11) rfl (sub_cons (i := 12) rfl (sub_cons (i := 13) rfl (sub_cons (i := 14) rfl (sub_cons (i := 15) rfl (sub_cons (i := 16) rfl sub_nil)))))))))))))
        clear f23
        refine C.region ?_
        refine L.val f24 wantedN rfl (by decide) (E.add f24 rfl rfl (IntWalk.i64_in _ (by omega))) fun a25 f25 => ?_
        clear f24 a21
        refine L.val f25 wantedN rfl (by decide) (E.move f25 rfl) fun a26 f26 => ?_
        clear f25 a25
        refine wpList_nil (hKL3 _ _ (gk4 - 1) ?_ ?_)
        · omega
        · exact ⟨k + 1, by omega, by rw [hq]; exact idx_next hf hno, HK, f26.sub (sub_cons rfl (sub_cons rfl (sub_cons rfl (sub_cons rfl sub_nil))))⟩
    · clear f10
      have hend := h0
      refine C.condF f11 rfl ?_
      refine wp_exit (hK1 _ _ ?_)
      try clear hK1 K1
      have f12 := f11.sub sub_nil
      clear f11
      refine wp_seq_k fun K10 hK10 => ?_
      refine C.region ?_
      refine L.val f12 wantedN rfl (by decide) (E.assign f12 rfl) fun a13 f13 => ?_
      clear f12 a9
      refine wpList_nil (hK10 _ _ ?_)
      try clear hK10 K10
      have f14 := f13.sub (sub_cons (i := 4) rfl sub_nil)
      clear f13
      refine wp_ret ?_
      try simp only [Exit.inBlock, Exit.then]
      refine C.ret (P := Try.prog) (fn := Try.f24) f14 rfl rfl ?_
      exact ⟨by rw [hq, List.drop_eq_nil_of_le (by omega)]; rfl, HK⟩

set_option maxHeartbeats 1000000 in
theorem rise_any (B p : Nat) (s : Ses) (m : Ms) (Am : Option Addr) (cm : Nat) (now : Int) (w : World) (hS : SesAt B w p s) (HP : Pay B w Am m.pay) (hB : B ≤ w.heap.size) (h4 : s.fly.length < 4) : Calls Try.prog 30 #[.pointer (some ⟨p, 0, none⟩), .agg #[.string m.tp, .slice Am m.pay.length cm, .int .i64 m.qos, .bool m.ret], .int .i64 now] w (RisePost B p s m now w) := by
  have HK : Mod [57, 69, 61] [s.im] B w w := .refl _ _ _ _
  have BP := hS.top
  have OWN := hS.fly.own
  have hlop := hS.lop
  have hul := hS.used_lt
  obtain ⟨MM, hMM⟩ : ∃ MM, MM = (Value.slice s.FA s.fly.length s.fc).ownBlock.toList := ⟨_, rfl⟩
  have hpM : p ∉ MM := by rw [hMM]; exact own_ne hS.fly.own hS.top (by decide)
  have htk := hS.tk
  have ID := hS.ids
  refine C.enter Try.func30 rfl Try.ntmps30 rfl ?_
  intro a0 f0
  have f1 : Fr 38 a0 [(0, .pointer (some ⟨p, 0, none⟩)), (1, .agg #[.string m.tp, .slice Am m.pay.length cm, .int .i64 m.qos, .bool m.ret]), (2, .int .i64 now)] := f0
  clear f0
  refine wp_seq_k fun K0 hK0 => ?_
  refine C.region ?_
  refine L.box f1 wantedN (by decide) rfl rfl fun a2 w1 g0 N0 f2 => ?_
  have Bg0 := N0.blk
  have kg0 := N0.kept
  have log0 := N0.lo
  have ltg0 := Bg0.lt
  have szw1 := kg0.size
  have frg0 : w.heap.size ≤ g0 := Nat.le_trans HK.size log0
  have nep_g0 : p ≠ g0 := by have := BP.lt; omega
  replace HK := HK.trans (.of_kept0 kg0)
  replace BP := BP.kept kg0 (by simp)
  replace OWN := OWN.mod (Mod.of_kept0 (T := []) (M := []) (B := B) kg0) (by decide)
  replace HP := HP.mod (Mod.of_kept0 (T := []) (M := []) (B := B) kg0) (by decide)
  replace ID := ID.mod (Mod.of_kept0 (T := []) (M := []) (B := B) kg0) (by decide) (by simp)
  clear N0 kg0
  clear f1 a0
  refine L.alloc f2 wantedN (by decide) (z := (.agg #[(.int .i64 0), (.bool false), (.bool false), (.int .i64 0), (.int .i64 0), (.string ⟨#[]⟩), (.slice none 0 0), (.int .i64 0), (.string ⟨#[]⟩), (.bool false), (.int .i64 0), (.bool false), (.string ⟨#[]⟩), (.slice none 0 0), (.int .i64 0), (.bool false), (.bool false), (.bool false), (.string ⟨#[]⟩), (.slice none 0 0), (.bool false), (.int .i64 0), (.slice none 0 0), (.slice none 0 0)])) (fun _ => by kernel_rfl) rfl fun a3 w2 g1 N1 f3 => ?_
  have Bg1 := N1.blk
  have kg1 := N1.kept
  have log1 := N1.lo
  have ltg1 := Bg1.lt
  have szw2 := kg1.size
  have frg1 : w.heap.size ≤ g1 := Nat.le_trans HK.size log1
  have nep_g1 : p ≠ g1 := by have := BP.lt; omega
  have neg0_g1 : g0 ≠ g1 := by have := Bg0.lt; omega
  replace HK := HK.trans (.of_kept0 kg1)
  replace BP := BP.kept kg1 (by simp)
  replace OWN := OWN.mod (Mod.of_kept0 (T := []) (M := []) (B := B) kg1) (by decide)
  replace HP := HP.mod (Mod.of_kept0 (T := []) (M := []) (B := B) kg1) (by decide)
  replace ID := ID.mod (Mod.of_kept0 (T := []) (M := []) (B := B) kg1) (by decide) (by simp)
  replace Bg0 := Bg0.kept kg1 (by simp)
  clear N1 kg1
  clear f2 a2
  refine wpList_nil (hK0 _ _ ?_)
  try clear hK0 K0
  have f4 := f3.sub (sub_cons (i := 0) rfl (sub_cons (i := 2) rfl (sub_cons (i := 4) rfl (sub_cons (i := 6) rfl sub_nil))))
  clear f3
  refine wp_seq_k fun K1 hK1 => ?_
  refine C.region ?_
  refine L.val f4 wantedN rfl (by decide) (E.move f4 rfl) fun a5 f5 => ?_
  clear f4 a3
  refine L.val f5 wantedN rfl (by decide) (E.nilCheck f5 rfl) fun a6 f6 => ?_
  clear f5 a5
  refine L.val f6 wantedN rfl (by decide) (E.fieldAddr f6 Try.underlying57 rfl rfl wsz50_h) fun a7 f7 => ?_
  clear f6 a6
  refine L.val f7 wantedN rfl (by decide) (by first | exact E.load f7 Try.underlying50 rfl rfl ((BP).cl rfl) | exact E.load f7 Try.underlying50 rfl rfl ((Bg0).cl rfl) | exact E.load f7 Try.underlying50 rfl rfl ((Bg1).cl rfl)) fun a8 f8 => ?_
  clear f7 a7
  refine L.call f8 wantedN rfl (by decide) (run_call Try.call38 (args1 f8 rfl)) (take_ok B s.ip s.im s.used s.taken _ ID hul htk.1 hS.loi hS.lom) ?_
  rintro e w3 ⟨rfl, kc3, IDN, hti, htn⟩
  refine ⟨_, rfl, fun a9 f9 => ?_⟩
  clear f8 a8
  have szw3 := kc3.size
  replace HK := HK.step kc3 (by decide) (by simp) (by omega)
  replace BP := BP.mod kc3 (by decide)
  replace OWN := OWN.mod kc3 (by decide)
  replace HP := HP.mod kc3 (by decide)
  replace Bg0 := Bg0.mod kc3 (by decide)
  replace Bg1 := Bg1.mod kc3 (by decide)
  clear kc3
  refine L.val f9 wantedN rfl (by decide) (E.move f9 rfl) fun a10 f10 => ?_
  clear f9 a9
  refine L.val f10 wantedN rfl (by decide) (E.extract f10 rfl rfl) fun a11 f11 => ?_
  clear f10 a10
  refine L.val f11 wantedN rfl (by decide) (E.extract f11 rfl rfl) fun a12 f12 => ?_
  clear f11 a11
  refine L.val f12 wantedN rfl (by decide) (E.assign f12 rfl) fun a13 f13 => ?_
  clear f12 a12
  refine L.val f13 wantedN rfl (by decide) (E.assign f13 rfl) fun a14 f14 => ?_
  clear f13 a13
  refine wpList_nil (hK1 _ _ ?_)
  try clear hK1 K1
  have f15 := f14.sub (sub_cons (i := 0) rfl (sub_cons (i := 2) rfl (sub_cons (i := 4) rfl (sub_cons (i := 6) rfl (sub_cons (i := 7) rfl sub_nil)))))
  clear f14
  refine wp_seq_k fun K2 hK2 => ?_
  refine C.region ?_
  refine L.val f15 wantedN rfl (by decide) (E.fieldAddr f15 Try.underlying43 rfl rfl wsz22_h) fun a16 f16 => ?_
  clear f15 a14
  refine L.val f16 wantedN rfl (by decide) (by first | exact E.load f16 Try.underlying22 rfl rfl ((BP).cl rfl) | exact E.load f16 Try.underlying22 rfl rfl ((Bg0).cl rfl) | exact E.load f16 Try.underlying22 rfl rfl ((Bg1).cl rfl)) fun a17 f17 => ?_
  clear f16 a16
  refine L.call f17 wantedN rfl (by decide) (run_call Try.call37 (args1 f17 rfl)) (clone_any _ _ _ _ _ HP.sl u8_one HP.2) ?_
  rintro e w4 ⟨kc4, Ac, cc, rfl, FC⟩
  have HC : Pay B w4 Ac m.pay := Pay.of_fresh FC HP.2
  refine ⟨_, rfl, fun a18 f18 => ?_⟩
  clear f17 a17
  have szw4 := kc4.size
  replace HK := HK.trans (.of_kept0 kc4)
  replace BP := BP.kept kc4 (by simp)
  replace OWN := OWN.mod (Mod.of_kept0 (T := []) (M := []) (B := B) kc4) (by decide)
  replace HP := HP.mod (Mod.of_kept0 (T := []) (M := []) (B := B) kc4) (by decide)
  replace Bg0 := Bg0.kept kc4 (by simp)
  replace Bg1 := Bg1.kept kc4 (by simp)
  replace IDN := IDN.mod (Mod.of_kept0 (T := []) (M := []) (B := B) kc4) (by decide) (by simp)
  clear kc4
  refine L.val f18 wantedN rfl (by decide) (E.fieldAddr f18 Try.underlying43 rfl rfl wsz22_h) fun a19 f19 => ?_
  clear f18 a18
  refine L.store f19 wantedN wsz22_h rfl rfl rfl Bg0 (by first | decide | (simp [Value.cells]; done)) fun a20 w5 f20 NB5 ks5 => ?_
  have szw5 := ks5.size
  replace HK := HK.kept_new ks5 (by simp; omega)
  replace BP := BP.kept ks5 (by simp; omega)
  replace OWN := OWN.kept ks5 (fun b hb hx => by have := (hS.fly.own.blk b hb).1; simp at hx; omega)
  replace HP := HP.mod (Mod.of_blk1 (M := []) (B := B) ks5 Bg0 (by omega)) (by decide)
  replace Bg1 := Bg1.kept ks5 (by simp; omega)
  replace IDN := IDN.mod (Mod.of_blk1 (M := []) (B := B) ks5 Bg0 (by omega)) (by decide) (by simp)
  replace HC := HC.mod (Mod.of_blk1 (M := []) (B := B) ks5 Bg0 (by omega)) (by decide)
  replace Bg0 := NB5
  simp only [Value.cells, List.setIfInBounds_toArray, List.set_cons_zero, List.set_cons_succ, Nat.reduceAdd, Nat.zero_add] at Bg0
  clear ks5 f19 a19
  refine wpList_nil (hK2 _ _ ?_)
  try clear hK2 K2
  have f21 := f20.sub (sub_cons (i := 0) rfl (sub_cons (i := 2) rfl (sub_cons (i := 4) rfl (sub_cons (i := 6) rfl (sub_cons (i := 7) rfl sub_nil)))))
  clear f20
  refine wp_seq_k fun K3 hK3 => ?_
  have hg0M : g0 ∉ MM := by rw [hMM]; exact own_old hS.fly.own frg0
  have hg1M : g1 ∉ MM := by rw [hMM]; exact own_old hS.fly.own frg1
  have OWN1 := OWN
  have HP0 := HP.2
  refine RB.begin (S := fun W => Kept MM w5 W) 12 (by kernel_rfl) (by exact (Kept.refl _ _).drewN 1) ?_
  have hS3 : Kept MM w5 (w5.drewN 1) := (Kept.refl _ _).drewN 1
  have hd3 : Kept [] w5 (w5.drewN 1) := (Kept.refl _ _).drewN 1
  obtain ⟨w6, hww6⟩ : ∃ W, W = w5.drewN 1 := ⟨_, rfl⟩
  rw [← hww6] at hS3 hd3 ⊢
  clear hww6
  have szw6 := hS3.size
  replace HC := HC.kept0 hd3
  replace OWN := OWN.mod (T := []) (M := []) (Mod.of_kept0 (B := B) hd3) (by simp)
  refine RB.take 0 f21 rfl rfl (by decide) (by kernel_rfl) (by kernel_rfl) (by kernel_rfl) (by kernel_rfl) (fun _ _ _ _ h => h) wantedN hS3 (fun W hW => (E.move f21 rfl)) fun a22 f22 => ?_
  clear f21 a20
  refine RB.take 1 f22 rfl rfl (by decide) (by kernel_rfl) (by kernel_rfl) (by kernel_rfl) (by kernel_rfl) (fun _ _ _ _ h => h) wantedN hS3 (fun W hW => (E.move f22 rfl)) fun a23 f23 => ?_
  clear f22 a22
  refine RB.take 2 f23 rfl rfl (by decide) (by kernel_rfl) (by kernel_rfl) (by kernel_rfl) (by kernel_rfl) (fun _ _ _ _ h => h) wantedN hS3 (fun W hW => (E.nilCheck f23 rfl)) fun a24 f24 => ?_
  clear f23 a23
  refine RB.take 3 f24 rfl rfl (by decide) (by kernel_rfl) (by kernel_rfl) (by kernel_rfl) (by kernel_rfl) (fun _ _ _ _ h => h) wantedN hS3 (fun W hW => (E.fieldAddr f24 Try.underlying57 rfl rfl wsz55_h)) fun a25 f25 => ?_
  clear f24 a24
  refine RB.take 4 f25 rfl rfl (by decide) (by kernel_rfl) (by kernel_rfl) (by kernel_rfl) (by kernel_rfl) (fun _ _ _ _ h => h) wantedN hS3 (fun W hW => (by first | exact E.load f25 Try.underlying55 rfl rfl ((BP.kept hW (by assumption)).cl rfl) | exact E.load f25 Try.underlying55 rfl rfl ((Bg1.kept hW (by assumption)).cl rfl) | exact E.load f25 Try.underlying55 rfl rfl ((Bg0.kept hW (by assumption)).cl rfl))) fun a26 f26 => ?_
  clear f25 a25
  refine RB.take 5 f26 rfl rfl (by decide) (by kernel_rfl) (by kernel_rfl) (by kernel_rfl) (by kernel_rfl) (fun _ _ _ _ h => h) wantedN hS3 (fun W hW => (by first | exact E.loadB f26 Try.underlying43 rfl wsz43_h rfl (BP.kept hW (by assumption)) rfl | exact E.loadB f26 Try.underlying43 rfl wsz43_h rfl (Bg1.kept hW (by assumption)) rfl | exact E.loadB f26 Try.underlying43 rfl wsz43_h rfl (Bg0.kept hW (by assumption)) rfl)) fun a27 f27 => ?_
  clear f26 a26
  refine RB.take 6 f27 rfl rfl (by decide) (by kernel_rfl) (by kernel_rfl) (by kernel_rfl) (by kernel_rfl) (fun _ _ _ _ h => h) wantedN hS3 (fun W hW => (E.move f27 rfl)) fun a28 f28 => ?_
  clear f27 a27
  refine RB.take 7 f28 rfl rfl (by decide) (by kernel_rfl) (by kernel_rfl) (by kernel_rfl) (by kernel_rfl) (fun _ _ _ _ h => h) wantedN hS3 (fun W hW => (E.move f28 rfl)) fun a29 f29 => ?_
  clear f28 a28
  refine RB.call 8 f29 rfl rfl (by decide) (by kernel_rfl) (by kernel_rfl) wantedN (run_call Try.call27 (args1 f29 rfl)) (near_any now _) ?_
  rintro e w6x ⟨rfl, rfl⟩
  refine ⟨_, rfl, hS3, fun a30 f30 => ?_⟩
  clear f29 a29
  refine RB.take 9 f30 rfl rfl (by decide) (by kernel_rfl) (by kernel_rfl) (by kernel_rfl) (by kernel_rfl) (fun _ _ _ _ h => h) wantedN hS3 (fun W hW => (E.build f30 (parts3 f30 rfl rfl rfl) (wbl61_0_1_2_h _ _ _ _ _ _))) fun a31 f31 => ?_
  clear f30 a30
  refine RB.one 10 (by kernel_rfl) (by kernel_rfl) ?_
  refine O.buildSlice f31 rfl wantedN (by decide) (parts1 f31 rfl) Try.underlying55 wzi61_h rfl rfl (wbs55_1_h _ _ _ _ _ _ _) (fun _ hk => hS3.trans hk (by simp)) fun a32 w7 g6 N6 hSn f32 => ?_
  clear f31 a31
  have Bg6 := N6.blk
  have kg6 := N6.kept
  have log6 := N6.lo
  have ltg6 := Bg6.lt
  have szw7 := kg6.size
  have szSw7 := hS3.size
  replace HC := HC.kept0 kg6
  replace OWN := OWN.mod (T := []) (M := []) (Mod.of_kept0 (B := B) kg6) (by simp)
  clear N6 kg6
  replace hS3 := hSn
  clear hSn
  refine RB.one 11 (by kernel_rfl) (by kernel_rfl) ?_
  refine O.append f32 rfl wantedN (by decide) Try.underlying55 wzib61_h rfl rfl rfl rfl (OWN) (sl_blk Bg6 rfl) (by simp [Value.oneCell']) (by unfold maxLen; omega) (by omega) fun a33 w8 A2 c2 AP8 => ?_
  have kap8 : Kept MM w7 w8 := by rw [hMM]; exact AP8.kept
  have KA : Mod [61] [] B w7 w8 := .of_app AP8 OWN hS.fly.loA (by simp)
  have RX := AP8.own
  have LX := AP8.from hS.fly.loA (B := B) (by omega)
  have hSn := hS3.trans kap8 (by exact fun x hx _ => hx)
  refine ⟨hSn, fun f33 => ?_⟩
  clear f32
  have szw8 := kap8.size
  replace HC := HC.mod KA (by decide)
  clear kap8
  replace hS3 := hSn
  clear hSn
  refine RB.stop (by kernel_rfl) ?_
  have szw8r := hS3.size
  have KM := Mod.of_own (T := [61]) (M := []) (B := B) (hMM ▸ hS3) OWN1 hS.fly.loA (by simp)
  replace HK := HK.step KM (by decide) (by simp) (by omega)
  replace BP := BP.kept hS3 (by assumption)
  replace HP := HP.mod KM (by decide)
  replace Bg1 := Bg1.kept hS3 (by assumption)
  replace IDN := IDN.mod KM (by decide) (by simp)
  replace Bg0 := Bg0.kept hS3 (by assumption)
  clear hS3
  refine R.take 12 f33 rfl rfl (by decide) (by kernel_rfl) (by kernel_rfl) (by kernel_rfl) (fun _ _ _ _ h => h) wantedN trivial (fun W hW => (E.nilCheck f33 rfl)) fun a34 f34 => ?_
  clear f33 a33
  refine R.take 13 f34 rfl rfl (by decide) (by kernel_rfl) (by kernel_rfl) (by kernel_rfl) (fun _ _ _ _ h => h) wantedN trivial (fun W hW => (E.fieldAddr f34 Try.underlying57 rfl rfl wsz55_h)) fun a35 f35 => ?_
  clear f34 a34
  refine R.one 14 (by kernel_rfl) ?_
  refine OT.store f35 rfl wantedN wsz55_h rfl rfl rfl BP (by first | decide | (simp [Value.cells]; done)) fun a36 w9 f36 NB9 ks9 => ?_
  have szw9 := ks9.size
  have KM := (Mod.of_blk (T := [57]) (M := []) (B := B) ks9 BP hS.lop (by simp))
  replace HK := HK.step KM (by decide) (by simp) (by omega)
  replace HP := HP.mod KM (by decide)
  replace Bg1 := Bg1.kept ks9 (by simp; omega)
  replace IDN := IDN.mod KM (by decide) (by simp)
  replace Bg0 := Bg0.kept ks9 (by simp; omega)
  replace HC := HC.mod KM (by decide)
  replace RX := RX.mod KM (by decide)
  replace BP := NB9
  simp only [Value.cells, List.setIfInBounds_toArray, List.set_cons_zero, List.set_cons_succ, Nat.reduceAdd, Nat.zero_add] at BP
  clear ks9 f35 a35
  refine R.done (by kernel_rfl) (hK3 _ _ ?_)
  try clear hK3 K3
  have f37 := f36.sub (sub_cons (i := 4) rfl (sub_cons (i := 6) rfl (sub_cons (i := 7) rfl sub_nil)))
  clear f36
  refine wp_seq_k fun K4 hK4 => ?_
  refine C.region ?_
  refine L.val f37 wantedN rfl (by decide) (by first | exact E.loadB f37 Try.underlying43 rfl wsz43_h rfl (Bg1) rfl | exact E.loadB f37 Try.underlying43 rfl wsz43_h rfl (Bg0) rfl | exact E.loadB f37 Try.underlying43 rfl wsz43_h rfl (BP) rfl) fun a38 f38 => ?_
  clear f37 a36
  refine L.val f38 wantedN rfl (by decide) (E.move f38 rfl) fun a39 f39 => ?_
  clear f38 a38
  refine L.call f39 wantedN rfl (by decide) (run_call Try.call28 (args3 f39 rfl rfl rfl)) (publish_any m.tp Ac m.pay.length cc _ m.qos m.ret _ false _ HC.sl u8_one HP0) ?_
  rintro e w10 ⟨kc10, Ap, cp, rfl, FP⟩
  have HR : Pay B w10 Ap m.pay := Pay.of_fresh FP HP0
  refine ⟨_, rfl, fun a40 f40 => ?_⟩
  clear f39 a39
  have szw10 := kc10.size
  replace HK := HK.trans (.of_kept0 kc10)
  replace HP := HP.mod (Mod.of_kept0 (T := []) (M := []) (B := B) kc10) (by decide)
  replace Bg1 := Bg1.kept kc10 (by simp)
  replace IDN := IDN.mod (Mod.of_kept0 (T := []) (M := []) (B := B) kc10) (by decide) (by simp)
  replace Bg0 := Bg0.kept kc10 (by simp)
  replace HC := HC.mod (Mod.of_kept0 (T := []) (M := []) (B := B) kc10) (by decide)
  replace RX := RX.mod (Mod.of_kept0 (T := []) (M := []) (B := B) kc10) (by decide)
  replace BP := BP.kept kc10 (by simp)
  clear kc10
  refine L.storeR f40 wantedN wsz35_h rfl rfl rfl Bg1 rfl rfl fun a41 w11 f41 NB11 ks11 => ?_
  have szw11 := ks11.size
  replace HK := HK.kept_new ks11 (by simp; omega)
  replace HP := HP.mod (Mod.of_blk1 (M := []) (B := B) ks11 Bg1 (by omega)) (by decide)
  replace IDN := IDN.mod (Mod.of_blk1 (M := []) (B := B) ks11 Bg1 (by omega)) (by decide) (by simp)
  replace Bg0 := Bg0.kept ks11 (by simp; omega)
  replace HC := HC.mod (Mod.of_blk1 (M := []) (B := B) ks11 Bg1 (by omega)) (by decide)
  replace RX := RX.mod (Mod.of_blk1 (M := []) (B := B) ks11 Bg1 (by omega)) (by decide)
  replace BP := BP.kept ks11 (by simp; omega)
  replace HR := HR.mod (Mod.of_blk1 (M := []) (B := B) ks11 Bg1 (by omega)) (by decide)
  replace Bg1 := NB11
  clear ks11 f40 a40
  refine wpList_nil (hK4 _ _ ?_)
  try clear hK4 K4
  have f42 := f41.sub (sub_cons (i := 6) rfl sub_nil)
  clear f41
  refine wp_ret ?_
  try simp only [Exit.inBlock, Exit.then]
  refine C.retC (P := Try.prog) (fn := Try.f30) f42 rfl rfl Bg1 Try.underlying35 rfl wsz35_h ?_
  exact rise_fin hS htn hti h4 HK BP IDN RX HC LX HR

end Go.Proofs.Ytdfllmiokgoekaa
