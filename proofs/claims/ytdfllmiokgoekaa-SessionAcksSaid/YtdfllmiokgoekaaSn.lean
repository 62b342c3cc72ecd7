/- known and fly of the laws. -/
import Derived.Test.YtdfllmiokgoekaaSm
set_option linter.all false
namespace Go.Proofs.Ytdfllmiokgoekaa
open Go.RowKit Go.Hub
theorem wsz3_m : (Try.prog.info? 3).map (·.size) = some 1 := by kernel_rfl
theorem wsz35_m : (Try.prog.info? 35).map (·.size) = some 24 := by kernel_rfl
theorem wbl35_0_3_4_5_m (x0 : Int) (x1 : Int) (x2 : Int) (x3 : ByteArray) : Try.prog.built 35 [(0, .int .i64 x0), (3, .int .i64 x1), (4, .int .i64 x2), (5, .string x3)] = some #[.int .i64 x0, (.bool false), (.bool false), .int .i64 x1, .int .i64 x2, .string x3, (.slice none 0 0), (.int .i64 0), (.string ⟨#[]⟩), (.bool false), (.int .i64 0), (.bool false), (.string ⟨#[]⟩), (.slice none 0 0), (.int .i64 0), (.bool false), (.bool false), (.bool false), (.string ⟨#[]⟩), (.slice none 0 0), (.bool false), (.int .i64 0), (.slice none 0 0), (.slice none 0 0)] := by kernel_rfl
theorem wbl35_0_4_m (x0 : Int) (x1 : Int) : Try.prog.built 35 [(0, .int .i64 x0), (4, .int .i64 x1)] = some #[.int .i64 x0, (.bool false), (.bool false), (.int .i64 0), .int .i64 x1, (.string ⟨#[]⟩), (.slice none 0 0), (.int .i64 0), (.string ⟨#[]⟩), (.bool false), (.int .i64 0), (.bool false), (.string ⟨#[]⟩), (.slice none 0 0), (.int .i64 0), (.bool false), (.bool false), (.bool false), (.string ⟨#[]⟩), (.slice none 0 0), (.bool false), (.int .i64 0), (.slice none 0 0), (.slice none 0 0)] := by kernel_rfl
theorem wbl43_0_2_m (x0 : ByteArray) (x1 : Int) : Try.prog.built 43 [(0, .string x0), (2, .int .i64 x1)] = some #[.string x0, (.slice none 0 0), .int .i64 x1, (.bool false)] := by kernel_rfl
theorem wzib35_m : (Try.prog.info? 35).map (fun i => (i.zero, i.size, i.bytes)) = some (some (.agg #[(.int .i64 0), (.bool false), (.bool false), (.int .i64 0), (.int .i64 0), (.string ⟨#[]⟩), (.slice none 0 0), (.int .i64 0), (.string ⟨#[]⟩), (.bool false), (.int .i64 0), (.bool false), (.string ⟨#[]⟩), (.slice none 0 0), (.int .i64 0), (.bool false), (.bool false), (.bool false), (.string ⟨#[]⟩), (.slice none 0 0), (.bool false), (.int .i64 0), (.slice none 0 0), (.slice none 0 0)]), 24, 288) := by kernel_rfl
theorem wzi5_m : (Try.prog.info? 5).map (fun i => (i.zero, i.size)) = some (some (.int .u8 0), 1) := by kernel_rfl
theorem wbs22_1_m (x0 : Int) : Instr.fill (fun i => some (i * 1, 1)) ((Array.range (1 * 1)).map fun j => (Value.cells (.int .u8 0))[j % (Value.cells (.int .u8 0)).size]!) [(0, .int .u8 x0)] = some #[.int .u8 x0] := by kernel_rfl
theorem wbl43_0_1_2_m (x0 : ByteArray) (x1 : Option Addr) (y1 z1 : Nat) (x2 : Int) : Try.prog.built 43 [(0, .string x0), (1, .slice x1 y1 z1), (2, .int .i64 x2)] = some #[.string x0, .slice x1 y1 z1, .int .i64 x2, (.bool false)] := by kernel_rfl

theorem blwm {T : List TypeId} {M : List Nat} {w W W' : World} (h : Below w.heap.size w W) (hm : Mod T M w.heap.size W W') : Below w.heap.size w W' :=
  h.trans ⟨hm.os, hm.tape, hm.output, hm.size, fun k hk => hm.block k (Nat.lt_of_lt_of_le hk h.size) (.inl hk)⟩
theorem blwB {T : List TypeId} {M : List Nat} {B : Nat} {w W W' : World} (h : Below B w W) (hB : B ≤ w.heap.size) (hm : Mod T M B W W') : Below B w W' :=
  h.trans ⟨hm.os, hm.tape, hm.output, hm.size, fun k hk => hm.block k (Nat.lt_of_lt_of_le (Nat.lt_of_lt_of_le hk hB) h.size) (.inl hk)⟩
theorem one_of {l : List Pc} {x : Pa} (h : l.map (·.p) = [x]) : ∃ y : Pc, l = [y] ∧ y.p = x := by
  obtain ⟨y, rfl, hy⟩ := List.map_eq_singleton_iff.1 h
  exact ⟨y, rfl, hy⟩
theorem lost_of {s : Ses} {a : SA} (h : s.abs = a) : s.lost = a.lost := by rw [← h]; rfl
theorem got_of {s : Ses} {a : SA} (h : s.abs = a) : s.got = a.got := by rw [← h]; rfl
theorem fly_of {s : Ses} {a : SA} (h : s.abs = a) : s.fly.length = a.fly.length := by rw [← h, abs_fly]
theorem wait_of {s : Ses} {a : SA} (h : s.abs = a) : s.wait.length = a.wait.length := by rw [← h]; simp [Ses.abs]
theorem pk_cell {w : World} {A : Option Addr} {c : Nat} {l : List Pc} {b off i o : Nat} {x : Pc} (O : Own w 35 24 (.slice A l.length c) l.length (l.flatMap pcell)) (hA : A = some ⟨b, off, none⟩) (hf : l[i]? = some x) (j : Nat) {v : Value} (hv : (pcell x)[j]? = some v) (ho : o = off + i * 24 + j) : w.cell? ⟨b, o, none⟩ = some v := by
  subst ho
  have h := (List.getElem?_eq_some_iff.1 hf).1
  rw [Nat.add_assoc]
  exact (Sl.of_own O).cell (by omega) hA (flat_at pcell 24 (fun _ => rfl) l i x hf j v hv)
theorem pay_one {B k g : Nat} {w : World} (O : Own w 5 1 (.slice (some ⟨g, 0, none⟩) 1 1) 1 [.int .u8 (k : Nat)]) (hk : k < 256) : Pay B w (some ⟨g, 0, none⟩) [UInt8.ofNat k] := by
  have h : ([.int .u8 (k : Nat)] : List Value) = [UInt8.ofNat k].map u8 := by
    simp [u8, Nat.mod_eq_of_lt hk]
  rw [h] at O
  exact ⟨Bs.of_own O (by simp), by simp⟩
def flyS : Nat → Int → SA × List Pa
  | 0, _ => (newS, [])
  | k + 1, q => ((sendS (flyS k q).1 ⟨⟨#[97]⟩, [UInt8.ofNat k], q, false⟩ true 0).1, (flyS k q).2 ++ (sendS (flyS k q).1 ⟨⟨#[97]⟩, [UInt8.ofNat k], q, false⟩ true 0).2)
theorem sendS_lost (s : SA) (m : Ms) (on : Bool) (now : Int) : (sendS s m on now).1.lost = s.lost ∨ (sendS s m on now).1.lost = s.lost + 1 := by
  unfold sendS
  split
  · exact .inl rfl
  · split
    · exact .inl rfl
    · split
      · exact .inl rfl
      · unfold pushS
        split
        · exact .inl rfl
        · exact .inr rfl
theorem flyS_lost : ∀ (k : Nat) (q : Int), 0 ≤ (flyS k q).1.lost ∧ (flyS k q).1.lost ≤ k
  | 0, q => by simp [flyS, newS]
  | k + 1, q => by
    have h1 := flyS_lost k q
    have h2 := sendS_lost (flyS k q).1 ⟨⟨#[97]⟩, [UInt8.ofNat k], q, false⟩ true 0
    have h3 : (flyS (k + 1) q).1 = (sendS (flyS k q).1 ⟨⟨#[97]⟩, [UInt8.ofNat k], q, false⟩ true 0).1 := rfl
    rw [h3]
    omega
theorem flyS_lost' {u : Ses} {k : Nat} {q : Int} (h : u.abs = (flyS k q).1) (hk : k ≤ 1000) : 0 ≤ u.lost ∧ u.lost ≤ 1000000000 := by
  have := flyS_lost k q
  rw [lost_of h]
  omega
section
variable {u2 : Ses} {k : Nat} {q : Int} {pks pk2 : List Pc}
theorem fly_next1 (h : (u2.abs, pk2.map (·.p)) = sendS (flyS k q).1 ⟨⟨#[97]⟩, [UInt8.ofNat k], q, false⟩ true 0) : u2.abs = (flyS (k + 1) q).1 := by
  show u2.abs = (sendS (flyS k q).1 ⟨⟨#[97]⟩, [UInt8.ofNat k], q, false⟩ true 0).1
  rw [← h]
theorem fly_next2 (hp : pks.map (·.p) = (flyS k q).2) (h : (u2.abs, pk2.map (·.p)) = sendS (flyS k q).1 ⟨⟨#[97]⟩, [UInt8.ofNat k], q, false⟩ true 0) : (pks ++ pk2).map (·.p) = (flyS (k + 1) q).2 := by
  show _ = (flyS k q).2 ++ (sendS (flyS k q).1 ⟨⟨#[97]⟩, [UInt8.ofNat k], q, false⟩ true 0).2
  rw [← h, ← hp, List.map_append]
end
def FlyPost (n : Nat) (q : Int) (B : Nat) (w : World) (e : Ending) (w' : World) : Prop := ∃ p u A c pks, e = .returned (.tuple #[.pointer (some ⟨p, 0, none⟩), .slice A pks.length c]) ∧ SesAt B w' p u ∧ u.abs = (flyS n q).1 ∧ pks.map (·.p) = (flyS n q).2 ∧ PkAt B w w' A c pks ∧ Below B w w'

set_option maxHeartbeats 2000000 in
theorem known_any (w : World) : Calls Try.prog 9 #[] w (fun e w' => e = .returned (.bool true) ∧ Below w.heap.size w w') := by
  have HK : Below w.heap.size w w := Below.refl _ _
  refine C.enter Try.func9 rfl Try.ntmps9 rfl ?_
  intro a0 f0
  have f1 : Fr 80 a0 [] := f0
  clear f0
  refine wp_seq_k fun K0 hK0 => ?_
  refine C.region ?_
  refine L.val f1 wantedN rfl (by decide) (E.assign f1 rfl) fun a2 f2 => ?_
  clear f1 a0
  refine wpList_nil (hK0 _ _ ?_)
  try clear hK0 K0
  have f3 := f2.sub (sub_cons (i := 0) rfl sub_nil)
  clear f2
  refine wp_seq_k fun K1 hK1 => ?_
  refine C.region ?_
  refine L.call f3 wantedN rfl (by decide) (run_call Try.call10 (args1 f3 rfl)) (new_any ⟨#[107]⟩ w.heap.size _ HK.size) ?_
  rintro e w1 ⟨p, s, rfl, HS, hab, hcl, kc1⟩
  refine ⟨_, rfl, fun a4 f4 => ?_⟩
  clear f3 a2
  have szw1 := kc1.size
  replace HK := blwm HK kc1
  clear kc1
  refine L.val f4 wantedN rfl (by decide) (E.assign f4 rfl) fun a5 f5 => ?_
  clear f4 a4
  refine wpList_nil (hK1 _ _ ?_)
  try clear hK1 K1
  have f6 := f5.sub (sub_cons (i := 0) rfl (sub_cons (i := 1) rfl sub_nil))
  clear f5
  refine wp_seq_k fun K2 hK2 => ?_
  refine wp_seq_k fun K3 hK3 => ?_
  refine C.region ?_
  refine L.val f6 wantedN rfl (by decide) (E.move f6 rfl) fun a7 f7 => ?_
  clear f6 a5
  refine L.val f7 wantedN rfl (by decide) (E.eqlP f7 Try.underlying24 rfl rfl) fun a8 f8 => ?_
  clear f7 a7
  have f9 := f8.as (i := 11) (v' := .bool false) rfl (by rfl)
  clear f8
  refine wpList_nil (hK3 _ _ ?_)
  try clear hK3 K3
  have f10 := f9.sub (sub_cons (i := 0) rfl (sub_cons (i := 1) rfl (sub_cons (i := 11) rfl sub_nil)))
  clear f9
  refine C.condF f10 rfl ?_
  refine wp_skip (hK2 _ _ ?_)
  try clear hK2 K2
  have f11 := f10.sub (sub_cons (i := 0) rfl (sub_cons (i := 1) rfl sub_nil))
  clear f10
  refine wp_seq_k fun K4 hK4 => ?_
  refine C.region ?_
  refine L.val f11 wantedN rfl (by decide) (E.move f11 rfl) fun a12 f12 => ?_
  clear f11 a8
  refine L.val f12 wantedN rfl (by decide) (E.build f12 (parts2 f12 rfl rfl) (wbl43_0_2_m _ _)) fun a13 f13 => ?_
  clear f12 a12
  have hC := send_any w.heap.size p s ⟨⟨#[97]⟩, [], 1, false⟩ none 0 true 0 w1 HS (Pay.nil _ _ _) HK.size (by rw [lost_of hab]; decide)
  rw [hab, show sendS newS ⟨⟨#[97]⟩, [], 1, false⟩ true 0 = (⟨[1], 1, [⟨⟨⟨#[97]⟩, [], 1, false⟩, 1, 0, false⟩], [], 0, []⟩, [⟨3, false, false, 1, 1, ⟨#[97]⟩, []⟩]) by kernel_rfl] at hC
  refine L.call f13 wantedN rfl (by decide) (run_call Try.call15 (args4 f13 rfl rfl rfl rfl)) hC ?_
  rintro e w2 ⟨s1, A1, c1, pk1, rfl, HS1, hr1, hL1, kc2, PK1, -⟩
  injection hr1 with hab1 hp1
  obtain ⟨x1, rfl, hx1⟩ := one_of hp1
  refine ⟨_, rfl, fun a14 f14 => ?_⟩
  clear f13 a13
  have szw2 := kc2.size
  replace HK := blwm HK kc2
  clear kc2
  refine L.val f14 wantedN rfl (by decide) (E.assign f14 rfl) fun a15 f15 => ?_
  clear f14 a14
  refine wpList_nil (hK4 _ _ ?_)
  try clear hK4 K4
  have f16 := f15.sub (sub_cons (i := 0) rfl (sub_cons (i := 1) rfl (sub_cons (i := 2) rfl sub_nil)))
  clear f15
  refine wp_seq_k fun K5 hK5 => ?_
  refine C.region ?_
  refine L.val f16 wantedN rfl (by decide) (E.move f16 rfl) fun a17 f17 => ?_
  clear f16 a15
  refine L.call f17 wantedN rfl (by decide) (run_call Try.call14 (args1 f17 rfl)) (flying_any p s1.fly.length s1.fc s1.FA _ _ _ _ _ _ HS1.top) ?_
  rintro e w2x ⟨rfl, rfl⟩
  refine ⟨_, rfl, fun a18 f18 => ?_⟩
  clear f17 a17
  refine L.val f18 wantedN rfl (by decide) (E.assign f18 rfl) fun a19 f19 => ?_
  clear f18 a18
  refine wpList_nil (hK5 _ _ ?_)
  try clear hK5 K5
  have f20 := f19.sub (sub_cons (i := 0) rfl (sub_cons (i := 1) rfl (sub_cons (i := 2) rfl (sub_cons (i := 3) rfl sub_nil))))
  clear f19
  refine wp_seq_k fun K6 hK6 => ?_
  refine C.region ?_
  refine L.val f20 wantedN rfl (by decide) (E.move f20 rfl) fun a21 f21 => ?_
  clear f20 a19
  refine L.val f21 wantedN rfl (by decide) (E.build f21 (parts2 f21 rfl rfl) (wbl35_0_4_m _ _)) fun a22 f22 => ?_
  clear f21 a21
  have hC := ack_any w.heap.size p s1 4 1 1 #[(.int .i64 4), (.bool false), (.bool false), (.int .i64 0), (.int .i64 1), (.string ⟨#[]⟩), (.slice none 0 0), (.int .i64 0), (.string ⟨#[]⟩), (.bool false), (.int .i64 0), (.bool false), (.string ⟨#[]⟩), (.slice none 0 0), (.int .i64 0), (.bool false), (.bool false), (.bool false), (.string ⟨#[]⟩), (.slice none 0 0), (.bool false), (.int .i64 0), (.slice none 0 0), (.slice none 0 0)] rfl rfl w2 HS1 HK.size
  rw [hab1, show ackS ⟨[1], 1, [⟨⟨⟨#[97]⟩, [], 1, false⟩, 1, 0, false⟩], [], 0, []⟩ 4 1 1 = (⟨[], 1, [], [], 0, []⟩, []) by kernel_rfl] at hC
  refine L.call f22 wantedN rfl (by decide) (run_call Try.call13 (args3 f22 rfl rfl rfl)) hC ?_
  rintro e w3 ⟨s2, A2, c2, pk2, rfl, HS2, hr2, hL2, kc3, PK2, -⟩
  injection hr2 with hab2 hp2
  obtain rfl := List.map_eq_nil_iff.1 hp2
  refine ⟨_, rfl, fun a23 f23 => ?_⟩
  clear f22 a22
  have szw3 := kc3.size
  replace HK := blwm HK kc3
  replace PK1 := PK1.mod kc3 (by decide)
  clear kc3
  refine L.val f23 wantedN rfl (by decide) (E.assign f23 rfl) fun a24 f24 => ?_
  clear f23 a23
  refine wpList_nil (hK6 _ _ ?_)
  try clear hK6 K6
  have f25 := f24.sub (sub_cons (i := 0) rfl (sub_cons (i := 1) rfl (sub_cons (i := 2) rfl (sub_cons (i := 3) rfl (sub_cons (i := 4) rfl sub_nil)))))
  clear f24
  refine wp_seq_k fun K7 hK7 => ?_
  refine C.region ?_
  refine L.val f25 wantedN rfl (by decide) (E.move f25 rfl) fun a26 f26 => ?_
  clear f25 a24
  refine L.val f26 wantedN rfl (by decide) (E.build f26 (parts4 f26 rfl rfl rfl rfl) (wbl35_0_3_4_5_m _ _ _ _)) fun a27 f27 => ?_
  clear f26 a26
  have hC := got_any w.heap.size p s2 3 2 5 #[(.int .i64 3), (.bool false), (.bool false), (.int .i64 2), (.int .i64 5), (.string ⟨#[97]⟩), (.slice none 0 0), (.int .i64 0), (.string ⟨#[]⟩), (.bool false), (.int .i64 0), (.bool false), (.string ⟨#[]⟩), (.slice none 0 0), (.int .i64 0), (.bool false), (.bool false), (.bool false), (.string ⟨#[]⟩), (.slice none 0 0), (.bool false), (.int .i64 0), (.slice none 0 0), (.slice none 0 0)] rfl rfl rfl w3 HS2 HK.size (by decide) (by rw [got_of hab2]; decide)
  rw [hab2, show gotS ⟨[], 1, [], [], 0, []⟩ 3 2 5 = (⟨[], 1, [], [], 0, [5]⟩, true, [ackP 5 5]) by kernel_rfl] at hC
  refine L.call f27 wantedN rfl (by decide) (run_call Try.call11 (args2 f27 rfl rfl)) hC ?_
  rintro e w4 ⟨s3, A3, c3, pk3, rfl, HS3, hab3, hp3, hL3, kc4, PK3, -⟩
  obtain ⟨x3, rfl, hx3⟩ := one_of hp3
  refine ⟨_, rfl, fun a28 f28 => ?_⟩
  clear f27 a27
  have szw4 := kc4.size
  replace HK := blwm HK kc4
  replace PK1 := PK1.mod kc4 (by decide)
  clear kc4
  refine L.val f28 wantedN rfl (by decide) (E.move f28 rfl) fun a29 f29 => ?_
  clear f28 a28
  refine L.val f29 wantedN rfl (by decide) (E.extract f29 rfl rfl) fun a30 f30 => ?_
  clear f29 a29
  have f31 := f30.as (i := 24) (v' := .bool true) rfl (by rfl)
  clear f30
  refine L.val f31 wantedN rfl (by decide) (E.extract f31 rfl rfl) fun a32 f32 => ?_
  clear f31 a30
  refine L.val f32 wantedN rfl (by decide) (E.assign f32 rfl) fun a33 f33 => ?_
  clear f32 a32
  refine L.val f33 wantedN rfl (by decide) (E.assign f33 rfl) fun a34 f34 => ?_
  clear f33 a33
  refine wpList_nil (hK7 _ _ ?_)
  try clear hK7 K7
  have f35 := f34.sub (sub_cons (i := 0) rfl (sub_cons (i := 1) rfl (sub_cons (i := 2) rfl (sub_cons (i := 3) rfl (sub_cons (i := 4) rfl (sub_cons (i := 5) rfl (sub_cons (i := 6) rfl sub_nil)))))))
  clear f34
  refine wp_seq_k fun K8 hK8 => ?_
  refine C.region ?_
  refine L.val f35 wantedN rfl (by decide) (E.move f35 rfl) fun a36 f36 => ?_
  clear f35 a34
  refine L.val f36 wantedN rfl (by decide) (E.build f36 (parts4 f36 rfl rfl rfl rfl) (wbl35_0_3_4_5_m _ _ _ _)) fun a37 f37 => ?_
  clear f36 a36
  have hC := got_any w.heap.size p s3 3 2 5 #[(.int .i64 3), (.bool false), (.bool false), (.int .i64 2), (.int .i64 5), (.string ⟨#[97]⟩), (.slice none 0 0), (.int .i64 0), (.string ⟨#[]⟩), (.bool false), (.int .i64 0), (.bool false), (.string ⟨#[]⟩), (.slice none 0 0), (.int .i64 0), (.bool false), (.bool false), (.bool false), (.string ⟨#[]⟩), (.slice none 0 0), (.bool false), (.int .i64 0), (.slice none 0 0), (.slice none 0 0)] rfl rfl rfl w4 HS3 HK.size (by decide) (by rw [got_of hab3]; decide)
  rw [hab3, show gotS ⟨[], 1, [], [], 0, [5]⟩ 3 2 5 = (⟨[], 1, [], [], 0, [5]⟩, false, [ackP 5 5]) by kernel_rfl] at hC
  refine L.call f37 wantedN rfl (by decide) (run_call Try.call11 (args2 f37 rfl rfl)) hC ?_
  rintro e w5 ⟨s4, A4, c4, pk4, rfl, HS4, hab4, hp4, hL4, kc5, PK4, -⟩
  refine ⟨_, rfl, fun a38 f38 => ?_⟩
  clear f37 a37
  have szw5 := kc5.size
  replace HK := blwm HK kc5
  replace PK1 := PK1.mod kc5 (by decide)
  replace PK3 := PK3.mod kc5 (by decide)
  clear kc5
  refine L.val f38 wantedN rfl (by decide) (E.move f38 rfl) fun a39 f39 => ?_
  clear f38 a38
  refine L.val f39 wantedN rfl (by decide) (E.extract f39 rfl rfl) fun a40 f40 => ?_
  clear f39 a39
  have f41 := f40.as (i := 30) (v' := .bool false) rfl (by rfl)
  clear f40
  refine L.val f41 wantedN rfl (by decide) (E.extract f41 rfl rfl) fun a42 f42 => ?_
  clear f41 a40
  refine L.val f42 wantedN rfl (by decide) (E.assign f42 rfl) fun a43 f43 => ?_
  clear f42 a42
  refine L.val f43 wantedN rfl (by decide) (E.assign f43 rfl) fun a44 f44 => ?_
  clear f43 a43
  refine wpList_nil (hK8 _ _ ?_)
  try clear hK8 K8
  have f45 := f44.sub (sub_cons (i := 0) rfl (sub_cons (i := 1) rfl (sub_cons (i := 2) rfl (sub_cons (i := 3) rfl (sub_cons (i := 4) rfl (sub_cons (i := 5) rfl (sub_cons (i := 6) rfl (sub_cons (i := 7) rfl sub_nil))))))))
  clear f44
  refine wp_seq_k fun K9 hK9 => ?_
  obtain ⟨b1, o1, hA1⟩ := (Sl.of_own PK1.fr.own).addr (by simp)
  obtain ⟨b3, o3, hA3⟩ := (Sl.of_own PK3.fr.own).addr (by simp)
  have hf1 := fly_of hab1
  have hf4 := fly_of hab4
  have hcl4 : s4.cl = ⟨#[107]⟩ := by rw [hL4.cl, hL3.cl, hL2.cl, hL1.cl, hcl]
  refine C.region ?_
  refine L.val f45 wantedN rfl (by decide) (E.move f45 rfl) fun a46 f46 => ?_
  clear f45 a44
  refine L.val f46 wantedN rfl (by decide) (E.lenL f46 Try.underlying27 rfl) fun a47 f47 => ?_
  clear f46 a46
  refine L.val f47 wantedN rfl (by decide) (E.eql f47 rfl rfl) fun a48 f48 => ?_
  clear f47 a47
  have f49 := f48.as (i := 34) (v' := .bool true) rfl (by rfl)
  clear f48
  refine L.val f49 wantedN rfl (by decide) (E.move f49 rfl) fun a50 f50 => ?_
  clear f49 a48
  refine L.val f50 (f50.yes rfl rfl) rfl (by decide) (E.move f50 rfl) fun a51 f51 => ?_
  clear f50 a50
  refine L.val f51 (f51.yes rfl rfl) rfl (by decide) (E.indexA f51 hA1 Try.underlying27 wsz35_m rfl rfl (by decide) (by simp)) fun a52 f52 => ?_
  clear f51 a51
  refine L.val f52 (f52.yes rfl rfl) rfl (by decide) (E.fieldAddr f52 Try.underlying35 rfl rfl wsz3_m) fun a53 f53 => ?_
  clear f52 a52
  refine L.val f53 (f53.yes rfl rfl) rfl (by decide) (E.load f53 Try.underlying3 rfl rfl (pk_cell PK1.fr.own hA1 (i := 0) (x := x1) rfl 4 rfl (show o1 + 0 * 24 + 4 = _ by omega))) fun a54 f54 => ?_
  clear f53 a53
  refine L.val f54 (f54.yes rfl rfl) rfl (by decide) (E.eql f54 rfl rfl) fun a55 f55 => ?_
  clear f54 a54
  have f56 := f55.as (i := 40) (v' := .bool true) rfl (by rw [hx1]; rfl)
  clear f55
  refine L.val f56 wantedN rfl (by decide) (E.pickT f56 rfl rfl) fun a57 f57 => ?_
  clear f56 a55
  refine L.val f57 wantedN rfl (by decide) (E.move f57 rfl) fun a58 f58 => ?_
  clear f57 a57
  refine L.val f58 (f58.yes rfl rfl) rfl (by decide) (E.move f58 rfl) fun a59 f59 => ?_
  clear f58 a58
  refine L.val f59 (f59.yes rfl rfl) rfl (by decide) (E.eql f59 rfl rfl) fun a60 f60 => ?_
  clear f59 a59
  have f61 := f60.as (i := 44) (v' := .bool true) rfl (by rw [hf1]; rfl)
  clear f60
  refine L.val f61 wantedN rfl (by decide) (E.pickT f61 rfl rfl) fun a62 f62 => ?_
  clear f61 a60
  refine L.val f62 wantedN rfl (by decide) (E.move f62 rfl) fun a63 f63 => ?_
  clear f62 a62
  refine L.val f63 (f63.yes rfl rfl) rfl (by decide) (E.move f63 rfl) fun a64 f64 => ?_
  clear f63 a63
  refine L.val f64 (f64.yes rfl rfl) rfl (by decide) (E.lenL f64 Try.underlying27 rfl) fun a65 f65 => ?_
  clear f64 a64
  refine L.val f65 (f65.yes rfl rfl) rfl (by decide) (E.eql f65 rfl rfl) fun a66 f66 => ?_
  clear f65 a65
  have f67 := f66.as (i := 49) (v' := .bool true) rfl (by rfl)
  clear f66
  refine L.val f67 wantedN rfl (by decide) (E.pickT f67 rfl rfl) fun a68 f68 => ?_
  clear f67 a66
  refine L.val f68 wantedN rfl (by decide) (E.move f68 rfl) fun a69 f69 => ?_
  clear f68 a68
  refine L.val f69 (f69.yes rfl rfl) rfl (by decide) (E.move f69 rfl) fun a70 f70 => ?_
  clear f69 a69
  refine L.call f70 (f70.yes rfl rfl) rfl (by decide) (run_call Try.call14 (args1 f70 rfl)) (flying_any p s4.fly.length s4.fc s4.FA _ _ _ _ _ _ HS4.top) ?_
  rintro e w5x ⟨rfl, rfl⟩
  refine ⟨_, rfl, fun a71 f71 => ?_⟩
  clear f70 a70
  refine L.val f71 (f71.yes rfl rfl) rfl (by decide) (E.eql f71 rfl rfl) fun a72 f72 => ?_
  clear f71 a71
  have f73 := f72.as (i := 54) (v' := .bool true) rfl (by rw [hf4]; rfl)
  clear f72
  refine L.val f73 wantedN rfl (by decide) (E.pickT f73 rfl rfl) fun a74 f74 => ?_
  clear f73 a72
  refine L.val f74 wantedN rfl (by decide) (E.move f74 rfl) fun a75 f75 => ?_
  clear f74 a74
  refine L.val f75 (f75.yes rfl rfl) rfl (by decide) (E.move f75 rfl) fun a76 f76 => ?_
  clear f75 a75
  refine L.val f76 wantedN rfl (by decide) (E.pickT f76 rfl rfl) fun a77 f77 => ?_
  clear f76 a76
  refine L.val f77 wantedN rfl (by decide) (E.move f77 rfl) fun a78 f78 => ?_
  clear f77 a77
  refine L.val f78 (f78.yes rfl rfl) rfl (by decide) (E.move f78 rfl) fun a79 f79 => ?_
  clear f78 a78
  refine L.val f79 (f79.yes rfl rfl) rfl (by decide) (E.not f79 rfl) fun a80 f80 => ?_
  clear f79 a79
  refine L.val f80 wantedN rfl (by decide) (E.pickT f80 rfl rfl) fun a81 f81 => ?_
  clear f80 a80
  refine L.val f81 wantedN rfl (by decide) (E.move f81 rfl) fun a82 f82 => ?_
  clear f81 a81
  refine L.val f82 (f82.yes rfl rfl) rfl (by decide) (E.move f82 rfl) fun a83 f83 => ?_
  clear f82 a82
  refine L.val f83 (f83.yes rfl rfl) rfl (by decide) (E.lenL f83 Try.underlying27 rfl) fun a84 f84 => ?_
  clear f83 a83
  refine L.val f84 (f84.yes rfl rfl) rfl (by decide) (E.eql f84 rfl rfl) fun a85 f85 => ?_
  clear f84 a84
  have f86 := f85.as (i := 66) (v' := .bool true) rfl (by rfl)
  clear f85
  refine L.val f86 wantedN rfl (by decide) (E.pickT f86 rfl rfl) fun a87 f87 => ?_
  clear f86 a85
  refine L.val f87 wantedN rfl (by decide) (E.move f87 rfl) fun a88 f88 => ?_
  clear f87 a87
  refine L.val f88 (f88.yes rfl rfl) rfl (by decide) (E.move f88 rfl) fun a89 f89 => ?_
  clear f88 a88
  refine L.val f89 (f89.yes rfl rfl) rfl (by decide) (E.indexA f89 hA3 Try.underlying27 wsz35_m rfl rfl (by decide) (by simp)) fun a90 f90 => ?_
  clear f89 a89
  refine L.val f90 (f90.yes rfl rfl) rfl (by decide) (E.fieldAddr f90 Try.underlying35 rfl rfl wsz3_m) fun a91 f91 => ?_
  clear f90 a90
  refine L.val f91 (f91.yes rfl rfl) rfl (by decide) (E.load f91 Try.underlying3 rfl rfl (pk_cell PK3.fr.own hA3 (i := 0) (x := x3) rfl 0 rfl (show o3 + 0 * 24 + 0 = _ by omega))) fun a92 f92 => ?_
  clear f91 a91
  refine L.val f92 (f92.yes rfl rfl) rfl (by decide) (E.eql f92 rfl rfl) fun a93 f93 => ?_
  clear f92 a92
  have f94 := f93.as (i := 73) (v' := .bool true) rfl (by rw [hx3]; rfl)
  clear f93
  refine L.val f94 wantedN rfl (by decide) (E.pickT f94 rfl rfl) fun a95 f95 => ?_
  clear f94 a93
  refine L.val f95 wantedN rfl (by decide) (E.move f95 rfl) fun a96 f96 => ?_
  clear f95 a95
  refine L.val f96 (f96.yes rfl rfl) rfl (by decide) (E.move f96 rfl) fun a97 f97 => ?_
  clear f96 a96
  refine L.call f97 (f97.yes rfl rfl) rfl (by decide) (run_call Try.call20 (args1 f97 rfl)) (client_any p s4.cl _ _ _ _ _ _ HS4.top) ?_
  rintro e w5x ⟨rfl, rfl⟩
  refine ⟨_, rfl, fun a98 f98 => ?_⟩
  clear f97 a97
  refine L.val f98 (f98.yes rfl rfl) rfl (by decide) (E.eqlS f98 rfl rfl) fun a99 f99 => ?_
  clear f98 a98
  have f100 := f99.as (i := 78) (v' := .bool true) rfl (by rw [hcl4]; rfl)
  clear f99
  refine L.val f100 wantedN rfl (by decide) (E.pickT f100 rfl rfl) fun a101 f101 => ?_
  clear f100 a99
  refine L.val f101 wantedN rfl (by decide) (E.assign f101 rfl) fun a102 f102 => ?_
  clear f101 a101
  refine wpList_nil (hK9 _ _ ?_)
  try clear hK9 K9
  have f103 := f102.sub (sub_cons (i := 0) rfl sub_nil)
  clear f102
  refine wp_ret ?_
  try simp only [Exit.inBlock, Exit.then]
  refine C.ret (P := Try.prog) (fn := Try.f9) f103 rfl rfl ?_
  exact ⟨rfl, HK⟩

set_option maxHeartbeats 1000000 in
theorem flyN_any (n : Nat) (qos : Int) (B : Nat) (w : World) (hn : n ≤ 5) (hB : B ≤ w.heap.size) : Calls Try.prog 12 #[.int .i64 n, .int .i64 qos] w (FlyPost n qos B w) := by
  have HK : Below B w w := Below.refl _ _
  refine C.enter Try.func12 rfl Try.ntmps12 rfl ?_
  intro a0 f0
  have f1 : Fr 26 a0 [(0, .int .i64 n), (1, .int .i64 qos)] := f0
  clear f0
  refine wp_seq_k fun K0 hK0 => ?_
  refine C.region ?_
  refine L.val f1 wantedN rfl (by decide) (E.assign f1 rfl) fun a2 f2 => ?_
  clear f1 a0
  refine L.val f2 wantedN rfl (by decide) (E.assign f2 rfl) fun a3 f3 => ?_
  clear f2 a2
  refine wpList_nil (hK0 _ _ ?_)
  try clear hK0 K0
  have f4 := f3.sub (sub_cons (i := 0) rfl (sub_cons (i := 1) rfl (sub_cons (i := 4) rfl (sub_cons (i := 5) rfl sub_nil))))
  clear f3
  refine wp_seq_k fun K1 hK1 => ?_
  refine C.region ?_
  refine L.call f4 wantedN rfl (by decide) (run_call Try.call10 (args1 f4 rfl)) (new_any ⟨#[107]⟩ B _ (Nat.le_trans hB HK.size)) ?_
  rintro e w1 ⟨p, s, rfl, HS, hab, hcl, kc1⟩
  refine ⟨_, rfl, fun a5 f5 => ?_⟩
  clear f4 a3
  have szw1 := kc1.size
  replace HK := blwB HK hB kc1
  clear kc1
  refine L.val f5 wantedN rfl (by decide) (E.assign f5 rfl) fun a6 f6 => ?_
  clear f5 a5
  refine wpList_nil (hK1 _ _ ?_)
  try clear hK1 K1
  have f7 := f6.sub (sub_cons (i := 0) rfl (sub_cons (i := 1) rfl (sub_cons (i := 4) rfl (sub_cons (i := 5) rfl (sub_cons (i := 6) rfl sub_nil)))))
  clear f6
  refine wp_seq_k fun K2 hK2 => ?_
  refine C.region ?_
  refine L.val f7 wantedN rfl (by decide) (E.assign f7 rfl) fun a8 f8 => ?_
  clear f7 a6
  refine wpList_nil (hK2 _ _ ?_)
  try clear hK2 K2
  have f9 := f8.sub (sub_cons (i := 0) rfl (sub_cons (i := 1) rfl (sub_cons (i := 4) rfl (sub_cons (i := 5) rfl (sub_cons (i := 6) rfl (sub_cons (i := 7) rfl sub_nil))))))
  clear f8
  refine wp_seq_k fun K3 hK3 => ?_
  refine wp_seq_k fun K4 hK4 => ?_
  refine C.region ?_
  refine L.val f9 wantedN rfl (by decide) (E.assign f9 rfl) fun a10 f10 => ?_
  clear f9 a8
  refine wpList_nil (hK4 _ _ ?_)
  try clear hK4 K4
  have f11 := f10.sub (sub_cons (i := 0) rfl (sub_cons (i := 1) rfl (sub_cons (i := 4) rfl (sub_cons (i := 5) rfl (sub_cons (i := 6) rfl (sub_cons (i := 7) rfl (sub_cons (i := 8) rfl sub_nil)))))))
  clear f10
  refine wp_block ?_
  refine C.loop (fun gk a W => ∃ (k : Nat) (u : Ses) (A : Option Addr) (c : Nat) (pks : List Pc), k + gk = n ∧ SesAt B W p u ∧ u.abs = (flyS k qos).1 ∧ pks.map (·.p) = (flyS k qos).2 ∧ pks.length ≤ 10 * k ∧ PkAt B w W A c pks ∧ Below B w W ∧ Fr 26 a [(0, .int .i64 n), (1, .int .i64 qos), (6, .pointer (some ⟨p, 0, none⟩)), (7, .slice A pks.length c), (8, .int .i64 k)]) (n) ?_ ?_
  · exact ⟨0, s, none, 0, [], by omega, HS, hab, rfl, by simp, PkAt.nil _ _ _, HK, f11.sub (sub_cons rfl (sub_cons rfl (sub_cons rfl (sub_cons rfl (sub_cons rfl sub_nil)))))⟩
  · intro gk6 a12 w2 hI KL5 hKL5
    obtain ⟨k, u, A, c, pks, hk, HS, hab, hp, hlp, PK, HK, f12⟩ := hI
    try clear f11
    have szw1x := HK.size
    refine wp_seq_k fun K6 hK6 => ?_
    refine wp_seq_k fun K7 hK7 => ?_
    refine C.region ?_
    refine L.val f12 wantedN rfl (by decide) (E.move f12 rfl) fun a13 f13 => ?_
    clear f12 a12
    refine L.val f13 wantedN rfl (by decide) (E.move f13 rfl) fun a14 f14 => ?_
    clear f13 a13
    refine L.val f14 wantedN rfl (by decide) (E.lss f14 rfl rfl) fun a15 f15 => ?_
    clear f14 a14
    refine wpList_nil (hK7 _ _ ?_)
    try clear hK7 K7
    have f16 := f15.sub (sub_cons (i := 0) rfl (sub_cons (i := 1) rfl (sub_cons (i := 6) rfl (sub_cons (i := 7) rfl (sub_cons (i := 8) rfl (sub_cons (i := 10) rfl (sub_cons (i := 11) rfl (sub_cons (i := 12) rfl sub_nil))))))))
    clear f15
    first | refine f16.splitD 12 rfl (fun h0 f17 => ?_) (fun h0 f17 => ?_) | refine f16.splitN 12 rfl (fun h0 f17 => ?_) (fun h0 f17 => ?_) | refine f16.splitNB 12 rfl (fun h0 f17 => ?_) (fun h0 f17 => ?_) | refine f16.split 12 rfl (fun h0 f17 => ?_) (fun h0 f17 => ?_)
    · clear f16
      refine C.condT f17 rfl ?_
      refine wp_skip (hK6 _ _ ?_)
      try clear hK6 K6
      have f18 := f17.sub (sub_cons (i := 0) rfl (sub_cons (i := 1) rfl (sub_cons (i := 6) rfl (sub_cons (i := 7) rfl (sub_cons (i := 8) rfl (sub_cons (i := 10) rfl (sub_cons (i := 11) rfl (sub_cons (i := 12) rfl sub_nil))))))))
      clear f17
      refine wp_seq_k fun K8 hK8 => ?_
      refine wp_block ?_
      refine C.region ?_
      refine L.val f18 wantedN rfl (by decide) (E.move f18 rfl) fun a19 f19 => ?_
      clear f18 a15
      refine L.val f19 wantedN rfl (by decide) (E.move f19 rfl) fun a20 f20 => ?_
      clear f19 a19
      refine L.val f20 wantedN rfl (by decide) (E.move f20 rfl) fun a21 f21 => ?_
      clear f20 a20
      refine L.val f21 wantedN rfl (by decide) (E.conv f21 Try.underlying3 Try.underlying5 rfl (IntWalk.u8_in _ (by omega))) fun a22 f22 => ?_
      clear f21 a21
      refine L.buildSlice f22 wantedN (by decide) (parts1 f22 rfl) Try.underlying22 wzi5_m rfl rfl (wbs22_1_m _) fun a23 w3 g2 N2 f23 => ?_
      have OB := N2.own (k := 1) (size := 1) rfl (by decide)
      have HPb : Pay B w3 (some ⟨g2, 0, none⟩) [UInt8.ofNat k] := pay_one OB (by omega)
      have Bg2 := N2.blk
      have kg2 := N2.kept
      have log2 := N2.lo
      have ltg2 := Bg2.lt
      have szw3 := kg2.size
      replace HK := blwB HK hB (.of_kept0 (T := []) (M := []) kg2)
      replace HS := HS.mod (Mod.of_kept0 (T := []) (M := []) (B := B) kg2) (by decide)
      replace PK := PK.mod (Mod.of_kept0 (T := []) (M := []) (B := B) kg2) (by decide)
      clear N2 kg2
      clear f22 a22
      refine L.val f23 wantedN rfl (by decide) (E.move f23 rfl) fun a24 f24 => ?_
      clear f23 a23
      refine L.val f24 wantedN rfl (by decide) (E.build f24 (parts3 f24 rfl rfl rfl) (wbl43_0_1_2_m _ _ _ _ _)) fun a25 f25 => ?_
      clear f24 a24
      have hC := send_any B p u ⟨⟨#[97]⟩, [UInt8.ofNat k], qos, false⟩ (some ⟨g2, 0, none⟩) 1 true 0 w3 HS HPb (Nat.le_trans hB HK.size) (flyS_lost' hab (by omega))
      rw [hab] at hC
      refine L.call f25 wantedN rfl (by decide) (run_call Try.call15 (args4 f25 rfl rfl rfl rfl)) hC ?_
      rintro e w4 ⟨u2, A2, c2, pk2, rfl, HS2, hr2, hL2, kc4, PKr, hl2⟩
      have szk := HK.size
      replace PKr := PKr.lower (w1 := w) szk
      refine ⟨_, rfl, fun a26 f26 => ?_⟩
      clear f25 a25
      have szw4 := kc4.size
      replace HK := blwB HK hB kc4
      replace PK := PK.mod kc4 (by decide)
      replace Bg2 := Bg2.mod kc4 (by decide)
      clear kc4
      refine L.append f26 wantedN (by decide) Try.underlying27 wzib35_m rfl rfl rfl rfl (PK.fr.own) (PKr.fr.sl) (pcells_one _) (by unfold maxLen; omega) (by omega) fun a27 w5 A4 c4 AP5 f27 => ?_
      clear f26 a26
      have kap5 : Mod [35] [] B w4 w5 := .of_app AP5 PK.fr.own (fun a ha => Nat.le_trans hB (PK.fr.from a ha)) (by simp)
      have PK2 := PK.app AP5 HK.size hB PKr.pay
      have szw5 := kap5.size
      replace HK := blwB HK hB kap5
      replace Bg2 := Bg2.mod kap5 (by decide)
      replace HS2 := HS2.mod kap5 (by decide)
      clear kap5
      refine L.val f27 wantedN rfl (by decide) (E.assign f27 rfl) fun a28 f28 => ?_
      clear f27 a27
      refine wpList_nil (hK8 _ _ ?_)
      try clear hK8 K8
      have f29 := f28.sub (sub_cons (i := 0) rfl (sub_cons (i := 1) rfl (sub_cons (i := 6) rfl (sub_cons (i := 7) rfl (sub_cons (i := 8) rfl (sub_cons (i := 10) rfl (sub_cons (i := 11) rfl (sub_cons (i := 12) rfl (sub_cons (i := 15) rfl (sub_cons (i := 16) rfl (sub_cons (i := 17) rfl (sub_cons (i := 18) rfl (sub_cons (i := 19) rfl (sub_cons (i := 20) rfl (sub_cons (i := 21) rfl (sub_cons (i := 22) rfl (sub_cons (i := 23) rfl sub_nil)))))))))))))))))
      clear f28
      refine C.region ?_
      refine L.val f29 wantedN rfl (by decide) (E.move f29 rfl) fun a30 f30 => ?_
      clear f29 a28
      refine L.val f30 wantedN rfl (by decide) (E.add f30 rfl rfl (IntWalk.i64_in _ (by omega))) fun a31 f31 => ?_
      clear f30 a30
      refine L.val f31 wantedN rfl (by decide) (E.assign f31 rfl) fun a32 f32 => ?_
      clear f31 a31
      refine wpList_nil (hKL5 _ _ (gk6 - 1) ?_ ?_)
      · omega
      · exact ⟨k + 1, u2, A4, c4, pks ++ pk2, by omega, HS2, fly_next1 hr2, fly_next2 hp hr2, by simp; omega, PK2, HK, by simpa using f32.sub (sub_cons rfl (sub_cons rfl (sub_cons rfl (sub_cons rfl (sub_cons rfl sub_nil)))))⟩
    · clear f16
      refine C.condF f17 rfl ?_
      refine wp_exit (hK3 _ _ ?_)
      try clear hK3 K3
      have f18 := f17.sub (sub_cons (i := 6) rfl (sub_cons (i := 7) rfl sub_nil))
      clear f17
      refine wp_seq_k fun K9 hK9 => ?_
      refine C.region ?_
      refine L.val f18 wantedN rfl (by decide) (E.move f18 rfl) fun a19 f19 => ?_
      clear f18 a15
      refine L.val f19 wantedN rfl (by decide) (E.move f19 rfl) fun a20 f20 => ?_
      clear f19 a19
      refine L.val f20 wantedN rfl (by decide) (E.assign f20 rfl) fun a21 f21 => ?_
      clear f20 a20
      refine L.val f21 wantedN rfl (by decide) (E.assign f21 rfl) fun a22 f22 => ?_
      clear f21 a21
      refine wpList_nil (hK9 _ _ ?_)
      try clear hK9 K9
      have f23 := f22.sub (sub_cons (i := 4) rfl (sub_cons (i := 5) rfl sub_nil))
      clear f22
      refine wp_ret ?_
      try simp only [Exit.inBlock, Exit.then]
      refine C.ret2 (P := Try.prog) (fn := Try.f12) f23 rfl rfl rfl ?_
      obtain rfl : k = n := by omega
      exact ⟨p, u, A, c, pks, rfl, HS, hab, hp, PK, HK⟩

end Go.Proofs.Ytdfllmiokgoekaa
