/- Merged by program (shrink.py): contracts and plain laws that the claim's statement uses, part 6. -/
import Derived.Test.YtigjafbbnocihaaDoorMb5
set_option linter.all false

namespace Go.Proofs.YtigjafbbnocihaaDoor
open Go.RowKit Go.Hub Go.Lib Go.Vl
theorem wsz5_xd : (Tryd.prog.info? 5).map (·.size) = some 1 := by kernel_rfl
theorem wsz9_xd : (Tryd.prog.info? 9).map (·.size) = some 1 := by kernel_rfl
theorem wsz22_xd : (Tryd.prog.info? 22).map (·.size) = some 1 := by kernel_rfl
theorem wsz24_xd : (Tryd.prog.info? 24).map (·.size) = some 4 := by kernel_rfl
theorem wsz28_xd : (Tryd.prog.info? 28).map (·.size) = some 24 := by kernel_rfl
theorem wbl24_0_1_2_3_xd (x0 : ByteArray) (x1 : Option Addr) (y1 z1 : Nat) (x2 : Int) (x3 : Bool) : Tryd.prog.built 24 [(0, .string x0), (1, .slice x1 y1 z1), (2, .int .i64 x2), (3, .bool x3)] = some #[.string x0, .slice x1 y1 z1, .int .i64 x2, .bool x3] := by kernel_rfl
theorem wbl28_0_7_8_9_10_11_13_14_xd (x0 : Int) (x1 : Int) (x2 : ByteArray) (x3 : Bool) (x4 : Int) (x5 : Bool) (x6 : Bool) (x7 : Bool) : Tryd.prog.built 28 [(0, .int .i64 x0), (7, .int .i64 x1), (8, .string x2), (9, .bool x3), (10, .int .i64 x4), (11, .bool x5), (13, .bool x6), (14, .bool x7)] = some #[.int .i64 x0, (.bool false), (.bool false), (.int .i64 0), (.int .i64 0), (.string ⟨#[]⟩), (.slice none 0 0), .int .i64 x1, .string x2, .bool x3, .int .i64 x4, .bool x5, (.string ⟨#[]⟩), (.slice none 0 0), (.int .i64 0), (.bool false), .bool x6, .bool x7, (.string ⟨#[]⟩), (.slice none 0 0), (.bool false), (.int .i64 0), (.slice none 0 0), (.slice none 0 0)] := by kernel_rfl
def conW (client : ByteArray) (keep : Int) (clean will user pass retain : Bool) (qos : Int) (x : List UInt8) : Pk :=
  { kind := 1, level := 4, client := client, clean := clean, keep := keep, hasWill := will, hasUser := user, hasPass := pass, wt := if will = true then ⟨#[119]⟩ else em, wp := if will = true then x else [], wq := if will = true then qos % 4 else 0, wr := if will = true then retain else false }
def conU (user : Bool) (client : ByteArray) (p : Pk) : Pk := if user = true then { p with user := client } else p
def conS (pass : Bool) (x : List UInt8) (p : Pk) : Pk := if pass = true then { p with pass := x } else p
def AdW (will : Bool) (A : Option Addr) (c : Nat) : Ad := if will = true then { s0 with wa := A, wc := c } else s0
def AdS (pass : Bool) (A : Option Addr) (c : Nat) (s : Ad) : Ad := if pass = true then { s with sa := A, sc := c } else s
section
variable {client : ByteArray} {keep : Int} {clean will user pass retain : Bool} {qos : Int} {x : List UInt8} {A : Option Addr} {cx : Nat} {W : World}
theorem con_in (S : Sl W A x.length 1 (x.map u8)) : (conS pass x (conU user client (conW client keep clean will user pass retain qos x))).In W (AdS pass A cx (AdW will A cx)) := by
  have z : Pk.In W {} s0 := Pk.In.zero W
  cases will <;> cases user <;> cases pass
  · exact ⟨z.pay, z.wp, z.pass, z.subs, z.codes⟩
  · exact ⟨z.pay, z.wp, S, z.subs, z.codes⟩
  · exact ⟨z.pay, z.wp, z.pass, z.subs, z.codes⟩
  · exact ⟨z.pay, z.wp, S, z.subs, z.codes⟩
  · exact ⟨z.pay, S, z.pass, z.subs, z.codes⟩
  · exact ⟨z.pay, S, S, z.subs, z.codes⟩
  · exact ⟨z.pay, S, z.pass, z.subs, z.codes⟩
  exact ⟨z.pay, S, S, z.subs, z.codes⟩
theorem con_kind : (conS pass x (conU user client (conW client keep clean will user pass retain qos x))).kind = 1 := by cases user <;> cases pass <;> rfl
theorem con_len (h1 : client.size ≤ 1000) (h2 : x.length ≤ 1000) : (conS pass x (conU user client (conW client keep clean will user pass retain qos x))).Len := by
  have z : Pk.Len {} := Pk.Len.zero
  have hx : x.length ≤ 1000000 := by omega
  have hc : client.size ≤ 1000000 := by omega
  have hw : (⟨#[119]⟩ : ByteArray).size ≤ 1000000 := by decide
  cases will <;> cases user <;> cases pass
  · exact ⟨z.pay, z.wp, z.pass, z.subs, z.codes, z.topic, hc, z.wt, z.user, z.each⟩
  · exact ⟨z.pay, z.wp, hx, z.subs, z.codes, z.topic, hc, z.wt, z.user, z.each⟩
  · exact ⟨z.pay, z.wp, z.pass, z.subs, z.codes, z.topic, hc, z.wt, hc, z.each⟩
  · exact ⟨z.pay, z.wp, hx, z.subs, z.codes, z.topic, hc, z.wt, hc, z.each⟩
  · exact ⟨z.pay, hx, z.pass, z.subs, z.codes, z.topic, hc, hw, z.user, z.each⟩
  · exact ⟨z.pay, hx, hx, z.subs, z.codes, z.topic, hc, hw, z.user, z.each⟩
  · exact ⟨z.pay, hx, z.pass, z.subs, z.codes, z.topic, hc, hw, hc, z.each⟩
  exact ⟨z.pay, hx, hx, z.subs, z.codes, z.topic, hc, hw, hc, z.each⟩
end
section
variable {p : Pk}
theorem con_le (h : RightP p) : (encL p).length ≤ 1000000 := by
  have h1 := h.len
  have h2 := szN_le ((behindL p).length : Int)
  unfold encL
  rw [List.length_append, List.length_cons, putL_len]
  omega
theorem conn_take (hk : p.kind = 1) : ∃ t, behindL p = [0, 4, 77, 81, 84, 84] ++ t ∧ 6 ≤ t.length := by
  unfold behindL
  rw [if_pos hk]
  unfold connL
  have e : lumpL mqtt.toList = [0, 4, 77, 81, 84, 84] := by kernel_rfl
  rw [e]
  simp only [List.append_assoc]
  exact ⟨_, rfl, by simp [lumpL_len, twoL_len]; omega⟩
theorem con_name (hk : p.kind = 1) (h : RightP p) : 12 < (encL p).length ∧ ((encL p).drop (if 129 < (encL p).length then 3 else 2)).take 6 = [0, 4, 77, 81, 84, 84] := by
  obtain ⟨t, ht, hl⟩ := conn_take hk
  have hb := h.len
  have hz : szN ((behindL p).length : Int) = if (behindL p).length < 128 then 1 else 2 := by
    unfold szN
    rw [if_neg (by omega)]
    by_cases h1 : (behindL p).length < 128
    · rw [if_pos (by omega), if_pos h1]
    rw [if_neg (by omega), if_pos (by omega), if_neg h1]
  have hlen : (encL p).length = 1 + szN ((behindL p).length : Int) + (behindL p).length := by
    unfold encL
    rw [List.length_append, List.length_cons, putL_len]
    omega
  have hbl : 12 ≤ (behindL p).length := by rw [ht]; simp; omega
  have hd : (encL p).drop (1 + szN ((behindL p).length : Int)) = behindL p := by
    unfold encL
    rw [List.drop_append_of_le_length (by rw [List.length_cons, putL_len]; omega), List.drop_of_length_le (by rw [List.length_cons, putL_len]; omega)]
    rfl
  refine ⟨by omega, ?_⟩
  have e : (if 129 < (encL p).length then 3 else 2) = 1 + szN ((behindL p).length : Int) := by
    rw [hlen, hz]
    by_cases h1 : (behindL p).length < 128
    · rw [if_pos h1, if_neg (by omega)]
    rw [if_neg h1, if_pos (by omega)]
  rw [e, hd, ht]
  rfl
end
theorem con_sl {W : World} {A : Option Addr} {c : Nat} {l : List UInt8} (S : Sl W A l.length 1 (l.map u8)) (hc : l.length ≤ c) {lo hi : Int} (h : 0 ≤ lo ∧ lo ≤ hi ∧ hi ≤ l.length) :
    Sl W (if c = lo.toNat then A else A.map (·.add (lo.toNat * 1))) (hi.toNat - lo.toNat) 1 (((l.drop lo.toNat).take (hi.toNat - lo.toNat)).map u8) :=
  (((Sl.bs S).cut (k := lo.toNat) (c := c) (by omega) hc).head (k := hi.toNat - lo.toNat) (by omega)).toSl
theorem con_nm {l : List UInt8} (h : l = [0, 4, 77, 81, 84, 84]) : Value.bool (decide ((⟨l.toArray⟩ : ByteArray) = ⟨#[0, 4, 77, 81, 84, 84]⟩)) = .bool true := by subst h; kernel_rfl
theorem con_d {n : Nat} (h : 12 < n) : Value.bool (decide ((12 : Int) < (n : Int))) = .bool true := by rw [decide_eq_true (by omega)]
set_option maxRecDepth 100000 in
set_option maxHeartbeats 4000000 in
theorem connects_walk (client : ByteArray) (keep : Int) (clean will user pass retain : Bool) (qos : Int) (x : List UInt8) (A : Option Addr) (cx : Nat) (w : World) (hT : Tabs w) (SX : Sl w A x.length 1 (x.map u8)) (hk : 0 ≤ keep ∧ keep < 65536) (hq : 0 ≤ qos ∧ qos < 256) : Calls Tryd.prog 8 #[.string client, .int .u16 keep, .bool clean, .bool will, .bool user, .bool pass, .bool retain, .int .u8 qos, .slice A x.length cx] w (fun e w' => Kept [] w w' ∧ e = .returned (.bool true)) := by
 have HK : Kept [] w w := Kept.refl [] w
 refine C.enter Tryd.func8 rfl Tryd.ntmps8 rfl ?_
 intro a0 f0
 have f1 : Fr 118 a0 [(0, .string client), (1, .int .u16 keep), (2, .bool clean), (3, .bool will), (4, .bool user), (5, .bool pass), (6, .bool retain), (7, .int .u8 qos), (8, .slice A x.length cx)] := f0
 refine wp_seq_k fun K0 hK0 => C.region ?_
 refine L.ag f1 fun a2 f2 => ?_
 refine wpList_nil (hK0 _ _ ?_)
 have f3 := f2.sub (sc 0 (sc 1 (sc 2 (sc 3 (sc 4 (sc 5 (sc 6 (sc 7 (sc 8 sn)))))))))
 refine wp_seq_k fun K1 hK1 => ?_
 refine wp_seq_k fun K2 hK2 => C.region ?_
 refine L.cl f3 (run_call Tryd.call13 (args0 f3)) (known_any _ (hT.old (HK.below (by simp) (Nat.le_refl _)))) ?_
 clear f0 f1 a0 f2
 rintro e w1 ⟨kc1, rfl⟩
 refine ⟨_, rfl, fun a4 f4 => ?_⟩
 have szw1 := kc1.size
 replace HK := HK.trans kc1 (by simp)
 clear kc1
 refine L.va f4 (E.not f4 rfl) fun a5 f5 => ?_
 refine wpList_nil (hK2 _ _ ?_)
 have f6 := f5.sub (sc 0 (sc 1 (sc 2 (sc 3 (sc 4 (sc 5 (sc 6 (sc 7 (sc 8 (sc 29 sn))))))))))
 refine C.condF f6 rfl ?_
 refine wp_skip (hK1 _ _ ?_)
 have f7 := f6.sub (sc 0 (sc 1 (sc 2 (sc 3 (sc 4 (sc 5 (sc 6 (sc 7 (sc 8 sn)))))))))
 refine wp_seq_k fun K3 hK3 => ?_
 refine wp_seq_k fun K4 hK4 => C.region ?_
 refine L.mv f7 fun a8 f8 => ?_
 refine L.va f8 (E.lenS f8 U9 rfl) fun a9 f9 => ?_
 refine L.va f9 (E.gtr f9 rfl rfl) fun a10 f10 => ?_
 refine L.mv f10 fun a11 f11 => ?_
 clear f3 a2 f4 a4 f5 f6 f7 a5 f8 a8 f9 a9 f10 a10
 refine f11.splitD 33 rfl (fun h0 f12 => ?_) (fun h0 f12 => ?_)
 ·refine L.run f12 (rest' := []) (by kernel_rfl) fun a13 f13 => ?_
  clear f11
  skip
  refine wpList_nil (hK4 _ _ ?_)
  have f14 := f13.sub (sub_cons (i := 0) (Fr.kept f13 (by kernel_rfl) rfl) (sub_cons (i := 1) (Fr.kept f13 (by kernel_rfl) rfl) (sub_cons (i := 2) (Fr.kept f13 (by kernel_rfl) rfl) (sub_cons (i := 3) (Fr.kept f13 (by kernel_rfl) rfl) (sub_cons (i := 4) (Fr.kept f13 (by kernel_rfl) rfl) (sub_cons (i := 5) (Fr.kept f13 (by kernel_rfl) rfl) (sub_cons (i := 6) (Fr.kept f13 (by kernel_rfl) rfl) (sub_cons (i := 7) (Fr.kept f13 (by kernel_rfl) rfl) (sub_cons (i := 8) (Fr.kept f13 (by kernel_rfl) rfl) (sub_cons (i := 37) (v := .bool true) (by kernel_rfl) sn))))))))))
  refine C.condT f14 rfl ?_
  refine wp_seq_k fun K5 hK5 => C.region ?_
  refine L.ag f14 fun a15 f15 => ?_
  refine wpList_nil (hK5 _ _ ?_)
  have f16 := f15.sub (sc 18 sn)
  refine wp_ret ?_
  try simp only [Exit.inBlock, Exit.then]
  refine C.ret (P := Tryd.prog) (fn := Tryd.f8) f16 rfl rfl ?_
  exact ⟨HK, rfl⟩
 refine L.mv f12 (hw := (f12.yes rfl rfl)) fun a13 f13 => ?_
 refine L.va f13 (E.lenL f13 U22 rfl) (hw := (f13.yes rfl rfl)) fun a14 f14 => ?_
 refine L.va f14 (E.gtr f14 rfl rfl) (hw := (f14.yes rfl rfl)) fun a15 f15 => ?_
 refine L.va f15 (E.pickF f15 rfl rfl) fun a16 f16 => ?_
 refine wpList_nil (hK4 _ _ ?_)
 have f17 := f16.sub (sc 0 (sc 1 (sc 2 (sc 3 (sc 4 (sc 5 (sc 6 (sc 7 (sc 8 (sc 37 sn))))))))))
 clear f11 f12 a11 f13 a13 f14 a14 f15 a15 f16
 refine f17.splitD 37 rfl (fun h1 f18 => ?_) (fun h1 f18 => ?_)
 ·refine C.condT f18 rfl ?_
  refine wp_seq_k fun K6 hK6 => C.region ?_
  refine L.ag f18 fun a19 f19 => ?_
  refine wpList_nil (hK6 _ _ ?_)
  have f20 := f19.sub (sc 18 sn)
  refine wp_ret ?_
  try simp only [Exit.inBlock, Exit.then]
  refine C.ret (P := Tryd.prog) (fn := Tryd.f8) f20 rfl rfl ?_
  exact ⟨HK, rfl⟩
 refine C.condF f18 rfl ?_
 refine wp_skip (hK3 _ _ ?_)
 have f19 := f18.sub (sc 0 (sc 1 (sc 2 (sc 3 (sc 4 (sc 5 (sc 6 (sc 7 (sc 8 sn)))))))))
 refine wp_seq_k fun K7 hK7 => C.region ?_
 refine L.mv f19 fun a20 f20 => ?_
 refine L.mv f20 fun a21 f21 => ?_
 refine L.mv f21 fun a22 f22 => ?_
 refine L.va f22 (E.conv f22 U43 U3 rfl (IntWalk.i64_in _ (by omega))) fun a23 f23 => ?_
 refine L.mv f23 fun a24 f24 => ?_
 refine L.mv f24 fun a25 f25 => ?_
 clear f17 f18 f19 a16 f20 a20 f21 a21 f22 a22 f23 a23 f24 a24
 refine L.mv f25 fun a26 f26 => ?_
 refine L.va f26 (E.build f26 (parts8 f26 rfl rfl rfl rfl rfl rfl rfl rfl) (wbl28_0_7_8_9_10_11_13_14_xd _ _ _ _ _ _ _ _)) fun a27 f27 => ?_
 refine L.alloc f27 wantedN (by decide) (z := (.agg #[(.int .i64 0), (.bool false), (.bool false), (.int .i64 0), (.int .i64 0), (.string ⟨#[]⟩), (.slice none 0 0), (.int .i64 0), (.string ⟨#[]⟩), (.bool false), (.int .i64 0), (.bool false), (.string ⟨#[]⟩), (.slice none 0 0), (.int .i64 0), (.bool false), (.bool false), (.bool false), (.string ⟨#[]⟩), (.slice none 0 0), (.bool false), (.int .i64 0), (.slice none 0 0), (.slice none 0 0)])) (fun _ => by kernel_rfl) rfl fun a28 w2 g1 N1 f28 => ?_
 have Bg1 := N1.blk
 have kg1 := N1.kept
 have log1 := N1.lo
 have ltg1 := Bg1.lt
 have szw2 := kg1.size
 have frg1 : w.heap.size ≤ g1 := Nat.le_trans HK.size log1
 replace HK := HK.trans kg1 (by simp)
 clear N1 kg1
 refine L.storeR f28 wantedN wsz28_xd rfl rfl rfl Bg1 rfl rfl fun a29 w3 f29 NB3 ks3 => ?_
 have szw3 := ks3.size
 replace HK := HK.trans ks3 (ktr (by omega))
 replace Bg1 := NB3
 clear ks3 f28 a28
 refine wpList_nil (hK7 _ _ ?_)
 have f30 := f29.sub (sc 0 (sc 3 (sc 4 (sc 5 (sc 6 (sc 7 (sc 8 (sc 19 sn))))))))
 obtain ⟨J8, hJ8⟩ : ∃ J : Act → World → Prop, J = fun a W => ∃ (gq : Nat) (p : Pk) (sp : Ad), p = conW client keep clean will user pass retain qos x ∧ sp = AdW will A cx ∧ Kept [] w W ∧ w.heap.size ≤ gq ∧ Blk W gq 28 (p.cells sp) ∧ Fr 118 a [(0, .string client), (4, .bool user), (5, .bool pass), (8, .slice A x.length cx), (19, .pointer (some ⟨gq, 0, none⟩))] := ⟨_, rfl⟩
 clear f25 a25 f26 a26 f27 a27 f29
 refine C.cut J8 ?_ ?_
 ·skip
  refine wp_seq_k fun K8 hK8 => C.region ?_
  refine L.mv f30 fun a31 f31 => ?_
  refine wpList_nil (hK8 _ _ ?_)
  have f32 := f31.sub (sc 0 (sc 4 (sc 5 (sc 6 (sc 7 (sc 8 (sc 19 (sc 46 sn))))))))
  clear f30 a29 f31
  refine f32.split 46 rfl (fun h2 f33 => ?_) (fun h2 f33 => ?_)
  ·clear f32
   subst h2
   refine C.condT f33 rfl ?_
   refine C.region ?_
   refine L.mv f33 fun a34 f34 => ?_
   refine L.mv f34 fun a35 f35 => ?_
   refine L.va f35 (E.rem f35 rfl rfl (by omega) (Int.tmod_eq_emod_of_nonneg (by omega))) fun a36 f36 => ?_
   refine L.va f36 (E.conv f36 U5 U3 rfl (IntWalk.i64_in _ (by omega))) fun a37 f37 => ?_
   refine L.mv f37 fun a38 f38 => ?_
   refine L.va f38 (E.build f38 (parts4 f38 rfl rfl rfl rfl) (wbl24_0_1_2_3_xd _ _ _ _ _ _)) fun a39 f39 => ?_
   refine L.fa 12 f39 U28 rfl wsz24_xd fun a40 f40 => ?_
   clear f33 a31 f34 a34 f35 a35 f36 a36 f37 a37 f38 a38 f39 a39
   refine L.storeSeg f40 wantedN wsz24_xd rfl rfl rfl Bg1 (Nat.le_of_ble_eq_true rfl) rfl fun a41 w4 f41 NB4 ks4 => ?_
   have szw4 := ks4.size
   replace HK := HK.trans ks4 (ktr (by omega))
   replace Bg1 := NB4
   simp only [setSeg, List.set_cons_zero, List.set_cons_succ, Nat.reduceAdd, Nat.zero_add] at Bg1
   clear ks4 f40 a40
   exact wpList_nil (then_of (J := J8) (Q := fun _ _ _ => True) (by rw [hJ8]; exact ⟨g1, conW client keep clean true user pass retain qos x, AdW true A cx, rfl, rfl, HK, by omega, Bg1, f41.sub (sub_cons rfl (sub_cons rfl (sub_cons rfl (sub_cons rfl (sub_cons rfl sn)))))⟩))
  clear f32
  subst h2
  refine C.condF f33 rfl ?_
  exact wp_skip (then_of (J := J8) (Q := fun _ _ _ => True) (by rw [hJ8]; exact ⟨g1, conW client keep clean false user pass retain qos x, AdW false A cx, rfl, rfl, HK, by omega, Bg1, f33.sub (sub_cons rfl (sub_cons rfl (sub_cons rfl (sub_cons rfl (sub_cons rfl sn)))))⟩))
 intro a31 w4 hj
 rw [hJ8] at hj
 clear hJ8 J8
 obtain ⟨gq, p, sp, hp, hsp, HK, hgq, BQ, f31⟩ := hj
 try clear f30
 replace BQ : Blk w4 gq 28 #[.int .i64 p.kind, .bool p.dup, .bool p.retain, .int .i64 p.qos, .int .i64 p.id, .string p.topic, .slice sp.pa p.pay.length sp.pc, .int .i64 p.level, .string p.client, .bool p.clean, .int .i64 p.keep, .bool p.hasWill, .string p.wt, .slice sp.wa p.wp.length sp.wc, .int .i64 p.wq, .bool p.wr, .bool p.hasUser, .bool p.hasPass, .string p.user, .slice sp.sa p.pass.length sp.sc, .bool p.present, .int .i64 p.code, .slice sp.ua p.subs.length sp.uc, .slice sp.ca p.codes.length sp.cc] := BQ
 obtain ⟨J10, hJ10⟩ : ∃ J : Act → World → Prop, J = fun a W => ∃ (p1 : Pk), p1 = conU user client p ∧ Kept [] w W ∧ Blk W gq 28 (p1.cells sp) ∧ Fr 118 a [(5, .bool pass), (8, .slice A x.length cx), (19, .pointer (some ⟨gq, 0, none⟩))] := ⟨_, rfl⟩
 refine C.cut J10 ?_ ?_
 ·skip
  refine wp_seq_k fun K9 hK9 => C.region ?_
  refine L.mv f31 fun a32 f32 => ?_
  refine wpList_nil (hK9 _ _ ?_)
  have f33 := f32.sub (sc 0 (sc 5 (sc 8 (sc 19 (sc 54 sn)))))
  clear f31 a31 f32
  refine f33.split 54 rfl (fun h3 f34 => ?_) (fun h3 f34 => ?_)
  ·clear f33
   subst h3
   refine C.condT f34 rfl ?_
   refine C.region ?_
   refine L.mv f34 fun a35 f35 => ?_
   refine L.fa 18 f35 U28 rfl wsz9_xd fun a36 f36 => ?_
   refine L.store f36 wantedN wsz9_xd rfl rfl rfl BQ (by (simp [Value.cells]; done)) fun a37 w5 f37 NB5 ks5 => ?_
   have szw5 := ks5.size
   replace HK := HK.trans ks5 (ktr (by omega))
   replace BQ := NB5
   simp only [Value.cells, z1, z2, z3, Nat.reduceAdd, Nat.zero_add] at BQ
   clear ks5 f36 a36
   exact wpList_nil (then_of (J := J10) (Q := fun _ _ _ => True) (by rw [hJ10]; exact ⟨{ p with user := client }, rfl, HK, BQ, f37.sub (sub_cons rfl (sub_cons rfl (sub_cons rfl sn)))⟩))
  clear f33
  subst h3
  refine C.condF f34 rfl ?_
  exact wp_skip (then_of (J := J10) (Q := fun _ _ _ => True) (by rw [hJ10]; exact ⟨p, rfl, HK, BQ, f34.sub (sub_cons rfl (sub_cons rfl (sub_cons rfl sn)))⟩))
 intro a32 w5 hj
 rw [hJ10] at hj
 clear hJ10 J10
 obtain ⟨p1, hp1, HK, BQ, f32⟩ := hj
 try clear f31
 replace BQ : Blk w5 gq 28 #[.int .i64 p1.kind, .bool p1.dup, .bool p1.retain, .int .i64 p1.qos, .int .i64 p1.id, .string p1.topic, .slice sp.pa p1.pay.length sp.pc, .int .i64 p1.level, .string p1.client, .bool p1.clean, .int .i64 p1.keep, .bool p1.hasWill, .string p1.wt, .slice sp.wa p1.wp.length sp.wc, .int .i64 p1.wq, .bool p1.wr, .bool p1.hasUser, .bool p1.hasPass, .string p1.user, .slice sp.sa p1.pass.length sp.sc, .bool p1.present, .int .i64 p1.code, .slice sp.ua p1.subs.length sp.uc, .slice sp.ca p1.codes.length sp.cc] := BQ
 obtain ⟨J12, hJ12⟩ : ∃ J : Act → World → Prop, J = fun a W => ∃ (p2 : Pk) (sp2 : Ad), p2 = conS pass x p1 ∧ sp2 = AdS pass A cx sp ∧ Kept [] w W ∧ Blk W gq 28 (p2.cells sp2) ∧ Fr 118 a [(19, .pointer (some ⟨gq, 0, none⟩))] := ⟨_, rfl⟩
 refine C.cut J12 ?_ ?_
 ·skip
  refine wp_seq_k fun K10 hK10 => C.region ?_
  refine L.mv f32 fun a33 f33 => ?_
  refine wpList_nil (hK10 _ _ ?_)
  have f34 := f33.sub (sc 8 (sc 19 (sc 57 sn)))
  clear f32 a32 f33
  refine f34.split 57 rfl (fun h4 f35 => ?_) (fun h4 f35 => ?_)
  ·clear f34
   subst h4
   refine C.condT f35 rfl ?_
   refine C.region ?_
   refine L.mv f35 fun a36 f36 => ?_
   refine L.fa 19 f36 U28 rfl wsz22_xd fun a37 f37 => ?_
   refine L.store f37 wantedN wsz22_xd rfl rfl rfl BQ (by (simp [Value.cells]; done)) fun a38 w6 f38 NB6 ks6 => ?_
   have szw6 := ks6.size
   replace HK := HK.trans ks6 (ktr (by omega))
   replace BQ := NB6
   simp only [Value.cells, z1, z2, z3, Nat.reduceAdd, Nat.zero_add] at BQ
   clear ks6 f37 a37
   exact wpList_nil (then_of (J := J12) (Q := fun _ _ _ => True) (by rw [hJ12]; exact ⟨{ p1 with pass := x }, { sp with sa := A, sc := cx }, rfl, rfl, HK, BQ, f38.sub (sub_cons rfl sn)⟩))
  clear f34
  subst h4
  refine C.condF f35 rfl ?_
  exact wp_skip (then_of (J := J12) (Q := fun _ _ _ => True) (by rw [hJ12]; exact ⟨p1, sp, rfl, rfl, HK, BQ, f35.sub (sub_cons rfl sn)⟩))
 intro a33 w6 hj
 rw [hJ12] at hj
 clear hJ12 J12
 obtain ⟨p2, sp2, hp2, hsp2, HK, BQ, f33⟩ := hj
 try clear f32
 have IP : p2.In w6 sp2 := by rw [hp2, hsp2, hp1, hp, hsp]; exact con_in (SX.kept HK)
 have hpl : p2.Len := by rw [hp2, hp1, hp]; exact con_len (by omega) (by omega)
 have hk1 : p2.kind = 1 := by rw [hp2, hp1, hp]; exact con_kind
 have hnm := con_name hk1
 clear hp2 hsp2 hp1 hp hsp
 refine wp_seq_k fun K11 hK11 => C.region ?_
 refine L.va f33 (by exact E.loadB f33 U28 rfl wsz28_xd rfl (BQ) rfl) fun a34 f34 => ?_
 refine L.cl f34 (run_call Tryd.call17 (args1 f34 rfl)) (wput_any p2 sp2 _ IP hpl (hT.old (HK.below (by simp) (Nat.le_refl _)))) ?_
 clear f33 a33
 rintro e w7 ⟨kc7, AF8, cF8, rfl, F8⟩
 refine ⟨_, rfl, fun a35 f35 => ?_⟩
 have szw7 := kc7.size
 replace HK := HK.trans kc7 (by simp)
 replace BQ := BQ.kept kc7 (by simp)
 replace IP := IP.kept kc7
 clear kc7
 refine L.mv f35 fun a36 f36 => ?_
 refine L.va f36 (E.extract f36 rfl rfl) fun a37 f37 => ?_
 refine L.va f37 (E.extract f37 rfl rfl) fun a38 f38 => ?_
 refine L.ag f38 fun a39 f39 => ?_
 refine L.ag f39 fun a40 f40 => ?_
 refine wpList_nil (hK11 _ _ ?_)
 have f41 := f40.sub (sc 19 (sc 20 (sc 21 sn)))
 refine wp_seq_k fun K12 hK12 => C.region ?_
 refine L.va f41 (by exact E.loadB f41 U28 rfl wsz28_xd rfl (BQ) rfl) fun a42 f42 => ?_
 clear f34 a34 f35 a35 f36 a36 f37 a37 f38 a38 f39 a39 f40 f41 a40
 refine L.cl f42 (run_call Tryd.call18 (args1 f42 rfl)) (wputR_any p2 sp2 _ IP hpl (hT.old (HK.below (by simp) (Nat.le_refl _)))) ?_
 rintro e w8 ⟨kc8, AF9, cF9, rfl, F9⟩
 refine ⟨_, rfl, fun a43 f43 => ?_⟩
 have szw8 := kc8.size
 replace HK := HK.trans kc8 (by simp)
 replace BQ := BQ.kept kc8 (by simp)
 replace IP := IP.kept kc8
 replace F8 := F8.kept0 kc8
 clear kc8
 refine L.mv f43 fun a44 f44 => ?_
 refine L.va f44 (E.extract f44 rfl rfl) fun a45 f45 => ?_
 refine L.va f45 (E.extract f45 rfl rfl) fun a46 f46 => ?_
 refine L.ag f46 fun a47 f47 => ?_
 refine L.ag f47 fun a48 f48 => ?_
 refine wpList_nil (hK12 _ _ ?_)
 have f49 := f48.sub (sc 19 (sc 20 (sc 21 (sc 22 (sc 23 sn)))))
 refine wp_seq_k fun K13 hK13 => ?_
 refine wp_seq_k fun K14 hK14 => C.region ?_
 refine L.mv f49 fun a50 f50 => ?_
 clear f42 a42 f43 a43 f44 a44 f45 a45 f46 a46 f47 a47 f48 f49 a48
 refine L.mv f50 fun a51 f51 => ?_
 refine L.va f51 (E.neq f51 rfl rfl) fun a52 f52 => ?_
 refine L.mv f52 fun a53 f53 => ?_
 have f54 := f53.as (i := 73) (v' := .bool false) rfl (by simp)
 refine L.mv f54 (hw := (f54.yes rfl rfl)) fun a55 f55 => ?_
 refine L.va f55 (E.toStr f55 rfl U22 U5 U9 (F8.sl)) (hw := (f55.yes rfl rfl)) fun a56 f56 => ?_
 refine L.mv f56 (hw := (f56.yes rfl rfl)) fun a57 f57 => ?_
 refine L.va f57 (E.toStr f57 rfl U22 U5 U9 (F9.sl)) (hw := (f57.yes rfl rfl)) fun a58 f58 => ?_
 clear f50 a50 f51 a51 f52 a52 f53 f54 a53 f55 a55 f56 a56 f57 a57
 refine L.va f58 (E.neqS f58 rfl rfl) (hw := (f58.yes rfl rfl)) fun a59 f59 => ?_
 refine L.va f59 (E.pickF f59 rfl rfl) fun a60 f60 => ?_
 have f61 := f60.as (i := 79) (v' := .bool false) rfl (by simp)
 refine wpList_nil (hK14 _ _ ?_)
 have f62 := f61.sub (sc 19 (sc 20 (sc 23 (sc 79 sn))))
 refine C.condF f62 rfl ?_
 refine wp_skip (hK13 _ _ ?_)
 have f63 := f62.sub (sc 19 (sc 20 (sc 23 sn)))
 refine wp_seq_k fun K15 hK15 => ?_
 refine wp_seq_k fun K16 hK16 => C.region ?_
 refine L.mv f63 fun a64 f64 => ?_
 refine L.va f64 (E.neq f64 rfl rfl) fun a65 f65 => ?_
 refine wpList_nil (hK16 _ _ ?_)
 have f66 := f65.sub (sc 19 (sc 20 (sc 81 sn)))
 clear f58 a58 f59 a59 f60 f61 f62 f63 a60 f64 a64 f65
 refine f66.splitN 81 rfl (fun h5 f67 => ?_) (fun h5 f67 => ?_)
 ·refine C.condT f67 rfl ?_
  refine wp_seq_k fun K17 hK17 => C.region ?_
  refine L.ag f67 fun a68 f68 => ?_
  refine wpList_nil (hK17 _ _ ?_)
  have f69 := f68.sub (sc 18 sn)
  refine wp_ret ?_
  try simp only [Exit.inBlock, Exit.then]
  refine C.ret (P := Tryd.prog) (fn := Tryd.f8) f69 rfl rfl ?_
  exact ⟨HK, rfl⟩
 refine C.condF f67 rfl ?_
 refine wp_skip (hK15 _ _ ?_)
 have f68 := f67.sub (sc 19 (sc 20 sn))
 refine wp_seq_k fun K18 hK18 => C.region ?_
 refine L.mv f68 fun a69 f69 => ?_
 have hr : rightB p2 = true := putB_0 (by omega)
 have hpe := putB_t hr
 have hex : readP (putB p2).1 = (p2, ((putB p2).1.length : Int), 0) := by rw [hpe]; have h := read_enc (rightB_iff.1 hr) []; rw [List.append_nil] at h; exact h
 have hlE : (putB p2).1.length ≤ 1000000 := by rw [hpe]; exact con_le (rightB_iff.1 hr)
 have hC := (wread_any (putB p2).1 AF8 cF8 w8 F8.sl (own_cap F8.own) hlE (hT.old (HK.below (by simp) (Nat.le_refl _)))).mono (fun _ _ h => readV_of (v := (p2, ((putB p2).1.length : Int), 0)) hex h)
 refine L.cl f69 (run_call Tryd.call23 (args1 f69 rfl)) hC ?_
 clear f66 f67 f68 a65
 rintro e w9 ⟨kc9, hpl9, ss, rfl, IN⟩
 refine ⟨_, rfl, fun a70 f70 => ?_⟩
 have szw9 := kc9.size
 replace HK := HK.trans kc9 (by simp)
 replace BQ := BQ.kept kc9 (by simp)
 replace IP := IP.kept kc9
 replace F8 := F8.kept0 kc9
 replace F9 := F9.kept0 kc9
 clear kc9
 refine L.mv f70 fun a71 f71 => ?_
 refine L.va f71 (E.extract f71 rfl rfl) fun a72 f72 => ?_
 refine L.va f72 (E.extract f72 rfl rfl) fun a73 f73 => ?_
 refine L.va f73 (E.extract f73 rfl rfl) fun a74 f74 => ?_
 refine L.alloc f74 wantedN (by decide) (z := (.agg #[(.int .i64 0), (.bool false), (.bool false), (.int .i64 0), (.int .i64 0), (.string ⟨#[]⟩), (.slice none 0 0), (.int .i64 0), (.string ⟨#[]⟩), (.bool false), (.int .i64 0), (.bool false), (.string ⟨#[]⟩), (.slice none 0 0), (.int .i64 0), (.bool false), (.bool false), (.bool false), (.string ⟨#[]⟩), (.slice none 0 0), (.bool false), (.int .i64 0), (.slice none 0 0), (.slice none 0 0)])) (fun _ => by kernel_rfl) rfl fun a75 w10 g9 N9 f75 => ?_
 have Bg9 := N9.blk
 have kg9 := N9.kept
 have log9 := N9.lo
 have ltg9 := Bg9.lt
 have szw10 := kg9.size
 have frg9 : w.heap.size ≤ g9 := Nat.le_trans HK.size log9
 have negq_g9 : gq ≠ g9 := by have := BQ.lt; omega
 have FIg9_IP := IP.far log9
 have FIg9_IN := IN.far log9
 replace HK := HK.trans kg9 (by simp)
 replace BQ := BQ.kept kg9 (by simp)
 replace IP := IP.kept kg9
 replace F8 := F8.kept0 kg9
 replace F9 := F9.kept0 kg9
 replace IN := IN.kept kg9
 clear N9 kg9
 refine L.storeR f75 wantedN wsz28_xd rfl rfl rfl Bg9 rfl rfl fun a76 w11 f76 NB11 ks11 => ?_
 have szw11 := ks11.size
 replace HK := HK.trans ks11 (ktr (by omega))
 replace BQ := BQ.kept ks11 (by simp; omega)
 replace IP := IP.keptF ks11 FIg9_IP
 replace F8 := F8.keptB ks11 Bg9 (by decide)
 replace F9 := F9.keptB ks11 Bg9 (by decide)
 replace IN := IN.keptF ks11 FIg9_IN
 replace Bg9 := NB11
 clear ks11 f75 a75
 refine L.ag f76 fun a77 f77 => ?_
 clear f69 a69 f70 a70 f71 a71 f72 a72 f73 a73 f74 a74 f76 a76
 refine L.ag f77 fun a78 f78 => ?_
 refine wpList_nil (hK18 _ _ ?_)
 have f79 := f78.sub (sc 19 (sc 20 (sc 24 (sc 25 (sc 26 sn)))))
 refine wp_seq_k fun K19 hK19 => C.region ?_
 refine L.ag f79 fun a80 f80 => ?_
 refine wpList_nil (hK19 _ _ ?_)
 have f81 := f80.sub (sc 19 (sc 20 (sc 24 (sc 25 (sc 26 (sc 27 sn))))))
 refine wp_seq_k fun K20 hK20 => ?_
 refine wp_seq_k fun K21 hK21 => C.region ?_
 refine L.mv f81 fun a82 f82 => ?_
 refine L.va f82 (E.lenL f82 U22 rfl) fun a83 f83 => ?_
 refine L.va f83 (E.gtr f83 rfl rfl) fun a84 f84 => ?_
 refine wpList_nil (hK21 _ _ ?_)
 have f85 := f84.sub (sc 19 (sc 20 (sc 24 (sc 25 (sc 26 (sc 27 (sc 90 sn)))))))
 clear f77 a77 f78 f79 a78 f80 f81 a80 f82 a82 f83 a83 f84
 refine f85.splitD 90 rfl (fun h6 f86 => ?_) (fun h6 f86 => ?_)
 ·refine C.condT f86 rfl ?_
  refine C.region ?_
  refine L.ag f86 fun a87 f87 => ?_
  refine wpList_nil (hK20 _ _ ?_)
  have f88 := f87.sub (sc 19 (sc 20 (sc 24 (sc 25 (sc 26 (sc 27 sn))))))
  refine wp_seq_k fun K22 hK22 => ?_
  have hcc := own_cap F8.own
  obtain ⟨h12, h6⟩ := hnm (rightB_iff.1 hr)
  have hln : (putB p2).1.length = (encL p2).length := by rw [hpe]
  have hq6 : ((putB p2).1.drop 3).take 6 = [0, 4, 77, 81, 84, 84] := by rw [if_pos (by omega)] at h6; rw [hpe]; exact h6
  refine C.region ?_
  refine L.mv f88 fun a89 f89 => ?_
  refine L.va f89 (E.eq f89) fun a90 f90 => ?_
  have f91 := f90.as (i := 92) (v' := .bool true) rfl (by simp)
  refine L.mv f91 fun a92 f92 => ?_
  refine L.mv f92 (hw := (f92.yes rfl rfl)) fun a93 f93 => ?_
  refine L.mv f93 (hw := (f93.yes rfl rfl)) fun a94 f94 => ?_
  clear f85 f86 a84 f87 f88 a87 f89 a89 f90 f91 a90 f92 a92 f93 a93
  refine L.va f94 (E.lenL f94 U22 rfl) (hw := (f94.yes rfl rfl)) fun a95 f95 => ?_
  refine L.va f95 (E.eq f95) (hw := (f95.yes rfl rfl)) fun a96 f96 => ?_
  have f97 := f96.as (i := 97) (v' := .bool true) rfl (by simp)
  refine L.va f97 (E.pickT f97 rfl rfl) fun a98 f98 => ?_
  refine L.mv f98 fun a99 f99 => ?_
  refine L.va f99 (by exact E.loadB f99 U28 rfl wsz28_xd rfl (BQ) rfl) (hw := (f99.yes rfl rfl)) fun a100 f100 => ?_
  refine L.va f100 (by exact E.loadB f100 U28 rfl wsz28_xd rfl (Bg9) rfl) (hw := (f100.yes rfl rfl)) fun a101 f101 => ?_
  refine L.cl f101 (run_call Tryd.call22 (args2 f101 rfl rfl)) (sameR_any p2 p2 sp2 ss _ IP IN hpl.subs hpl.codes) ?_ (hw := (f101.yes rfl rfl))
  clear f94 a94 f95 a95 f96 f97 a96 f98 a98 f99 a99 f100 a100
  rintro e w12 ⟨kc12, rfl⟩
  refine ⟨_, rfl, fun a102 f102 => ?_⟩
  have szw12 := kc12.size
  replace HK := HK.trans kc12 (by simp)
  replace BQ := BQ.kept kc12 (by simp)
  replace IP := IP.kept kc12
  replace F8 := F8.kept0 kc12
  replace F9 := F9.kept0 kc12
  replace IN := IN.kept kc12
  replace Bg9 := Bg9.kept kc12 (by simp)
  clear kc12
  have f103 := f102.as (i := 102) (v' := .bool true) rfl (by rw [samePk_iff.2 rfl])
  refine L.va f103 (E.pickT f103 rfl rfl) fun a104 f104 => ?_
  refine L.mv f104 fun a105 f105 => ?_
  refine L.mv f105 (hw := (f105.yes rfl rfl)) fun a106 f106 => ?_
  refine L.va f106 (E.lenL f106 U22 rfl) (hw := (f106.yes rfl rfl)) fun a107 f107 => ?_
  refine L.va f107 (E.gtr f107 rfl rfl) (hw := (f107.yes rfl rfl)) fun a108 f108 => ?_
  have f109 := f108.as (i := 107) (v' := .bool true) rfl (by rw [hpe]; exact con_d h12)
  clear f101 a101 f102 f103 a102 f104 a104 f105 a105 f106 a106 f107 a107 f108
  refine L.va f109 (E.pickT f109 rfl rfl) fun a110 f110 => ?_
  refine L.mv f110 fun a111 f111 => ?_
  refine L.mv f111 (hw := (f111.yes rfl rfl)) fun a112 f112 => ?_
  refine L.mv f112 (hw := (f112.yes rfl rfl)) fun a113 f113 => ?_
  refine L.mv f113 (hw := (f113.yes rfl rfl)) fun a114 f114 => ?_
  refine L.va f114 (E.add f114 rfl rfl (IntWalk.i64_in _ (by omega))) (hw := (f114.yes rfl rfl)) fun a115 f115 => ?_
  refine L.va f115 (E.slL f115 U22 wsz5_xd rfl rfl rfl (by omega) (by omega) (by omega) ) (hw := (f115.yes rfl rfl)) fun a116 f116 => ?_
  clear f109 a108 f110 a110 f111 a111 f112 a112 f113 a113 f114 a114 f115 a115
  refine L.va f116 (E.toStr f116 rfl U22 U5 U9 (con_sl F8.sl (own_cap F8.own) ⟨by omega, by omega, by omega⟩)) (hw := (f116.yes rfl rfl)) fun a117 f117 => ?_
  refine L.va f117 (E.eqlS f117 rfl rfl) (hw := (f117.yes rfl rfl)) fun a118 f118 => ?_
  have f119 := f118.as (i := 116) (v' := .bool true) rfl (by exact con_nm hq6)
  refine L.va f119 (E.pickT f119 rfl rfl) fun a120 f120 => ?_
  refine L.ag f120 fun a121 f121 => ?_
  refine wpList_nil (hK22 _ _ ?_)
  have f122 := f121.sub (sc 18 sn)
  refine wp_ret ?_
  try simp only [Exit.inBlock, Exit.then]
  refine C.ret (P := Tryd.prog) (fn := Tryd.f8) f122 rfl rfl ?_
  exact ⟨HK, rfl⟩
 refine C.condF f86 rfl ?_
 refine wp_skip (hK20 _ _ ?_)
 have f87 := f86.sub (sc 19 (sc 20 (sc 24 (sc 25 (sc 26 (sc 27 sn))))))
 refine wp_seq_k fun K23 hK23 => ?_
 have hcc := own_cap F8.own
 obtain ⟨h12, h6⟩ := hnm (rightB_iff.1 hr)
 have hln : (putB p2).1.length = (encL p2).length := by rw [hpe]
 have hq6 : ((putB p2).1.drop 2).take 6 = [0, 4, 77, 81, 84, 84] := by rw [if_neg (by omega)] at h6; rw [hpe]; exact h6
 refine C.region ?_
 refine L.mv f87 fun a88 f88 => ?_
 refine L.va f88 (E.eq f88) fun a89 f89 => ?_
 have f90 := f89.as (i := 92) (v' := .bool true) rfl (by simp)
 refine L.mv f90 fun a91 f91 => ?_
 refine L.mv f91 (hw := (f91.yes rfl rfl)) fun a92 f92 => ?_
 refine L.mv f92 (hw := (f92.yes rfl rfl)) fun a93 f93 => ?_
 refine L.va f93 (E.lenL f93 U22 rfl) (hw := (f93.yes rfl rfl)) fun a94 f94 => ?_
 clear f85 f86 f87 a84 f88 a88 f89 f90 a89 f91 a91 f92 a92 f93 a93
 refine L.va f94 (E.eq f94) (hw := (f94.yes rfl rfl)) fun a95 f95 => ?_
 have f96 := f95.as (i := 97) (v' := .bool true) rfl (by simp)
 refine L.va f96 (E.pickT f96 rfl rfl) fun a97 f97 => ?_
 refine L.mv f97 fun a98 f98 => ?_
 refine L.va f98 (by exact E.loadB f98 U28 rfl wsz28_xd rfl (BQ) rfl) (hw := (f98.yes rfl rfl)) fun a99 f99 => ?_
 refine L.va f99 (by exact E.loadB f99 U28 rfl wsz28_xd rfl (Bg9) rfl) (hw := (f99.yes rfl rfl)) fun a100 f100 => ?_
 refine L.cl f100 (run_call Tryd.call22 (args2 f100 rfl rfl)) (sameR_any p2 p2 sp2 ss _ IP IN hpl.subs hpl.codes) ?_ (hw := (f100.yes rfl rfl))
 clear f94 a94 f95 f96 a95 f97 a97 f98 a98 f99 a99
 rintro e w12 ⟨kc12, rfl⟩
 refine ⟨_, rfl, fun a101 f101 => ?_⟩
 have szw12 := kc12.size
 replace HK := HK.trans kc12 (by simp)
 replace BQ := BQ.kept kc12 (by simp)
 replace IP := IP.kept kc12
 replace F8 := F8.kept0 kc12
 replace F9 := F9.kept0 kc12
 replace IN := IN.kept kc12
 replace Bg9 := Bg9.kept kc12 (by simp)
 clear kc12
 have f102 := f101.as (i := 102) (v' := .bool true) rfl (by rw [samePk_iff.2 rfl])
 refine L.va f102 (E.pickT f102 rfl rfl) fun a103 f103 => ?_
 refine L.mv f103 fun a104 f104 => ?_
 refine L.mv f104 (hw := (f104.yes rfl rfl)) fun a105 f105 => ?_
 refine L.va f105 (E.lenL f105 U22 rfl) (hw := (f105.yes rfl rfl)) fun a106 f106 => ?_
 refine L.va f106 (E.gtr f106 rfl rfl) (hw := (f106.yes rfl rfl)) fun a107 f107 => ?_
 have f108 := f107.as (i := 107) (v' := .bool true) rfl (by rw [hpe]; exact con_d h12)
 clear f100 a100 f101 f102 a101 f103 a103 f104 a104 f105 a105 f106 a106 f107
 refine L.va f108 (E.pickT f108 rfl rfl) fun a109 f109 => ?_
 refine L.mv f109 fun a110 f110 => ?_
 refine L.mv f110 (hw := (f110.yes rfl rfl)) fun a111 f111 => ?_
 refine L.mv f111 (hw := (f111.yes rfl rfl)) fun a112 f112 => ?_
 refine L.mv f112 (hw := (f112.yes rfl rfl)) fun a113 f113 => ?_
 refine L.va f113 (E.add f113 rfl rfl (IntWalk.i64_in _ (by omega))) (hw := (f113.yes rfl rfl)) fun a114 f114 => ?_
 refine L.va f114 (E.slL f114 U22 wsz5_xd rfl rfl rfl (by omega) (by omega) (by omega) ) (hw := (f114.yes rfl rfl)) fun a115 f115 => ?_
 clear f108 a107 f109 a109 f110 a110 f111 a111 f112 a112 f113 a113 f114 a114
 refine L.va f115 (E.toStr f115 rfl U22 U5 U9 (con_sl F8.sl (own_cap F8.own) ⟨by omega, by omega, by omega⟩)) (hw := (f115.yes rfl rfl)) fun a116 f116 => ?_
 refine L.va f116 (E.eqlS f116 rfl rfl) (hw := (f116.yes rfl rfl)) fun a117 f117 => ?_
 have f118 := f117.as (i := 116) (v' := .bool true) rfl (by exact con_nm hq6)
 refine L.va f118 (E.pickT f118 rfl rfl) fun a119 f119 => ?_
 refine L.ag f119 fun a120 f120 => ?_
 refine wpList_nil (hK23 _ _ ?_)
 have f121 := f120.sub (sc 18 sn)
 refine wp_ret ?_
 try simp only [Exit.inBlock, Exit.then]
 refine C.ret (P := Tryd.prog) (fn := Tryd.f8) f121 rfl rfl ?_
 exact ⟨HK, rfl⟩
end Go.Proofs.YtigjafbbnocihaaDoor
namespace Go.Proofs.YtigjafbbnocihaaDoor
open Go.RowKit Go.Hub Go.Lib Go.Shelf Go.ChangeShapes Go.WideShapes Go.Deep
theorem limits_row {k0 k1 : Int} {w : World} (hT : Tabs w) (w0 : (Lit.int .u8 k0).wf = true) (w1 : (Lit.int .u8 k1).wf = true) : Calls Tryd.prog 5 #[.int .u8 k0, .int .u8 k1] w fun e w' => e = .returned (.bool true) ∧ Below w.heap.size w w' :=
  (limits_walk k0 k1 w hT (bd8 w0) (bd8 w1)).mono fun _ _ => end_of
theorem bd16 {k : Int} (h : (Lit.int .u16 k).wf = true) : 0 ≤ k ∧ k < 65536 := by have := bd_u16 h; omega
theorem connects_row {s : ByteArray} {k q : Int} {b1 b2 b3 b4 b5 : Bool} {v : Value} {w : World} (hT : Tabs w) (w1 : (Lit.int .u16 k).wf = true) (w7 : (Lit.int .u8 q).wf = true) (h : IsBs w v) : Calls Tryd.prog 8 #[.string s, .int .u16 k, .bool b1, .bool b2, .bool b3, .bool b4, .bool b5, .int .u8 q, v] w fun e w' => e = .returned (.bool true) ∧ Below w.heap.size w w' := by
  obtain ⟨us, A, c, rfl, h, _⟩ := h
  exact (connects_walk s k b1 b2 b3 b4 b5 q us A c w hT h (bd16 w1) (bd8 w7)).mono fun _ _ => end_of
end Go.Proofs.YtigjafbbnocihaaDoor
