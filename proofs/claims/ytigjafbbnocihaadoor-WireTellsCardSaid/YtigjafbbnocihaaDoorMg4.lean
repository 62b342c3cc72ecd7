/- Merged by program (shrink.py): contracts and plain laws that the claim's statement uses, part 4. -/
import Derived.Test.YtigjafbbnocihaaDoorMg3
set_option linter.all false

namespace Go.Proofs.YtigjafbbnocihaaDoor
open Go.RowKit Go.Hub Go.Lib Go.Vl
theorem wsz3_we : (Tryd.prog.info? 3).map (·.size) = some 1 := by kernel_rfl
theorem wsz4_we : (Tryd.prog.info? 4).map (·.size) = some 1 := by kernel_rfl
theorem wsz28_we : (Tryd.prog.info? 28).map (·.size) = some 24 := by kernel_rfl
theorem wbl28_0_we (x0 : Int) : Tryd.prog.built 28 [(0, .int .i64 x0)] = some #[.int .i64 x0, (.bool false), (.bool false), (.int .i64 0), (.int .i64 0), (.string ⟨#[]⟩), (.slice none 0 0), (.int .i64 0), (.string ⟨#[]⟩), (.bool false), (.int .i64 0), (.bool false), (.string ⟨#[]⟩), (.slice none 0 0), (.int .i64 0), (.bool false), (.bool false), (.bool false), (.string ⟨#[]⟩), (.slice none 0 0), (.bool false), (.int .i64 0), (.slice none 0 0), (.slice none 0 0)] := by kernel_rfl
theorem wzib5_we : (Tryd.prog.info? 5).map (fun i => (i.zero, i.size, i.bytes)) = some (some (.int .u8 0), 1, 1) := by kernel_rfl
theorem wsz5_we : (Tryd.prog.info? 5).map (·.size) = some 1 := by kernel_rfl
theorem wsz22_we : (Tryd.prog.info? 22).map (·.size) = some 1 := by kernel_rfl
theorem and8_f : ∀ x : Fin 256, bits .and .u8 (x.val : Int) 8 = (x.val : Int) / 8 % 2 * 8 ∧ bits .and .u8 (x.val : Int) 1 = (x.val : Int) % 2 ∧ bits .and .u8 (x.val : Int) 3 = (x.val : Int) % 4 ∧ bits .and .u8 (x.val : Int) 15 = (x.val : Int) % 16 := by decide +kernel
theorem andi_f : ∀ x : Fin 256, bits .and .i64 (x.val : Int) 2 = (x.val : Int) / 2 % 2 * 2 ∧ bits .and .i64 (x.val : Int) 4 = (x.val : Int) / 4 % 2 * 4 ∧ bits .and .i64 (x.val : Int) 8 = (x.val : Int) / 8 % 2 * 8 ∧ bits .and .i64 (x.val : Int) 32 = (x.val : Int) / 32 % 2 * 32 ∧ bits .and .i64 (x.val : Int) 64 = (x.val : Int) / 64 % 2 * 64 ∧ bits .and .i64 (x.val : Int) 128 = (x.val : Int) / 128 % 2 * 128 ∧ bits .and .i64 (x.val : Int) 3 = (x.val : Int) % 4 := by decide +kernel
section
variable {c : Int}
theorem and8_8 (h0 : 0 ≤ c) (h1 : c ≤ 255) : bits .and .u8 c 8 = c / 8 % 2 * 8 := by obtain ⟨n, rfl⟩ := Int.eq_ofNat_of_zero_le h0; exact (and8_f ⟨n, by omega⟩).1
theorem and8_1 (h0 : 0 ≤ c) (h1 : c ≤ 255) : bits .and .u8 c 1 = c % 2 := by obtain ⟨n, rfl⟩ := Int.eq_ofNat_of_zero_le h0; exact (and8_f ⟨n, by omega⟩).2.1
theorem and8_3 (h0 : 0 ≤ c) (h1 : c ≤ 255) : bits .and .u8 c 3 = c % 4 := by obtain ⟨n, rfl⟩ := Int.eq_ofNat_of_zero_le h0; exact (and8_f ⟨n, by omega⟩).2.2.1
theorem andi_2 (h0 : 0 ≤ c) (h1 : c ≤ 255) : bits .and .i64 c 2 = c / 2 % 2 * 2 := by obtain ⟨n, rfl⟩ := Int.eq_ofNat_of_zero_le h0; exact (andi_f ⟨n, by omega⟩).1
theorem andi_4 (h0 : 0 ≤ c) (h1 : c ≤ 255) : bits .and .i64 c 4 = c / 4 % 2 * 4 := by obtain ⟨n, rfl⟩ := Int.eq_ofNat_of_zero_le h0; exact (andi_f ⟨n, by omega⟩).2.1
theorem andi_32 (h0 : 0 ≤ c) (h1 : c ≤ 255) : bits .and .i64 c 32 = c / 32 % 2 * 32 := by obtain ⟨n, rfl⟩ := Int.eq_ofNat_of_zero_le h0; exact (andi_f ⟨n, by omega⟩).2.2.2.1
theorem andi_64 (h0 : 0 ≤ c) (h1 : c ≤ 255) : bits .and .i64 c 64 = c / 64 % 2 * 64 := by obtain ⟨n, rfl⟩ := Int.eq_ofNat_of_zero_le h0; exact (andi_f ⟨n, by omega⟩).2.2.2.2.1
theorem andi_128 (h0 : 0 ≤ c) (h1 : c ≤ 255) : bits .and .i64 c 128 = c / 128 % 2 * 128 := by obtain ⟨n, rfl⟩ := Int.eq_ofNat_of_zero_le h0; exact (andi_f ⟨n, by omega⟩).2.2.2.2.2.1
theorem andi_3 (h0 : 0 ≤ c) (h1 : c ≤ 255) : bits .and .i64 c 3 = c % 4 := by obtain ⟨n, rfl⟩ := Int.eq_ofNat_of_zero_le h0; exact (andi_f ⟨n, by omega⟩).2.2.2.2.2.2
end
theorem bit_ne (x k : Int) (h : 0 < k) : (!decide (x / k % 2 * k = 0)) = bitI x k := by
  unfold bitI
  rcases (by omega : x / k % 2 = 0 ∨ x / k % 2 = 1) with e | e <;> rw [e] <;> simp <;> omega
theorem bit_1 (c : Int) : (!decide (c % 2 = 0)) = bitI c 1 := by
  unfold bitI
  rw [Int.ediv_one]
  rcases (by omega : c % 2 = 0 ∨ c % 2 = 1) with e | e <;> rw [e] <;> decide
theorem first_small (k : Int) (h : 0 ≤ k ∧ k ≤ 15) : ((b8 (firstI { kind := k })).toNat : Int) = firstI { kind := k } := by
  have : 0 ≤ firstI { kind := k } ∧ firstI { kind := k } ≤ 255 := by
    unfold firstI
    simp only [flg]
    split
    · omega
    split <;> simp <;> omega
  rw [b8_val]
  omega
theorem or8 (x y : Int) (h0 : 0 ≤ x) (h1 : x ≤ 65535) (h2 : 0 ≤ y) (h3 : y ≤ 255) : bits .or .i64 (x * 256) y = x * 256 + y := bits_join .i64 63 (by decide) wraps_i64 8 (x * 256) y (by omega) (by simp) (by omega) h2 (by simpa using (by omega : y < 256)) (by omega)
theorem shl8 (x : Int) (h0 : 0 ≤ x) (h1 : x ≤ 65535) : IntKind.i64.wrap (x * 2 ^ (8 : Int).toNat) = x * 256 := IntWalk.i64_in _ (by simp; omega)
section
variable {E : List TypeId} {B : Nat} {w w' : World} {A : Option Addr} {n k c x g : Nat} {t : TypeId} {l : List UInt8} {cs : Array Value} {r : Rd}
theorem _root_.Go.Hub.Bs.head (h : Bs E B w A n l) (hk : k ≤ n) : Bs E B w A k (l.take k) :=
  ⟨by rw [List.length_take, h.1]; omega, fun h0 => by
    obtain ⟨g, off, e, hb, ht, hc⟩ := h.2 (by omega)
    refine ⟨g, off, e, hb, ht, fun i x hx => hc i x ?_⟩
    rw [List.getElem?_take] at hx
    split at hx
    · exact hx
    cases hx⟩
theorem _root_.Go.Hub.Bs.cut (h : Bs E B w A n l) (hk : k ≤ n) (hc : n ≤ c) : Bs E B w (if c = k then A else A.map (·.add (k * 1))) (n - k) (l.drop k) :=
  ⟨by rw [List.length_drop, h.1], fun h0 => by
    obtain ⟨g, off, e, hb, ht, hx⟩ := h.2 (by omega)
    rw [if_neg (by omega)]
    refine ⟨g, off + k, by rw [e, Nat.mul_one]; simp [Addr.add_lit], hb, ht, fun i x hi => ?_⟩
    rw [List.getElem?_drop] at hi
    have := hx (k + i) x hi
    rw [Nat.add_assoc]
    exact this⟩
theorem _root_.Go.Hub.Bs.kept0 (h : Bs E B w A n l) (hk : Kept [] w w') : Bs E B w' A n l := h.same (Same.of_kept hk (by simp))
theorem _root_.Go.Hub.Bs.kept1 (h : Bs E B w A n l) (hk : Kept [x] w w') (b : Blk w x t cs) (ht : t ∉ E) (hB : B ≤ x) : Bs E B w' A n l := h.same (Same.of_kept hk (by intro y hy hlt; simp at hy; subst hy; exact ⟨hB, b.not_typ ht⟩))
theorem byteAt (h : Bs E B w A n l) {b off i : Nat} (hA : A = some ⟨b, off, none⟩) (hi : i < n) : w.cell? ⟨b, off + (i : Int).toNat * 1, none⟩ = some (.int .u8 ((l.getD i 0).toNat : Nat)) := by
  obtain ⟨b', off', e, _, _, hc⟩ := h.2 (by omega)
  rw [hA] at e
  injection e with e
  injection e with e1 e2
  subst e1 e2
  have hl : i < l.length := by rw [h.1]; exact hi
  rw [Int.toNat_natCast, Nat.mul_one]
  refine hc i _ ?_
  rw [List.getD_eq_getElem?_getD, List.getElem?_eq_getElem hl, Option.getD_some]
theorem made_u8 (n : Nat) : madeCells (Value.cells (.int .u8 0)) (n * 1) = ((List.replicate n (0 : UInt8)).map u8).toArray := by
  have e : ∀ n, (List.replicate n (0 : UInt8)).flatMap (fun b => [u8 b]) = (List.replicate n (0 : UInt8)).map u8 := fun n => by
    induction n with
    | zero => rfl
    | succ n ih => rw [List.replicate_succ, List.flatMap_cons, ih]; rfl
  have h := made_flat (fun b : UInt8 => [u8 b]) 1 (fun _ => rfl) (by omega) 0 n
  rw [e] at h
  exact h
theorem madeCells_size (n : Nat) : (madeCells (Value.cells (.int .u8 0)) (n * 1)).size = n := by rw [made_u8]; simp
def RdAt (w : World) (B g : Nat) (r : Rd) : Prop := B ≤ g ∧ ∃ A c, Blk w g 91 #[.slice A r.l.length c, .bool r.lk] ∧ Bs [5] B w A r.l.length r.l ∧ r.l.length ≤ c ∧ r.l.length ≤ 1000000
theorem RdAt.kept0 (h : RdAt w B g r) (hk : Kept [] w w') : RdAt w' B g r := by
  obtain ⟨h1, A, c, h2, h3, h4⟩ := h
  exact ⟨h1, A, c, h2.kept hk (by simp), h3.kept0 hk, h4⟩
theorem RdAt.kept1 (h : RdAt w B g r) (hk : Kept [x] w w') (hx : g ≠ x) (hB : B ≤ x) (b : Blk w x t cs) (ht : t ∉ [5]) : RdAt w' B g r := by
  obtain ⟨h1, A, c, h2, h3, h4⟩ := h
  exact ⟨h1, A, c, h2.kept hk (by simp; omega), h3.kept1 hk b ht hB, h4⟩
theorem RdAt.bk (h : RdAt w B g r) : ∃ cs, Blk w g 91 cs := by
  obtain ⟨h1, A, c, h2, h3, h4⟩ := h
  exact ⟨_, h2⟩
theorem take_len (r : Rd) (n : Nat) : (r.take n).1.length = n := by
  unfold Rd.take
  split
  · simp
  rw [List.length_take]; omega
def OnePost (B g : Nat) (r : Rd) (w : World) (e : Ending) (w' : World) : Prop := ∃ v r', r.one = (v, r') ∧ (0 ≤ v ∧ v ≤ 255) ∧ e = .returned (.int .i64 v) ∧ RdAt w' B g r' ∧ Kept [g] w w'
def TwoPost (B g : Nat) (r : Rd) (w : World) (e : Ending) (w' : World) : Prop := ∃ (n : Nat) (r' : Rd), r.two = ((n : Int), r') ∧ n ≤ 65535 ∧ e = .returned (.int .i64 (n : Int)) ∧ RdAt w' B g r' ∧ Kept [g] w w'
def LumpPost (B g : Nat) (r : Rd) (w : World) (e : Ending) (w' : World) : Prop := ∃ l r', r.lump = (l, r') ∧ l.length ≤ 65535 ∧ ∃ A c, e = .returned (.slice A l.length c) ∧ FB w w' A c l ∧ RdAt w' B g r' ∧ Kept [g] w w'
def TextPost (At : World → Nat → Nat → Rd → Prop) (B g : Nat) (v : ByteArray × Rd) (r : Rd) (w : World) (e : Ending) (w' : World) : Prop := ∃ s r', v = (s, r') ∧ s.size ≤ 65535 ∧ e = .returned (.string s) ∧ At w' B g r' ∧ Kept [g] w w'
theorem one_bd (r : Rd) : 0 ≤ r.one.1 ∧ r.one.1 ≤ 255 := by
  have : ((r.take 1).1.getD 0 0).toNat < 256 := UInt8.toNat_lt _
  simp only [Rd.one]
  omega
theorem two_bd (r : Rd) : 0 ≤ r.two.1 ∧ r.two.1 ≤ 65535 := by
  have : ((r.take 2).1.getD 0 0).toNat < 256 := UInt8.toNat_lt _
  have : ((r.take 2).1.getD 1 0).toNat < 256 := UInt8.toNat_lt _
  simp only [Rd.two]
  omega
end
set_option maxHeartbeats 2000000 in
theorem begun_any (c : Int) (w : World) (hc : 0 ≤ c ∧ c ≤ 255) : Calls Tryd.prog 57 #[.int .u8 c] w (fun e w' => Kept [] w w' ∧ e = .returned (.tuple #[.agg ((begunP c).cells s0), .bool (begunB c)])) := by
 have HK : Kept [] w w := Kept.refl [] w
 refine C.enter Tryd.func57 rfl Tryd.ntmps57 rfl ?_
 intro a0 f0
 have f1 : Fr 49 a0 [(0, .int .u8 c)] := f0
 refine C.sk fun K0 hK0 => ?_
 refine L.alloc f1 wantedN (by decide) (z := (.agg #[(.int .i64 0), (.bool false), (.bool false), (.int .i64 0), (.int .i64 0), (.string ⟨#[]⟩), (.slice none 0 0), (.int .i64 0), (.string ⟨#[]⟩), (.bool false), (.int .i64 0), (.bool false), (.string ⟨#[]⟩), (.slice none 0 0), (.int .i64 0), (.bool false), (.bool false), (.bool false), (.string ⟨#[]⟩), (.slice none 0 0), (.bool false), (.int .i64 0), (.slice none 0 0), (.slice none 0 0)])) (fun _ => by kernel_rfl) rfl fun a2 w1 g0 N0 f2 => ?_
 have Bg0 := N0.blk
 have kg0 := N0.kept
 have log0 := N0.lo
 have ltg0 := Bg0.lt
 have szw1 := kg0.size
 have frg0 : w.heap.size ≤ g0 := Nat.le_trans HK.size log0
 replace HK := HK.trans kg0 (by simp)
 clear f0 N0 kg0
 refine L.ag f2 fun a3 f3 => ?_
 refine wpList_nil (hK0 _ _ ?_)
 have f4 := f3.sub (sc 0 (sc 2 sn))
 refine C.sk fun K1 hK1 => ?_
 refine L.mv f4 fun a5 f5 => ?_
 refine L.va f5 (E.shrN f5 rfl rfl (by decide) (by decide) (show _ / 2 ^ (4 : Int).toNat = _ / 16 from rfl)) fun a6 f6 => ?_
 refine L.va f6 (E.conv f6 U5 U3 rfl (IntWalk.i64_in _ (by omega))) fun a7 f7 => ?_
 refine L.va f7 (E.build f7 (parts1 f7 rfl) (wbl28_0_we _)) fun a8 f8 => ?_
 refine L.alloc f8 wantedN (by decide) (z := (.agg #[(.int .i64 0), (.bool false), (.bool false), (.int .i64 0), (.int .i64 0), (.string ⟨#[]⟩), (.slice none 0 0), (.int .i64 0), (.string ⟨#[]⟩), (.bool false), (.int .i64 0), (.bool false), (.string ⟨#[]⟩), (.slice none 0 0), (.int .i64 0), (.bool false), (.bool false), (.bool false), (.string ⟨#[]⟩), (.slice none 0 0), (.bool false), (.int .i64 0), (.slice none 0 0), (.slice none 0 0)])) (fun _ => by kernel_rfl) rfl fun a9 w2 g1 N1 f9 => ?_
 have Bg1 := N1.blk
 have kg1 := N1.kept
 have log1 := N1.lo
 have ltg1 := Bg1.lt
 have szw2 := kg1.size
 have frg1 : w.heap.size ≤ g1 := Nat.le_trans HK.size log1
 have neg0_g1 : g0 ≠ g1 := by have := Bg0.lt; omega
 replace HK := HK.trans kg1 (by simp)
 replace Bg0 := Bg0.kept kg1 (by simp)
 clear f1 a0 f2 a2 f3 f4 a3 f5 a5 f6 a6 f7 a7 N1 kg1
 refine L.storeR f9 wantedN wsz28_we rfl rfl rfl Bg1 rfl rfl fun a10 w3 f10 NB3 ks3 => ?_
 have szw3 := ks3.size
 replace HK := HK.trans ks3 (ktr (by omega))
 replace Bg0 := Bg0.kept ks3 (by simp; omega)
 replace Bg1 := NB3
 clear f8 a8 ks3 f9 a9
 refine wpList_nil (hK1 _ _ ?_)
 have f11 := f10.sub (sc 0 (sc 2 (sc 4 sn)))
 refine wp_seq_k fun K2 hK2 => ?_
 refine C.sk fun K3 hK3 => ?_
 refine L.fa 0 f11 U28 rfl wsz3_we fun a12 f12 => ?_
 refine L.ld f12 U3 Bg1 fun a13 f13 => ?_
 refine L.va f13 (E.eq f13) fun a14 f14 => ?_
 refine wpList_nil (hK3 _ _ ?_)
 have f15 := f14.sub (sc 0 (sc 2 (sc 4 (sc 11 sn))))
 clear f10 f11 a10 f12 a12 f13 a13 f14
 refine f15.splitD 11 rfl (fun h0 f16 => ?_) (fun h0 f16 => ?_)
 ·refine C.condT f16 rfl ?_
  refine C.sk fun K4 hK4 => ?_
  refine L.mv f16 fun a17 f17 => ?_
  refine L.va f17 (E.and f17 rfl rfl (and8_8 (by omega) (by omega))) fun a18 f18 => ?_
  refine L.va f18 (E.neq f18 rfl rfl) fun a19 f19 => ?_
  refine L.mv f19 fun a20 f20 => ?_
  refine L.va f20 (E.shrN f20 rfl rfl (by decide) (by decide) (show _ / 2 ^ (1 : Int).toNat = _ / 2 from rfl)) fun a21 f21 => ?_
  refine L.va f21 (E.and f21 rfl rfl (and8_3 (by omega) (by omega))) fun a22 f22 => ?_
  refine L.va f22 (E.conv f22 U5 U3 rfl (IntWalk.i64_in _ (by omega))) fun a23 f23 => ?_
  clear f15 f16 a14 f17 a17 f18 a18 f19 a19 f20 a20 f21 a21 f22 a22
  refine L.mv f23 fun a24 f24 => ?_
  refine L.va f24 (E.and f24 rfl rfl (and8_1 (by omega) (by omega))) fun a25 f25 => ?_
  refine L.va f25 (E.neq f25 rfl rfl) fun a26 f26 => ?_
  refine L.fa 1 f26 U28 rfl wsz4_we fun a27 f27 => ?_
  refine L.store f27 wantedN wsz4_we rfl rfl rfl Bg1 (by (simp [Value.cells]; done)) fun a28 w4 f28 NB4 ks4 => ?_
  have szw4 := ks4.size
  replace HK := HK.trans ks4 (ktr (by omega))
  replace Bg0 := Bg0.kept ks4 (by simp; omega)
  replace Bg1 := NB4
  simp only [Value.cells, z1, z2, z3, Nat.reduceAdd, Nat.zero_add] at Bg1
  clear f23 a23 f24 a24 f25 a25 f26 a26 ks4 f27 a27
  refine L.fa 3 f28 U28 rfl wsz3_we fun a29 f29 => ?_
  refine L.store f29 wantedN wsz3_we rfl rfl rfl Bg1 (by (simp [Value.cells]; done)) fun a30 w5 f30 NB5 ks5 => ?_
  have szw5 := ks5.size
  replace HK := HK.trans ks5 (ktr (by omega))
  replace Bg0 := Bg0.kept ks5 (by simp; omega)
  replace Bg1 := NB5
  simp only [Value.cells, z1, z2, z3, Nat.reduceAdd, Nat.zero_add] at Bg1
  clear f28 a28 ks5 f29 a29
  refine L.fa 2 f30 U28 rfl wsz4_we fun a31 f31 => ?_
  refine L.store f31 wantedN wsz4_we rfl rfl rfl Bg1 (by (simp [Value.cells]; done)) fun a32 w6 f32 NB6 ks6 => ?_
  have szw6 := ks6.size
  replace HK := HK.trans ks6 (ktr (by omega))
  replace Bg0 := Bg0.kept ks6 (by simp; omega)
  replace Bg1 := NB6
  simp only [Value.cells, z1, z2, z3, Nat.reduceAdd, Nat.zero_add] at Bg1
  clear f30 a30 ks6 f31 a31
  refine wpList_nil (hK4 _ _ ?_)
  have f33 := f32.sub (sc 2 (sc 4 sn))
  refine wp_seq_k fun K5 hK5 => ?_
  refine R.beginT (S := fun W => Kept [g0] w6 W) (by kernel_rfl) (by kernel_rfl) (by exact (Kept.refl _ _).drewN 1) fun ht => ?_
  have hS4 : Kept [g0] w6 (w6.drewN 1) := (Kept.refl _ _).drewN 1
  have hd4 : Kept [] w6 (w6.drewN 1) := (Kept.refl _ _).drewN 1
  obtain ⟨w7, hww7⟩ : ∃ W, W = w6.drewN 1 := ⟨_, rfl⟩
  rw [← hww7] at hS4 hd4 ⊢
  clear f32 hww7
  have szw7 := hS4.size
  replace Bg0 := Bg0.kept hd4 (by simp)
  refine R.u 0 f33 rfl ht hS4 (fun W hW => (by exact E.loadB f33 U28 rfl wsz28_we rfl (Bg1.kept hW (by simp; omega)) rfl)) fun a34 f34 => ?_
  refine R.u 1 f34 rfl ht hS4 (fun W hW => (E.fa 3 f34 U28 rfl wsz3_we)) fun a35 f35 => ?_
  refine R.u 2 f35 rfl ht hS4 (fun W hW => (by exact E.ld f35 U3 (Bg1.kept hW (by simp; omega)))) fun a36 f36 => ?_
  refine R.u 3 f36 rfl ht hS4 (fun W hW => (E.lss f36 rfl rfl)) fun a37 f37 => ?_
  refine R.u 4 f37 rfl ht hS4 (fun W hW => (E.move f37 rfl)) fun a38 f38 => ?_
  clear f33 a32 f34 a34 f35 a35 f36 a36 f37 a37
  refine f38.splitD 29 rfl (fun h1 f39 => ?_) (fun h1 f39 => ?_)
  ·refine R.u 5 f39 rfl ht hS4 (fun W hW => (E.fa 3 f39 U28 rfl wsz3_we)) (hw := (f39.yes rfl rfl)) fun a40 f40 => ?_
   refine R.u 6 f40 rfl ht hS4 (fun W hW => (by exact E.ld f40 U3 (Bg1.kept hW (by simp; omega)))) (hw := (f40.yes rfl rfl)) fun a41 f41 => ?_
   refine R.u 7 f41 rfl ht hS4 (fun W hW => (E.gtr f41 rfl rfl)) (hw := (f41.yes rfl rfl)) fun a42 f42 => ?_
   refine R.u 8 f42 rfl ht hS4 (fun W hW => (E.move f42 rfl)) (hw := (f42.yes rfl rfl)) fun a43 f43 => ?_
   clear f38 f39 a38 f40 a40 f41 a41 f42 a42
   refine f43.splitD 33 rfl (fun h2 f44 => ?_) (fun h2 f44 => ?_)
   ·refine R.us 9 f44 rfl ht hS4 (f44.noF rfl rfl) fun a45 f45 => ?_
    refine R.us 10 f45 rfl ht hS4 (f45.noF rfl rfl) fun a46 f46 => ?_
    refine R.us 11 f46 rfl ht hS4 (f46.noF rfl rfl) fun a47 f47 => ?_
    refine R.u 12 f47 rfl ht hS4 (fun W hW => (E.pickT f47 rfl rfl)) (hw := (f47.yes rfl rfl)) fun a48 f48 => ?_
    refine R.u 13 f48 rfl ht hS4 (fun W hW => (E.pickT f48 rfl rfl)) fun a49 f49 => ?_
    refine R.storeR 14 f49 rfl (by kernel_rfl) wantedN wsz28_we rfl rfl rfl Bg0 rfl rfl (fun _ hW => hS4.trans hW (by simp)) fun a50 w8 f50 NB8 ks8 hSn => ?_
    have szw8 := ks8.size
    replace Bg0 := NB8
    replace hS4 := hSn
    clear f43 f44 a43 f45 a45 f46 a46 f47 a47 f48 a48 f49 a49 hSn ks8
    refine R.u 15 f50 rfl ht hS4 (fun W hW => (E.assign f50 rfl)) fun a51 f51 => ?_
    have szw8r := hS4.size
    replace HK := HK.trans hS4 (ktr (by omega))
    replace Bg1 := Bg1.kept hS4 (by simp; omega)
    clear f50 a50 hS4
    refine R.done (by kernel_rfl) (hK5 _ _ ?_)
    have f52 := f51.sub (sc 2 (sc 3 sn))
    refine wp_ret ?_
    try simp only [Exit.inBlock, Exit.then]
    refine C.retCT (P := Tryd.prog) (fn := Tryd.f57) f52 rfl rfl rfl Bg0 U28 rfl wsz28_we ?_
    have e1 : (!decide (c / 8 % 2 * 8 = 0)) = bitI c 8 := bit_ne _ 8 (by omega)
    have e2 : (!decide (c % 2 = 0)) = bitI c 1 := bit_1 c
    have e3 := first_small (c / 16) (by omega)
    refine ⟨HK, ?_⟩
    clear f51
    unfold begunP begunB
    rw [if_pos (by assumption), if_pos (by assumption)]
    simp [Pk.cells, *]
   refine R.u 9 f44 rfl ht hS4 (fun W hW => (E.fa 1 f44 U28 rfl wsz4_we)) (hw := (f44.yes rfl rfl)) fun a45 f45 => ?_
   refine R.u 10 f45 rfl ht hS4 (fun W hW => (by exact E.ld f45 U4 (Bg1.kept hW (by simp; omega)))) (hw := (f45.yes rfl rfl)) fun a46 f46 => ?_
   refine R.u 11 f46 rfl ht hS4 (fun W hW => (E.not f46 rfl)) (hw := (f46.yes rfl rfl)) fun a47 f47 => ?_
   refine R.u 12 f47 rfl ht hS4 (fun W hW => (E.pickF f47 rfl rfl)) (hw := (f47.yes rfl rfl)) fun a48 f48 => ?_
   refine R.u 13 f48 rfl ht hS4 (fun W hW => (E.pickT f48 rfl rfl)) fun a49 f49 => ?_
   refine R.storeR 14 f49 rfl (by kernel_rfl) wantedN wsz28_we rfl rfl rfl Bg0 rfl rfl (fun _ hW => hS4.trans hW (by simp)) fun a50 w8 f50 NB8 ks8 hSn => ?_
   have szw8 := ks8.size
   replace Bg0 := NB8
   replace hS4 := hSn
   clear f43 f44 a43 f45 a45 f46 a46 f47 a47 f48 a48 f49 a49 hSn ks8
   refine R.u 15 f50 rfl ht hS4 (fun W hW => (E.assign f50 rfl)) fun a51 f51 => ?_
   have szw8r := hS4.size
   replace HK := HK.trans hS4 (ktr (by omega))
   replace Bg1 := Bg1.kept hS4 (by simp; omega)
   clear f50 a50 hS4
   refine R.done (by kernel_rfl) (hK5 _ _ ?_)
   have f52 := f51.sub (sc 2 (sc 3 sn))
   refine wp_ret ?_
   try simp only [Exit.inBlock, Exit.then]
   refine C.retCT (P := Tryd.prog) (fn := Tryd.f57) f52 rfl rfl rfl Bg0 U28 rfl wsz28_we ?_
   have e1 : (!decide (c / 8 % 2 * 8 = 0)) = bitI c 8 := bit_ne _ 8 (by omega)
   have e2 : (!decide (c % 2 = 0)) = bitI c 1 := bit_1 c
   have e3 := first_small (c / 16) (by omega)
   refine ⟨HK, ?_⟩
   clear f51
   unfold begunP begunB
   rw [if_pos (by assumption), if_pos (by assumption)]
   simp [Pk.cells, *]
  refine R.us 5 f39 rfl ht hS4 (f39.noT rfl rfl) fun a40 f40 => ?_
  refine R.us 6 f40 rfl ht hS4 (f40.noT rfl rfl) fun a41 f41 => ?_
  refine R.us 7 f41 rfl ht hS4 (f41.noT rfl rfl) fun a42 f42 => ?_
  refine R.us 8 f42 rfl ht hS4 (f42.noT rfl rfl) fun a43 f43 => ?_
  refine R.us 9 f43 rfl ht hS4 (f43.noU rfl rfl) fun a44 f44 => ?_
  refine R.us 10 f44 rfl ht hS4 (f44.noU rfl rfl) fun a45 f45 => ?_
  refine R.us 11 f45 rfl ht hS4 (f45.noU rfl rfl) fun a46 f46 => ?_
  clear f38 f39 a38 f40 a40 f41 a41 f42 a42 f43 a43 f44 a44 f45 a45
  refine R.us 12 f46 rfl ht hS4 (f46.noT rfl rfl) fun a47 f47 => ?_
  refine R.u 13 f47 rfl ht hS4 (fun W hW => (E.pickF f47 rfl rfl)) fun a48 f48 => ?_
  refine R.storeR 14 f48 rfl (by kernel_rfl) wantedN wsz28_we rfl rfl rfl Bg0 rfl rfl (fun _ hW => hS4.trans hW (by simp)) fun a49 w8 f49 NB8 ks8 hSn => ?_
  have szw8 := ks8.size
  replace Bg0 := NB8
  replace hS4 := hSn
  clear f46 a46 f47 a47 f48 a48 hSn ks8
  refine R.u 15 f49 rfl ht hS4 (fun W hW => (E.assign f49 rfl)) fun a50 f50 => ?_
  have szw8r := hS4.size
  replace HK := HK.trans hS4 (ktr (by omega))
  replace Bg1 := Bg1.kept hS4 (by simp; omega)
  clear f49 a49 hS4
  refine R.done (by kernel_rfl) (hK5 _ _ ?_)
  have f51 := f50.sub (sc 2 (sc 3 sn))
  refine wp_ret ?_
  try simp only [Exit.inBlock, Exit.then]
  refine C.retCT (P := Tryd.prog) (fn := Tryd.f57) f51 rfl rfl rfl Bg0 U28 rfl wsz28_we ?_
  have e1 : (!decide (c / 8 % 2 * 8 = 0)) = bitI c 8 := bit_ne _ 8 (by omega)
  have e2 : (!decide (c % 2 = 0)) = bitI c 1 := bit_1 c
  have e3 := first_small (c / 16) (by omega)
  refine ⟨HK, ?_⟩
  clear f50
  unfold begunP begunB
  rw [if_pos (by assumption), if_pos (by assumption)]
  simp [Pk.cells, *]
 refine C.condF f16 rfl ?_
 refine wp_skip (hK2 _ _ ?_)
 have f17 := f16.sub (sc 0 (sc 2 (sc 4 sn)))
 refine wp_seq_k fun K6 hK6 => ?_
 refine R.beginT (S := fun W => Kept [g0] w3 W) (by kernel_rfl) (by kernel_rfl) (by exact (Kept.refl _ _).drewN 1) fun ht => ?_
 have hS5 : Kept [g0] w3 (w3.drewN 1) := (Kept.refl _ _).drewN 1
 have hd5 : Kept [] w3 (w3.drewN 1) := (Kept.refl _ _).drewN 1
 obtain ⟨w4, hww4⟩ : ∃ W, W = w3.drewN 1 := ⟨_, rfl⟩
 rw [← hww4] at hS5 hd5 ⊢
 clear f15 f16 hww4
 have szw4 := hS5.size
 replace Bg0 := Bg0.kept hd5 (by simp)
 refine R.u 0 f17 rfl ht hS5 (fun W hW => (by exact E.loadB f17 U28 rfl wsz28_we rfl (Bg1.kept hW (by simp; omega)) rfl)) fun a18 f18 => ?_
 refine R.u 1 f18 rfl ht hS5 (fun W hW => (E.fa 0 f18 U28 rfl wsz3_we)) fun a19 f19 => ?_
 refine R.u 2 f19 rfl ht hS5 (fun W hW => (by exact E.ld f19 U3 (Bg1.kept hW (by simp; omega)))) fun a20 f20 => ?_
 refine R.call 3 f20 rfl rfl (by decide) (by kernel_rfl) wantedN (run_call Tryd.call44 (args3 f20 rfl rfl rfl)) (in_any _ _ _ _) ?_
 clear f17 a14 f18 a18 f19 a19
 rintro e w4x ⟨rfl, rfl⟩
 refine ⟨_, rfl, hS5, fun a21 f21 => ?_⟩
 refine R.u 4 f21 rfl ht hS5 (fun W hW => (E.move f21 rfl)) fun a22 f22 => ?_
 clear f20 a20 f21 a21
 refine f22.split 43 rfl (fun h3 f23 => ?_) (fun h3 f23 => ?_)
 ·refine R.u 5 f23 rfl ht hS5 (fun W hW => (by exact E.loadB f23 U28 rfl wsz28_we rfl (Bg1.kept hW (by simp; omega)) rfl)) (hw := (f23.yes rfl rfl)) fun a24 f24 => ?_
  refine R.u 7 f24 rfl ht hS5 (fun W hW => (E.move f24 rfl)) (hw := (f24.yes rfl rfl)) fun a25 f25 => ?_
  refine R.call 6 f25 rfl rfl (by decide) (by kernel_rfl) (f25.yes rfl rfl) (run_call Tryd.call40 (args1 f25 rfl)) (first_any { kind := c / 16 } s0 _ (by simp <;> omega) (by simp <;> omega)) ?_
  clear f22 f23 a22 f24 a24
  rintro e w5 ⟨kc5, rfl⟩
  replace hS5 := hS5.trans kc5 (by simp)
  refine ⟨_, rfl, hS5, fun a26 f26 => ?_⟩
  have szw5 := kc5.size
  replace Bg0 := Bg0.kept kc5 (by simp)
  clear f25 a25 kc5
  refine R.u 8 f26 rfl ht hS5 (fun W hW => (E.eq f26)) (hw := (f26.yes rfl rfl)) fun a27 f27 => ?_
  refine R.u 9 f27 rfl ht hS5 (fun W hW => (E.pickT f27 rfl rfl)) fun a28 f28 => ?_
  refine R.storeR 10 f28 rfl (by kernel_rfl) wantedN wsz28_we rfl rfl rfl Bg0 rfl rfl (fun _ hW => hS5.trans hW (by simp)) fun a29 w6 f29 NB6 ks6 hSn => ?_
  have szw6 := ks6.size
  replace Bg0 := NB6
  replace hS5 := hSn
  clear f26 a26 f27 a27 f28 a28 hSn ks6
  refine R.u 11 f29 rfl ht hS5 (fun W hW => (E.assign f29 rfl)) fun a30 f30 => ?_
  have szw6r := hS5.size
  replace HK := HK.trans hS5 (ktr (by omega))
  replace Bg1 := Bg1.kept hS5 (by simp; omega)
  clear f29 a29 hS5
  refine R.done (by kernel_rfl) (hK6 _ _ ?_)
  have f31 := f30.sub (sc 2 (sc 3 sn))
  refine wp_ret ?_
  try simp only [Exit.inBlock, Exit.then]
  refine C.retCT (P := Tryd.prog) (fn := Tryd.f57) f31 rfl rfl rfl Bg0 U28 rfl wsz28_we ?_
  have e1 : (!decide (c / 8 % 2 * 8 = 0)) = bitI c 8 := bit_ne _ 8 (by omega)
  have e2 : (!decide (c % 2 = 0)) = bitI c 1 := bit_1 c
  have e3 := first_small (c / 16) (by omega)
  refine ⟨HK, ?_⟩
  clear f30
  unfold begunP begunB
  rw [if_neg (by assumption), if_neg (by assumption)]
  simp [Pk.cells, *]
 refine R.us 5 f23 rfl ht hS5 (f23.noT rfl rfl) fun a24 f24 => ?_
 refine R.us 6 f24 rfl ht hS5 (f24.noT rfl rfl) fun a25 f25 => ?_
 refine R.us 7 f25 rfl ht hS5 (f25.noT rfl rfl) fun a26 f26 => ?_
 refine R.us 8 f26 rfl ht hS5 (f26.noT rfl rfl) fun a27 f27 => ?_
 refine R.u 9 f27 rfl ht hS5 (fun W hW => (E.pickF f27 rfl rfl)) fun a28 f28 => ?_
 refine R.storeR 10 f28 rfl (by kernel_rfl) wantedN wsz28_we rfl rfl rfl Bg0 rfl rfl (fun _ hW => hS5.trans hW (by simp)) fun a29 w5 f29 NB5 ks5 hSn => ?_
 have szw5 := ks5.size
 replace Bg0 := NB5
 replace hS5 := hSn
 clear f22 f23 a22 f24 a24 f25 a25 f26 a26 f27 a27 f28 a28 hSn ks5
 refine R.u 11 f29 rfl ht hS5 (fun W hW => (E.assign f29 rfl)) fun a30 f30 => ?_
 have szw5r := hS5.size
 replace HK := HK.trans hS5 (ktr (by omega))
 replace Bg1 := Bg1.kept hS5 (by simp; omega)
 clear f29 a29 hS5
 refine R.done (by kernel_rfl) (hK6 _ _ ?_)
 have f31 := f30.sub (sc 2 (sc 3 sn))
 refine wp_ret ?_
 try simp only [Exit.inBlock, Exit.then]
 refine C.retCT (P := Tryd.prog) (fn := Tryd.f57) f31 rfl rfl rfl Bg0 U28 rfl wsz28_we ?_
 have e1 : (!decide (c / 8 % 2 * 8 = 0)) = bitI c 8 := bit_ne _ 8 (by omega)
 have e2 : (!decide (c % 2 = 0)) = bitI c 1 := bit_1 c
 have e3 := first_small (c / 16) (by omega)
 refine ⟨HK, ?_⟩
 clear f30
 unfold begunP begunB
 rw [if_neg (by assumption), if_neg (by assumption)]
 simp [Pk.cells, *]
set_option maxHeartbeats 1000000 in
theorem take_any (n : Nat) (B g : Nat) (r : Rd) (w : World) (RD : RdAt w B g r) (hn : n ≤ 1000000) : Calls Tryd.prog 83 #[.pointer (some ⟨g, 0, none⟩), .int .i64 n] w (fun e w' => Kept [g] w w' ∧ ∃ A c, e = .returned (.slice A (r.take n).1.length c) ∧ Bs [5] B w' A (r.take n).1.length (r.take n).1 ∧ RdAt w' B g (r.take n).2) := by
 obtain ⟨hBg, A, c, BG, SB, hlc, hl6⟩ := RD
 have HK : Kept [g] w w := Kept.refl [g] w
 refine C.enter Tryd.func83 rfl Tryd.ntmps83 rfl ?_
 intro a0 f0
 have f1 : Fr 37 a0 [(0, .pointer (some ⟨g, 0, none⟩)), (1, .int .i64 n)] := f0
 refine C.sk fun K0 hK0 => ?_
 refine L.ag f1 fun a2 f2 => ?_
 refine wpList_nil (hK0 _ _ ?_)
 have f3 := f2.sub (sc 0 (sc 1 sn))
 refine wp_seq_k fun K1 hK1 => ?_
 refine C.sk fun K2 hK2 => ?_
 refine L.mv f3 fun a4 f4 => ?_
 refine L.mv f4 fun a5 f5 => ?_
 refine L.va f5 (E.nilCheck f5 rfl) fun a6 f6 => ?_
 refine L.fa 0 f6 U91 rfl wsz22_we fun a7 f7 => ?_
 refine L.ld f7 U22 BG fun a8 f8 => ?_
 clear f0 f1 a0 f2 f3 a2 f4 a4 f5 a5 f6 a6 f7 a7
 refine L.va f8 (E.lenL f8 U22 rfl) fun a9 f9 => ?_
 refine L.va f9 (E.gtr f9 rfl rfl) fun a10 f10 => ?_
 refine wpList_nil (hK2 _ _ ?_)
 have f11 := f10.sub (sc 0 (sc 1 (sc 12 sn)))
 clear f8 a8 f9 a9 f10
 refine f11.splitD 12 rfl (fun h0 f12 => ?_) (fun h0 f12 => ?_)
 ·refine C.condT f12 rfl ?_
  refine C.sk fun K3 hK3 => ?_
  refine L.mv f12 fun a13 f13 => ?_
  refine L.va f13 (E.nilCheck f13 rfl) fun a14 f14 => ?_
  refine L.fa 1 f14 U91 rfl wsz4_we fun a15 f15 => ?_
  refine L.store f15 wantedN wsz4_we rfl rfl rfl BG (by (simp [Value.cells]; done)) fun a16 w1 f16 NB1 ks1 => ?_
  have szw1 := ks1.size
  replace HK := HK.trans ks1 (ktr (by simp))
  replace SB := SB.kept1 ks1 BG (by decide) (by omega)
  replace BG := NB1
  simp only [Value.cells, z1, z2, z3, Nat.reduceAdd, Nat.zero_add] at BG
  clear f11 f12 a10 f13 a13 f14 a14 ks1 f15 a15
  refine wpList_nil (hK3 _ _ ?_)
  have f17 := f16.sub (sc 0 (sc 1 sn))
  refine C.sk fun K4 hK4 => ?_
  refine L.mv f17 fun a18 f18 => ?_
  refine L.va f18 (E.nilCheck f18 rfl) fun a19 f19 => ?_
  refine L.fa 0 f19 U91 rfl wsz22_we fun a20 f20 => ?_
  refine L.store f20 wantedN wsz22_we rfl rfl rfl BG (by (simp [Value.cells]; done)) fun a21 w2 f21 NB2 ks2 => ?_
  have szw2 := ks2.size
  replace HK := HK.trans ks2 (ktr (by simp))
  replace SB := SB.kept1 ks2 BG (by decide) (by omega)
  replace BG := NB2
  simp only [Value.cells, z1, z2, z3, Nat.reduceAdd, Nat.zero_add] at BG
  clear f16 f17 a16 f18 a18 f19 a19 ks2 f20 a20
  refine wpList_nil (hK4 _ _ ?_)
  have f22 := f21.sub (sc 1 sn)
  refine C.sk fun K5 hK5 => ?_
  refine L.mv f22 fun a23 f23 => ?_
  refine L.make f23 wantedN (by decide) U22 wzib5_we rfl rfl (by omega) (by omega) (by omega) (by omega) fun a24 w3 g2 N2 f24 => ?_
  simp only [Int.toNat_natCast] at N2 f24
  have OW := N2.own (k := n) (size := 1) (by rw [madeCells_size, Nat.mul_one]) (by (unfold maxLen; omega))
  have SZ := Bs.of_own (E := [5]) (B := B) (l := List.replicate n 0) (by rw [made_u8 n] at OW; exact OW) (by simp)
  have Bg2 := N2.blk
  have kg2 := N2.kept
  have log2 := N2.lo
  have ltg2 := Bg2.lt
  have szw3 := kg2.size
  have frg2 : w.heap.size ≤ g2 := Nat.le_trans HK.size log2
  have neg_g2 : g ≠ g2 := by have := BG.lt; omega
  replace HK := HK.trans kg2 (by simp)
  replace SB := SB.kept0 kg2
  replace BG := BG.kept kg2 (by simp)
  clear f21 f22 a21 N2 kg2
  refine L.ag f24 fun a25 f25 => ?_
  refine wpList_nil (hK5 _ _ ?_)
  have f26 := f25.sub (sc 4 sn)
  refine wp_ret ?_
  try simp only [Exit.inBlock, Exit.then]
  refine C.ret (P := Tryd.prog) (fn := Tryd.f83) f26 rfl rfl ?_
  have ht : r.take n = (List.replicate n 0, ⟨[], true⟩) := by unfold Rd.take; rw [if_pos (by omega)]
  rw [ht]
  exact ⟨HK, some ⟨g2, 0, none⟩, n, by rw [List.length_replicate], by rw [List.length_replicate]; exact SZ, hBg, none, 0, BG, Bs.nil _ _ _ _, by simp, by simp⟩
 refine C.condF f12 rfl ?_
 refine wp_skip (hK1 _ _ ?_)
 have f13 := f12.sub (sc 0 (sc 1 sn))
 refine C.sk fun K6 hK6 => ?_
 refine L.mv f13 fun a14 f14 => ?_
 refine L.va f14 (E.nilCheck f14 rfl) fun a15 f15 => ?_
 refine L.fa 0 f15 U91 rfl wsz22_we fun a16 f16 => ?_
 refine L.ld f16 U22 BG fun a17 f17 => ?_
 refine L.mv f17 fun a18 f18 => ?_
 refine L.va f18 (E.slLhi f18 U22 wsz5_we rfl rfl (by omega) (by omega) ) fun a19 f19 => ?_
 clear f11 f12 f13 a10 f14 a14 f15 a15 f16 a16 f17 a17 f18 a18
 refine L.ag f19 fun a20 f20 => ?_
 refine wpList_nil (hK6 _ _ ?_)
 have f21 := f20.sub (sc 0 (sc 1 (sc 5 sn)))
 refine C.sk fun K7 hK7 => ?_
 refine L.mv f21 fun a22 f22 => ?_
 refine L.mv f22 fun a23 f23 => ?_
 refine L.va f23 (E.nilCheck f23 rfl) fun a24 f24 => ?_
 refine L.fa 0 f24 U91 rfl wsz22_we fun a25 f25 => ?_
 refine L.ld f25 U22 BG fun a26 f26 => ?_
 refine L.mv f26 fun a27 f27 => ?_
 clear f19 a19 f20 f21 a20 f22 a22 f23 a23 f24 a24 f25 a25 f26 a26
 refine L.va f27 (E.slLlo f27 U22 wsz5_we rfl rfl (by omega) (by omega) ) fun a28 f28 => ?_
 refine L.va f28 (E.nilCheck f28 rfl) fun a29 f29 => ?_
 refine L.fa 0 f29 U91 rfl wsz22_we fun a30 f30 => ?_
 refine L.store f30 wantedN wsz22_we rfl rfl rfl BG (by (simp [Value.cells]; done)) fun a31 w1 f31 NB1 ks1 => ?_
 have szw1 := ks1.size
 replace HK := HK.trans ks1 (ktr (by simp))
 replace SB := SB.kept1 ks1 BG (by decide) (by omega)
 replace BG := NB1
 simp only [Value.cells, z1, z2, z3, Nat.reduceAdd, Nat.zero_add] at BG
 clear f27 a27 f28 a28 f29 a29 ks1 f30 a30
 refine wpList_nil (hK7 _ _ ?_)
 have f32 := f31.sub (sc 5 sn)
 refine C.sk fun K8 hK8 => ?_
 refine L.mv f32 fun a33 f33 => ?_
 refine L.ag f33 fun a34 f34 => ?_
 refine wpList_nil (hK8 _ _ ?_)
 have f35 := f34.sub (sc 4 sn)
 refine wp_ret ?_
 try simp only [Exit.inBlock, Exit.then]
 refine C.ret (P := Tryd.prog) (fn := Tryd.f83) f35 rfl rfl ?_
 have ht : r.take n = (r.l.take n, ⟨r.l.drop n, r.lk⟩) := by unfold Rd.take; rw [if_neg (by omega)]
 have hl : (r.l.take n).length = n := by rw [List.length_take]; omega
 have hld : (r.l.drop n).length = r.l.length - n := List.length_drop
 rw [ht]
 simp only [Int.toNat_natCast] at BG f35 ⊢
 exact ⟨HK, A, c, by rw [hl], by rw [hl]; exact SB.head (by omega), hBg, _, _, by rw [hld]; exact BG, by rw [hld]; exact SB.cut (by omega) hlc, by rw [hld]; omega, by rw [hld]; omega⟩
set_option maxHeartbeats 1000000 in
theorem one_any (B g : Nat) (r : Rd) (w : World) (RD : RdAt w B g r) : Calls Tryd.prog 80 #[.pointer (some ⟨g, 0, none⟩)] w (OnePost B g r w) := by
 have HK : Kept [g] w w := Kept.refl [g] w
 refine C.enter Tryd.func80 rfl Tryd.ntmps80 rfl ?_
 intro a0 f0
 have f1 : Fr 8 a0 [(0, .pointer (some ⟨g, 0, none⟩))] := f0
 refine C.sk fun K0 hK0 => ?_
 refine L.ag f1 fun a2 f2 => ?_
 refine wpList_nil (hK0 _ _ ?_)
 have f3 := f2.sub (sc 0 sn)
 refine C.sk fun K1 hK1 => ?_
 refine L.mv f3 fun a4 f4 => ?_
 refine L.cl f4 (run_call Tryd.call83 (args2 f4 rfl rfl)) (take_any 1 B g _ _ RD (by omega)) ?_
 clear f0 f1 a0 f2 f3 a2
 rintro e w1 ⟨kc1, A1, c1, rfl, S1, RD1⟩
 refine ⟨_, rfl, fun a5 f5 => ?_⟩
 have szw1 := kc1.size
 replace HK := HK.trans kc1 (ktr (by simp))
 clear f4 a4 kc1
 have hl := take_len r 1
 obtain ⟨b1, o1, hA1, -⟩ := S1.2 (by rw [hl]; decide)
 have hx1 : ((r.take 1).1.getD 0 0).toNat < 256 := UInt8.toNat_lt _
 refine L.va f5 (E.indexA f5 (by assumption) U22 wsz5_we rfl rfl (by omega) (by omega)) fun a6 f6 => ?_
 refine L.va f6 (by exact E.load f6 U5 rfl rfl (byteAt S1 hA1 (i := 0) (by rw [hl]; decide))) fun a7 f7 => ?_
 refine L.va f7 (E.conv f7 U5 U3 rfl (IntWalk.i64_in _ (by omega))) fun a8 f8 => ?_
 refine L.ag f8 fun a9 f9 => ?_
 refine wpList_nil (hK1 _ _ ?_)
 have f10 := f9.sub (sc 2 sn)
 refine wp_ret ?_
 try simp only [Exit.inBlock, Exit.then]
 refine C.ret (P := Tryd.prog) (fn := Tryd.f80) f10 rfl rfl ?_
 exact ⟨_, _, rfl, one_bd r, rfl, RD1, HK⟩
set_option maxHeartbeats 1000000 in
theorem rtwo_any (B g : Nat) (r : Rd) (w : World) (RD : RdAt w B g r) : Calls Tryd.prog 82 #[.pointer (some ⟨g, 0, none⟩)] w (TwoPost B g r w) := by
 have HK : Kept [g] w w := Kept.refl [g] w
 refine C.enter Tryd.func82 rfl Tryd.ntmps82 rfl ?_
 intro a0 f0
 have f1 : Fr 16 a0 [(0, .pointer (some ⟨g, 0, none⟩))] := f0
 refine C.sk fun K0 hK0 => ?_
 refine L.ag f1 fun a2 f2 => ?_
 refine wpList_nil (hK0 _ _ ?_)
 have f3 := f2.sub (sc 0 sn)
 refine C.sk fun K1 hK1 => ?_
 refine L.mv f3 fun a4 f4 => ?_
 refine L.cl f4 (run_call Tryd.call83 (args2 f4 rfl rfl)) (take_any 2 B g _ _ RD (by omega)) ?_
 clear f0 f1 a0 f2 f3 a2
 rintro e w1 ⟨kc1, A1, c1, rfl, S1, RD1⟩
 refine ⟨_, rfl, fun a5 f5 => ?_⟩
 have szw1 := kc1.size
 replace HK := HK.trans kc1 (ktr (by simp))
 clear f4 a4 kc1
 have hl := take_len r 2
 obtain ⟨b1, o1, hA1, -⟩ := S1.2 (by rw [hl]; decide)
 have hx1 : ((r.take 2).1.getD 0 0).toNat < 256 := UInt8.toNat_lt _
 have hx2 : ((r.take 2).1.getD 1 0).toNat < 256 := UInt8.toNat_lt _
 refine L.ag f5 fun a6 f6 => ?_
 refine wpList_nil (hK1 _ _ ?_)
 have f7 := f6.sub (sc 3 sn)
 refine wp_seq_k fun K2 hK2 => ?_
 have hd2 : Kept [] w1 (w1.drewN 1) := (Kept.refl _ _).drewN 1
 refine R.beginT (S := fun W => (Kept [g] w W) ∧ (Bs [5] B W A1 (r.take 2).1.length (r.take 2).1)) (by kernel_rfl) (by kernel_rfl) ⟨HK.trans hd2 (by simp), S1.kept0 hd2⟩ fun ht => ?_
 obtain ⟨w2, hww2⟩ : ∃ W, W = w1.drewN 1 := ⟨_, rfl⟩
 rw [← hww2] at hd2 ⊢
 clear f5 a5 f6 hww2
 have szw2 := hd2.size
 replace HK := HK.trans hd2 (by simp)
 replace S1 := S1.kept0 hd2
 replace RD1 := RD1.kept0 hd2
 clear hd2
 refine R.u 0 f7 rfl ht ⟨HK, S1⟩ (fun W hW => (E.move f7 rfl)) fun a8 f8 => ?_
 refine R.u 1 f8 rfl ht ⟨HK, S1⟩ (fun W hW => (E.indexA f8 (by assumption) U22 wsz5_we rfl rfl (by omega) (by omega))) fun a9 f9 => ?_
 refine R.u 2 f9 rfl ht ⟨HK, S1⟩ (fun W hW => (by exact E.load f9 U5 rfl rfl (byteAt hW.2 hA1 (i := 0) (by rw [hl]; decide)))) fun a10 f10 => ?_
 refine R.u 3 f10 rfl ht ⟨HK, S1⟩ (fun W hW => (E.conv f10 U5 U3 rfl (IntWalk.i64_in _ (by omega)))) fun a11 f11 => ?_
 refine R.u 4 f11 rfl ht ⟨HK, S1⟩ (fun W hW => (E.shlN f11 rfl rfl (by decide) (by decide) (shl8 _ (by omega) (by omega)))) fun a12 f12 => ?_
 refine R.u 5 f12 rfl ht ⟨HK, S1⟩ (fun W hW => (E.move f12 rfl)) fun a13 f13 => ?_
 refine R.u 6 f13 rfl ht ⟨HK, S1⟩ (fun W hW => (E.indexA f13 (by assumption) U22 wsz5_we rfl rfl (by omega) (by omega))) fun a14 f14 => ?_
 clear f7 a6 f8 a8 f9 a9 f10 a10 f11 a11 f12 a12 f13 a13
 refine R.u 7 f14 rfl ht ⟨HK, S1⟩ (fun W hW => (by exact E.load f14 U5 rfl rfl (byteAt hW.2 hA1 (i := 1) (by rw [hl]; decide)))) fun a15 f15 => ?_
 refine R.u 8 f15 rfl ht ⟨HK, S1⟩ (fun W hW => (E.conv f15 U5 U3 rfl (IntWalk.i64_in _ (by omega)))) fun a16 f16 => ?_
 refine R.u 9 f16 rfl ht ⟨HK, S1⟩ (fun W hW => (E.or f16 rfl rfl (or8 _ _ (by omega) (by omega) (by omega) (by omega)))) fun a17 f17 => ?_
 refine R.u 10 f17 rfl ht ⟨HK, S1⟩ (fun W hW => (E.assign f17 rfl)) fun a18 f18 => ?_
 refine R.done (by kernel_rfl) (hK2 _ _ ?_)
 have f19 := f18.sub (sc 2 sn)
 refine wp_ret ?_
 try simp only [Exit.inBlock, Exit.then]
 refine C.ret (P := Tryd.prog) (fn := Tryd.f82) f19 rfl rfl ?_
 obtain ⟨n, hn⟩ := Int.eq_ofNat_of_zero_le (two_bd r).1
 exact ⟨n, _, Prod.ext hn rfl, by have := two_bd r; omega, by rw [← hn]; rfl, RD1, HK⟩
set_option maxHeartbeats 1000000 in
theorem lump_any2 (B g : Nat) (r : Rd) (w : World) (RD : RdAt w B g r) : Calls Tryd.prog 90 #[.pointer (some ⟨g, 0, none⟩)] w (LumpPost B g r w) := by
 have HK : Kept [g] w w := Kept.refl [g] w
 refine C.enter Tryd.func90 rfl Tryd.ntmps90 rfl ?_
 intro a0 f0
 have f1 : Fr 8 a0 [(0, .pointer (some ⟨g, 0, none⟩))] := f0
 refine C.sk fun K0 hK0 => ?_
 refine L.ag f1 fun a2 f2 => ?_
 refine wpList_nil (hK0 _ _ ?_)
 have f3 := f2.sub (sc 0 sn)
 refine C.sk fun K1 hK1 => ?_
 refine L.mv f3 fun a4 f4 => ?_
 refine L.mv f4 fun a5 f5 => ?_
 refine L.cl f5 (run_call Tryd.call82 (args1 f5 rfl)) (rtwo_any B g _ _ RD) ?_
 clear f0 f1 a0 f2 f3 a2 f4 a4
 rintro e w1 ⟨n1, r1, e1, hn1, rfl, RD1, kc1⟩
 refine ⟨_, rfl, fun a6 f6 => ?_⟩
 have szw1 := kc1.size
 replace HK := HK.trans kc1 (ktr (by simp))
 clear f5 a5 kc1
 refine L.cl f6 (run_call Tryd.call83 (args2 f6 rfl rfl)) (take_any n1 B g r1 _ RD1 (by omega)) ?_
 rintro e w2 ⟨kc2, A2, c2, rfl, S2, RD2⟩
 refine ⟨_, rfl, fun a7 f7 => ?_⟩
 have szw2 := kc2.size
 replace HK := HK.trans kc2 (ktr (by simp))
 clear f6 a6 kc2
 have hl2 := take_len r1 n1
 refine L.cl f7 (run_call Tryd.call63 (args1 f7 rfl)) (clone_any _ _ _ _ S2.toSl (by omega)) ?_
 rintro e w3 ⟨kc3, A3, c3, rfl, FR3⟩
 have szk := HK.size
 replace FR3 := FR3.lower szk
 refine ⟨_, rfl, fun a8 f8 => ?_⟩
 have szw3 := kc3.size
 replace HK := HK.trans kc3 (by simp)
 replace RD2 := RD2.kept0 kc3
 replace S2 := S2.kept0 kc3
 clear f7 a7 kc3
 refine L.ag f8 fun a9 f9 => ?_
 refine wpList_nil (hK1 _ _ ?_)
 have f10 := f9.sub (sc 2 sn)
 refine wp_ret ?_
 try simp only [Exit.inBlock, Exit.then]
 refine C.ret (P := Tryd.prog) (fn := Tryd.f90) f10 rfl rfl ?_
 exact ⟨_, _, by rw [Rd.lump, e1]; rfl, by omega, _, _, rfl, FR3, RD2, HK⟩
set_option maxHeartbeats 1000000 in
theorem rtext_any (B g : Nat) (r : Rd) (w : World) (RD : RdAt w B g r) : Calls Tryd.prog 81 #[.pointer (some ⟨g, 0, none⟩)] w (TextPost RdAt B g r.text r w) := by
 have HK : Kept [g] w w := Kept.refl [g] w
 refine C.enter Tryd.func81 rfl Tryd.ntmps81 rfl ?_
 intro a0 f0
 have f1 : Fr 6 a0 [(0, .pointer (some ⟨g, 0, none⟩))] := f0
 refine C.sk fun K0 hK0 => ?_
 refine L.ag f1 fun a2 f2 => ?_
 refine wpList_nil (hK0 _ _ ?_)
 have f3 := f2.sub (sc 0 sn)
 refine C.sk fun K1 hK1 => ?_
 refine L.mv f3 fun a4 f4 => ?_
 refine L.cl f4 (run_call Tryd.call90 (args1 f4 rfl)) (lump_any2 B g _ _ RD) ?_
 clear f0 f1 a0 f2 f3 a2
 rintro e w1 ⟨l1, r1, e1, hl1, A1, c1, rfl, FR1, RD1, kc1⟩
 refine ⟨_, rfl, fun a5 f5 => ?_⟩
 have szw1 := kc1.size
 replace HK := HK.trans kc1 (ktr (by simp))
 clear f4 a4 kc1
 refine L.va f5 (E.toStr f5 rfl U22 U5 U9 FR1.sl) fun a6 f6 => ?_
 refine L.ag f6 fun a7 f7 => ?_
 refine wpList_nil (hK1 _ _ ?_)
 have f8 := f7.sub (sc 2 sn)
 refine wp_ret ?_
 try simp only [Exit.inBlock, Exit.then]
 refine C.ret (P := Tryd.prog) (fn := Tryd.f81) f8 rfl rfl ?_
 exact ⟨_, _, by rw [Rd.text, e1], by rw [bytes_arr]; exact hl1, rfl, RD1, HK⟩
end Go.Proofs.YtigjafbbnocihaaDoor
namespace Go.Proofs.YtigjafbbnocihaaDoor
open Go.RowKit Go.Hub Go.Lib Go.Vl
theorem wsz3_wf : (Tryd.prog.info? 3).map (·.size) = some 1 := by kernel_rfl
theorem wsz4_wf : (Tryd.prog.info? 4).map (·.size) = some 1 := by kernel_rfl
theorem wsz9_wf : (Tryd.prog.info? 9).map (·.size) = some 1 := by kernel_rfl
theorem wsz22_wf : (Tryd.prog.info? 22).map (·.size) = some 1 := by kernel_rfl
theorem wsz24_wf : (Tryd.prog.info? 24).map (·.size) = some 4 := by kernel_rfl
theorem wbl24_0_1_2_3_wf (x0 : ByteArray) (x1 : Option Addr) (y1 z1 : Nat) (x2 : Int) (x3 : Bool) : Tryd.prog.built 24 [(0, .string x0), (1, .slice x1 y1 z1), (2, .int .i64 x2), (3, .bool x3)] = some #[.string x0, .slice x1 y1 z1, .int .i64 x2, .bool x3] := by kernel_rfl
structure PkM (B : Nat) (w W : World) (p : Pk) (s : Ad) : Prop where
  pay : Bs [5] B W s.pa p.pay.length p.pay
  wp : Bs [5] B W s.wa p.wp.length p.wp
  pass : Bs [5] B W s.sa p.pass.length p.pass
  subs : Fresh w W 70 2 s.ua p.subs.length s.uc (subCells p.subs)
  codes : Fresh w W 3 1 s.ca p.codes.length s.cc (codeCells p.codes)
section
variable {B x : Nat} {w W W' : World} {p : Pk} {s : Ad} {t : TypeId} {cs : Array Value}
theorem PkM.of (hB : B ≤ w.heap.size) (h1 : FB w W s.pa s.pc p.pay) (h2 : FB w W s.wa s.wc p.wp) (h3 : FB w W s.sa s.sc p.pass) (h4 : Fresh w W 70 2 s.ua p.subs.length s.uc (subCells p.subs)) (h5 : Fresh w W 3 1 s.ca p.codes.length s.cc (codeCells p.codes)) : PkM B w W p s :=
  ⟨Bs.of_fresh h1, Bs.of_fresh h2, Bs.of_fresh h3, h4, h5⟩
theorem fresh_blk {w : World} {e size n c : Nat} {A : Option Addr} {xs : List Value} (h : Fresh w W e size A n c xs) (hk : Kept [x] W W') (b : Blk W x t cs) (ht : t ≠ e) : Fresh w W' e size A n c xs := Fresh.kept h hk fun b' hb hx => by
  obtain rfl := List.mem_singleton.1 hx
  exact own_ne (Fresh.own h) b ht (by simpa using (own_block A n c b').2 hb)
theorem PkM.kept0 (h : PkM B w W p s) (hk : Kept [] W W') : PkM B w W' p s := ⟨h.pay.kept0 hk, h.wp.kept0 hk, h.pass.kept0 hk, h.subs.kept0 hk, h.codes.kept0 hk⟩
theorem PkM.kept1 (h : PkM B w W p s) (hk : Kept [x] W W') (b : Blk W x t cs) (ht : t ∉ [5, 70, 3]) (hB : B ≤ x) : PkM B w W' p s := by
  simp only [List.mem_cons, List.not_mem_nil, not_or, or_false] at ht
  exact ⟨h.pay.kept1 hk b (by simpa using ht.1) hB, h.wp.kept1 hk b (by simpa using ht.1) hB, h.pass.kept1 hk b (by simpa using ht.1) hB, fresh_blk h.subs hk b ht.2.1, fresh_blk h.codes hk b ht.2.2⟩
theorem PkM.toIn (h : PkM B w W p s) : p.In W s := ⟨h.pay.toSl, h.wp.toSl, h.pass.toSl, h.subs.sl, h.codes.sl⟩
end
def RestPost (At : World → Nat → Nat → Rd → Prop) (B g gp : Nat) (v : Pk × Rd) (w : World) (e : Ending) (w' : World) : Prop := ∃ p r s, v = (p, r) ∧ e = .returned (.tuple #[]) ∧ Kept [g, gp] w w' ∧ At w' B g r ∧ Blk w' gp 28 (p.cells s) ∧ PkM B w w' p s
set_option maxRecDepth 100000 in
set_option maxHeartbeats 2000000 in
theorem rconn_any (B g gp : Nat) (r : Rd) (w : World) (RD : RdAt w B g r) (hne : gp ≠ g) (hBp : B ≤ gp) (hBw : B ≤ w.heap.size) (BP : Blk w gp 28 (({ kind := 1 } : Pk).cells s0)) : Calls Tryd.prog 79 #[.pointer (some ⟨g, 0, none⟩), .pointer (some ⟨gp, 0, none⟩)] w (RestPost RdAt B g gp (connP { kind := 1 } r) w) := by
 have HK : Kept [g, gp] w w := Kept.refl _ w
 replace BP : Blk w gp 28 #[.int .i64 ({ kind := 1 } : Pk).kind, .bool ({ kind := 1 } : Pk).dup, .bool ({ kind := 1 } : Pk).retain, .int .i64 ({ kind := 1 } : Pk).qos, .int .i64 ({ kind := 1 } : Pk).id, .string ({ kind := 1 } : Pk).topic, .slice s0.pa ({ kind := 1 } : Pk).pay.length s0.pc, .int .i64 ({ kind := 1 } : Pk).level, .string ({ kind := 1 } : Pk).client, .bool ({ kind := 1 } : Pk).clean, .int .i64 ({ kind := 1 } : Pk).keep, .bool ({ kind := 1 } : Pk).hasWill, .string ({ kind := 1 } : Pk).wt, .slice s0.wa ({ kind := 1 } : Pk).wp.length s0.wc, .int .i64 ({ kind := 1 } : Pk).wq, .bool ({ kind := 1 } : Pk).wr, .bool ({ kind := 1 } : Pk).hasUser, .bool ({ kind := 1 } : Pk).hasPass, .string ({ kind := 1 } : Pk).user, .slice s0.sa ({ kind := 1 } : Pk).pass.length s0.sc, .bool ({ kind := 1 } : Pk).present, .int .i64 ({ kind := 1 } : Pk).code, .slice s0.ua ({ kind := 1 } : Pk).subs.length s0.uc, .slice s0.ca ({ kind := 1 } : Pk).codes.length s0.cc] := BP
 refine C.enter Tryd.func79 rfl Tryd.ntmps79 rfl ?_
 intro a0 f0
 have f1 : Fr 94 a0 [(0, .pointer (some ⟨g, 0, none⟩)), (1, .pointer (some ⟨gp, 0, none⟩))] := f0
 obtain ⟨J1, hJ1⟩ : ∃ J : Act → World → Prop, J = fun a W => Kept [g, gp] w W ∧ RdAt W B g ⟨r.text.2.l, !decide (r.text.1 = mqtt) || r.text.2.lk⟩ ∧ Blk W gp 28 (({ kind := 1 } : Pk).cells s0) ∧ Fr 94 a [(0, .pointer (some ⟨g, 0, none⟩)), (1, .pointer (some ⟨gp, 0, none⟩))] := ⟨_, rfl⟩
 clear f0
 refine C.cut J1 ?_ ?_
 ·skip
  refine C.region ?_
  refine L.mv f1 fun a2 f2 => ?_
  refine L.mv f2 fun a3 f3 => ?_
  obtain ⟨csg, BGO⟩ := RD.bk
  refine L.cl f3 (run_call Tryd.call81 (args1 f3 rfl)) (rtext_any B g _ _ RD) ?_
  clear f1 a0 f2 a2
  rintro e w1 ⟨v1, r1, e1, hv1, rfl, RDn, kc1⟩
  clear RD
  refine ⟨_, rfl, fun a4 f4 => ?_⟩
  have szw1 := kc1.size
  replace HK := HK.trans kc1 (ktr (by simp))
  replace BP := BP.kept kc1 (by simp; omega)
  clear f3 a3 kc1
  have RD := RDn
  clear RDn BGO
  obtain ⟨hBg, Ar, cr, BG, SG, hcr⟩ := RD
  refine L.va f4 (E.neqS f4 rfl rfl) fun a5 f5 => ?_
  refine L.mv f5 fun a6 f6 => ?_
  clear f4 a4 f5 a5
  refine f6.splitN 9 rfl (fun h0 f7 => ?_) (fun h0 f7 => ?_)
  ·have hq : ¬ v1 = mqtt := h0
   refine L.sk f7 (f7.noF rfl rfl) fun a8 f8 => ?_
   refine L.sk f8 (f8.noF rfl rfl) fun a9 f9 => ?_
   refine L.sk f9 (f9.noF rfl rfl) fun a10 f10 => ?_
   refine L.sk f10 (f10.noF rfl rfl) fun a11 f11 => ?_
   refine L.va f11 (E.pickT f11 rfl rfl) fun a12 f12 => ?_
   refine L.va f12 (E.nilCheck f12 rfl) fun a13 f13 => ?_
   refine L.fa 1 f13 U91 rfl wsz4_wf fun a14 f14 => ?_
   clear f6 f7 a6 f8 a8 f9 a9 f10 a10 f11 a11 f12 a12 f13 a13
   refine L.store f14 wantedN wsz4_wf rfl rfl rfl BG (by (simp [Value.cells]; done)) fun a15 w2 f15 NB2 ks2 => ?_
   have szw2 := ks2.size
   replace HK := HK.trans ks2 (ktr (by simp))
   replace BP := BP.kept ks2 (by simp; omega)
   replace SG := SG.kept1 ks2 BG (by decide) (by omega)
   replace BG := NB2
   simp only [Value.cells, z1, z2, z3, Nat.reduceAdd, Nat.zero_add] at BG
   clear ks2 f14 a14
   have RDn : RdAt w2 B g ⟨r.text.2.l, !decide (r.text.1 = mqtt) || r.text.2.lk⟩ := by rw [e1]; simp only [hq, decide_false, Bool.not_false, Bool.true_or]; exact ⟨hBg, Ar, cr, BG, SG, hcr⟩
   exact wpList_nil (then_of (J := J1) (Q := fun _ _ _ => True) (by rw [hJ1]; exact ⟨HK, RDn, BP, f15.sub (sub_cons rfl (sub_cons rfl sn))⟩))
  have hq : v1 = mqtt := h0
  refine L.mv f7 (hw := (f7.yes rfl rfl)) fun a8 f8 => ?_
  refine L.va f8 (E.nilCheck f8 rfl) (hw := (f8.yes rfl rfl)) fun a9 f9 => ?_
  refine L.fa 1 f9 U91 rfl wsz4_wf (hw := (f9.yes rfl rfl)) fun a10 f10 => ?_
  refine L.ld f10 U4 BG (hw := (f10.yes rfl rfl)) fun a11 f11 => ?_
  refine L.va f11 (E.pickF f11 rfl rfl) fun a12 f12 => ?_
  refine L.va f12 (E.nilCheck f12 rfl) fun a13 f13 => ?_
  refine L.fa 1 f13 U91 rfl wsz4_wf fun a14 f14 => ?_
  clear f6 f7 a6 f8 a8 f9 a9 f10 a10 f11 a11 f12 a12 f13 a13
  refine L.store f14 wantedN wsz4_wf rfl rfl rfl BG (by (simp [Value.cells]; done)) fun a15 w2 f15 NB2 ks2 => ?_
  have szw2 := ks2.size
  replace HK := HK.trans ks2 (ktr (by simp))
  replace BP := BP.kept ks2 (by simp; omega)
  replace SG := SG.kept1 ks2 BG (by decide) (by omega)
  replace BG := NB2
  simp only [Value.cells, z1, z2, z3, Nat.reduceAdd, Nat.zero_add] at BG
  clear ks2 f14 a14
  have RDn : RdAt w2 B g ⟨r.text.2.l, !decide (r.text.1 = mqtt) || r.text.2.lk⟩ := by rw [e1]; simp only [hq, decide_true, Bool.not_true, Bool.false_or]; exact ⟨hBg, Ar, cr, BG, SG, hcr⟩
  exact wpList_nil (then_of (J := J1) (Q := fun _ _ _ => True) (by rw [hJ1]; exact ⟨HK, RDn, BP, f15.sub (sub_cons rfl (sub_cons rfl sn))⟩))
 intro a2 w1 hj
 rw [hJ1] at hj
 clear hJ1 J1
 obtain ⟨HK, RD, BP, f2⟩ := hj
 try clear f1
 try clear BG
 try clear SG
 obtain ⟨t0, ht0⟩ : ∃ t : Rd, t = ⟨r.text.2.l, !decide (r.text.1 = mqtt) || r.text.2.lk⟩ := ⟨_, rfl⟩
 rw [← ht0] at RD
 replace BP : Blk w1 gp 28 #[.int .i64 ({ kind := 1 } : Pk).kind, .bool ({ kind := 1 } : Pk).dup, .bool ({ kind := 1 } : Pk).retain, .int .i64 ({ kind := 1 } : Pk).qos, .int .i64 ({ kind := 1 } : Pk).id, .string ({ kind := 1 } : Pk).topic, .slice s0.pa ({ kind := 1 } : Pk).pay.length s0.pc, .int .i64 ({ kind := 1 } : Pk).level, .string ({ kind := 1 } : Pk).client, .bool ({ kind := 1 } : Pk).clean, .int .i64 ({ kind := 1 } : Pk).keep, .bool ({ kind := 1 } : Pk).hasWill, .string ({ kind := 1 } : Pk).wt, .slice s0.wa ({ kind := 1 } : Pk).wp.length s0.wc, .int .i64 ({ kind := 1 } : Pk).wq, .bool ({ kind := 1 } : Pk).wr, .bool ({ kind := 1 } : Pk).hasUser, .bool ({ kind := 1 } : Pk).hasPass, .string ({ kind := 1 } : Pk).user, .slice s0.sa ({ kind := 1 } : Pk).pass.length s0.sc, .bool ({ kind := 1 } : Pk).present, .int .i64 ({ kind := 1 } : Pk).code, .slice s0.ua ({ kind := 1 } : Pk).subs.length s0.uc, .slice s0.ca ({ kind := 1 } : Pk).codes.length s0.cc] := BP
 refine C.sk fun K0 hK0 => ?_
 refine L.mv f2 fun a3 f3 => ?_
 refine L.mv f3 fun a4 f4 => ?_
 obtain ⟨csg, BGO⟩ := RD.bk
 refine L.cl f4 (run_call Tryd.call80 (args1 f4 rfl)) (one_any B g _ _ RD) ?_
 clear f2 a2 f3 a3
 rintro e w2 ⟨v2, r2, e2, hv2, rfl, RDn, kc2⟩
 clear RD
 refine ⟨_, rfl, fun a5 f5 => ?_⟩
 have szw2 := kc2.size
 replace HK := HK.trans kc2 (ktr (by simp))
 replace BP := BP.kept kc2 (by simp; omega)
 clear f4 a4 kc2
 have RD := RDn
 clear RDn BGO
 refine L.va f5 (E.nilCheck f5 rfl) fun a6 f6 => ?_
 refine L.fa 7 f6 U28 rfl wsz3_wf fun a7 f7 => ?_
 refine L.store f7 wantedN wsz3_wf rfl rfl rfl BP (by decide) fun a8 w3 f8 NB3 ks3 => ?_
 have szw3 := ks3.size
 replace HK := HK.trans ks3 (ktr (by simp))
 replace RD := RD.kept1 ks3 (by omega) (by omega) BP (by decide)
 replace BP := NB3
 simp only [Value.cells, z1, z2, z3, Nat.reduceAdd, Nat.zero_add] at BP
 clear f5 a5 f6 a6 ks3 f7 a7
 refine wpList_nil (hK0 _ _ ?_)
 have f9 := f8.sub (sc 0 (sc 1 sn))
 refine C.sk fun K1 hK1 => ?_
 refine L.mv f9 fun a10 f10 => ?_
 obtain ⟨csg, BGO⟩ := RD.bk
 refine L.cl f10 (run_call Tryd.call80 (args1 f10 rfl)) (one_any B g _ _ RD) ?_
 clear f8 f9 a8
 rintro e w4 ⟨v4, r4, e4, hv4, rfl, RDn, kc4⟩
 clear RD
 refine ⟨_, rfl, fun a11 f11 => ?_⟩
 have szw4 := kc4.size
 replace HK := HK.trans kc4 (ktr (by simp))
 replace BP := BP.kept kc4 (by simp; omega)
 clear f10 a10 kc4
 have RD := RDn
 clear RDn BGO
 refine L.ag f11 fun a12 f12 => ?_
 refine wpList_nil (hK1 _ _ ?_)
 have f13 := f12.sub (sc 0 (sc 1 (sc 4 sn)))
 refine C.sk fun K2 hK2 => ?_
 refine L.mv f13 fun a14 f14 => ?_
 refine L.mv f14 fun a15 f15 => ?_
 refine L.mv f15 fun a16 f16 => ?_
 obtain ⟨csg, BGO⟩ := RD.bk
 refine L.cl f16 (run_call Tryd.call82 (args1 f16 rfl)) (rtwo_any B g _ _ RD) ?_
 clear f11 a11 f12 f13 a12 f14 a14 f15 a15
 rintro e w5 ⟨n5, r5, e5, hn5, rfl, RDn, kc5⟩
 clear RD
 refine ⟨_, rfl, fun a17 f17 => ?_⟩
 have szw5 := kc5.size
 replace HK := HK.trans kc5 (ktr (by simp))
 replace BP := BP.kept kc5 (by simp; omega)
 clear f16 a16 kc5
 have RD := RDn
 clear RDn BGO
 refine L.mv f17 fun a18 f18 => ?_
 obtain ⟨csg, BGO⟩ := RD.bk
 refine L.cl f18 (run_call Tryd.call81 (args1 f18 rfl)) (rtext_any B g _ _ RD) ?_
 clear f17 a17
 rintro e w6 ⟨v6, r6, e6, hv6, rfl, RDn, kc6⟩
 clear RD
 refine ⟨_, rfl, fun a19 f19 => ?_⟩
 have szw6 := kc6.size
 replace HK := HK.trans kc6 (ktr (by simp))
 replace BP := BP.kept kc6 (by simp; omega)
 clear f18 a18 kc6
 have RD := RDn
 clear RDn BGO
 refine L.va f19 (E.nilCheck f19 rfl) fun a20 f20 => ?_
 refine L.fa 10 f20 U28 rfl wsz3_wf fun a21 f21 => ?_
 refine L.store f21 wantedN wsz3_wf rfl rfl rfl BP (by (simp [Value.cells]; done)) fun a22 w7 f22 NB7 ks7 => ?_
 have szw7 := ks7.size
 replace HK := HK.trans ks7 (ktr (by simp))
 replace RD := RD.kept1 ks7 (by omega) (by omega) BP (by decide)
 replace BP := NB7
 simp only [Value.cells, z1, z2, z3, Nat.reduceAdd, Nat.zero_add] at BP
 clear f19 a19 f20 a20 ks7 f21 a21
 refine L.va f22 (E.nilCheck f22 rfl) fun a23 f23 => ?_
 refine L.fa 8 f23 U28 rfl wsz9_wf fun a24 f24 => ?_
 refine L.store f24 wantedN wsz9_wf rfl rfl rfl BP (by (simp [Value.cells]; done)) fun a25 w8 f25 NB8 ks8 => ?_
 have szw8 := ks8.size
 replace HK := HK.trans ks8 (ktr (by simp))
 replace RD := RD.kept1 ks8 (by omega) (by omega) BP (by decide)
 replace BP := NB8
 simp only [Value.cells, z1, z2, z3, Nat.reduceAdd, Nat.zero_add] at BP
 clear f22 a22 f23 a23 ks8 f24 a24
 refine wpList_nil (hK2 _ _ ?_)
 have f26 := f25.sub (sc 0 (sc 1 (sc 4 sn)))
 obtain ⟨J5, hJ5⟩ : ∃ J : Act → World → Prop, J = fun a W => ∃ f1 p1 r1, connHead { kind := 1 } r = ((f1, p1), r1) ∧ (0 ≤ f1 ∧ f1 ≤ 255) ∧ (p1.pay = [] ∧ p1.wp = [] ∧ p1.pass = [] ∧ p1.subs = [] ∧ p1.codes = []) ∧ Kept [g, gp] w W ∧ RdAt W B g r1 ∧ Blk W gp 28 (p1.cells s0) ∧ Fr 94 a [(0, .pointer (some ⟨g, 0, none⟩)), (1, .pointer (some ⟨gp, 0, none⟩)), (4, .int .i64 f1)] := ⟨_, rfl⟩
 clear f25
 refine C.cut J5 ?_ ?_
 ·skip
  refine C.region ?_
  refine L.mv f26 fun a27 f27 => ?_
  refine L.mv f27 fun a28 f28 => ?_
  refine L.mv f28 fun a29 f29 => ?_
  refine L.mv f29 fun a30 f30 => ?_
  refine L.mv f30 fun a31 f31 => ?_
  refine L.va f31 (E.and f31 rfl rfl (andi_2 (by omega) (by omega))) fun a32 f32 => ?_
  refine L.va f32 (E.neq f32 rfl rfl) fun a33 f33 => ?_
  clear f26 a25 f27 a27 f28 a28 f29 a29 f30 a30 f31 a31 f32 a32
  refine L.mv f33 fun a34 f34 => ?_
  refine L.va f34 (E.and f34 rfl rfl (andi_4 (by omega) (by omega))) fun a35 f35 => ?_
  refine L.va f35 (E.neq f35 rfl rfl) fun a36 f36 => ?_
  refine L.mv f36 fun a37 f37 => ?_
  refine L.va f37 (E.and f37 rfl rfl (andi_128 (by omega) (by omega))) fun a38 f38 => ?_
  refine L.va f38 (E.neq f38 rfl rfl) fun a39 f39 => ?_
  refine L.mv f39 fun a40 f40 => ?_
  clear f33 a33 f34 a34 f35 a35 f36 a36 f37 a37 f38 a38 f39 a39
  refine L.va f40 (E.and f40 rfl rfl (andi_64 (by omega) (by omega))) fun a41 f41 => ?_
  refine L.va f41 (E.neq f41 rfl rfl) fun a42 f42 => ?_
  refine L.va f42 (E.nilCheck f42 rfl) fun a43 f43 => ?_
  refine L.fa 9 f43 U28 rfl wsz4_wf fun a44 f44 => ?_
  refine L.store f44 wantedN wsz4_wf rfl rfl rfl BP (by (simp [Value.cells]; done)) fun a45 w9 f45 NB9 ks9 => ?_
  have szw9 := ks9.size
  replace HK := HK.trans ks9 (ktr (by simp))
  replace RD := RD.kept1 ks9 (by omega) (by omega) BP (by decide)
  replace BP := NB9
  simp only [Value.cells, z1, z2, z3, Nat.reduceAdd, Nat.zero_add] at BP
  clear f40 a40 f41 a41 f42 a42 f43 a43 ks9 f44 a44
  refine L.va f45 (E.nilCheck f45 rfl) fun a46 f46 => ?_
  refine L.fa 11 f46 U28 rfl wsz4_wf fun a47 f47 => ?_
  refine L.store f47 wantedN wsz4_wf rfl rfl rfl BP (by (simp [Value.cells]; done)) fun a48 w10 f48 NB10 ks10 => ?_
  have szw10 := ks10.size
  replace HK := HK.trans ks10 (ktr (by simp))
  replace RD := RD.kept1 ks10 (by omega) (by omega) BP (by decide)
  replace BP := NB10
  simp only [Value.cells, z1, z2, z3, Nat.reduceAdd, Nat.zero_add] at BP
  clear f45 a45 f46 a46 ks10 f47 a47
  refine L.va f48 (E.nilCheck f48 rfl) fun a49 f49 => ?_
  refine L.fa 16 f49 U28 rfl wsz4_wf fun a50 f50 => ?_
  refine L.store f50 wantedN wsz4_wf rfl rfl rfl BP (by (simp [Value.cells]; done)) fun a51 w11 f51 NB11 ks11 => ?_
  have szw11 := ks11.size
  replace HK := HK.trans ks11 (ktr (by simp))
  replace RD := RD.kept1 ks11 (by omega) (by omega) BP (by decide)
  replace BP := NB11
  simp only [Value.cells, z1, z2, z3, Nat.reduceAdd, Nat.zero_add] at BP
  clear f48 a48 f49 a49 ks11 f50 a50
  refine L.va f51 (E.nilCheck f51 rfl) fun a52 f52 => ?_
  refine L.fa 17 f52 U28 rfl wsz4_wf fun a53 f53 => ?_
  refine L.store f53 wantedN wsz4_wf rfl rfl rfl BP (by (simp [Value.cells]; done)) fun a54 w12 f54 NB12 ks12 => ?_
  have szw12 := ks12.size
  replace HK := HK.trans ks12 (ktr (by simp))
  replace RD := RD.kept1 ks12 (by omega) (by omega) BP (by decide)
  replace BP := NB12
  simp only [Value.cells, z1, z2, z3, Nat.reduceAdd, Nat.zero_add] at BP
  clear f51 a51 f52 a52 ks12 f53 a53
  have hH : connHead { kind := 1 } r = ((v4, ({ kind := 1, level := v2, keep := (n5 : Int), client := v6, clean := bitI v4 2, hasWill := bitI v4 4, hasUser := bitI v4 128, hasPass := bitI v4 64 } : Pk)), r6) := by unfold connHead; simp only [← ht0, e2, e4, e5, e6]
  rw [bit_ne v4 2 (by omega), bit_ne v4 4 (by omega), bit_ne v4 128 (by omega), bit_ne v4 64 (by omega)] at BP
  exact wpList_nil (then_of (J := J5) (Q := fun _ _ _ => True) (by rw [hJ5]; exact ⟨v4, ({ kind := 1, level := v2, keep := (n5 : Int), client := v6, clean := bitI v4 2, hasWill := bitI v4 4, hasUser := bitI v4 128, hasPass := bitI v4 64 } : Pk), r6, hH, hv4, ⟨rfl, rfl, rfl, rfl, rfl⟩, HK, RD, BP, f54.sub (sub_cons rfl (sub_cons rfl (sub_cons rfl sn)))⟩))
 intro a27 w9 hj
 rw [hJ5] at hj
 clear hJ5 J5
 obtain ⟨f1, p1, r1, hH, hf1, ⟨z1_, z2_, z3_, z4_, z5_⟩, HK, RD, BP, f27⟩ := hj
 try clear f26
 replace BP : Blk w9 gp 28 #[.int .i64 p1.kind, .bool p1.dup, .bool p1.retain, .int .i64 p1.qos, .int .i64 p1.id, .string p1.topic, .slice s0.pa p1.pay.length s0.pc, .int .i64 p1.level, .string p1.client, .bool p1.clean, .int .i64 p1.keep, .bool p1.hasWill, .string p1.wt, .slice s0.wa p1.wp.length s0.wc, .int .i64 p1.wq, .bool p1.wr, .bool p1.hasUser, .bool p1.hasPass, .string p1.user, .slice s0.sa p1.pass.length s0.sc, .bool p1.present, .int .i64 p1.code, .slice s0.ua p1.subs.length s0.uc, .slice s0.ca p1.codes.length s0.cc] := BP
 obtain ⟨J7, hJ7⟩ : ∃ J : Act → World → Prop, J = fun a W => ∃ p2 r2 A c, connWill f1 p1 r1 = (p2, r2) ∧ (p2.pay = [] ∧ p2.pass = [] ∧ p2.subs = [] ∧ p2.codes = []) ∧ Kept [g, gp] w W ∧ RdAt W B g r2 ∧ Blk W gp 28 (p2.cells { s0 with wa := A, wc := c }) ∧ FB w W A c p2.wp ∧ Fr 94 a [(0, .pointer (some ⟨g, 0, none⟩)), (1, .pointer (some ⟨gp, 0, none⟩))] := ⟨_, rfl⟩
 refine C.cut J7 ?_ ?_
 ·skip
  refine C.sk fun K3 hK3 => ?_
  refine L.mv f27 fun a28 f28 => ?_
  refine L.va f28 (E.nilCheck f28 rfl) fun a29 f29 => ?_
  refine L.fa 11 f29 U28 rfl wsz4_wf fun a30 f30 => ?_
  refine L.ld f30 U4 BP fun a31 f31 => ?_
  refine wpList_nil (hK3 _ _ ?_)
  have f32 := f31.sub (sc 0 (sc 1 (sc 4 (sc 61 sn))))
  clear f27 a27 f28 a28 f29 a29 f30 a30 f31
  refine f32.split 61 rfl (fun h1 f33 => ?_) (fun h1 f33 => ?_)
  ·have hw := h1
   refine C.condT f33 rfl ?_
   refine C.region ?_
   refine L.mv f33 fun a34 f34 => ?_
   refine L.mv f34 fun a35 f35 => ?_
   obtain ⟨csg, BGO⟩ := RD.bk
   refine L.cl f35 (run_call Tryd.call81 (args1 f35 rfl)) (rtext_any B g _ _ RD) ?_
   clear f32 f33 a31 f34 a34
   rintro e w10 ⟨v10, r10, e10, hv10, rfl, RDn, kc10⟩
   clear RD
   refine ⟨_, rfl, fun a36 f36 => ?_⟩
   have szw10 := kc10.size
   replace HK := HK.trans kc10 (ktr (by simp))
   replace BP := BP.kept kc10 (by simp; omega)
   clear f35 a35 kc10
   have RD := RDn
   clear RDn BGO
   refine L.mv f36 fun a37 f37 => ?_
   obtain ⟨csg, BGO⟩ := RD.bk
   refine L.cl f37 (run_call Tryd.call90 (args1 f37 rfl)) (lump_any2 B g _ _ RD) ?_
   clear f36 a36
   rintro e w11 ⟨l11, r11, e11, hl11, A11, c11, rfl, FR11, RDn, kc11⟩
   have szk := HK.size
   replace FR11 := FR11.lower szk
   clear RD
   refine ⟨_, rfl, fun a38 f38 => ?_⟩
   have szw11 := kc11.size
   replace HK := HK.trans kc11 (ktr (by simp))
   replace BP := BP.kept kc11 (by simp; omega)
   clear f37 a37 kc11
   have RD := RDn
   clear RDn BGO
   refine L.mv f38 fun a39 f39 => ?_
   refine L.va f39 (E.shrN f39 rfl rfl (by decide) (by decide) (show _ / 2 ^ (3 : Int).toNat = _ / 8 from rfl)) fun a40 f40 => ?_
   refine L.va f40 (E.and f40 rfl rfl (andi_3 (by omega) (by omega))) fun a41 f41 => ?_
   refine L.mv f41 fun a42 f42 => ?_
   refine L.va f42 (E.and f42 rfl rfl (andi_32 (by omega) (by omega))) fun a43 f43 => ?_
   refine L.va f43 (E.neq f43 rfl rfl) fun a44 f44 => ?_
   refine L.va f44 (E.build f44 (parts4 f44 rfl rfl rfl rfl) (wbl24_0_1_2_3_wf _ _ _ _ _ _)) fun a45 f45 => ?_
   clear f38 a38 f39 a39 f40 a40 f41 a41 f42 a42 f43 a43 f44 a44
   refine L.va f45 (E.nilCheck f45 rfl) fun a46 f46 => ?_
   refine L.fa 12 f46 U28 rfl wsz24_wf fun a47 f47 => ?_
   refine L.storeSeg f47 wantedN wsz24_wf rfl rfl rfl BP (Nat.le_of_ble_eq_true rfl) rfl fun a48 w12 f48 NB12 ks12 => ?_
   have szw12 := ks12.size
   replace HK := HK.trans ks12 (ktr (by simp))
   replace RD := RD.kept1 ks12 (by omega) (by omega) BP (by decide)
   replace FR11 := FR11.keptB ks12 BP (by decide)
   replace BP := NB12
   simp only [setSeg, List.set_cons_zero, List.set_cons_succ, Nat.reduceAdd, Nat.zero_add] at BP
   clear f45 a45 f46 a46 ks12 f47 a47
   rw [bit_ne f1 32 (by omega)] at BP
   exact wpList_nil (then_of (J := J7) (Q := fun _ _ _ => True) (by rw [hJ7]; exact ⟨{ p1 with wt := v10, wp := l11, wq := f1 / 8 % 4, wr := bitI f1 32 }, r11, A11, c11, by unfold connWill; rw [if_pos hw]; simp only [e10, e11], ⟨z1_, z3_, z4_, z5_⟩, HK, RD, BP, FR11, f48.sub (sub_cons rfl (sub_cons rfl sn))⟩))
  have hw := h1
  refine C.condF f33 rfl ?_
  exact wp_skip (then_of (J := J7) (Q := fun _ _ _ => True) (by rw [hJ7]; exact ⟨p1, r1, none, 0, by unfold connWill; rw [if_neg (by rw [hw]; decide)], ⟨z1_, z3_, z4_, z5_⟩, HK, RD, BP, by rw [z2_]; exact FB.nil _ _, f33.sub (sub_cons rfl (sub_cons rfl sn))⟩))
 intro a28 w10 hj
 rw [hJ7] at hj
 clear hJ7 J7
 obtain ⟨p2, r2, A2, c2, hW2, ⟨y1, y3, y4, y5⟩, HK, RD, BP, FR, f28⟩ := hj
 try clear f27
 replace BP : Blk w10 gp 28 #[.int .i64 p2.kind, .bool p2.dup, .bool p2.retain, .int .i64 p2.qos, .int .i64 p2.id, .string p2.topic, .slice ({ s0 with wa := A2, wc := c2 } : Ad).pa p2.pay.length ({ s0 with wa := A2, wc := c2 } : Ad).pc, .int .i64 p2.level, .string p2.client, .bool p2.clean, .int .i64 p2.keep, .bool p2.hasWill, .string p2.wt, .slice ({ s0 with wa := A2, wc := c2 } : Ad).wa p2.wp.length ({ s0 with wa := A2, wc := c2 } : Ad).wc, .int .i64 p2.wq, .bool p2.wr, .bool p2.hasUser, .bool p2.hasPass, .string p2.user, .slice ({ s0 with wa := A2, wc := c2 } : Ad).sa p2.pass.length ({ s0 with wa := A2, wc := c2 } : Ad).sc, .bool p2.present, .int .i64 p2.code, .slice ({ s0 with wa := A2, wc := c2 } : Ad).ua p2.subs.length ({ s0 with wa := A2, wc := c2 } : Ad).uc, .slice ({ s0 with wa := A2, wc := c2 } : Ad).ca p2.codes.length ({ s0 with wa := A2, wc := c2 } : Ad).cc] := BP
 obtain ⟨J9, hJ9⟩ : ∃ J : Act → World → Prop, J = fun a W => ∃ p3 r3, connUser p2 r2 = (p3, r3) ∧ (p3.pay = [] ∧ p3.pass = [] ∧ p3.subs = [] ∧ p3.codes = []) ∧ Kept [g, gp] w W ∧ RdAt W B g r3 ∧ Blk W gp 28 (p3.cells { s0 with wa := A2, wc := c2 }) ∧ FB w W A2 c2 p3.wp ∧ Fr 94 a [(0, .pointer (some ⟨g, 0, none⟩)), (1, .pointer (some ⟨gp, 0, none⟩))] := ⟨_, rfl⟩
 refine C.cut J9 ?_ ?_
 ·skip
  refine C.sk fun K4 hK4 => ?_
  refine L.mv f28 fun a29 f29 => ?_
  refine L.va f29 (E.nilCheck f29 rfl) fun a30 f30 => ?_
  refine L.fa 16 f30 U28 rfl wsz4_wf fun a31 f31 => ?_
  refine L.ld f31 U4 BP fun a32 f32 => ?_
  refine wpList_nil (hK4 _ _ ?_)
  have f33 := f32.sub (sc 0 (sc 1 (sc 79 sn)))
  clear f28 a28 f29 a29 f30 a30 f31 a31 f32
  refine f33.split 79 rfl (fun h2 f34 => ?_) (fun h2 f34 => ?_)
  ·have hw := h2
   refine C.condT f34 rfl ?_
   refine C.region ?_
   refine L.mv f34 fun a35 f35 => ?_
   refine L.mv f35 fun a36 f36 => ?_
   obtain ⟨csg, BGO⟩ := RD.bk
   refine L.cl f36 (run_call Tryd.call81 (args1 f36 rfl)) (rtext_any B g _ _ RD) ?_
   clear f33 f34 a32 f35 a35
   rintro e w11 ⟨v11, r11, e11, hv11, rfl, RDn, kc11⟩
   clear RD
   refine ⟨_, rfl, fun a37 f37 => ?_⟩
   have szw11 := kc11.size
   replace HK := HK.trans kc11 (ktr (by simp))
   replace BP := BP.kept kc11 (by simp; omega)
   replace FR := FR.keptB kc11 BGO (by decide)
   clear f36 a36 kc11
   have RD := RDn
   clear RDn BGO
   refine L.va f37 (E.nilCheck f37 rfl) fun a38 f38 => ?_
   refine L.fa 18 f38 U28 rfl wsz9_wf fun a39 f39 => ?_
   refine L.store f39 wantedN wsz9_wf rfl rfl rfl BP (by (simp [Value.cells]; done)) fun a40 w12 f40 NB12 ks12 => ?_
   have szw12 := ks12.size
   replace HK := HK.trans ks12 (ktr (by simp))
   replace FR := FR.keptB ks12 BP (by decide)
   replace RD := RD.kept1 ks12 (by omega) (by omega) BP (by decide)
   replace BP := NB12
   simp only [Value.cells, z1, z2, z3, Nat.reduceAdd, Nat.zero_add] at BP
   clear f37 a37 f38 a38 ks12 f39 a39
   exact wpList_nil (then_of (J := J9) (Q := fun _ _ _ => True) (by rw [hJ9]; exact ⟨{ p2 with user := v11 }, r11, by unfold connUser; rw [if_pos hw]; simp only [e11], ⟨y1, y3, y4, y5⟩, HK, RD, BP, FR, f40.sub (sub_cons rfl (sub_cons rfl sn))⟩))
  have hw := h2
  refine C.condF f34 rfl ?_
  exact wp_skip (then_of (J := J9) (Q := fun _ _ _ => True) (by rw [hJ9]; exact ⟨p2, r2, by unfold connUser; rw [if_neg (by rw [hw]; decide)], ⟨y1, y3, y4, y5⟩, HK, RD, BP, FR, f34.sub (sub_cons rfl (sub_cons rfl sn))⟩))
 intro a29 w11 hj
 rw [hJ9] at hj
 clear hJ9 J9
 obtain ⟨p3, r3, hW3, ⟨x1, x3, x4, x5⟩, HK, RD, BP, FR, f29⟩ := hj
 try clear f28
 replace BP : Blk w11 gp 28 #[.int .i64 p3.kind, .bool p3.dup, .bool p3.retain, .int .i64 p3.qos, .int .i64 p3.id, .string p3.topic, .slice ({ s0 with wa := A2, wc := c2 } : Ad).pa p3.pay.length ({ s0 with wa := A2, wc := c2 } : Ad).pc, .int .i64 p3.level, .string p3.client, .bool p3.clean, .int .i64 p3.keep, .bool p3.hasWill, .string p3.wt, .slice ({ s0 with wa := A2, wc := c2 } : Ad).wa p3.wp.length ({ s0 with wa := A2, wc := c2 } : Ad).wc, .int .i64 p3.wq, .bool p3.wr, .bool p3.hasUser, .bool p3.hasPass, .string p3.user, .slice ({ s0 with wa := A2, wc := c2 } : Ad).sa p3.pass.length ({ s0 with wa := A2, wc := c2 } : Ad).sc, .bool p3.present, .int .i64 p3.code, .slice ({ s0 with wa := A2, wc := c2 } : Ad).ua p3.subs.length ({ s0 with wa := A2, wc := c2 } : Ad).uc, .slice ({ s0 with wa := A2, wc := c2 } : Ad).ca p3.codes.length ({ s0 with wa := A2, wc := c2 } : Ad).cc] := BP
 refine C.sk fun K5 hK5 => ?_
 refine L.mv f29 fun a30 f30 => ?_
 refine L.va f30 (E.nilCheck f30 rfl) fun a31 f31 => ?_
 refine L.fa 17 f31 U28 rfl wsz4_wf fun a32 f32 => ?_
 refine L.ld f32 U4 BP fun a33 f33 => ?_
 refine wpList_nil (hK5 _ _ ?_)
 have f34 := f33.sub (sc 0 (sc 1 (sc 88 sn)))
 clear f29 a29 f30 a30 f31 a31 f32 a32 f33
 refine f34.split 88 rfl (fun h3 f35 => ?_) (fun h3 f35 => ?_)
 ·have hw := h3
  refine C.condT f35 rfl ?_
  refine C.region ?_
  refine L.mv f35 fun a36 f36 => ?_
  refine L.mv f36 fun a37 f37 => ?_
  obtain ⟨csg, BGO⟩ := RD.bk
  refine L.cl f37 (run_call Tryd.call90 (args1 f37 rfl)) (lump_any2 B g _ _ RD) ?_
  clear f34 f35 a33 f36 a36
  rintro e w12 ⟨l12, r12, e12, hl12, A12, c12, rfl, FR12, RDn, kc12⟩
  have szk := HK.size
  replace FR12 := FR12.lower szk
  clear RD
  refine ⟨_, rfl, fun a38 f38 => ?_⟩
  have szw12 := kc12.size
  replace HK := HK.trans kc12 (ktr (by simp))
  replace BP := BP.kept kc12 (by simp; omega)
  replace FR := FR.keptB kc12 BGO (by decide)
  clear f37 a37 kc12
  have RD := RDn
  clear RDn BGO
  refine L.va f38 (E.nilCheck f38 rfl) fun a39 f39 => ?_
  refine L.fa 19 f39 U28 rfl wsz22_wf fun a40 f40 => ?_
  refine L.store f40 wantedN wsz22_wf rfl rfl rfl BP (by (simp [Value.cells]; done)) fun a41 w13 f41 NB13 ks13 => ?_
  have szw13 := ks13.size
  replace HK := HK.trans ks13 (ktr (by simp))
  replace FR := FR.keptB ks13 BP (by decide)
  replace RD := RD.kept1 ks13 (by omega) (by omega) BP (by decide)
  replace FR12 := FR12.keptB ks13 BP (by decide)
  replace BP := NB13
  simp only [Value.cells, z1, z2, z3, Nat.reduceAdd, Nat.zero_add] at BP
  clear f38 a38 f39 a39 ks13 f40 a40
  refine wpList_nil (C.end0 (P := Tryd.prog) (fn := Tryd.f79) f41 rfl ?_)
  exact ⟨{ p3 with pass := l12 }, r12, { s0 with wa := A2, wc := c2, sa := A12, sc := c12 }, by unfold connP connPass; simp only [hH, hW2, hW3]; rw [if_pos hw]; simp only [e12], rfl, HK, RD, BP, PkM.of hBw (by rw [x1]; exact FB.nil _ _) FR FR12 (by rw [x4]; exact Fresh.nil _ _ _ _) (by rw [x5]; exact Fresh.nil _ _ _ _)⟩
 have hw := h3
 refine C.condF f35 rfl ?_
 refine wp_skip (C.end0 (P := Tryd.prog) (fn := Tryd.f79) f35 rfl ?_)
 exact ⟨p3, r3, { s0 with wa := A2, wc := c2 }, by unfold connP connPass; simp only [hH, hW2, hW3]; rw [if_neg (by rw [hw]; decide)], rfl, HK, RD, BP, PkM.of hBw (by rw [x1]; exact FB.nil _ _) FR (by rw [x3]; exact FB.nil _ _) (by rw [x4]; exact Fresh.nil _ _ _ _) (by rw [x5]; exact Fresh.nil _ _ _ _)⟩
end Go.Proofs.YtigjafbbnocihaaDoor
namespace Go.Hub
open Go.Vl
theorem rightR_is (p : Pk) : rightR p = rightB p := by
  cases hk : inB p.kind 1 14
  · simp [rightR, rightB, hk]
  by_cases hs : ¬ p = bareP p
  · have : samePk p (bareP p) = false := samePk_f hs
    simp [rightR, rightB, this]
  replace hs := Classical.not_not.1 hs
  have hsm : samePk p (bareP p) = true := samePk_iff.2 hs
  have t0 := txB_em
  rcases kind_cases hk with h | h | h | h | h | h | h | h | h | h | h | h | h | h
  · have e := hk
    clear hk
    have z_dup : p.dup = false := by rw [hs]; simp [bareP, h, numB, inB]
    have z_retain : p.retain = false := by rw [hs]; simp [bareP, h, numB, inB]
    have z_qos : p.qos = 0 := by rw [hs]; simp [bareP, h, numB, inB]
    have z_id : p.id = 0 := by rw [hs]; simp [bareP, h, numB, inB]
    have z_topic : p.topic = em := by rw [hs]; simp [bareP, h, numB, inB]
    have z_pay : p.pay = [] := by rw [hs]; simp [bareP, h, numB, inB]
    have z_present : p.present = false := by rw [hs]; simp [bareP, h, numB, inB]
    have z_code : p.code = 0 := by rw [hs]; simp [bareP, h, numB, inB]
    have z_subs : p.subs = [] := by rw [hs]; simp [bareP, h, numB, inB]
    have z_codes : p.codes = [] := by rw [hs]; simp [bareP, h, numB, inB]
    simp only [rightR, rightB, valB, numB, hsm, e, h, z_dup, z_retain, z_qos, z_id, z_topic, z_pay, z_present, z_code, z_subs, z_codes]
    rw [Bool.eq_iff_iff]
    simp [subB, codB, inB, txB_em, numB, h]
    try grind
  · have e := hk
    clear hk
    have z_dup : p.dup = false := by rw [hs]; simp [bareP, h, numB, inB]
    have z_retain : p.retain = false := by rw [hs]; simp [bareP, h, numB, inB]
    have z_qos : p.qos = 0 := by rw [hs]; simp [bareP, h, numB, inB]
    have z_id : p.id = 0 := by rw [hs]; simp [bareP, h, numB, inB]
    have z_topic : p.topic = em := by rw [hs]; simp [bareP, h, numB, inB]
    have z_pay : p.pay = [] := by rw [hs]; simp [bareP, h, numB, inB]
    have z_level : p.level = 0 := by rw [hs]; simp [bareP, h, numB, inB]
    have z_client : p.client = em := by rw [hs]; simp [bareP, h, numB, inB]
    have z_clean : p.clean = false := by rw [hs]; simp [bareP, h, numB, inB]
    have z_keep : p.keep = 0 := by rw [hs]; simp [bareP, h, numB, inB]
    have z_hasWill : p.hasWill = false := by rw [hs]; simp [bareP, h, numB, inB]
    have z_wt : p.wt = em := by rw [hs]; simp [bareP, h, numB, inB]
    have z_wp : p.wp = [] := by rw [hs]; simp [bareP, h, numB, inB]
    have z_wq : p.wq = 0 := by rw [hs]; simp [bareP, h, numB, inB]
    have z_wr : p.wr = false := by rw [hs]; simp [bareP, h, numB, inB]
    have z_hasUser : p.hasUser = false := by rw [hs]; simp [bareP, h, numB, inB]
    have z_hasPass : p.hasPass = false := by rw [hs]; simp [bareP, h, numB, inB]
    have z_user : p.user = em := by rw [hs]; simp [bareP, h, numB, inB]
    have z_subs : p.subs = [] := by rw [hs]; simp [bareP, h, numB, inB]
    have z_codes : p.codes = [] := by rw [hs]; simp [bareP, h, numB, inB]
    have z_pass : p.pass = [] := by rw [hs]; simp [bareP, h, numB, inB]
    simp only [rightR, rightB, valB, numB, hsm, e, h, z_dup, z_retain, z_qos, z_id, z_topic, z_pay, z_level, z_client, z_clean, z_keep, z_hasWill, z_wt, z_wp, z_wq, z_wr, z_hasUser, z_hasPass, z_user, z_subs, z_codes, z_pass]
    rw [Bool.eq_iff_iff]
    simp [subB, codB, inB, txB_em, numB, h]
    try grind
  · have e := hk
    clear hk
    have z_level : p.level = 0 := by rw [hs]; simp [bareP, h, numB, inB]
    have z_client : p.client = em := by rw [hs]; simp [bareP, h, numB, inB]
    have z_clean : p.clean = false := by rw [hs]; simp [bareP, h, numB, inB]
    have z_keep : p.keep = 0 := by rw [hs]; simp [bareP, h, numB, inB]
    have z_hasWill : p.hasWill = false := by rw [hs]; simp [bareP, h, numB, inB]
    have z_wt : p.wt = em := by rw [hs]; simp [bareP, h, numB, inB]
    have z_wp : p.wp = [] := by rw [hs]; simp [bareP, h, numB, inB]
    have z_wq : p.wq = 0 := by rw [hs]; simp [bareP, h, numB, inB]
    have z_wr : p.wr = false := by rw [hs]; simp [bareP, h, numB, inB]
    have z_hasUser : p.hasUser = false := by rw [hs]; simp [bareP, h, numB, inB]
    have z_hasPass : p.hasPass = false := by rw [hs]; simp [bareP, h, numB, inB]
    have z_user : p.user = em := by rw [hs]; simp [bareP, h, numB, inB]
    have z_present : p.present = false := by rw [hs]; simp [bareP, h, numB, inB]
    have z_code : p.code = 0 := by rw [hs]; simp [bareP, h, numB, inB]
    have z_subs : p.subs = [] := by rw [hs]; simp [bareP, h, numB, inB]
    have z_codes : p.codes = [] := by rw [hs]; simp [bareP, h, numB, inB]
    have z_pass : p.pass = [] := by rw [hs]; simp [bareP, h, numB, inB]
    simp only [rightR, rightB, valB, numB, hsm, e, h, z_level, z_client, z_clean, z_keep, z_hasWill, z_wt, z_wp, z_wq, z_wr, z_hasUser, z_hasPass, z_user, z_present, z_code, z_subs, z_codes, z_pass]
    rw [Bool.eq_iff_iff]
    simp [subB, codB, inB, txB_em, numB, h]
    try grind
  · have e := hk
    clear hk
    have z_dup : p.dup = false := by rw [hs]; simp [bareP, h, numB, inB]
    have z_retain : p.retain = false := by rw [hs]; simp [bareP, h, numB, inB]
    have z_qos : p.qos = 0 := by rw [hs]; simp [bareP, h, numB, inB]
    have z_topic : p.topic = em := by rw [hs]; simp [bareP, h, numB, inB]
    have z_pay : p.pay = [] := by rw [hs]; simp [bareP, h, numB, inB]
    have z_level : p.level = 0 := by rw [hs]; simp [bareP, h, numB, inB]
    have z_client : p.client = em := by rw [hs]; simp [bareP, h, numB, inB]
    have z_clean : p.clean = false := by rw [hs]; simp [bareP, h, numB, inB]
    have z_keep : p.keep = 0 := by rw [hs]; simp [bareP, h, numB, inB]
    have z_hasWill : p.hasWill = false := by rw [hs]; simp [bareP, h, numB, inB]
    have z_wt : p.wt = em := by rw [hs]; simp [bareP, h, numB, inB]
    have z_wp : p.wp = [] := by rw [hs]; simp [bareP, h, numB, inB]
    have z_wq : p.wq = 0 := by rw [hs]; simp [bareP, h, numB, inB]
    have z_wr : p.wr = false := by rw [hs]; simp [bareP, h, numB, inB]
    have z_hasUser : p.hasUser = false := by rw [hs]; simp [bareP, h, numB, inB]
    have z_hasPass : p.hasPass = false := by rw [hs]; simp [bareP, h, numB, inB]
    have z_user : p.user = em := by rw [hs]; simp [bareP, h, numB, inB]
    have z_present : p.present = false := by rw [hs]; simp [bareP, h, numB, inB]
    have z_code : p.code = 0 := by rw [hs]; simp [bareP, h, numB, inB]
    have z_subs : p.subs = [] := by rw [hs]; simp [bareP, h, numB, inB]
    have z_codes : p.codes = [] := by rw [hs]; simp [bareP, h, numB, inB]
    have z_pass : p.pass = [] := by rw [hs]; simp [bareP, h, numB, inB]
    simp only [rightR, rightB, valB, numB, hsm, e, h, z_dup, z_retain, z_qos, z_topic, z_pay, z_level, z_client, z_clean, z_keep, z_hasWill, z_wt, z_wp, z_wq, z_wr, z_hasUser, z_hasPass, z_user, z_present, z_code, z_subs, z_codes, z_pass]
    rw [Bool.eq_iff_iff]
    simp [subB, codB, inB, txB_em, numB, h]
    try grind
  · have e := hk
    clear hk
    have z_dup : p.dup = false := by rw [hs]; simp [bareP, h, numB, inB]
    have z_retain : p.retain = false := by rw [hs]; simp [bareP, h, numB, inB]
    have z_qos : p.qos = 0 := by rw [hs]; simp [bareP, h, numB, inB]
    have z_topic : p.topic = em := by rw [hs]; simp [bareP, h, numB, inB]
    have z_pay : p.pay = [] := by rw [hs]; simp [bareP, h, numB, inB]
    have z_level : p.level = 0 := by rw [hs]; simp [bareP, h, numB, inB]
    have z_client : p.client = em := by rw [hs]; simp [bareP, h, numB, inB]
    have z_clean : p.clean = false := by rw [hs]; simp [bareP, h, numB, inB]
    have z_keep : p.keep = 0 := by rw [hs]; simp [bareP, h, numB, inB]
    have z_hasWill : p.hasWill = false := by rw [hs]; simp [bareP, h, numB, inB]
    have z_wt : p.wt = em := by rw [hs]; simp [bareP, h, numB, inB]
    have z_wp : p.wp = [] := by rw [hs]; simp [bareP, h, numB, inB]
    have z_wq : p.wq = 0 := by rw [hs]; simp [bareP, h, numB, inB]
    have z_wr : p.wr = false := by rw [hs]; simp [bareP, h, numB, inB]
    have z_hasUser : p.hasUser = false := by rw [hs]; simp [bareP, h, numB, inB]
    have z_hasPass : p.hasPass = false := by rw [hs]; simp [bareP, h, numB, inB]
    have z_user : p.user = em := by rw [hs]; simp [bareP, h, numB, inB]
    have z_present : p.present = false := by rw [hs]; simp [bareP, h, numB, inB]
    have z_code : p.code = 0 := by rw [hs]; simp [bareP, h, numB, inB]
    have z_subs : p.subs = [] := by rw [hs]; simp [bareP, h, numB, inB]
    have z_codes : p.codes = [] := by rw [hs]; simp [bareP, h, numB, inB]
    have z_pass : p.pass = [] := by rw [hs]; simp [bareP, h, numB, inB]
    simp only [rightR, rightB, valB, numB, hsm, e, h, z_dup, z_retain, z_qos, z_topic, z_pay, z_level, z_client, z_clean, z_keep, z_hasWill, z_wt, z_wp, z_wq, z_wr, z_hasUser, z_hasPass, z_user, z_present, z_code, z_subs, z_codes, z_pass]
    rw [Bool.eq_iff_iff]
    simp [subB, codB, inB, txB_em, numB, h]
    try grind
  · have e := hk
    clear hk
    have z_dup : p.dup = false := by rw [hs]; simp [bareP, h, numB, inB]
    have z_retain : p.retain = false := by rw [hs]; simp [bareP, h, numB, inB]
    have z_qos : p.qos = 0 := by rw [hs]; simp [bareP, h, numB, inB]
    have z_topic : p.topic = em := by rw [hs]; simp [bareP, h, numB, inB]
    have z_pay : p.pay = [] := by rw [hs]; simp [bareP, h, numB, inB]
    have z_level : p.level = 0 := by rw [hs]; simp [bareP, h, numB, inB]
    have z_client : p.client = em := by rw [hs]; simp [bareP, h, numB, inB]
    have z_clean : p.clean = false := by rw [hs]; simp [bareP, h, numB, inB]
    have z_keep : p.keep = 0 := by rw [hs]; simp [bareP, h, numB, inB]
    have z_hasWill : p.hasWill = false := by rw [hs]; simp [bareP, h, numB, inB]
    have z_wt : p.wt = em := by rw [hs]; simp [bareP, h, numB, inB]
    have z_wp : p.wp = [] := by rw [hs]; simp [bareP, h, numB, inB]
    have z_wq : p.wq = 0 := by rw [hs]; simp [bareP, h, numB, inB]
    have z_wr : p.wr = false := by rw [hs]; simp [bareP, h, numB, inB]
    have z_hasUser : p.hasUser = false := by rw [hs]; simp [bareP, h, numB, inB]
    have z_hasPass : p.hasPass = false := by rw [hs]; simp [bareP, h, numB, inB]
    have z_user : p.user = em := by rw [hs]; simp [bareP, h, numB, inB]
    have z_present : p.present = false := by rw [hs]; simp [bareP, h, numB, inB]
    have z_code : p.code = 0 := by rw [hs]; simp [bareP, h, numB, inB]
    have z_subs : p.subs = [] := by rw [hs]; simp [bareP, h, numB, inB]
    have z_codes : p.codes = [] := by rw [hs]; simp [bareP, h, numB, inB]
    have z_pass : p.pass = [] := by rw [hs]; simp [bareP, h, numB, inB]
    simp only [rightR, rightB, valB, numB, hsm, e, h, z_dup, z_retain, z_qos, z_topic, z_pay, z_level, z_client, z_clean, z_keep, z_hasWill, z_wt, z_wp, z_wq, z_wr, z_hasUser, z_hasPass, z_user, z_present, z_code, z_subs, z_codes, z_pass]
    rw [Bool.eq_iff_iff]
    simp [subB, codB, inB, txB_em, numB, h]
    try grind
  · have e := hk
    clear hk
    have z_dup : p.dup = false := by rw [hs]; simp [bareP, h, numB, inB]
    have z_retain : p.retain = false := by rw [hs]; simp [bareP, h, numB, inB]
    have z_qos : p.qos = 0 := by rw [hs]; simp [bareP, h, numB, inB]
    have z_topic : p.topic = em := by rw [hs]; simp [bareP, h, numB, inB]
    have z_pay : p.pay = [] := by rw [hs]; simp [bareP, h, numB, inB]
    have z_level : p.level = 0 := by rw [hs]; simp [bareP, h, numB, inB]
    have z_client : p.client = em := by rw [hs]; simp [bareP, h, numB, inB]
    have z_clean : p.clean = false := by rw [hs]; simp [bareP, h, numB, inB]
    have z_keep : p.keep = 0 := by rw [hs]; simp [bareP, h, numB, inB]
    have z_hasWill : p.hasWill = false := by rw [hs]; simp [bareP, h, numB, inB]
    have z_wt : p.wt = em := by rw [hs]; simp [bareP, h, numB, inB]
    have z_wp : p.wp = [] := by rw [hs]; simp [bareP, h, numB, inB]
    have z_wq : p.wq = 0 := by rw [hs]; simp [bareP, h, numB, inB]
    have z_wr : p.wr = false := by rw [hs]; simp [bareP, h, numB, inB]
    have z_hasUser : p.hasUser = false := by rw [hs]; simp [bareP, h, numB, inB]
    have z_hasPass : p.hasPass = false := by rw [hs]; simp [bareP, h, numB, inB]
    have z_user : p.user = em := by rw [hs]; simp [bareP, h, numB, inB]
    have z_present : p.present = false := by rw [hs]; simp [bareP, h, numB, inB]
    have z_code : p.code = 0 := by rw [hs]; simp [bareP, h, numB, inB]
    have z_subs : p.subs = [] := by rw [hs]; simp [bareP, h, numB, inB]
    have z_codes : p.codes = [] := by rw [hs]; simp [bareP, h, numB, inB]
    have z_pass : p.pass = [] := by rw [hs]; simp [bareP, h, numB, inB]
    simp only [rightR, rightB, valB, numB, hsm, e, h, z_dup, z_retain, z_qos, z_topic, z_pay, z_level, z_client, z_clean, z_keep, z_hasWill, z_wt, z_wp, z_wq, z_wr, z_hasUser, z_hasPass, z_user, z_present, z_code, z_subs, z_codes, z_pass]
    rw [Bool.eq_iff_iff]
    simp [subB, codB, inB, txB_em, numB, h]
    try grind
  · have e := hk
    clear hk
    have z_dup : p.dup = false := by rw [hs]; simp [bareP, h, numB, inB]
    have z_retain : p.retain = false := by rw [hs]; simp [bareP, h, numB, inB]
    have z_qos : p.qos = 0 := by rw [hs]; simp [bareP, h, numB, inB]
    have z_topic : p.topic = em := by rw [hs]; simp [bareP, h, numB, inB]
    have z_pay : p.pay = [] := by rw [hs]; simp [bareP, h, numB, inB]
    have z_level : p.level = 0 := by rw [hs]; simp [bareP, h, numB, inB]
    have z_client : p.client = em := by rw [hs]; simp [bareP, h, numB, inB]
    have z_clean : p.clean = false := by rw [hs]; simp [bareP, h, numB, inB]
    have z_keep : p.keep = 0 := by rw [hs]; simp [bareP, h, numB, inB]
    have z_hasWill : p.hasWill = false := by rw [hs]; simp [bareP, h, numB, inB]
    have z_wt : p.wt = em := by rw [hs]; simp [bareP, h, numB, inB]
    have z_wp : p.wp = [] := by rw [hs]; simp [bareP, h, numB, inB]
    have z_wq : p.wq = 0 := by rw [hs]; simp [bareP, h, numB, inB]
    have z_wr : p.wr = false := by rw [hs]; simp [bareP, h, numB, inB]
    have z_hasUser : p.hasUser = false := by rw [hs]; simp [bareP, h, numB, inB]
    have z_hasPass : p.hasPass = false := by rw [hs]; simp [bareP, h, numB, inB]
    have z_user : p.user = em := by rw [hs]; simp [bareP, h, numB, inB]
    have z_present : p.present = false := by rw [hs]; simp [bareP, h, numB, inB]
    have z_code : p.code = 0 := by rw [hs]; simp [bareP, h, numB, inB]
    have z_codes : p.codes = [] := by rw [hs]; simp [bareP, h, numB, inB]
    have z_pass : p.pass = [] := by rw [hs]; simp [bareP, h, numB, inB]
    simp only [rightR, rightB, valB, numB, hsm, e, h, z_dup, z_retain, z_qos, z_topic, z_pay, z_level, z_client, z_clean, z_keep, z_hasWill, z_wt, z_wp, z_wq, z_wr, z_hasUser, z_hasPass, z_user, z_present, z_code, z_codes, z_pass]
    rw [Bool.eq_iff_iff]
    simp [subB, codB, inB, txB_em, numB, h]
    try grind
  · have e := hk
    clear hk
    have z_dup : p.dup = false := by rw [hs]; simp [bareP, h, numB, inB]
    have z_retain : p.retain = false := by rw [hs]; simp [bareP, h, numB, inB]
    have z_qos : p.qos = 0 := by rw [hs]; simp [bareP, h, numB, inB]
    have z_topic : p.topic = em := by rw [hs]; simp [bareP, h, numB, inB]
    have z_pay : p.pay = [] := by rw [hs]; simp [bareP, h, numB, inB]
    have z_level : p.level = 0 := by rw [hs]; simp [bareP, h, numB, inB]
    have z_client : p.client = em := by rw [hs]; simp [bareP, h, numB, inB]
    have z_clean : p.clean = false := by rw [hs]; simp [bareP, h, numB, inB]
    have z_keep : p.keep = 0 := by rw [hs]; simp [bareP, h, numB, inB]
    have z_hasWill : p.hasWill = false := by rw [hs]; simp [bareP, h, numB, inB]
    have z_wt : p.wt = em := by rw [hs]; simp [bareP, h, numB, inB]
    have z_wp : p.wp = [] := by rw [hs]; simp [bareP, h, numB, inB]
    have z_wq : p.wq = 0 := by rw [hs]; simp [bareP, h, numB, inB]
    have z_wr : p.wr = false := by rw [hs]; simp [bareP, h, numB, inB]
    have z_hasUser : p.hasUser = false := by rw [hs]; simp [bareP, h, numB, inB]
    have z_hasPass : p.hasPass = false := by rw [hs]; simp [bareP, h, numB, inB]
    have z_user : p.user = em := by rw [hs]; simp [bareP, h, numB, inB]
    have z_present : p.present = false := by rw [hs]; simp [bareP, h, numB, inB]
    have z_code : p.code = 0 := by rw [hs]; simp [bareP, h, numB, inB]
    have z_subs : p.subs = [] := by rw [hs]; simp [bareP, h, numB, inB]
    have z_pass : p.pass = [] := by rw [hs]; simp [bareP, h, numB, inB]
    simp only [rightR, rightB, valB, numB, hsm, e, h, z_dup, z_retain, z_qos, z_topic, z_pay, z_level, z_client, z_clean, z_keep, z_hasWill, z_wt, z_wp, z_wq, z_wr, z_hasUser, z_hasPass, z_user, z_present, z_code, z_subs, z_pass]
    rw [Bool.eq_iff_iff]
    simp [subB, codB, inB, txB_em, numB, h]
    try grind
  · have e := hk
    clear hk
    have z_dup : p.dup = false := by rw [hs]; simp [bareP, h, numB, inB]
    have z_retain : p.retain = false := by rw [hs]; simp [bareP, h, numB, inB]
    have z_qos : p.qos = 0 := by rw [hs]; simp [bareP, h, numB, inB]
    have z_topic : p.topic = em := by rw [hs]; simp [bareP, h, numB, inB]
    have z_pay : p.pay = [] := by rw [hs]; simp [bareP, h, numB, inB]
    have z_level : p.level = 0 := by rw [hs]; simp [bareP, h, numB, inB]
    have z_client : p.client = em := by rw [hs]; simp [bareP, h, numB, inB]
    have z_clean : p.clean = false := by rw [hs]; simp [bareP, h, numB, inB]
    have z_keep : p.keep = 0 := by rw [hs]; simp [bareP, h, numB, inB]
    have z_hasWill : p.hasWill = false := by rw [hs]; simp [bareP, h, numB, inB]
    have z_wt : p.wt = em := by rw [hs]; simp [bareP, h, numB, inB]
    have z_wp : p.wp = [] := by rw [hs]; simp [bareP, h, numB, inB]
    have z_wq : p.wq = 0 := by rw [hs]; simp [bareP, h, numB, inB]
    have z_wr : p.wr = false := by rw [hs]; simp [bareP, h, numB, inB]
    have z_hasUser : p.hasUser = false := by rw [hs]; simp [bareP, h, numB, inB]
    have z_hasPass : p.hasPass = false := by rw [hs]; simp [bareP, h, numB, inB]
    have z_user : p.user = em := by rw [hs]; simp [bareP, h, numB, inB]
    have z_present : p.present = false := by rw [hs]; simp [bareP, h, numB, inB]
    have z_code : p.code = 0 := by rw [hs]; simp [bareP, h, numB, inB]
    have z_codes : p.codes = [] := by rw [hs]; simp [bareP, h, numB, inB]
    have z_pass : p.pass = [] := by rw [hs]; simp [bareP, h, numB, inB]
    simp only [rightR, rightB, valB, numB, hsm, e, h, z_dup, z_retain, z_qos, z_topic, z_pay, z_level, z_client, z_clean, z_keep, z_hasWill, z_wt, z_wp, z_wq, z_wr, z_hasUser, z_hasPass, z_user, z_present, z_code, z_codes, z_pass]
    rw [Bool.eq_iff_iff]
    simp [subB, codB, inB, txB_em, numB, h]
    try grind
  · have e := hk
    clear hk
    have z_dup : p.dup = false := by rw [hs]; simp [bareP, h, numB, inB]
    have z_retain : p.retain = false := by rw [hs]; simp [bareP, h, numB, inB]
    have z_qos : p.qos = 0 := by rw [hs]; simp [bareP, h, numB, inB]
    have z_topic : p.topic = em := by rw [hs]; simp [bareP, h, numB, inB]
    have z_pay : p.pay = [] := by rw [hs]; simp [bareP, h, numB, inB]
    have z_level : p.level = 0 := by rw [hs]; simp [bareP, h, numB, inB]
    have z_client : p.client = em := by rw [hs]; simp [bareP, h, numB, inB]
    have z_clean : p.clean = false := by rw [hs]; simp [bareP, h, numB, inB]
    have z_keep : p.keep = 0 := by rw [hs]; simp [bareP, h, numB, inB]
    have z_hasWill : p.hasWill = false := by rw [hs]; simp [bareP, h, numB, inB]
    have z_wt : p.wt = em := by rw [hs]; simp [bareP, h, numB, inB]
    have z_wp : p.wp = [] := by rw [hs]; simp [bareP, h, numB, inB]
    have z_wq : p.wq = 0 := by rw [hs]; simp [bareP, h, numB, inB]
    have z_wr : p.wr = false := by rw [hs]; simp [bareP, h, numB, inB]
    have z_hasUser : p.hasUser = false := by rw [hs]; simp [bareP, h, numB, inB]
    have z_hasPass : p.hasPass = false := by rw [hs]; simp [bareP, h, numB, inB]
    have z_user : p.user = em := by rw [hs]; simp [bareP, h, numB, inB]
    have z_present : p.present = false := by rw [hs]; simp [bareP, h, numB, inB]
    have z_code : p.code = 0 := by rw [hs]; simp [bareP, h, numB, inB]
    have z_subs : p.subs = [] := by rw [hs]; simp [bareP, h, numB, inB]
    have z_codes : p.codes = [] := by rw [hs]; simp [bareP, h, numB, inB]
    have z_pass : p.pass = [] := by rw [hs]; simp [bareP, h, numB, inB]
    simp only [rightR, rightB, valB, numB, hsm, e, h, z_dup, z_retain, z_qos, z_topic, z_pay, z_level, z_client, z_clean, z_keep, z_hasWill, z_wt, z_wp, z_wq, z_wr, z_hasUser, z_hasPass, z_user, z_present, z_code, z_subs, z_codes, z_pass]
    rw [Bool.eq_iff_iff]
    simp [subB, codB, inB, txB_em, numB, h]
    try grind
  · have e := hk
    clear hk
    have z_dup : p.dup = false := by rw [hs]; simp [bareP, h, numB, inB]
    have z_retain : p.retain = false := by rw [hs]; simp [bareP, h, numB, inB]
    have z_qos : p.qos = 0 := by rw [hs]; simp [bareP, h, numB, inB]
    have z_id : p.id = 0 := by rw [hs]; simp [bareP, h, numB, inB]
    have z_topic : p.topic = em := by rw [hs]; simp [bareP, h, numB, inB]
    have z_pay : p.pay = [] := by rw [hs]; simp [bareP, h, numB, inB]
    have z_level : p.level = 0 := by rw [hs]; simp [bareP, h, numB, inB]
    have z_client : p.client = em := by rw [hs]; simp [bareP, h, numB, inB]
    have z_clean : p.clean = false := by rw [hs]; simp [bareP, h, numB, inB]
    have z_keep : p.keep = 0 := by rw [hs]; simp [bareP, h, numB, inB]
    have z_hasWill : p.hasWill = false := by rw [hs]; simp [bareP, h, numB, inB]
    have z_wt : p.wt = em := by rw [hs]; simp [bareP, h, numB, inB]
    have z_wp : p.wp = [] := by rw [hs]; simp [bareP, h, numB, inB]
    have z_wq : p.wq = 0 := by rw [hs]; simp [bareP, h, numB, inB]
    have z_wr : p.wr = false := by rw [hs]; simp [bareP, h, numB, inB]
    have z_hasUser : p.hasUser = false := by rw [hs]; simp [bareP, h, numB, inB]
    have z_hasPass : p.hasPass = false := by rw [hs]; simp [bareP, h, numB, inB]
    have z_user : p.user = em := by rw [hs]; simp [bareP, h, numB, inB]
    have z_present : p.present = false := by rw [hs]; simp [bareP, h, numB, inB]
    have z_code : p.code = 0 := by rw [hs]; simp [bareP, h, numB, inB]
    have z_subs : p.subs = [] := by rw [hs]; simp [bareP, h, numB, inB]
    have z_codes : p.codes = [] := by rw [hs]; simp [bareP, h, numB, inB]
    have z_pass : p.pass = [] := by rw [hs]; simp [bareP, h, numB, inB]
    simp only [rightR, rightB, valB, numB, hsm, e, h, z_dup, z_retain, z_qos, z_id, z_topic, z_pay, z_level, z_client, z_clean, z_keep, z_hasWill, z_wt, z_wp, z_wq, z_wr, z_hasUser, z_hasPass, z_user, z_present, z_code, z_subs, z_codes, z_pass]
    rw [Bool.eq_iff_iff]
    simp [subB, codB, inB, txB_em, numB, h]
    try grind
  · have e := hk
    clear hk
    have z_dup : p.dup = false := by rw [hs]; simp [bareP, h, numB, inB]
    have z_retain : p.retain = false := by rw [hs]; simp [bareP, h, numB, inB]
    have z_qos : p.qos = 0 := by rw [hs]; simp [bareP, h, numB, inB]
    have z_id : p.id = 0 := by rw [hs]; simp [bareP, h, numB, inB]
    have z_topic : p.topic = em := by rw [hs]; simp [bareP, h, numB, inB]
    have z_pay : p.pay = [] := by rw [hs]; simp [bareP, h, numB, inB]
    have z_level : p.level = 0 := by rw [hs]; simp [bareP, h, numB, inB]
    have z_client : p.client = em := by rw [hs]; simp [bareP, h, numB, inB]
    have z_clean : p.clean = false := by rw [hs]; simp [bareP, h, numB, inB]
    have z_keep : p.keep = 0 := by rw [hs]; simp [bareP, h, numB, inB]
    have z_hasWill : p.hasWill = false := by rw [hs]; simp [bareP, h, numB, inB]
    have z_wt : p.wt = em := by rw [hs]; simp [bareP, h, numB, inB]
    have z_wp : p.wp = [] := by rw [hs]; simp [bareP, h, numB, inB]
    have z_wq : p.wq = 0 := by rw [hs]; simp [bareP, h, numB, inB]
    have z_wr : p.wr = false := by rw [hs]; simp [bareP, h, numB, inB]
    have z_hasUser : p.hasUser = false := by rw [hs]; simp [bareP, h, numB, inB]
    have z_hasPass : p.hasPass = false := by rw [hs]; simp [bareP, h, numB, inB]
    have z_user : p.user = em := by rw [hs]; simp [bareP, h, numB, inB]
    have z_present : p.present = false := by rw [hs]; simp [bareP, h, numB, inB]
    have z_code : p.code = 0 := by rw [hs]; simp [bareP, h, numB, inB]
    have z_subs : p.subs = [] := by rw [hs]; simp [bareP, h, numB, inB]
    have z_codes : p.codes = [] := by rw [hs]; simp [bareP, h, numB, inB]
    have z_pass : p.pass = [] := by rw [hs]; simp [bareP, h, numB, inB]
    simp only [rightR, rightB, valB, numB, hsm, e, h, z_dup, z_retain, z_qos, z_id, z_topic, z_pay, z_level, z_client, z_clean, z_keep, z_hasWill, z_wt, z_wp, z_wq, z_wr, z_hasUser, z_hasPass, z_user, z_present, z_code, z_subs, z_codes, z_pass]
    rw [Bool.eq_iff_iff]
    simp [subB, codB, inB, txB_em, numB, h]
    try grind
  have e := hk
  clear hk
  have z_dup : p.dup = false := by rw [hs]; simp [bareP, h, numB, inB]
  have z_retain : p.retain = false := by rw [hs]; simp [bareP, h, numB, inB]
  have z_qos : p.qos = 0 := by rw [hs]; simp [bareP, h, numB, inB]
  have z_id : p.id = 0 := by rw [hs]; simp [bareP, h, numB, inB]
  have z_topic : p.topic = em := by rw [hs]; simp [bareP, h, numB, inB]
  have z_pay : p.pay = [] := by rw [hs]; simp [bareP, h, numB, inB]
  have z_level : p.level = 0 := by rw [hs]; simp [bareP, h, numB, inB]
  have z_client : p.client = em := by rw [hs]; simp [bareP, h, numB, inB]
  have z_clean : p.clean = false := by rw [hs]; simp [bareP, h, numB, inB]
  have z_keep : p.keep = 0 := by rw [hs]; simp [bareP, h, numB, inB]
  have z_hasWill : p.hasWill = false := by rw [hs]; simp [bareP, h, numB, inB]
  have z_wt : p.wt = em := by rw [hs]; simp [bareP, h, numB, inB]
  have z_wp : p.wp = [] := by rw [hs]; simp [bareP, h, numB, inB]
  have z_wq : p.wq = 0 := by rw [hs]; simp [bareP, h, numB, inB]
  have z_wr : p.wr = false := by rw [hs]; simp [bareP, h, numB, inB]
  have z_hasUser : p.hasUser = false := by rw [hs]; simp [bareP, h, numB, inB]
  have z_hasPass : p.hasPass = false := by rw [hs]; simp [bareP, h, numB, inB]
  have z_user : p.user = em := by rw [hs]; simp [bareP, h, numB, inB]
  have z_present : p.present = false := by rw [hs]; simp [bareP, h, numB, inB]
  have z_code : p.code = 0 := by rw [hs]; simp [bareP, h, numB, inB]
  have z_subs : p.subs = [] := by rw [hs]; simp [bareP, h, numB, inB]
  have z_codes : p.codes = [] := by rw [hs]; simp [bareP, h, numB, inB]
  have z_pass : p.pass = [] := by rw [hs]; simp [bareP, h, numB, inB]
  simp only [rightR, rightB, valB, numB, hsm, e, h, z_dup, z_retain, z_qos, z_id, z_topic, z_pay, z_level, z_client, z_clean, z_keep, z_hasWill, z_wt, z_wp, z_wq, z_wr, z_hasUser, z_hasPass, z_user, z_present, z_code, z_subs, z_codes, z_pass]
  rw [Bool.eq_iff_iff]
  simp [subB, codB, inB, txB_em, numB, h]
  try grind
structure RightP (p : Pk) : Prop where
  kd : inB p.kind 1 14 = true
  bare : p = bareP p
  val : valB p = true
  len : (behindL p).length ≤ 8192
theorem rightB_iff {p : Pk} : rightB p = true ↔ RightP p := by
  unfold rightB
  simp only [Bool.and_eq_true, decide_eq_true_eq, samePk_iff]
  exact ⟨fun ⟨⟨⟨a, b⟩, c⟩, d⟩ => ⟨a, b, c, d⟩, fun ⟨a, b, c, d⟩ => ⟨⟨⟨a, b⟩, c⟩, d⟩⟩
theorem pub_bits : ∀ d r : Bool, ∀ q ∈ ([0, 1, 2] : List Int), (d = true → 0 < q) →
    let c := (3 : Int) * 16 + (flg d 8 + 2 * q + flg r 1)
    bitI c 8 = d ∧ c / 2 % 4 = q ∧ bitI c 1 = r ∧ c / 16 = 3 ∧ 0 ≤ c ∧ c ≤ 255 ∧ begunB c = true := by decide
theorem pub_facts {p : Pk} (h : RightP p) (hk : p.kind = 3) : (0 ≤ p.qos ∧ p.qos ≤ 2) ∧ (p.dup = true → 0 < p.qos) := by
  have hv := h.val
  simp [valB, hk, inB] at hv
  refine ⟨hv.2.1, fun hd => ?_⟩
  have hb := h.bare
  have : p.dup = (p.dup && decide (0 < p.qos)) := by
    conv => lhs; rw [hb]
    simp [bareP, hk]
  rw [hd] at this
  simpa using this.symm
theorem first3 {p : Pk} (hk : p.kind = 3) : firstI p = 3 * 16 + (flg p.dup 8 + 2 * p.qos + flg p.retain 1) := by simp [firstI, hk]
theorem pub_all {p : Pk} (h : RightP p) (hk : p.kind = 3) : bitI (firstI p) 8 = p.dup ∧ firstI p / 2 % 4 = p.qos ∧ bitI (firstI p) 1 = p.retain ∧ firstI p / 16 = 3 ∧ 0 ≤ firstI p ∧ firstI p ≤ 255 ∧ begunB (firstI p) = true := by
  obtain ⟨hq, hd⟩ := pub_facts h hk
  rw [first3 hk]
  exact pub_bits p.dup p.retain p.qos (by have : p.qos = 0 ∨ p.qos = 1 ∨ p.qos = 2 := by omega
                                          simpa using this) hd
theorem begun_all : ∀ k ∈ ([1, 2, 4, 5, 6, 7, 8, 9, 10, 11, 12, 13, 14] : List Int), ∀ c : Int, c = k * 16 + (if k = 6 ∨ k = 8 ∨ k = 10 then 2 else 0) → c / 16 = k ∧ 0 ≤ c ∧ c ≤ 255 ∧ begunB c = true := by
  intro k hk c hc
  subst hc
  revert k
  decide
theorem other_all {p : Pk} (h : RightP p) (hk : p.kind ≠ 3) : firstI p / 16 = p.kind ∧ 0 ≤ firstI p ∧ firstI p ≤ 255 ∧ begunB (firstI p) = true := by
  refine begun_all p.kind ?_ _ ?_
  · rcases kind_cases h.kd with e | e | e | e | e | e | e | e | e | e | e | e | e | e <;> first | exact absurd e hk | simp [e]
  simp [firstI, hk]
theorem first_ok {p : Pk} (h : RightP p) : firstI p / 16 = p.kind ∧ 0 ≤ firstI p ∧ firstI p ≤ 255 ∧ begunB (firstI p) = true := by
  by_cases hk : p.kind = 3
  · obtain ⟨_, _, _, a, b, c, d⟩ := pub_all h hk
    exact ⟨by rw [a, hk], b, c, d⟩
  exact other_all h hk
theorem first_byte {p : Pk} (h : RightP p) : ((b8 (firstI p)).toNat : Int) = firstI p := by
  have := first_ok h
  rw [b8_val]
  omega
theorem begunP_is {p : Pk} (h : RightP p) : begunP (firstI p) = if p.kind = 3 then { kind := 3, dup := p.dup, qos := p.qos, retain := p.retain } else { kind := p.kind } := by
  unfold begunP
  by_cases hk : p.kind = 3
  · obtain ⟨a, b, c, d, _⟩ := pub_all h hk
    rw [if_pos d, if_pos hk, a, b, c]
  have := (other_all h hk).1
  rw [if_neg (by omega), if_neg hk, this]
theorem connOk {p : Pk} (h : RightP p) (hk : p.kind = 1) : ConnOk p := by
  have hv := h.val
  simp [valB, hk, inB, txB] at hv
  obtain ⟨_, ⟨⟨⟨⟨⟨⟨⟨a, b⟩, c, _⟩, d, _⟩, e⟩, f⟩, g, _⟩, i⟩, _⟩ := hv
  exact ⟨a, b, c, d, e, f, g, i⟩
theorem id_ok {p : Pk} (h : RightP p) (hn : numB p = true) : 0 ≤ p.id ∧ p.id ≤ 65535 := by
  have hv := h.val
  unfold valB at hv
  rw [Bool.and_eq_true] at hv
  have h1 := hv.1
  rw [hn] at h1
  simp [inB] at h1
  omega
theorem take_all (lk : Bool) (x : List UInt8) : Rd.take ⟨x, lk⟩ x.length = (x, ⟨[], lk⟩) := by
  have e := take_app lk [] x
  rwa [List.append_nil] at e
theorem two_end (lk : Bool) (n : Int) (h : 0 ≤ n ∧ n ≤ 65535) : Rd.two ⟨twoL n, lk⟩ = (n, ⟨[], lk⟩) := by
  have e := two_app lk [] n h
  rwa [List.append_nil] at e
theorem loop3 (q : Pk) (h : q.kind = 3) (hp : q.pay = []) (l : List UInt8) (lk : Bool) : loopP l.length q ⟨l, lk⟩ = ({ q with pay := l }, ⟨[], lk⟩) := by
  cases l with
  | nil => cases q; subst hp; rfl
  | cons a t =>
    rw [List.length_cons]
    unfold loopP
    rw [if_neg (by simp), if_pos h]
    have e := take_all lk (a :: t)
    rw [List.length_cons] at e
    simp only [List.length_cons, e]
    exact loop_nil _ _ _
theorem restP_eq (q : Pk) (r : Rd) : restP q r = loopP (idP (headP q r).1 (headP q r).2).2.l.length (idP (headP q r).1 (headP q r).2).1 (idP (headP q r).1 (headP q r).2).2 := rfl
theorem sub_ok8 {p : Pk} (h : RightP p) (hk : p.kind = 8) : ∀ x ∈ p.subs, x.1.size ≤ 65535 ∧ 0 ≤ x.2 ∧ x.2 ≤ 255 := fun x hx => by
  have hv := h.val
  simp [valB, hk, subB, inB, txB] at hv
  have := hv.2.1 x.1 x.2 hx
  omega
theorem sub_ok10 {p : Pk} (h : RightP p) (hk : p.kind = 10) : ∀ x ∈ p.subs, x.1.size ≤ 65535 ∧ x.2 = 0 := fun x hx => by
  have hv := h.val
  simp [valB, hk, subB, inB, txB] at hv
  have := hv.2.1 x.1 x.2 hx
  omega
theorem code_ok {p : Pk} (h : RightP p) (hk : p.kind = 9) : ∀ x ∈ p.codes, 0 ≤ x ∧ x ≤ 255 := fun x hx => by
  have hv := h.val
  simp [valB, hk, codB, inB] at hv
  have := hv.2.2 x hx
  omega
theorem flg_bds (b : Bool) : 0 ≤ flg b 1 ∧ flg b 1 ≤ 255 := by cases b <;> decide
theorem flg_dec (b : Bool) : decide (flg b 1 = 1) = b := by cases b <;> decide
theorem code2_ok {p : Pk} (h : RightP p) (hk : p.kind = 2) : 0 ≤ p.code ∧ p.code ≤ 255 := by
  have hv := h.val
  simp [valB, hk, inB] at hv
  omega
theorem top_ok {p : Pk} (h : RightP p) (hk : p.kind = 3) : p.topic.size ≤ 65535 := by
  have hv := h.val
  simp [valB, hk, inB, txB] at hv
  omega
theorem rest_back {p : Pk} (R : RightP p) : restP (begunP (firstI p)) ⟨behindL p, false⟩ = (p, ⟨[], false⟩) := by
  have hs := R.bare
  have hd := (first_ok R).1
  rw [begunP_is R]
  rcases kind_cases R.kd with h | h | h | h | h | h | h | h | h | h | h | h | h | h
  · rw [if_neg (by omega), restP_eq]
    rw [h]
    have hb : behindL p = connL p := by simp [behindL, h]
    have e : headP { kind := 1 } ⟨behindL p, false⟩ = (p, ⟨[], false⟩) := by rw [hb]; exact conn_back p (connOk R h) h hs
    have e2 : numB p = false := by simp [numB, h, inB]
    simp only [e, idP, e2, Bool.false_eq_true, if_false]
    exact loop_nil _ _ _
  · rw [if_neg (by omega), restP_eq]
    rw [h]
    have hb : behindL p = [b8 (flg p.present 1), b8 p.code] := by simp [behindL, h]
    have e : headP { kind := 2 } ⟨behindL p, false⟩ = (p, ⟨[], false⟩) := by
      rw [hb]
      simp only [headP, one_app _ _ _ (flg_bds p.present), one_app _ _ _ (code2_ok R h), flg_dec]
      rw [if_neg (by decide), if_pos trivial, Prod.mk.injEq]
      refine ⟨?_, rfl⟩
      conv => rhs; rw [hs]
      simp [bareP, h]
    have e2 : numB p = false := by simp [numB, h, inB]
    simp only [e, idP, e2, Bool.false_eq_true, if_false]
    exact loop_nil _ _ _
  · rw [if_pos h, restP_eq]
    have z_subs : p.subs = [] := by rw [hs]; simp [bareP, h, numB, inB]
    have z_codes : p.codes = [] := by rw [hs]; simp [bareP, h, numB, inB]
    have ht := top_ok R h
    have hb : behindL p = lumpL p.topic.toList ++ ((if 0 < p.qos then twoL p.id else []) ++ p.pay) := by simp [behindL, h, numB, z_subs, z_codes]
    have e : headP { kind := 3, dup := p.dup, qos := p.qos, retain := p.retain } ⟨behindL p, false⟩ = ({ kind := 3, dup := p.dup, qos := p.qos, retain := p.retain, topic := p.topic }, ⟨(if 0 < p.qos then twoL p.id else []) ++ p.pay, false⟩) := by
      rw [hb]
      simp only [headP, text_app _ _ _ ht]
      rw [if_neg (by decide), if_neg (by decide), if_pos trivial]
    by_cases hq : 0 < p.qos
    · have hi := id_ok R (by simp [numB, h, hq])
      have e2 : idP { kind := 3, dup := p.dup, qos := p.qos, retain := p.retain, topic := p.topic } ⟨(if 0 < p.qos then twoL p.id else []) ++ p.pay, false⟩ = ({ kind := 3, dup := p.dup, qos := p.qos, retain := p.retain, topic := p.topic, id := p.id }, ⟨p.pay, false⟩) := by
        rw [if_pos hq]
        simp [idP, numB, hq, two_app _ _ _ hi]
      simp only [e, e2]
      rw [loop3 _ rfl rfl, Prod.mk.injEq]
      refine ⟨?_, rfl⟩
      conv => rhs; rw [hs]
      have : p.dup = (p.dup && decide (0 < p.qos)) := by simp [hq]
      simp [bareP, h, hq]
    have e2 : idP { kind := 3, dup := p.dup, qos := p.qos, retain := p.retain, topic := p.topic } ⟨(if 0 < p.qos then twoL p.id else []) ++ p.pay, false⟩ = ({ kind := 3, dup := p.dup, qos := p.qos, retain := p.retain, topic := p.topic }, ⟨p.pay, false⟩) := by
      rw [if_neg hq]
      simp [idP, numB, hq]
    simp only [e, e2]
    rw [loop3 _ rfl rfl, Prod.mk.injEq]
    refine ⟨?_, rfl⟩
    have hdp : p.dup = false := by
      have := (pub_facts R h).2
      cases hx : p.dup
      · rfl
      exact absurd (this hx) hq
    conv => rhs; rw [hs]
    simp [bareP, h, hq, hdp]
  · rw [if_neg (by omega), restP_eq]
    have z_subs : p.subs = [] := by rw [hs]; simp [bareP, h, numB, inB]
    have z_codes : p.codes = [] := by rw [hs]; simp [bareP, h, numB, inB]
    have z_pay : p.pay = [] := by rw [hs]; simp [bareP, h, numB, inB]
    rw [h]
    have hi := id_ok R (by simp [numB, h, inB])
    have hb : behindL p = twoL p.id ++ [] := by simp [behindL, h, numB, inB, z_subs, z_codes, z_pay]
    have e : idP (headP { kind := 4 } ⟨behindL p, false⟩).1 (headP { kind := 4 } ⟨behindL p, false⟩).2 = ({ kind := 4, id := p.id }, ⟨[], false⟩) := by
      rw [hb]
      simp [headP, idP, numB, inB, two_app _ _ _ hi, two_end _ _ hi]
    simp only [e]
    rw [loop_nil, Prod.mk.injEq]
    refine ⟨?_, rfl⟩
    conv => rhs; rw [hs]
    simp [bareP, h, numB, inB]
  · rw [if_neg (by omega), restP_eq]
    have z_subs : p.subs = [] := by rw [hs]; simp [bareP, h, numB, inB]
    have z_codes : p.codes = [] := by rw [hs]; simp [bareP, h, numB, inB]
    have z_pay : p.pay = [] := by rw [hs]; simp [bareP, h, numB, inB]
    rw [h]
    have hi := id_ok R (by simp [numB, h, inB])
    have hb : behindL p = twoL p.id ++ [] := by simp [behindL, h, numB, inB, z_subs, z_codes, z_pay]
    have e : idP (headP { kind := 5 } ⟨behindL p, false⟩).1 (headP { kind := 5 } ⟨behindL p, false⟩).2 = ({ kind := 5, id := p.id }, ⟨[], false⟩) := by
      rw [hb]
      simp [headP, idP, numB, inB, two_app _ _ _ hi, two_end _ _ hi]
    simp only [e]
    rw [loop_nil, Prod.mk.injEq]
    refine ⟨?_, rfl⟩
    conv => rhs; rw [hs]
    simp [bareP, h, numB, inB]
  · rw [if_neg (by omega), restP_eq]
    have z_subs : p.subs = [] := by rw [hs]; simp [bareP, h, numB, inB]
    have z_codes : p.codes = [] := by rw [hs]; simp [bareP, h, numB, inB]
    have z_pay : p.pay = [] := by rw [hs]; simp [bareP, h, numB, inB]
    rw [h]
    have hi := id_ok R (by simp [numB, h, inB])
    have hb : behindL p = twoL p.id ++ [] := by simp [behindL, h, numB, inB, z_subs, z_codes, z_pay]
    have e : idP (headP { kind := 6 } ⟨behindL p, false⟩).1 (headP { kind := 6 } ⟨behindL p, false⟩).2 = ({ kind := 6, id := p.id }, ⟨[], false⟩) := by
      rw [hb]
      simp [headP, idP, numB, inB, two_app _ _ _ hi, two_end _ _ hi]
    simp only [e]
    rw [loop_nil, Prod.mk.injEq]
    refine ⟨?_, rfl⟩
    conv => rhs; rw [hs]
    simp [bareP, h, numB, inB]
  · rw [if_neg (by omega), restP_eq]
    have z_subs : p.subs = [] := by rw [hs]; simp [bareP, h, numB, inB]
    have z_codes : p.codes = [] := by rw [hs]; simp [bareP, h, numB, inB]
    have z_pay : p.pay = [] := by rw [hs]; simp [bareP, h, numB, inB]
    rw [h]
    have hi := id_ok R (by simp [numB, h, inB])
    have hb : behindL p = twoL p.id ++ [] := by simp [behindL, h, numB, inB, z_subs, z_codes, z_pay]
    have e : idP (headP { kind := 7 } ⟨behindL p, false⟩).1 (headP { kind := 7 } ⟨behindL p, false⟩).2 = ({ kind := 7, id := p.id }, ⟨[], false⟩) := by
      rw [hb]
      simp [headP, idP, numB, inB, two_app _ _ _ hi, two_end _ _ hi]
    simp only [e]
    rw [loop_nil, Prod.mk.injEq]
    refine ⟨?_, rfl⟩
    conv => rhs; rw [hs]
    simp [bareP, h, numB, inB]
  · rw [if_neg (by omega), restP_eq]
    have z_codes : p.codes = [] := by rw [hs]; simp [bareP, h, numB, inB]
    have z_pay : p.pay = [] := by rw [hs]; simp [bareP, h, numB, inB]
    rw [h]
    have hi := id_ok R (by simp [numB, h, inB])
    have hb : behindL p = twoL p.id ++ p.subs.flatMap (subL 8) := by simp [behindL, h, numB, inB, z_codes, z_pay]
    have e : idP (headP { kind := 8 } ⟨behindL p, false⟩).1 (headP { kind := 8 } ⟨behindL p, false⟩).2 = ({ kind := 8, id := p.id }, ⟨p.subs.flatMap (subL 8), false⟩) := by
      rw [hb]
      simp [headP, idP, numB, inB, two_app _ _ _ hi, two_end _ _ hi]
    simp only [e]
    rw [subs_back8 p.subs _ _ rfl (sub_ok8 R h) (Nat.le_refl _), Prod.mk.injEq]
    refine ⟨?_, rfl⟩
    conv => rhs; rw [hs]
    simp [bareP, h, numB, inB]
  · rw [if_neg (by omega), restP_eq]
    have z_subs : p.subs = [] := by rw [hs]; simp [bareP, h, numB, inB]
    have z_pay : p.pay = [] := by rw [hs]; simp [bareP, h, numB, inB]
    rw [h]
    have hi := id_ok R (by simp [numB, h, inB])
    have hb : behindL p = twoL p.id ++ p.codes.map b8 := by simp [behindL, h, numB, inB, z_subs, z_pay]
    have e : idP (headP { kind := 9 } ⟨behindL p, false⟩).1 (headP { kind := 9 } ⟨behindL p, false⟩).2 = ({ kind := 9, id := p.id }, ⟨p.codes.map b8, false⟩) := by
      rw [hb]
      simp [headP, idP, numB, inB, two_app _ _ _ hi, two_end _ _ hi]
    simp only [e]
    rw [codes_back p.codes _ _ rfl (code_ok R h) (Nat.le_refl _), Prod.mk.injEq]
    refine ⟨?_, rfl⟩
    conv => rhs; rw [hs]
    simp [bareP, h, numB, inB]
  · rw [if_neg (by omega), restP_eq]
    have z_codes : p.codes = [] := by rw [hs]; simp [bareP, h, numB, inB]
    have z_pay : p.pay = [] := by rw [hs]; simp [bareP, h, numB, inB]
    rw [h]
    have hi := id_ok R (by simp [numB, h, inB])
    have hb : behindL p = twoL p.id ++ p.subs.flatMap (subL 10) := by simp [behindL, h, numB, inB, z_codes, z_pay]
    have e : idP (headP { kind := 10 } ⟨behindL p, false⟩).1 (headP { kind := 10 } ⟨behindL p, false⟩).2 = ({ kind := 10, id := p.id }, ⟨p.subs.flatMap (subL 10), false⟩) := by
      rw [hb]
      simp [headP, idP, numB, inB, two_app _ _ _ hi, two_end _ _ hi]
    simp only [e]
    rw [subs_back10 p.subs _ _ rfl (sub_ok10 R h) (Nat.le_refl _), Prod.mk.injEq]
    refine ⟨?_, rfl⟩
    conv => rhs; rw [hs]
    simp [bareP, h, numB, inB]
  · rw [if_neg (by omega), restP_eq]
    have z_subs : p.subs = [] := by rw [hs]; simp [bareP, h, numB, inB]
    have z_codes : p.codes = [] := by rw [hs]; simp [bareP, h, numB, inB]
    have z_pay : p.pay = [] := by rw [hs]; simp [bareP, h, numB, inB]
    rw [h]
    have hi := id_ok R (by simp [numB, h, inB])
    have hb : behindL p = twoL p.id ++ [] := by simp [behindL, h, numB, inB, z_subs, z_codes, z_pay]
    have e : idP (headP { kind := 11 } ⟨behindL p, false⟩).1 (headP { kind := 11 } ⟨behindL p, false⟩).2 = ({ kind := 11, id := p.id }, ⟨[], false⟩) := by
      rw [hb]
      simp [headP, idP, numB, inB, two_app _ _ _ hi, two_end _ _ hi]
    simp only [e]
    rw [loop_nil, Prod.mk.injEq]
    refine ⟨?_, rfl⟩
    conv => rhs; rw [hs]
    simp [bareP, h, numB, inB]
  · rw [if_neg (by omega), restP_eq]
    have z_subs : p.subs = [] := by rw [hs]; simp [bareP, h, numB, inB]
    have z_codes : p.codes = [] := by rw [hs]; simp [bareP, h, numB, inB]
    have z_pay : p.pay = [] := by rw [hs]; simp [bareP, h, numB, inB]
    rw [h]
    have hb : behindL p = [] := by simp [behindL, h, numB, inB, z_subs, z_codes, z_pay]
    have e : idP (headP { kind := 12 } ⟨behindL p, false⟩).1 (headP { kind := 12 } ⟨behindL p, false⟩).2 = ({ kind := 12 }, ⟨[], false⟩) := by rw [hb]; rfl
    simp only [e]
    rw [loop_nil, Prod.mk.injEq]
    refine ⟨?_, rfl⟩
    conv => rhs; rw [hs]
    simp [bareP, h, numB, inB]
  · rw [if_neg (by omega), restP_eq]
    have z_subs : p.subs = [] := by rw [hs]; simp [bareP, h, numB, inB]
    have z_codes : p.codes = [] := by rw [hs]; simp [bareP, h, numB, inB]
    have z_pay : p.pay = [] := by rw [hs]; simp [bareP, h, numB, inB]
    rw [h]
    have hb : behindL p = [] := by simp [behindL, h, numB, inB, z_subs, z_codes, z_pay]
    have e : idP (headP { kind := 13 } ⟨behindL p, false⟩).1 (headP { kind := 13 } ⟨behindL p, false⟩).2 = ({ kind := 13 }, ⟨[], false⟩) := by rw [hb]; rfl
    simp only [e]
    rw [loop_nil, Prod.mk.injEq]
    refine ⟨?_, rfl⟩
    conv => rhs; rw [hs]
    simp [bareP, h, numB, inB]
  rw [if_neg (by omega), restP_eq]
  have z_subs : p.subs = [] := by rw [hs]; simp [bareP, h, numB, inB]
  have z_codes : p.codes = [] := by rw [hs]; simp [bareP, h, numB, inB]
  have z_pay : p.pay = [] := by rw [hs]; simp [bareP, h, numB, inB]
  rw [h]
  have hb : behindL p = [] := by simp [behindL, h, numB, inB, z_subs, z_codes, z_pay]
  have e : idP (headP { kind := 14 } ⟨behindL p, false⟩).1 (headP { kind := 14 } ⟨behindL p, false⟩).2 = ({ kind := 14 }, ⟨[], false⟩) := by rw [hb]; rfl
  simp only [e]
  rw [loop_nil, Prod.mk.injEq]
  refine ⟨?_, rfl⟩
  conv => rhs; rw [hs]
  simp [bareP, h, numB, inB]
theorem read_put {p : Pk} (R : RightP p) (x : List UInt8) : readL (putL (behindL p).length ++ (behindL p ++ x)) = (((behindL p).length : Int), ((szN (behindL p).length : Nat) : Int), 0) :=
  read_back _ _ (by have := R.len; omega) (begins_put _ _)
theorem readP_cons (c : UInt8) (t : List UInt8) : readP (c :: t) =
    if begunB c.toNat = false then ({}, 0, 21) else
    if (readL t).2.2 ≠ 0 then ({}, 0, (readL t).2.2) else if 8192 < (readL t).1 then ({}, 0, 22) else if (t.length : Int) < (readL t).2.1 + (readL t).1 then ({}, 0, 20) else
    if (restP (begunP c.toNat) ⟨(t.drop (readL t).2.1.toNat).take (readL t).1.toNat, false⟩).2.lk = false ∧ rightB (restP (begunP c.toNat) ⟨(t.drop (readL t).2.1.toNat).take (readL t).1.toNat, false⟩).1 = true ∧ encL (restP (begunP c.toNat) ⟨(t.drop (readL t).2.1.toNat).take (readL t).1.toNat, false⟩).1 = c :: t.take ((readL t).2.1 + (readL t).1).toNat then ((restP (begunP c.toNat) ⟨(t.drop (readL t).2.1.toNat).take (readL t).1.toNat, false⟩).1, 1 + (readL t).2.1 + (readL t).1, 0) else ({}, 0, 21) := rfl
theorem encL_len (p : Pk) : (encL p).length = 1 + szN (behindL p).length + (behindL p).length := by
  unfold encL
  rw [List.length_append, List.length_cons, putL_len]
  omega
theorem read_enc {p : Pk} (R : RightP p) (x : List UInt8) : readP (encL p ++ x) = (p, ((encL p).length : Int), 0) := by
  have e : encL p ++ x = b8 (firstI p) :: (putL (behindL p).length ++ (behindL p ++ x)) := by simp [encL]
  have hl : (putL ((behindL p).length : Int)).length = szN (behindL p).length := putL_len _
  have hlen := R.len
  rw [e, readP_cons, read_put R x, first_byte R]
  simp only
  rw [if_neg (by rw [(first_ok R).2.2.2]; simp), if_neg (by simp), if_neg (by omega), if_neg (by simp only [List.length_append, hl]; omega)]
  have hy : ((putL (behindL p).length ++ (behindL p ++ x)).drop (szN (behindL p).length : Int).toNat).take ((behindL p).length : Int).toNat = behindL p := by
    rw [Int.toNat_natCast, Int.toNat_natCast, List.drop_append_of_le_length (by omega), List.drop_of_length_le (by omega), List.nil_append, List.take_append_of_le_length (by omega), List.take_of_length_le (Nat.le_refl _)]
  have ht : (putL (behindL p).length ++ (behindL p ++ x)).take ((szN (behindL p).length : Int) + ((behindL p).length : Int)).toNat = putL (behindL p).length ++ behindL p := by
    rw [← List.append_assoc, List.take_append_of_le_length (by rw [List.length_append, hl]; omega), List.take_of_length_le (by rw [List.length_append, hl]; omega)]
  rw [hy, ht, rest_back R, if_pos ⟨rfl, rightB_iff.2 R, rfl⟩, encL_len]
  simp
end Go.Hub
namespace Go.Proofs.YtigjafbbnocihaaDoor
open Go.RowKit Go.Hub Go.Lib Go.Vl
theorem wzib3_wg : (Tryd.prog.info? 3).map (fun i => (i.zero, i.size, i.bytes)) = some (some (.int .i64 0), 1, 8) := by kernel_rfl
theorem wzib70_wg : (Tryd.prog.info? 70).map (fun i => (i.zero, i.size, i.bytes)) = some (some (.agg #[(.string ⟨#[]⟩), (.int .i64 0)]), 2, 24) := by kernel_rfl
theorem wzi3_wg : (Tryd.prog.info? 3).map (fun i => (i.zero, i.size)) = some (some (.int .i64 0), 1) := by kernel_rfl
theorem wzi70_wg : (Tryd.prog.info? 70).map (fun i => (i.zero, i.size)) = some (some (.agg #[(.string ⟨#[]⟩), (.int .i64 0)]), 2) := by kernel_rfl
theorem wbs25_1_wg (x0_0 x0_1 : Value) : Instr.fill (fun i => some (i * 2, 2)) ((Array.range (1 * 2)).map fun j => (Value.cells (.agg #[(.string ⟨#[]⟩), (.int .i64 0)]))[j % (Value.cells (.agg #[(.string ⟨#[]⟩), (.int .i64 0)])).size]!) [(0, .agg #[x0_0, x0_1])] = some #[x0_0, x0_1] := by kernel_rfl
theorem wbs26_1_wg (x0 : Int) : Instr.fill (fun i => some (i * 1, 1)) ((Array.range (1 * 1)).map fun j => (Value.cells (.int .i64 0))[j % (Value.cells (.int .i64 0)).size]!) [(0, .int .i64 x0)] = some #[.int .i64 x0] := by kernel_rfl
theorem wsz3_wg : (Tryd.prog.info? 3).map (·.size) = some 1 := by kernel_rfl
theorem wsz4_wg : (Tryd.prog.info? 4).map (·.size) = some 1 := by kernel_rfl
theorem wsz9_wg : (Tryd.prog.info? 9).map (·.size) = some 1 := by kernel_rfl
theorem wsz22_wg : (Tryd.prog.info? 22).map (·.size) = some 1 := by kernel_rfl
theorem wsz25_wg : (Tryd.prog.info? 25).map (·.size) = some 1 := by kernel_rfl
theorem wsz26_wg : (Tryd.prog.info? 26).map (·.size) = some 1 := by kernel_rfl
theorem wsz28_wg : (Tryd.prog.info? 28).map (·.size) = some 24 := by kernel_rfl
theorem wbl70_0_wg (x0 : ByteArray) : Tryd.prog.built 70 [(0, .string x0)] = some #[.string x0, (.int .i64 0)] := by kernel_rfl
theorem wbl70_0_1_wg (x0 : ByteArray) (x1 : Int) : Tryd.prog.built 70 [(0, .string x0), (1, .int .i64 x1)] = some #[.string x0, .int .i64 x1] := by kernel_rfl
theorem _root_.Go.Hub.Blk.slN {w : World} {g : Nat} {t : TypeId} {cs : Array Value} (h : Blk w g t cs) {n size : Nat} (hn : cs.size = n * size) : Sl w (some ⟨g, 0, none⟩) n size cs.toList :=
  ⟨by simp [hn], fun _ => ⟨g, 0, rfl, h.lt, fun j u hu => by rw [Nat.zero_add]; exact h.cl hu⟩⟩
section
variable {r : Rd} {p q : Pk} {m : Nat}
theorem take_le (r : Rd) (n : Nat) : (r.take n).2.l.length ≤ r.l.length := by
  unfold Rd.take
  split
  · simp
  rw [List.length_drop]; omega
theorem take_lt {n : Nat} (h : r.l ≠ []) (hn : 0 < n) : (r.take n).2.l.length < r.l.length := by
  have := List.length_pos_iff.2 h
  unfold Rd.take
  split
  · simpa using this
  rw [List.length_drop]; omega
theorem take_all_len (r : Rd) : (r.take r.l.length).2.l.length = 0 := by
  unfold Rd.take
  rw [if_neg (by omega)]
  simp
theorem one_le (r : Rd) : r.one.2.l.length ≤ r.l.length := take_le r 1
theorem one_lt (h : r.l ≠ []) : r.one.2.l.length < r.l.length := take_lt h (by decide)
theorem text_lt (h : r.l ≠ []) : r.text.2.l.length < r.l.length := Nat.lt_of_le_of_lt (take_le _ _) (take_lt h (by decide))
theorem loop_end (m : Nat) (p : Pk) (r : Rd) (h : r.l = []) : loopP m p r = (p, r) := by
  cases m
  · rfl
  simp [loopP, h]
theorem loop_3 (h : r.l ≠ []) (hk : p.kind = 3) : loopP (m + 1) p r = loopP m { p with pay := (r.take r.l.length).1 } (r.take r.l.length).2 := by
  conv => lhs; unfold loopP
  rw [if_neg h, if_pos hk]
theorem loop_8 (h : r.l ≠ []) (hk : p.kind = 8) : loopP (m + 1) p r = loopP m { p with subs := p.subs ++ [(r.text.1, r.text.2.one.1)] } r.text.2.one.2 := by
  conv => lhs; unfold loopP
  rw [if_neg h, if_neg (by omega), if_pos hk]
theorem loop_10 (h : r.l ≠ []) (hk : p.kind = 10) : loopP (m + 1) p r = loopP m { p with subs := p.subs ++ [(r.text.1, 0)] } r.text.2 := by
  conv => lhs; unfold loopP
  rw [if_neg h, if_neg (by omega), if_neg (by omega), if_pos hk]
theorem loop_9 (h : r.l ≠ []) (hk : p.kind = 9) : loopP (m + 1) p r = loopP m { p with codes := p.codes ++ [r.one.1] } r.one.2 := by
  conv => lhs; unfold loopP
  rw [if_neg h, if_neg (by omega), if_neg (by omega), if_neg (by omega), if_pos hk]
theorem loop_x (h : r.l ≠ []) (h3 : p.kind ≠ 3) (h8 : p.kind ≠ 8) (h10 : p.kind ≠ 10) (h9 : p.kind ≠ 9) : loopP (m + 1) p r = loopP m p ⟨[], true⟩ := by
  conv => lhs; unfold loopP
  rw [if_neg h, if_neg h3, if_neg h8, if_neg h10, if_neg h9]
theorem id_subs {q : Pk} {r r' : Rd} (h : idP p r = (q, r')) : q.subs = p.subs := by
  unfold idP at h
  split at h <;> (injection h with h1 h2; subst h1; rfl)
theorem id_codes {q : Pk} {r r' : Rd} (h : idP p r = (q, r')) : q.codes = p.codes := by
  unfold idP at h
  split at h <;> (injection h with h1 h2; subst h1; rfl)
theorem conn_keep (r : Rd) : ∀ p : Pk, (connP p r).1.kind = p.kind ∧ (connP p r).1.subs = p.subs ∧ (connP p r).1.codes = p.codes := fun p => by
  unfold connP connPass connUser connWill connHead
  simp only
  refine ⟨?_, ?_, ?_⟩ <;> (repeat' split) <;> rfl
theorem conn_kind {r r' : Rd} {q : Pk} (h : connP { kind := 1 } r = (q, r')) : q.kind = 1 := by
  have := (conn_keep r { kind := 1 }).1
  rw [h] at this
  exact this
theorem head_keep (p : Pk) (r : Rd) : (headP p r).1.subs = p.subs ∧ (headP p r).1.codes = p.codes := by
  unfold headP
  split
  · exact (conn_keep r p).2
  split
  · exact ⟨rfl, rfl⟩
  split <;> exact ⟨rfl, rfl⟩
theorem head_subs {r r' : Rd} {q : Pk} (hz : p.subs = []) (h : headP p r = (q, r')) : q.subs = [] := by
  have := (head_keep p r).1
  rw [h] at this
  exact this.trans hz
theorem head_codes {r r' : Rd} {q : Pk} (hz : p.codes = []) (h : headP p r = (q, r')) : q.codes = [] := by
  have := (head_keep p r).2
  rw [h] at this
  exact this.trans hz
end
section
variable {B : Nat} {w W W' : World} {p : Pk} {s : Ad} {e size n k c g c' : Nat} {A A' : Option Addr} {xs : List Value} {r : Rd}
theorem own_from {w : World} {x : Nat} (hB : ∀ a, A = some a → B ≤ a.block) (hx : x ∈ (Value.slice A n c).ownBlock.toList) : B ≤ x := by
  have hb := (own_block A n c x).1 (by simpa using hx)
  cases A with
  | none => simp at hb
  | some a => simp at hb; subst hb; exact hB a rfl
theorem bs_own {l : List UInt8} {A1 : Option Addr} {m : Nat} {E : List TypeId} (h : Bs E B W A1 m l) (hk : Kept (Value.slice A n c).ownBlock.toList W W') (ho : Own W e size (.slice A n c) n xs) (he : e ∉ E) (hB : ∀ a, A = some a → B ≤ a.block) : Bs E B W' A1 m l := h.same (Same.of_kept hk fun x hx _ => by
  obtain ⟨_, cs, h2⟩ := ho.blk x (by simpa using hx)
  exact ⟨own_from (w := W) hB hx, not_typ_of h2 he⟩)
theorem RdAt.keptO (h : RdAt W B g r) (hk : Kept (Value.slice A n c).ownBlock.toList W W') (ho : Own W e size (.slice A n c) n xs) (h1 : 91 ≠ e) (h2 : e ∉ [5]) (hB : ∀ a, A = some a → B ≤ a.block) : RdAt W' B g r := by
  obtain ⟨a1, A1, c1, a2, a3, a4⟩ := h
  exact ⟨a1, A1, c1, a2.kept hk (own_ne ho a2 h1), bs_own a3 hk ho h2 hB, a4⟩
theorem fresh_own {e2 s2 n2 c2 : Nat} {A2 : Option Addr} {ys : List Value} (h : Fresh w W e2 s2 A2 n2 c2 ys) (hk : Kept (Value.slice A n c).ownBlock.toList W W') (ho : Own W e size (.slice A n c) n xs) (he : e2 ≠ e) : Fresh w W' e2 s2 A2 n2 c2 ys := Fresh.kept h hk fun b hb hx => by
  obtain ⟨_, cs, h2⟩ := ho.blk b (by simpa using hx)
  obtain ⟨_, cs', h3⟩ := (Fresh.own h).blk b ((own_block A2 n2 c2 b).2 hb)
  rw [h2] at h3
  injection h3 with h3
  injection h3 with _ h4 _
  exact he h4.symm
theorem PkM.push (h : PkM B w W p s) (hB : B ≤ w.heap.size) (hs : w.heap.size ≤ W.heap.size) {x : ByteArray} {i : Int} (ap : App W W' 70 2 s.ua p.subs.length s.uc (subCells p.subs) [.string x, .int .i64 i] 1 A' c') :
    PkM B w W' { p with subs := p.subs ++ [(x, i)] } { s with ua := A', uc := c' } := by
  have hf : ∀ a, s.ua = some a → B ≤ a.block := fun a ha => Nat.le_trans hB (h.subs.from a ha)
  refine ⟨bs_own h.pay ap.kept h.subs.own (by decide) hf, bs_own h.wp ap.kept h.subs.own (by decide) hf, bs_own h.pass ap.kept h.subs.own (by decide) hf, ?_, fresh_own h.codes ap.kept h.subs.own (by decide)⟩
  have := ap.next h.subs hs
  have e : subCells (p.subs ++ [(x, i)]) = subCells p.subs ++ [.string x, .int .i64 i] := by simp [subCells]
  show Fresh w W' 70 2 A' (p.subs ++ [(x, i)]).length c' (subCells (p.subs ++ [(x, i)]))
  rw [e, List.length_append]
  exact this
theorem PkM.pushc (h : PkM B w W p s) (hB : B ≤ w.heap.size) (hs : w.heap.size ≤ W.heap.size) {i : Int} (ap : App W W' 3 1 s.ca p.codes.length s.cc (codeCells p.codes) [.int .i64 i] 1 A' c') :
    PkM B w W' { p with codes := p.codes ++ [i] } { s with ca := A', cc := c' } := by
  have hf : ∀ a, s.ca = some a → B ≤ a.block := fun a ha => Nat.le_trans hB (h.codes.from a ha)
  refine ⟨bs_own h.pay ap.kept h.codes.own (by decide) hf, bs_own h.wp ap.kept h.codes.own (by decide) hf, bs_own h.pass ap.kept h.codes.own (by decide) hf, fresh_own h.subs ap.kept h.codes.own (by decide), ?_⟩
  have := ap.next h.codes hs
  have e : codeCells (p.codes ++ [i]) = codeCells p.codes ++ [.int .i64 i] := by simp [codeCells]
  show Fresh w W' 3 1 A' (p.codes ++ [i]).length c' (codeCells (p.codes ++ [i]))
  rw [e, List.length_append]
  exact this
end
set_option maxRecDepth 100000 in
set_option maxHeartbeats 4000000 in
theorem rest_any (P : Pk) (hP1 : P.kind = 1 → P = { kind := 1 }) (hz : P.pay = [] ∧ P.wp = [] ∧ P.pass = [] ∧ P.subs = [] ∧ P.codes = []) (B g gp : Nat) (r : Rd) (w : World) (RD : RdAt w B g r) (hne : gp ≠ g) (hBp : B ≤ gp) (hBw : B ≤ w.heap.size) (BP : Blk w gp 28 (P.cells s0)) : Calls Tryd.prog 59 #[.pointer (some ⟨g, 0, none⟩), .pointer (some ⟨gp, 0, none⟩)] w (RestPost RdAt B g gp (restP P r) w) := by
 have HK : Kept [g, gp] w w := Kept.refl _ w
 have hBg := RD.1
 have PN : PkM B w w P s0 := PkM.of hBw (by rw [hz.1]; exact FB.nil _ _) (by rw [hz.2.1]; exact FB.nil _ _) (by rw [hz.2.2.1]; exact FB.nil _ _) (by rw [hz.2.2.2.1]; exact Fresh.nil _ _ _ _) (by rw [hz.2.2.2.2]; exact Fresh.nil _ _ _ _)
 replace BP : Blk w gp 28 #[.int .i64 P.kind, .bool P.dup, .bool P.retain, .int .i64 P.qos, .int .i64 P.id, .string P.topic, .slice s0.pa P.pay.length s0.pc, .int .i64 P.level, .string P.client, .bool P.clean, .int .i64 P.keep, .bool P.hasWill, .string P.wt, .slice s0.wa P.wp.length s0.wc, .int .i64 P.wq, .bool P.wr, .bool P.hasUser, .bool P.hasPass, .string P.user, .slice s0.sa P.pass.length s0.sc, .bool P.present, .int .i64 P.code, .slice s0.ua P.subs.length s0.uc, .slice s0.ca P.codes.length s0.cc] := BP
 refine C.enter Tryd.func59 rfl Tryd.ntmps59 rfl ?_
 intro a0 f0
 have f1 : Fr 114 a0 [(0, .pointer (some ⟨g, 0, none⟩)), (1, .pointer (some ⟨gp, 0, none⟩))] := f0
 obtain ⟨J7, hJ7⟩ : ∃ J : Act → World → Prop, J = fun a W => ∃ p1 r1 s1, headP P r = (p1, r1) ∧ p1.kind = P.kind ∧ Kept [g, gp] w W ∧ RdAt W B g r1 ∧ Blk W gp 28 (p1.cells s1) ∧ PkM B w W p1 s1 ∧ Fr 114 a [(0, .pointer (some ⟨g, 0, none⟩)), (1, .pointer (some ⟨gp, 0, none⟩))] := ⟨_, rfl⟩
 clear f0
 refine C.cut J7 ?_ ?_
 ·skip
  refine C.sk fun K0 hK0 => ?_
  refine L.mv f1 fun a2 f2 => ?_
  refine L.va f2 (E.nilCheck f2 rfl) fun a3 f3 => ?_
  refine L.fa 0 f3 U28 rfl wsz3_wg fun a4 f4 => ?_
  refine L.ld f4 U3 BP fun a5 f5 => ?_
  refine wpList_nil (hK0 _ _ ?_)
  have f6 := f5.sub (sc 0 (sc 1 (sc 7 sn)))
  refine wp_block ?_
  refine C.sk fun K1 hK1 => ?_
  refine L.va f6 (E.eq f6) fun a7 f7 => ?_
  refine L.ag f7 fun a8 f8 => ?_
  refine wpList_nil (hK1 _ _ ?_)
  have f9 := f8.sub (sc 0 (sc 1 (sc 7 (sc 8 sn))))
  clear f1 a0 f2 a2 f3 a3 f4 a4 f5 f6 a5 f7 a7 f8
  refine f9.splitD 8 rfl (fun h0 f10 => ?_) (fun h0 f10 => ?_)
  ·obtain rfl := hP1 h0
   refine C.condT f10 rfl ?_
   refine C.region ?_
   refine L.mv f10 fun a11 f11 => ?_
   refine L.mv f11 fun a12 f12 => ?_
   refine L.cl f12 (run_call Tryd.call79 (args2 f12 rfl rfl)) (rconn_any B g gp r _ RD hne hBp hBw BP) ?_
   clear f9 f10 a8 f11 a11
   rintro e w1 ⟨p1, r1, t1, e1, rfl, kc1, RDn, BPn, PNn⟩
   clear HK RD BP PN
   refine ⟨_, rfl, fun a13 f13 => ?_⟩
   have szw1 := kc1.size
   have HK := kc1
   have RD := RDn
   have BP := BPn
   have PN := PNn
   clear f12 a12 kc1 RDn BPn PNn
   exact wpList_nil (then_of (J := J7) (Q := fun _ _ _ => True) (by rw [hJ7]; exact ⟨p1, r1, t1, by unfold headP; rw [if_pos rfl]; exact e1, conn_kind e1, HK, RD, BP, PN, f13.sub (sub_cons rfl (sub_cons rfl sn))⟩))
  refine C.condF f10 rfl ?_
  refine C.sk fun K2 hK2 => ?_
  refine L.va f10 (E.eq f10) fun a11 f11 => ?_
  refine L.ag f11 fun a12 f12 => ?_
  refine wpList_nil (hK2 _ _ ?_)
  have f13 := f12.sub (sc 0 (sc 1 (sc 7 (sc 13 sn))))
  clear f9 f10 a8 f11 a11 f12
  refine f13.splitD 13 rfl (fun h1 f14 => ?_) (fun h1 f14 => ?_)
  ·refine C.condT f14 rfl ?_
   refine C.region ?_
   refine L.mv f14 fun a15 f15 => ?_
   refine L.mv f15 fun a16 f16 => ?_
   refine L.mv f16 fun a17 f17 => ?_
   obtain ⟨csg, BGO⟩ := RD.bk
   refine L.cl f17 (run_call Tryd.call80 (args1 f17 rfl)) (one_any B g _ _ RD) ?_
   clear f13 f14 a12 f15 a15 f16 a16
   rintro e w1 ⟨v1, r1, e1, hv1, rfl, RDn, kc1⟩
   clear RD
   refine ⟨_, rfl, fun a18 f18 => ?_⟩
   have szw1 := kc1.size
   replace HK := HK.trans kc1 (ktr (by simp))
   replace BP := BP.kept kc1 (by simp; omega)
   replace PN := PN.kept1 kc1 BGO (by decide) (by omega)
   clear f17 a17 kc1
   have RD := RDn
   clear RDn BGO
   refine L.va f18 (E.eq f18) fun a19 f19 => ?_
   refine L.mv f19 fun a20 f20 => ?_
   obtain ⟨csg, BGO⟩ := RD.bk
   refine L.cl f20 (run_call Tryd.call80 (args1 f20 rfl)) (one_any B g _ _ RD) ?_
   clear f18 a18 f19 a19
   rintro e w2 ⟨v2, r2, e2, hv2, rfl, RDn, kc2⟩
   clear RD
   refine ⟨_, rfl, fun a21 f21 => ?_⟩
   have szw2 := kc2.size
   replace HK := HK.trans kc2 (ktr (by simp))
   replace BP := BP.kept kc2 (by simp; omega)
   replace PN := PN.kept1 kc2 BGO (by decide) (by omega)
   clear f20 a20 kc2
   have RD := RDn
   clear RDn BGO
   refine L.va f21 (E.nilCheck f21 rfl) fun a22 f22 => ?_
   refine L.fa 20 f22 U28 rfl wsz4_wg fun a23 f23 => ?_
   refine L.store f23 wantedN wsz4_wg rfl rfl rfl BP (by (simp [Value.cells]; done)) fun a24 w3 f24 NB3 ks3 => ?_
   have szw3 := ks3.size
   replace HK := HK.trans ks3 (ktr (by simp))
   replace PN := PN.kept1 ks3 BP (by decide) (by omega)
   replace RD := RD.kept1 ks3 (by omega) (by omega) BP (by decide)
   replace BP := NB3
   simp only [Value.cells, z1, z2, z3, Nat.reduceAdd, Nat.zero_add] at BP
   clear f21 a21 f22 a22 ks3 f23 a23
   refine L.va f24 (E.nilCheck f24 rfl) fun a25 f25 => ?_
   refine L.fa 21 f25 U28 rfl wsz3_wg fun a26 f26 => ?_
   refine L.store f26 wantedN wsz3_wg rfl rfl rfl BP (by (simp [Value.cells]; done)) fun a27 w4 f27 NB4 ks4 => ?_
   have szw4 := ks4.size
   replace HK := HK.trans ks4 (ktr (by simp))
   replace PN := PN.kept1 ks4 BP (by decide) (by omega)
   replace RD := RD.kept1 ks4 (by omega) (by omega) BP (by decide)
   replace BP := NB4
   simp only [Value.cells, z1, z2, z3, Nat.reduceAdd, Nat.zero_add] at BP
   clear f24 a24 f25 a25 ks4 f26 a26
   exact wpList_nil (then_of (J := J7) (Q := fun _ _ _ => True) (by rw [hJ7]; exact ⟨{ P with present := decide (v1 = 1), code := v2 }, r2, s0, by unfold headP; rw [if_neg (by omega), if_pos (by assumption)]; simp only [e1, e2], rfl, HK, RD, BP, ⟨PN.pay, PN.wp, PN.pass, PN.subs, PN.codes⟩, f27.sub (sub_cons rfl (sub_cons rfl sn))⟩))
  refine C.condF f14 rfl ?_
  refine C.sk fun K3 hK3 => ?_
  refine L.va f14 (E.eq f14) fun a15 f15 => ?_
  refine L.ag f15 fun a16 f16 => ?_
  refine wpList_nil (hK3 _ _ ?_)
  have f17 := f16.sub (sc 0 (sc 1 (sc 26 sn)))
  clear f13 f14 a12 f15 a15 f16
  refine f17.splitD 26 rfl (fun h2 f18 => ?_) (fun h2 f18 => ?_)
  ·refine C.condT f18 rfl ?_
   refine C.region ?_
   refine L.mv f18 fun a19 f19 => ?_
   refine L.mv f19 fun a20 f20 => ?_
   obtain ⟨csg, BGO⟩ := RD.bk
   refine L.cl f20 (run_call Tryd.call81 (args1 f20 rfl)) (rtext_any B g _ _ RD) ?_
   clear f17 f18 a16 f19 a19
   rintro e w1 ⟨v1, r1, e1, hv1, rfl, RDn, kc1⟩
   clear RD
   refine ⟨_, rfl, fun a21 f21 => ?_⟩
   have szw1 := kc1.size
   replace HK := HK.trans kc1 (ktr (by simp))
   replace BP := BP.kept kc1 (by simp; omega)
   replace PN := PN.kept1 kc1 BGO (by decide) (by omega)
   clear f20 a20 kc1
   have RD := RDn
   clear RDn BGO
   refine L.va f21 (E.nilCheck f21 rfl) fun a22 f22 => ?_
   refine L.fa 5 f22 U28 rfl wsz9_wg fun a23 f23 => ?_
   refine L.store f23 wantedN wsz9_wg rfl rfl rfl BP (by (simp [Value.cells]; done)) fun a24 w2 f24 NB2 ks2 => ?_
   have szw2 := ks2.size
   replace HK := HK.trans ks2 (ktr (by simp))
   replace PN := PN.kept1 ks2 BP (by decide) (by omega)
   replace RD := RD.kept1 ks2 (by omega) (by omega) BP (by decide)
   replace BP := NB2
   simp only [Value.cells, z1, z2, z3, Nat.reduceAdd, Nat.zero_add] at BP
   clear f21 a21 f22 a22 ks2 f23 a23
   exact wpList_nil (then_of (J := J7) (Q := fun _ _ _ => True) (by rw [hJ7]; exact ⟨{ P with topic := v1 }, r1, s0, by unfold headP; rw [if_neg (by omega), if_neg (by omega), if_pos (by assumption)]; simp only [e1], rfl, HK, RD, BP, ⟨PN.pay, PN.wp, PN.pass, PN.subs, PN.codes⟩, f24.sub (sub_cons rfl (sub_cons rfl sn))⟩))
  refine C.condF f18 rfl ?_
  exact wp_skip (then_of (J := J7) (Q := fun _ _ _ => True) (by rw [hJ7]; exact ⟨P, r, s0, by unfold headP; rw [if_neg (by omega), if_neg (by omega), if_neg (by omega)], rfl, HK, RD, BP, PN, f18.sub (sub_cons rfl (sub_cons rfl sn))⟩))
 intro a2 w1 hj
 rw [hJ7] at hj
 clear hJ7 J7
 obtain ⟨p1, r1, s1, hH, hk1, HK, RD, BP, PN, f2⟩ := hj
 try clear f1
 obtain ⟨J9, hJ9⟩ : ∃ J : Act → World → Prop, J = fun a W => ∃ p2 r2, idP p1 r1 = (p2, r2) ∧ p2.kind = P.kind ∧ Kept [g, gp] w W ∧ RdAt W B g r2 ∧ Blk W gp 28 (p2.cells s1) ∧ PkM B w W p2 s1 ∧ Fr 114 a [(0, .pointer (some ⟨g, 0, none⟩)), (1, .pointer (some ⟨gp, 0, none⟩))] := ⟨_, rfl⟩
 refine C.cut J9 ?_ ?_
 ·skip
  refine C.sk fun K4 hK4 => ?_
  refine L.mv f2 fun a3 f3 => ?_
  refine L.va f3 (E.nilCheck f3 rfl) fun a4 f4 => ?_
  refine L.va f4 (by exact E.loadB f4 U28 rfl wsz28_wg rfl (BP) rfl) fun a5 f5 => ?_
  refine L.cl f5 (run_call Tryd.call67 (args1 f5 rfl)) (num_any p1 s1 _) ?_
  clear f2 a2 f3 a3 f4 a4
  rintro e w2 ⟨kc2, rfl⟩
  refine ⟨_, rfl, fun a6 f6 => ?_⟩
  have szw2 := kc2.size
  replace HK := HK.trans kc2 (by simp)
  replace RD := RD.kept0 kc2
  replace BP := BP.kept kc2 (by simp)
  replace PN := PN.kept0 kc2
  clear f5 a5 kc2
  refine wpList_nil (hK4 _ _ ?_)
  have f7 := f6.sub (sc 0 (sc 1 (sc 36 sn)))
  clear f6
  refine f7.split 36 rfl (fun h3 f8 => ?_) (fun h3 f8 => ?_)
  ·have hn := h3
   refine C.condT f8 rfl ?_
   replace BP : Blk w2 gp 28 #[.int .i64 p1.kind, .bool p1.dup, .bool p1.retain, .int .i64 p1.qos, .int .i64 p1.id, .string p1.topic, .slice s1.pa p1.pay.length s1.pc, .int .i64 p1.level, .string p1.client, .bool p1.clean, .int .i64 p1.keep, .bool p1.hasWill, .string p1.wt, .slice s1.wa p1.wp.length s1.wc, .int .i64 p1.wq, .bool p1.wr, .bool p1.hasUser, .bool p1.hasPass, .string p1.user, .slice s1.sa p1.pass.length s1.sc, .bool p1.present, .int .i64 p1.code, .slice s1.ua p1.subs.length s1.uc, .slice s1.ca p1.codes.length s1.cc] := BP
   refine C.region ?_
   refine L.mv f8 fun a9 f9 => ?_
   refine L.mv f9 fun a10 f10 => ?_
   obtain ⟨csg, BGO⟩ := RD.bk
   refine L.cl f10 (run_call Tryd.call82 (args1 f10 rfl)) (rtwo_any B g _ _ RD) ?_
   clear f7 f8 a6 f9 a9
   rintro e w3 ⟨n3, r3, e3, hn3, rfl, RDn, kc3⟩
   clear RD
   refine ⟨_, rfl, fun a11 f11 => ?_⟩
   have szw3 := kc3.size
   replace HK := HK.trans kc3 (ktr (by simp))
   replace BP := BP.kept kc3 (by simp; omega)
   replace PN := PN.kept1 kc3 BGO (by decide) (by omega)
   clear f10 a10 kc3
   have RD := RDn
   clear RDn BGO
   refine L.va f11 (E.nilCheck f11 rfl) fun a12 f12 => ?_
   refine L.fa 4 f12 U28 rfl wsz3_wg fun a13 f13 => ?_
   refine L.store f13 wantedN wsz3_wg rfl rfl rfl BP (by (simp [Value.cells]; done)) fun a14 w4 f14 NB4 ks4 => ?_
   have szw4 := ks4.size
   replace HK := HK.trans ks4 (ktr (by simp))
   replace PN := PN.kept1 ks4 BP (by decide) (by omega)
   replace RD := RD.kept1 ks4 (by omega) (by omega) BP (by decide)
   replace BP := NB4
   simp only [Value.cells, z1, z2, z3, Nat.reduceAdd, Nat.zero_add] at BP
   clear f11 a11 f12 a12 ks4 f13 a13
   exact wpList_nil (then_of (J := J9) (Q := fun _ _ _ => True) (by rw [hJ9]; exact ⟨{ p1 with id := (n3 : Int) }, r3, by unfold idP; rw [if_pos hn]; simp only [e3], hk1, HK, RD, BP, ⟨PN.pay, PN.wp, PN.pass, PN.subs, PN.codes⟩, f14.sub (sub_cons rfl (sub_cons rfl sn))⟩))
  have hn := h3
  refine C.condF f8 rfl ?_
  exact wp_skip (then_of (J := J9) (Q := fun _ _ _ => True) (by rw [hJ9]; exact ⟨p1, r1, by unfold idP; rw [if_neg (by rw [hn]; decide)], hk1, HK, RD, BP, PN, f8.sub (sub_cons rfl (sub_cons rfl sn))⟩))
 intro a3 w2 hj
 rw [hJ9] at hj
 clear hJ9 J9
 obtain ⟨p2, r2, hI, hk2, HK, RD, BP, PN, f3⟩ := hj
 try clear f2
 have hfit : p2.subs.length + p2.codes.length + r2.l.length ≤ 1000000 := by rw [id_subs hI, id_codes hI, head_subs hz.2.2.2.1 hH, head_codes hz.2.2.2.2 hH]; obtain ⟨_, _, _, _, _, _, h6⟩ := RD; simp; exact h6
 refine wp_block ?_
 refine C.loop (fun gk a W => ∃ pp rr ss m, gk = rr.l.length ∧ rr.l.length ≤ m ∧ loopP m pp rr = loopP r2.l.length p2 r2 ∧ pp.kind = P.kind ∧ pp.subs.length + pp.codes.length + rr.l.length ≤ 1000000 ∧ Kept [g, gp] w W ∧ RdAt W B g rr ∧ Blk W gp 28 (pp.cells ss) ∧ PkM B w W pp ss ∧ Fr 114 a [(0, .pointer (some ⟨g, 0, none⟩)), (1, .pointer (some ⟨gp, 0, none⟩))]) (r2.l.length) ?_ ?_
 ·exact ⟨p2, r2, s1, r2.l.length, rfl, Nat.le_refl _, rfl, hk2, hfit, HK, RD, BP, PN, f3.sub (sub_cons rfl (sub_cons rfl sn))⟩
 intro gk6 a4 w3 hI KL5 hKL5
 obtain ⟨pp, rr, ss, m, rfl, hm, hlp, hkp, hft, HK, RD, BP, PN, f4⟩ := hI
 try clear f3
 obtain ⟨hBg_, Ar, cr, BG, SG, hcr⟩ := id RD
 replace BP : Blk w3 gp 28 #[.int .i64 pp.kind, .bool pp.dup, .bool pp.retain, .int .i64 pp.qos, .int .i64 pp.id, .string pp.topic, .slice ss.pa pp.pay.length ss.pc, .int .i64 pp.level, .string pp.client, .bool pp.clean, .int .i64 pp.keep, .bool pp.hasWill, .string pp.wt, .slice ss.wa pp.wp.length ss.wc, .int .i64 pp.wq, .bool pp.wr, .bool pp.hasUser, .bool pp.hasPass, .string pp.user, .slice ss.sa pp.pass.length ss.sc, .bool pp.present, .int .i64 pp.code, .slice ss.ua pp.subs.length ss.uc, .slice ss.ca pp.codes.length ss.cc] := BP
 refine wp_seq_k fun K6 hK6 => ?_
 refine C.sk fun K7 hK7 => ?_
 refine L.mv f4 fun a5 f5 => ?_
 refine L.va f5 (E.nilCheck f5 rfl) fun a6 f6 => ?_
 refine L.fa 0 f6 U91 rfl wsz22_wg fun a7 f7 => ?_
 refine L.ld f7 U22 BG fun a8 f8 => ?_
 refine L.va f8 (E.lenL f8 U22 rfl) fun a9 f9 => ?_
 refine L.va f9 (E.gtr f9 rfl rfl) fun a10 f10 => ?_
 refine wpList_nil (hK7 _ _ ?_)
 have f11 := f10.sub (sc 0 (sc 1 (sc 47 sn)))
 clear f4 a4 f5 a5 f6 a6 f7 a7 f8 a8 f9 a9 f10
 refine f11.splitD 47 rfl (fun h4 f12 => ?_) (fun h4 f12 => ?_)
 ·have hr0 : rr.l ≠ [] := fun h0 => by rw [h0] at h4; simp at h4
  obtain ⟨m', rfl⟩ : ∃ m', m = m' + 1 := ⟨m - 1, by omega⟩
  refine C.condT f12 rfl ?_
  refine wp_skip (hK6 _ _ ?_)
  have f13 := f12.sub (sc 0 (sc 1 sn))
  refine wp_block ?_
  refine C.sk fun K8 hK8 => ?_
  refine L.mv f13 fun a14 f14 => ?_
  refine L.va f14 (E.nilCheck f14 rfl) fun a15 f15 => ?_
  refine L.fa 0 f15 U28 rfl wsz3_wg fun a16 f16 => ?_
  refine L.ld f16 U3 BP fun a17 f17 => ?_
  refine wpList_nil (hK8 _ _ ?_)
  have f18 := f17.sub (sc 0 (sc 1 (sc 51 sn)))
  refine wp_block ?_
  refine C.sk fun K9 hK9 => ?_
  refine L.va f18 (E.eq f18) fun a19 f19 => ?_
  refine L.ag f19 fun a20 f20 => ?_
  clear f11 f12 f13 a10 f14 a14 f15 a15 f16 a16 f17 f18 a17 f19 a19
  refine wpList_nil (hK9 _ _ ?_)
  have f21 := f20.sub (sc 0 (sc 1 (sc 51 (sc 58 sn))))
  clear f20
  refine f21.splitD 58 rfl (fun h5 f22 => ?_) (fun h5 f22 => ?_)
  ·refine C.condT f22 rfl ?_
   refine C.region ?_
   refine L.mv f22 fun a23 f23 => ?_
   refine L.mv f23 fun a24 f24 => ?_
   refine L.mv f24 fun a25 f25 => ?_
   refine L.va f25 (E.nilCheck f25 rfl) fun a26 f26 => ?_
   refine L.fa 0 f26 U91 rfl wsz22_wg fun a27 f27 => ?_
   refine L.ld f27 U22 BG fun a28 f28 => ?_
   refine L.va f28 (E.lenL f28 U22 rfl) fun a29 f29 => ?_
   clear f21 f22 a20 f23 a23 f24 a24 f25 a25 f26 a26 f27 a27 f28 a28
   obtain ⟨csg, BGO⟩ := RD.bk
   refine L.cl f29 (run_call Tryd.call83 (args2 f29 rfl rfl)) (take_any _ B g _ _ RD (by omega)) ?_
   rintro e w4 ⟨kc4, A4, c4, rfl, S4, RDn⟩
   clear RD
   refine ⟨_, rfl, fun a30 f30 => ?_⟩
   have szw4 := kc4.size
   replace HK := HK.trans kc4 (ktr (by simp))
   replace BP := BP.kept kc4 (by simp; omega)
   replace PN := PN.kept1 kc4 BGO (by decide) (by omega)
   clear f29 a29 kc4
   have RD := RDn
   clear RDn BGO
   have hta := take_all_len rr
   refine L.cl f30 (run_call Tryd.call63 (args1 f30 rfl)) (clone_any _ _ _ _ S4.toSl (by rw [take_len]; omega)) ?_
   rintro e w5 ⟨kc5, A5, c5, rfl, FR5⟩
   refine ⟨_, rfl, fun a31 f31 => ?_⟩
   have szw5 := kc5.size
   replace HK := HK.trans kc5 (by simp)
   replace BP := BP.kept kc5 (by simp)
   replace PN := PN.kept0 kc5
   replace RD := RD.kept0 kc5
   replace S4 := S4.kept0 kc5
   clear f30 a30 kc5
   refine L.va f31 (E.nilCheck f31 rfl) fun a32 f32 => ?_
   refine L.fa 6 f32 U28 rfl wsz22_wg fun a33 f33 => ?_
   refine L.store f33 wantedN wsz22_wg rfl rfl rfl BP (by (simp [Value.cells]; done)) fun a34 w6 f34 NB6 ks6 => ?_
   have szw6 := ks6.size
   replace HK := HK.trans ks6 (ktr (by simp))
   replace PN := PN.kept1 ks6 BP (by decide) (by omega)
   replace RD := RD.kept1 ks6 (by omega) (by omega) BP (by decide)
   replace S4 := S4.kept1 ks6 BP (by decide) (by omega)
   replace FR5 := fresh_blk FR5 ks6 BP (by decide)
   replace BP := NB6
   simp only [Value.cells, z1, z2, z3, Nat.reduceAdd, Nat.zero_add] at BP
   clear f31 a31 f32 a32 ks6 f33 a33
   refine wpList_nil (hKL5 _ _ ((rr.take rr.l.length).2.l.length) ?_ ?_)
   ·omega
   exact ⟨{ pp with pay := (rr.take rr.l.length).1 }, (rr.take rr.l.length).2, { ss with pa := A5, pc := c5 }, m', rfl, by omega, by rw [← hlp]; exact (loop_3 hr0 (by omega)).symm, hkp, by show pp.subs.length + pp.codes.length + _ ≤ _; omega, HK, RD, BP, ⟨Bs.of_fresh FR5, PN.wp, PN.pass, PN.subs, PN.codes⟩, f34.sub (sub_cons rfl (sub_cons rfl sn))⟩
  refine C.condF f22 rfl ?_
  refine C.sk fun K10 hK10 => ?_
  refine L.va f22 (E.eq f22) fun a23 f23 => ?_
  refine L.ag f23 fun a24 f24 => ?_
  refine wpList_nil (hK10 _ _ ?_)
  have f25 := f24.sub (sc 0 (sc 1 (sc 51 (sc 71 sn))))
  clear f21 f22 a20 f23 a23 f24
  refine f25.splitD 71 rfl (fun h6 f26 => ?_) (fun h6 f26 => ?_)
  ·refine C.condT f26 rfl ?_
   have hd15 : Kept [] w3 (w3.drewN 1) := (Kept.refl _ _).drewN 1
   refine R.beginT (S := fun _ => True) (by kernel_rfl) (by kernel_rfl) trivial fun ht => ?_
   obtain ⟨w4, hww4⟩ : ∃ W, W = w3.drewN 1 := ⟨_, rfl⟩
   rw [← hww4] at hd15 ⊢
   clear f25 hww4
   have szw4 := hd15.size
   replace HK := HK.trans hd15 (by simp)
   replace RD := RD.kept0 hd15
   replace BP := BP.kept hd15 (by simp)
   replace PN := PN.kept0 hd15
   clear hd15
   refine R.u 0 f26 rfl ht trivial (fun W hW => (E.move f26 rfl)) fun a27 f27 => ?_
   refine R.u 1 f27 rfl ht trivial (fun W hW => (E.move f27 rfl)) fun a28 f28 => ?_
   refine R.u 2 f28 rfl ht trivial (fun W hW => (E.nilCheck f28 rfl)) fun a29 f29 => ?_
   refine R.u 3 f29 rfl ht trivial (fun W hW => (E.fa 22 f29 U28 rfl wsz25_wg)) fun a30 f30 => ?_
   refine R.u 5 f30 rfl ht trivial (fun W hW => (E.move f30 rfl)) fun a31 f31 => ?_
   refine R.u 7 f31 rfl ht trivial (fun W hW => (E.move f31 rfl)) fun a32 f32 => ?_
   clear f26 a24 f27 a27 f28 a28 f29 a29 f30 a30 f31 a31
   refine R.two 4 6 (by kernel_rfl) ?_ ?_
   ·skip
    refine O.val f32 rfl rfl (by decide) wantedN (by exact E.ld f32 U25 (BP)) trivial fun a33 f33 => ?_
    refine R.one 6 (by kernel_rfl) ?_
    obtain ⟨csg, BGO⟩ := RD.bk
    refine O.call f33 rfl rfl (by decide) wantedN (run_call Tryd.call81 (args1 f33 rfl)) (rtext_any B g _ _ RD) ?_
    clear f32 a32
    rintro e w5 ⟨v5, r5, e5, hv5, rfl, RDn, kc5⟩
    clear RD
    refine ⟨_, rfl, trivial, fun a34 f34 => ?_⟩
    have szw5 := kc5.size
    replace HK := HK.trans kc5 (ktr (by simp))
    replace BP := BP.kept kc5 (by simp; omega)
    replace PN := PN.kept1 kc5 BGO (by decide) (by omega)
    clear f33 a33 kc5
    have RD := RDn
    clear RDn BGO
    have hx : r5.l.length < rr.l.length := by have h := text_lt hr0; rw [e5] at h; exact h
    refine R.one 8 (by kernel_rfl) ?_
    obtain ⟨csg, BGO⟩ := RD.bk
    refine O.call f34 rfl rfl (by decide) wantedN (run_call Tryd.call80 (args1 f34 rfl)) (one_any B g _ _ RD) ?_
    rintro e w6 ⟨v6, r6, e6, hv6, rfl, RDn, kc6⟩
    clear RD
    refine ⟨_, rfl, trivial, fun a35 f35 => ?_⟩
    have szw6 := kc6.size
    replace HK := HK.trans kc6 (ktr (by simp))
    replace BP := BP.kept kc6 (by simp; omega)
    replace PN := PN.kept1 kc6 BGO (by decide) (by omega)
    clear f34 a34 kc6
    have RD := RDn
    clear RDn BGO
    have hy : r6.l.length ≤ r5.l.length := by have h := one_le r5; rw [e6] at h; exact h
    refine R.u 9 f35 rfl ht trivial (fun W hW => (E.build f35 (parts2 f35 rfl rfl) (wbl70_0_1_wg _ _))) fun a36 f36 => ?_
    refine R.one 10 (by kernel_rfl) ?_
    refine O.buildSlice f36 rfl wantedN (by decide) (parts1 f36 rfl) U25 wzi70_wg rfl rfl (wbs25_1_wg _ _) (fun _ _ => trivial) fun a37 w7 g6 N6 hSn f37 => ?_
    clear f35 a35 hSn
    have Bg6 := N6.blk
    have kg6 := N6.kept
    have log6 := N6.lo
    have ltg6 := Bg6.lt
    have szw7 := kg6.size
    have frg6 : w.heap.size ≤ g6 := Nat.le_trans HK.size log6
    have negp_g6 : gp ≠ g6 := by have := BP.lt; omega
    replace HK := HK.trans kg6 (by simp)
    replace BP := BP.kept kg6 (by simp)
    replace PN := PN.kept0 kg6
    replace RD := RD.kept0 kg6
    clear N6 kg6
    refine R.one 11 (by kernel_rfl) ?_
    refine O.append f37 rfl wantedN (by decide) U25 wzib70_wg rfl rfl rfl rfl PN.subs.own (Bg6.slN (size := 2) rfl) (by intro u hu; simp at hu; rcases hu with rfl | rfl <;> rfl) (by unfold maxLen; omega) (by omega) fun a38 w8 A8 c8 AP => ?_
    have szw8 := AP.kept.size
    have HKn := AP.grow PN.subs HK
    have RDn := RD.keptO AP.kept PN.subs.own (by decide) (by decide) (fun a ha => Nat.le_trans hBw (PN.subs.from a ha))
    have BPn := BP.kept AP.kept (own_ne PN.subs.own BP (by decide))
    have PNn := PN.push hBw HK.size AP
    refine ⟨trivial, fun f38 => ?_⟩
    clear f36 a36 f37 Bg6 HK RD BP PN
    have HK := HKn
    have RD := RDn
    have BP := BPn
    have PN := PNn
    clear HKn RDn BPn PNn AP
    refine R.u 12 f38 rfl ht trivial (fun W hW => (E.nilCheck f38 rfl)) fun a39 f39 => ?_
    refine R.u 13 f39 rfl ht trivial (fun W hW => (E.fa 22 f39 U28 rfl wsz25_wg)) fun a40 f40 => ?_
    refine R.one 14 (by kernel_rfl) ?_
    refine OT.store f40 rfl wantedN wsz25_wg rfl rfl rfl BP (by (simp [Value.cells]; done)) fun a41 w9 f41 NB9 ks9 => ?_
    have szw9 := ks9.size
    replace HK := HK.trans ks9 (ktr (by simp))
    replace PN := PN.kept1 ks9 BP (by decide) (by omega)
    replace RD := RD.kept1 ks9 (by omega) (by omega) BP (by decide)
    replace BP := NB9
    simp only [Value.cells, z1, z2, z3, Nat.reduceAdd, Nat.zero_add] at BP
    clear f38 a38 f39 a39 ks9 f40 a40
    refine R.done (by kernel_rfl) (hKL5 _ _ (r6.l.length) ?_ ?_)
    ·omega
    exact ⟨{ pp with subs := pp.subs ++ [(v5, v6)] }, r6, { ss with ua := A8, uc := c8 }, m', rfl, by omega, by rw [← hlp, loop_8 hr0 (by omega)]; simp only [e5, e6], hkp, by show (pp.subs ++ [(v5, v6)]).length + pp.codes.length + _ ≤ _; rw [List.length_append, List.length_singleton]; omega, HK, RD, by rw [Pk.cells, List.length_append]; exact BP, PN, f41.sub (sub_cons rfl (sub_cons rfl sn))⟩
   skip
   obtain ⟨csg, BGO⟩ := RD.bk
   refine O.call f32 rfl rfl (by decide) wantedN (run_call Tryd.call81 (args1 f32 rfl)) (rtext_any B g _ _ RD) ?_
   rintro e w5 ⟨v5, r5, e5, hv5, rfl, RDn, kc5⟩
   clear RD
   refine ⟨_, rfl, trivial, fun a33 f33 => ?_⟩
   have szw5 := kc5.size
   replace HK := HK.trans kc5 (ktr (by simp))
   replace BP := BP.kept kc5 (by simp; omega)
   replace PN := PN.kept1 kc5 BGO (by decide) (by omega)
   clear f32 a32 kc5
   have RD := RDn
   clear RDn BGO
   have hx : r5.l.length < rr.l.length := by have h := text_lt hr0; rw [e5] at h; exact h
   refine R.two 4 8 (by kernel_rfl) ?_ ?_
   ·skip
    refine O.val f33 rfl rfl (by decide) wantedN (by exact E.ld f33 U25 (BP)) trivial fun a34 f34 => ?_
    refine R.one 8 (by kernel_rfl) ?_
    obtain ⟨csg, BGO⟩ := RD.bk
    refine O.call f34 rfl rfl (by decide) wantedN (run_call Tryd.call80 (args1 f34 rfl)) (one_any B g _ _ RD) ?_
    clear f33 a33
    rintro e w6 ⟨v6, r6, e6, hv6, rfl, RDn, kc6⟩
    clear RD
    refine ⟨_, rfl, trivial, fun a35 f35 => ?_⟩
    have szw6 := kc6.size
    replace HK := HK.trans kc6 (ktr (by simp))
    replace BP := BP.kept kc6 (by simp; omega)
    replace PN := PN.kept1 kc6 BGO (by decide) (by omega)
    clear f34 a34 kc6
    have RD := RDn
    clear RDn BGO
    have hy : r6.l.length ≤ r5.l.length := by have h := one_le r5; rw [e6] at h; exact h
    refine R.u 9 f35 rfl ht trivial (fun W hW => (E.build f35 (parts2 f35 rfl rfl) (wbl70_0_1_wg _ _))) fun a36 f36 => ?_
    refine R.one 10 (by kernel_rfl) ?_
    refine O.buildSlice f36 rfl wantedN (by decide) (parts1 f36 rfl) U25 wzi70_wg rfl rfl (wbs25_1_wg _ _) (fun _ _ => trivial) fun a37 w7 g6 N6 hSn f37 => ?_
    clear f35 a35 hSn
    have Bg6 := N6.blk
    have kg6 := N6.kept
    have log6 := N6.lo
    have ltg6 := Bg6.lt
    have szw7 := kg6.size
    have frg6 : w.heap.size ≤ g6 := Nat.le_trans HK.size log6
    have negp_g6 : gp ≠ g6 := by have := BP.lt; omega
    replace HK := HK.trans kg6 (by simp)
    replace BP := BP.kept kg6 (by simp)
    replace PN := PN.kept0 kg6
    replace RD := RD.kept0 kg6
    clear N6 kg6
    refine R.one 11 (by kernel_rfl) ?_
    refine O.append f37 rfl wantedN (by decide) U25 wzib70_wg rfl rfl rfl rfl PN.subs.own (Bg6.slN (size := 2) rfl) (by intro u hu; simp at hu; rcases hu with rfl | rfl <;> rfl) (by unfold maxLen; omega) (by omega) fun a38 w8 A8 c8 AP => ?_
    have szw8 := AP.kept.size
    have HKn := AP.grow PN.subs HK
    have RDn := RD.keptO AP.kept PN.subs.own (by decide) (by decide) (fun a ha => Nat.le_trans hBw (PN.subs.from a ha))
    have BPn := BP.kept AP.kept (own_ne PN.subs.own BP (by decide))
    have PNn := PN.push hBw HK.size AP
    refine ⟨trivial, fun f38 => ?_⟩
    clear f36 a36 f37 Bg6 HK RD BP PN
    have HK := HKn
    have RD := RDn
    have BP := BPn
    have PN := PNn
    clear HKn RDn BPn PNn AP
    refine R.u 12 f38 rfl ht trivial (fun W hW => (E.nilCheck f38 rfl)) fun a39 f39 => ?_
    refine R.u 13 f39 rfl ht trivial (fun W hW => (E.fa 22 f39 U28 rfl wsz25_wg)) fun a40 f40 => ?_
    refine R.one 14 (by kernel_rfl) ?_
    refine OT.store f40 rfl wantedN wsz25_wg rfl rfl rfl BP (by (simp [Value.cells]; done)) fun a41 w9 f41 NB9 ks9 => ?_
    have szw9 := ks9.size
    replace HK := HK.trans ks9 (ktr (by simp))
    replace PN := PN.kept1 ks9 BP (by decide) (by omega)
    replace RD := RD.kept1 ks9 (by omega) (by omega) BP (by decide)
    replace BP := NB9
    simp only [Value.cells, z1, z2, z3, Nat.reduceAdd, Nat.zero_add] at BP
    clear f38 a38 f39 a39 ks9 f40 a40
    refine R.done (by kernel_rfl) (hKL5 _ _ (r6.l.length) ?_ ?_)
    ·omega
    exact ⟨{ pp with subs := pp.subs ++ [(v5, v6)] }, r6, { ss with ua := A8, uc := c8 }, m', rfl, by omega, by rw [← hlp, loop_8 hr0 (by omega)]; simp only [e5, e6], hkp, by show (pp.subs ++ [(v5, v6)]).length + pp.codes.length + _ ≤ _; rw [List.length_append, List.length_singleton]; omega, HK, RD, by rw [Pk.cells, List.length_append]; exact BP, PN, f41.sub (sub_cons rfl (sub_cons rfl sn))⟩
   skip
   obtain ⟨csg, BGO⟩ := RD.bk
   refine O.call f33 rfl rfl (by decide) wantedN (run_call Tryd.call80 (args1 f33 rfl)) (one_any B g _ _ RD) ?_
   rintro e w6 ⟨v6, r6, e6, hv6, rfl, RDn, kc6⟩
   clear RD
   refine ⟨_, rfl, trivial, fun a34 f34 => ?_⟩
   have szw6 := kc6.size
   replace HK := HK.trans kc6 (ktr (by simp))
   replace BP := BP.kept kc6 (by simp; omega)
   replace PN := PN.kept1 kc6 BGO (by decide) (by omega)
   clear f33 a33 kc6
   have RD := RDn
   clear RDn BGO
   have hy : r6.l.length ≤ r5.l.length := by have h := one_le r5; rw [e6] at h; exact h
   refine R.u 9 f34 rfl ht trivial (fun W hW => (E.build f34 (parts2 f34 rfl rfl) (wbl70_0_1_wg _ _))) fun a35 f35 => ?_
   clear f34 a34
   refine R.two 4 10 (by kernel_rfl) ?_ ?_
   ·skip
    refine O.val f35 rfl rfl (by decide) wantedN (by exact E.ld f35 U25 (BP)) trivial fun a36 f36 => ?_
    refine R.one 10 (by kernel_rfl) ?_
    refine O.buildSlice f36 rfl wantedN (by decide) (parts1 f36 rfl) U25 wzi70_wg rfl rfl (wbs25_1_wg _ _) (fun _ _ => trivial) fun a37 w7 g6 N6 hSn f37 => ?_
    clear f35 a35 hSn
    have Bg6 := N6.blk
    have kg6 := N6.kept
    have log6 := N6.lo
    have ltg6 := Bg6.lt
    have szw7 := kg6.size
    have frg6 : w.heap.size ≤ g6 := Nat.le_trans HK.size log6
    have negp_g6 : gp ≠ g6 := by have := BP.lt; omega
    replace HK := HK.trans kg6 (by simp)
    replace BP := BP.kept kg6 (by simp)
    replace PN := PN.kept0 kg6
    replace RD := RD.kept0 kg6
    clear N6 kg6
    refine R.one 11 (by kernel_rfl) ?_
    refine O.append f37 rfl wantedN (by decide) U25 wzib70_wg rfl rfl rfl rfl PN.subs.own (Bg6.slN (size := 2) rfl) (by intro u hu; simp at hu; rcases hu with rfl | rfl <;> rfl) (by unfold maxLen; omega) (by omega) fun a38 w8 A8 c8 AP => ?_
    have szw8 := AP.kept.size
    have HKn := AP.grow PN.subs HK
    have RDn := RD.keptO AP.kept PN.subs.own (by decide) (by decide) (fun a ha => Nat.le_trans hBw (PN.subs.from a ha))
    have BPn := BP.kept AP.kept (own_ne PN.subs.own BP (by decide))
    have PNn := PN.push hBw HK.size AP
    refine ⟨trivial, fun f38 => ?_⟩
    clear f36 a36 f37 Bg6 HK RD BP PN
    have HK := HKn
    have RD := RDn
    have BP := BPn
    have PN := PNn
    clear HKn RDn BPn PNn AP
    refine R.u 12 f38 rfl ht trivial (fun W hW => (E.nilCheck f38 rfl)) fun a39 f39 => ?_
    refine R.u 13 f39 rfl ht trivial (fun W hW => (E.fa 22 f39 U28 rfl wsz25_wg)) fun a40 f40 => ?_
    refine R.one 14 (by kernel_rfl) ?_
    refine OT.store f40 rfl wantedN wsz25_wg rfl rfl rfl BP (by (simp [Value.cells]; done)) fun a41 w9 f41 NB9 ks9 => ?_
    have szw9 := ks9.size
    replace HK := HK.trans ks9 (ktr (by simp))
    replace PN := PN.kept1 ks9 BP (by decide) (by omega)
    replace RD := RD.kept1 ks9 (by omega) (by omega) BP (by decide)
    replace BP := NB9
    simp only [Value.cells, z1, z2, z3, Nat.reduceAdd, Nat.zero_add] at BP
    clear f38 a38 f39 a39 ks9 f40 a40
    refine R.done (by kernel_rfl) (hKL5 _ _ (r6.l.length) ?_ ?_)
    ·omega
    exact ⟨{ pp with subs := pp.subs ++ [(v5, v6)] }, r6, { ss with ua := A8, uc := c8 }, m', rfl, by omega, by rw [← hlp, loop_8 hr0 (by omega)]; simp only [e5, e6], hkp, by show (pp.subs ++ [(v5, v6)]).length + pp.codes.length + _ ≤ _; rw [List.length_append, List.length_singleton]; omega, HK, RD, by rw [Pk.cells, List.length_append]; exact BP, PN, f41.sub (sub_cons rfl (sub_cons rfl sn))⟩
   skip
   refine O.buildSlice f35 rfl wantedN (by decide) (parts1 f35 rfl) U25 wzi70_wg rfl rfl (wbs25_1_wg _ _) (fun _ _ => trivial) fun a36 w7 g6 N6 hSn f36 => ?_
   clear hSn
   have Bg6 := N6.blk
   have kg6 := N6.kept
   have log6 := N6.lo
   have ltg6 := Bg6.lt
   have szw7 := kg6.size
   have frg6 : w.heap.size ≤ g6 := Nat.le_trans HK.size log6
   have negp_g6 : gp ≠ g6 := by have := BP.lt; omega
   replace HK := HK.trans kg6 (by simp)
   replace BP := BP.kept kg6 (by simp)
   replace PN := PN.kept0 kg6
   replace RD := RD.kept0 kg6
   clear N6 kg6
   refine R.one 4 (by kernel_rfl) ?_
   refine O.val f36 rfl rfl (by decide) wantedN (by exact E.ld f36 U25 (BP)) trivial fun a37 f37 => ?_
   refine R.one 11 (by kernel_rfl) ?_
   refine O.append f37 rfl wantedN (by decide) U25 wzib70_wg rfl rfl rfl rfl PN.subs.own (Bg6.slN (size := 2) rfl) (by intro u hu; simp at hu; rcases hu with rfl | rfl <;> rfl) (by unfold maxLen; omega) (by omega) fun a38 w8 A8 c8 AP => ?_
   have szw8 := AP.kept.size
   have HKn := AP.grow PN.subs HK
   have RDn := RD.keptO AP.kept PN.subs.own (by decide) (by decide) (fun a ha => Nat.le_trans hBw (PN.subs.from a ha))
   have BPn := BP.kept AP.kept (own_ne PN.subs.own BP (by decide))
   have PNn := PN.push hBw HK.size AP
   refine ⟨trivial, fun f38 => ?_⟩
   clear f35 a35 f36 a36 f37 Bg6 HK RD BP PN
   have HK := HKn
   have RD := RDn
   have BP := BPn
   have PN := PNn
   clear HKn RDn BPn PNn AP
   refine R.u 12 f38 rfl ht trivial (fun W hW => (E.nilCheck f38 rfl)) fun a39 f39 => ?_
   refine R.u 13 f39 rfl ht trivial (fun W hW => (E.fa 22 f39 U28 rfl wsz25_wg)) fun a40 f40 => ?_
   refine R.one 14 (by kernel_rfl) ?_
   refine OT.store f40 rfl wantedN wsz25_wg rfl rfl rfl BP (by (simp [Value.cells]; done)) fun a41 w9 f41 NB9 ks9 => ?_
   have szw9 := ks9.size
   replace HK := HK.trans ks9 (ktr (by simp))
   replace PN := PN.kept1 ks9 BP (by decide) (by omega)
   replace RD := RD.kept1 ks9 (by omega) (by omega) BP (by decide)
   replace BP := NB9
   simp only [Value.cells, z1, z2, z3, Nat.reduceAdd, Nat.zero_add] at BP
   clear f38 a38 f39 a39 ks9 f40 a40
   refine R.done (by kernel_rfl) (hKL5 _ _ (r6.l.length) ?_ ?_)
   ·omega
   exact ⟨{ pp with subs := pp.subs ++ [(v5, v6)] }, r6, { ss with ua := A8, uc := c8 }, m', rfl, by omega, by rw [← hlp, loop_8 hr0 (by omega)]; simp only [e5, e6], hkp, by show (pp.subs ++ [(v5, v6)]).length + pp.codes.length + _ ≤ _; rw [List.length_append, List.length_singleton]; omega, HK, RD, by rw [Pk.cells, List.length_append]; exact BP, PN, f41.sub (sub_cons rfl (sub_cons rfl sn))⟩
  refine C.condF f26 rfl ?_
  refine C.sk fun K11 hK11 => ?_
  refine L.va f26 (E.eq f26) fun a27 f27 => ?_
  refine L.ag f27 fun a28 f28 => ?_
  refine wpList_nil (hK11 _ _ ?_)
  have f29 := f28.sub (sc 0 (sc 1 (sc 51 (sc 87 sn))))
  clear f25 f26 a24 f27 a27 f28
  refine f29.splitD 87 rfl (fun h7 f30 => ?_) (fun h7 f30 => ?_)
  ·refine C.condT f30 rfl ?_
   have hd17 : Kept [] w3 (w3.drewN 1) := (Kept.refl _ _).drewN 1
   refine R.beginT (S := fun _ => True) (by kernel_rfl) (by kernel_rfl) trivial fun ht => ?_
   obtain ⟨w4, hww4⟩ : ∃ W, W = w3.drewN 1 := ⟨_, rfl⟩
   rw [← hww4] at hd17 ⊢
   clear f29 hww4
   have szw4 := hd17.size
   replace HK := HK.trans hd17 (by simp)
   replace RD := RD.kept0 hd17
   replace BP := BP.kept hd17 (by simp)
   replace PN := PN.kept0 hd17
   clear hd17
   refine R.u 0 f30 rfl ht trivial (fun W hW => (E.move f30 rfl)) fun a31 f31 => ?_
   refine R.u 1 f31 rfl ht trivial (fun W hW => (E.move f31 rfl)) fun a32 f32 => ?_
   refine R.u 2 f32 rfl ht trivial (fun W hW => (E.nilCheck f32 rfl)) fun a33 f33 => ?_
   refine R.u 3 f33 rfl ht trivial (fun W hW => (E.fa 22 f33 U28 rfl wsz25_wg)) fun a34 f34 => ?_
   refine R.u 5 f34 rfl ht trivial (fun W hW => (E.move f34 rfl)) fun a35 f35 => ?_
   clear f30 a28 f31 a31 f32 a32 f33 a33 f34 a34
   refine R.two 4 6 (by kernel_rfl) ?_ ?_
   ·skip
    refine O.val f35 rfl rfl (by decide) wantedN (by exact E.ld f35 U25 (BP)) trivial fun a36 f36 => ?_
    refine R.one 6 (by kernel_rfl) ?_
    obtain ⟨csg, BGO⟩ := RD.bk
    refine O.call f36 rfl rfl (by decide) wantedN (run_call Tryd.call81 (args1 f36 rfl)) (rtext_any B g _ _ RD) ?_
    clear f35 a35
    rintro e w5 ⟨v5, r5, e5, hv5, rfl, RDn, kc5⟩
    clear RD
    refine ⟨_, rfl, trivial, fun a37 f37 => ?_⟩
    have szw5 := kc5.size
    replace HK := HK.trans kc5 (ktr (by simp))
    replace BP := BP.kept kc5 (by simp; omega)
    replace PN := PN.kept1 kc5 BGO (by decide) (by omega)
    clear f36 a36 kc5
    have RD := RDn
    clear RDn BGO
    have hx : r5.l.length < rr.l.length := by have h := text_lt hr0; rw [e5] at h; exact h
    refine R.u 7 f37 rfl ht trivial (fun W hW => (E.build f37 (parts1 f37 rfl) (wbl70_0_wg _))) fun a38 f38 => ?_
    refine R.one 8 (by kernel_rfl) ?_
    refine O.buildSlice f38 rfl wantedN (by decide) (parts1 f38 rfl) U25 wzi70_wg rfl rfl (wbs25_1_wg _ _) (fun _ _ => trivial) fun a39 w6 g5 N5 hSn f39 => ?_
    clear f37 a37 hSn
    have Bg5 := N5.blk
    have kg5 := N5.kept
    have log5 := N5.lo
    have ltg5 := Bg5.lt
    have szw6 := kg5.size
    have frg5 : w.heap.size ≤ g5 := Nat.le_trans HK.size log5
    have negp_g5 : gp ≠ g5 := by have := BP.lt; omega
    replace HK := HK.trans kg5 (by simp)
    replace BP := BP.kept kg5 (by simp)
    replace PN := PN.kept0 kg5
    replace RD := RD.kept0 kg5
    clear N5 kg5
    refine R.one 9 (by kernel_rfl) ?_
    refine O.append f39 rfl wantedN (by decide) U25 wzib70_wg rfl rfl rfl rfl PN.subs.own (Bg5.slN (size := 2) rfl) (by intro u hu; simp at hu; rcases hu with rfl | rfl <;> rfl) (by unfold maxLen; omega) (by omega) fun a40 w7 A7 c7 AP => ?_
    have szw7 := AP.kept.size
    have HKn := AP.grow PN.subs HK
    have RDn := RD.keptO AP.kept PN.subs.own (by decide) (by decide) (fun a ha => Nat.le_trans hBw (PN.subs.from a ha))
    have BPn := BP.kept AP.kept (own_ne PN.subs.own BP (by decide))
    have PNn := PN.push hBw HK.size AP
    refine ⟨trivial, fun f40 => ?_⟩
    clear f38 a38 f39 Bg5 HK RD BP PN
    have HK := HKn
    have RD := RDn
    have BP := BPn
    have PN := PNn
    clear HKn RDn BPn PNn AP
    refine R.u 10 f40 rfl ht trivial (fun W hW => (E.nilCheck f40 rfl)) fun a41 f41 => ?_
    refine R.u 11 f41 rfl ht trivial (fun W hW => (E.fa 22 f41 U28 rfl wsz25_wg)) fun a42 f42 => ?_
    refine R.one 12 (by kernel_rfl) ?_
    refine OT.store f42 rfl wantedN wsz25_wg rfl rfl rfl BP (by (simp [Value.cells]; done)) fun a43 w8 f43 NB8 ks8 => ?_
    have szw8 := ks8.size
    replace HK := HK.trans ks8 (ktr (by simp))
    replace PN := PN.kept1 ks8 BP (by decide) (by omega)
    replace RD := RD.kept1 ks8 (by omega) (by omega) BP (by decide)
    replace BP := NB8
    simp only [Value.cells, z1, z2, z3, Nat.reduceAdd, Nat.zero_add] at BP
    clear f40 a40 f41 a41 ks8 f42 a42
    refine R.done (by kernel_rfl) (hKL5 _ _ (r5.l.length) ?_ ?_)
    ·omega
    exact ⟨{ pp with subs := pp.subs ++ [(v5, 0)] }, r5, { ss with ua := A7, uc := c7 }, m', rfl, by omega, by rw [← hlp, loop_10 hr0 (by omega)]; simp only [e5], hkp, by show (pp.subs ++ [(v5, 0)]).length + pp.codes.length + _ ≤ _; rw [List.length_append, List.length_singleton]; omega, HK, RD, by rw [Pk.cells, List.length_append]; exact BP, PN, f43.sub (sub_cons rfl (sub_cons rfl sn))⟩
   skip
   obtain ⟨csg, BGO⟩ := RD.bk
   refine O.call f35 rfl rfl (by decide) wantedN (run_call Tryd.call81 (args1 f35 rfl)) (rtext_any B g _ _ RD) ?_
   rintro e w5 ⟨v5, r5, e5, hv5, rfl, RDn, kc5⟩
   clear RD
   refine ⟨_, rfl, trivial, fun a36 f36 => ?_⟩
   have szw5 := kc5.size
   replace HK := HK.trans kc5 (ktr (by simp))
   replace BP := BP.kept kc5 (by simp; omega)
   replace PN := PN.kept1 kc5 BGO (by decide) (by omega)
   clear f35 a35 kc5
   have RD := RDn
   clear RDn BGO
   have hx : r5.l.length < rr.l.length := by have h := text_lt hr0; rw [e5] at h; exact h
   refine R.u 7 f36 rfl ht trivial (fun W hW => (E.build f36 (parts1 f36 rfl) (wbl70_0_wg _))) fun a37 f37 => ?_
   clear f36 a36
   refine R.two 4 8 (by kernel_rfl) ?_ ?_
   ·skip
    refine O.val f37 rfl rfl (by decide) wantedN (by exact E.ld f37 U25 (BP)) trivial fun a38 f38 => ?_
    refine R.one 8 (by kernel_rfl) ?_
    refine O.buildSlice f38 rfl wantedN (by decide) (parts1 f38 rfl) U25 wzi70_wg rfl rfl (wbs25_1_wg _ _) (fun _ _ => trivial) fun a39 w6 g5 N5 hSn f39 => ?_
    clear f37 a37 hSn
    have Bg5 := N5.blk
    have kg5 := N5.kept
    have log5 := N5.lo
    have ltg5 := Bg5.lt
    have szw6 := kg5.size
    have frg5 : w.heap.size ≤ g5 := Nat.le_trans HK.size log5
    have negp_g5 : gp ≠ g5 := by have := BP.lt; omega
    replace HK := HK.trans kg5 (by simp)
    replace BP := BP.kept kg5 (by simp)
    replace PN := PN.kept0 kg5
    replace RD := RD.kept0 kg5
    clear N5 kg5
    refine R.one 9 (by kernel_rfl) ?_
    refine O.append f39 rfl wantedN (by decide) U25 wzib70_wg rfl rfl rfl rfl PN.subs.own (Bg5.slN (size := 2) rfl) (by intro u hu; simp at hu; rcases hu with rfl | rfl <;> rfl) (by unfold maxLen; omega) (by omega) fun a40 w7 A7 c7 AP => ?_
    have szw7 := AP.kept.size
    have HKn := AP.grow PN.subs HK
    have RDn := RD.keptO AP.kept PN.subs.own (by decide) (by decide) (fun a ha => Nat.le_trans hBw (PN.subs.from a ha))
    have BPn := BP.kept AP.kept (own_ne PN.subs.own BP (by decide))
    have PNn := PN.push hBw HK.size AP
    refine ⟨trivial, fun f40 => ?_⟩
    clear f38 a38 f39 Bg5 HK RD BP PN
    have HK := HKn
    have RD := RDn
    have BP := BPn
    have PN := PNn
    clear HKn RDn BPn PNn AP
    refine R.u 10 f40 rfl ht trivial (fun W hW => (E.nilCheck f40 rfl)) fun a41 f41 => ?_
    refine R.u 11 f41 rfl ht trivial (fun W hW => (E.fa 22 f41 U28 rfl wsz25_wg)) fun a42 f42 => ?_
    refine R.one 12 (by kernel_rfl) ?_
    refine OT.store f42 rfl wantedN wsz25_wg rfl rfl rfl BP (by (simp [Value.cells]; done)) fun a43 w8 f43 NB8 ks8 => ?_
    have szw8 := ks8.size
    replace HK := HK.trans ks8 (ktr (by simp))
    replace PN := PN.kept1 ks8 BP (by decide) (by omega)
    replace RD := RD.kept1 ks8 (by omega) (by omega) BP (by decide)
    replace BP := NB8
    simp only [Value.cells, z1, z2, z3, Nat.reduceAdd, Nat.zero_add] at BP
    clear f40 a40 f41 a41 ks8 f42 a42
    refine R.done (by kernel_rfl) (hKL5 _ _ (r5.l.length) ?_ ?_)
    ·omega
    exact ⟨{ pp with subs := pp.subs ++ [(v5, 0)] }, r5, { ss with ua := A7, uc := c7 }, m', rfl, by omega, by rw [← hlp, loop_10 hr0 (by omega)]; simp only [e5], hkp, by show (pp.subs ++ [(v5, 0)]).length + pp.codes.length + _ ≤ _; rw [List.length_append, List.length_singleton]; omega, HK, RD, by rw [Pk.cells, List.length_append]; exact BP, PN, f43.sub (sub_cons rfl (sub_cons rfl sn))⟩
   skip
   refine O.buildSlice f37 rfl wantedN (by decide) (parts1 f37 rfl) U25 wzi70_wg rfl rfl (wbs25_1_wg _ _) (fun _ _ => trivial) fun a38 w6 g5 N5 hSn f38 => ?_
   clear hSn
   have Bg5 := N5.blk
   have kg5 := N5.kept
   have log5 := N5.lo
   have ltg5 := Bg5.lt
   have szw6 := kg5.size
   have frg5 : w.heap.size ≤ g5 := Nat.le_trans HK.size log5
   have negp_g5 : gp ≠ g5 := by have := BP.lt; omega
   replace HK := HK.trans kg5 (by simp)
   replace BP := BP.kept kg5 (by simp)
   replace PN := PN.kept0 kg5
   replace RD := RD.kept0 kg5
   clear N5 kg5
   refine R.one 4 (by kernel_rfl) ?_
   refine O.val f38 rfl rfl (by decide) wantedN (by exact E.ld f38 U25 (BP)) trivial fun a39 f39 => ?_
   refine R.one 9 (by kernel_rfl) ?_
   refine O.append f39 rfl wantedN (by decide) U25 wzib70_wg rfl rfl rfl rfl PN.subs.own (Bg5.slN (size := 2) rfl) (by intro u hu; simp at hu; rcases hu with rfl | rfl <;> rfl) (by unfold maxLen; omega) (by omega) fun a40 w7 A7 c7 AP => ?_
   have szw7 := AP.kept.size
   have HKn := AP.grow PN.subs HK
   have RDn := RD.keptO AP.kept PN.subs.own (by decide) (by decide) (fun a ha => Nat.le_trans hBw (PN.subs.from a ha))
   have BPn := BP.kept AP.kept (own_ne PN.subs.own BP (by decide))
   have PNn := PN.push hBw HK.size AP
   refine ⟨trivial, fun f40 => ?_⟩
   clear f37 a37 f38 a38 f39 Bg5 HK RD BP PN
   have HK := HKn
   have RD := RDn
   have BP := BPn
   have PN := PNn
   clear HKn RDn BPn PNn AP
   refine R.u 10 f40 rfl ht trivial (fun W hW => (E.nilCheck f40 rfl)) fun a41 f41 => ?_
   refine R.u 11 f41 rfl ht trivial (fun W hW => (E.fa 22 f41 U28 rfl wsz25_wg)) fun a42 f42 => ?_
   refine R.one 12 (by kernel_rfl) ?_
   refine OT.store f42 rfl wantedN wsz25_wg rfl rfl rfl BP (by (simp [Value.cells]; done)) fun a43 w8 f43 NB8 ks8 => ?_
   have szw8 := ks8.size
   replace HK := HK.trans ks8 (ktr (by simp))
   replace PN := PN.kept1 ks8 BP (by decide) (by omega)
   replace RD := RD.kept1 ks8 (by omega) (by omega) BP (by decide)
   replace BP := NB8
   simp only [Value.cells, z1, z2, z3, Nat.reduceAdd, Nat.zero_add] at BP
   clear f40 a40 f41 a41 ks8 f42 a42
   refine R.done (by kernel_rfl) (hKL5 _ _ (r5.l.length) ?_ ?_)
   ·omega
   exact ⟨{ pp with subs := pp.subs ++ [(v5, 0)] }, r5, { ss with ua := A7, uc := c7 }, m', rfl, by omega, by rw [← hlp, loop_10 hr0 (by omega)]; simp only [e5], hkp, by show (pp.subs ++ [(v5, 0)]).length + pp.codes.length + _ ≤ _; rw [List.length_append, List.length_singleton]; omega, HK, RD, by rw [Pk.cells, List.length_append]; exact BP, PN, f43.sub (sub_cons rfl (sub_cons rfl sn))⟩
  refine C.condF f30 rfl ?_
  refine C.sk fun K12 hK12 => ?_
  refine L.va f30 (E.eq f30) fun a31 f31 => ?_
  refine L.ag f31 fun a32 f32 => ?_
  refine wpList_nil (hK12 _ _ ?_)
  have f33 := f32.sub (sc 0 (sc 1 (sc 101 sn)))
  clear f29 f30 a28 f31 a31 f32
  refine f33.splitD 101 rfl (fun h8 f34 => ?_) (fun h8 f34 => ?_)
  ·refine C.condT f34 rfl ?_
   have hd19 : Kept [] w3 (w3.drewN 1) := (Kept.refl _ _).drewN 1
   refine R.beginT (S := fun _ => True) (by kernel_rfl) (by kernel_rfl) trivial fun ht => ?_
   obtain ⟨w4, hww4⟩ : ∃ W, W = w3.drewN 1 := ⟨_, rfl⟩
   rw [← hww4] at hd19 ⊢
   clear f33 hww4
   have szw4 := hd19.size
   replace HK := HK.trans hd19 (by simp)
   replace RD := RD.kept0 hd19
   replace BP := BP.kept hd19 (by simp)
   replace PN := PN.kept0 hd19
   clear hd19
   refine R.u 0 f34 rfl ht trivial (fun W hW => (E.move f34 rfl)) fun a35 f35 => ?_
   refine R.u 1 f35 rfl ht trivial (fun W hW => (E.move f35 rfl)) fun a36 f36 => ?_
   refine R.u 2 f36 rfl ht trivial (fun W hW => (E.nilCheck f36 rfl)) fun a37 f37 => ?_
   refine R.u 3 f37 rfl ht trivial (fun W hW => (E.fa 23 f37 U28 rfl wsz26_wg)) fun a38 f38 => ?_
   refine R.u 5 f38 rfl ht trivial (fun W hW => (E.move f38 rfl)) fun a39 f39 => ?_
   clear f34 a32 f35 a35 f36 a36 f37 a37 f38 a38
   refine R.two 4 6 (by kernel_rfl) ?_ ?_
   ·skip
    refine O.val f39 rfl rfl (by decide) wantedN (by exact E.ld f39 U26 (BP)) trivial fun a40 f40 => ?_
    refine R.one 6 (by kernel_rfl) ?_
    obtain ⟨csg, BGO⟩ := RD.bk
    refine O.call f40 rfl rfl (by decide) wantedN (run_call Tryd.call80 (args1 f40 rfl)) (one_any B g _ _ RD) ?_
    clear f39 a39
    rintro e w5 ⟨v5, r5, e5, hv5, rfl, RDn, kc5⟩
    clear RD
    refine ⟨_, rfl, trivial, fun a41 f41 => ?_⟩
    have szw5 := kc5.size
    replace HK := HK.trans kc5 (ktr (by simp))
    replace BP := BP.kept kc5 (by simp; omega)
    replace PN := PN.kept1 kc5 BGO (by decide) (by omega)
    clear f40 a40 kc5
    have RD := RDn
    clear RDn BGO
    have hx : r5.l.length < rr.l.length := by have h := one_lt hr0; rw [e5] at h; exact h
    refine R.one 7 (by kernel_rfl) ?_
    refine O.buildSlice f41 rfl wantedN (by decide) (parts1 f41 rfl) U26 wzi3_wg rfl rfl (wbs26_1_wg _) (fun _ _ => trivial) fun a42 w6 g5 N5 hSn f42 => ?_
    clear hSn
    have Bg5 := N5.blk
    have kg5 := N5.kept
    have log5 := N5.lo
    have ltg5 := Bg5.lt
    have szw6 := kg5.size
    have frg5 : w.heap.size ≤ g5 := Nat.le_trans HK.size log5
    have negp_g5 : gp ≠ g5 := by have := BP.lt; omega
    replace HK := HK.trans kg5 (by simp)
    replace BP := BP.kept kg5 (by simp)
    replace PN := PN.kept0 kg5
    replace RD := RD.kept0 kg5
    clear N5 kg5
    refine R.one 8 (by kernel_rfl) ?_
    refine O.append f42 rfl wantedN (by decide) U26 wzib3_wg rfl rfl rfl rfl PN.codes.own (Bg5.slN (size := 1) rfl) (by intro u hu; simp at hu; subst hu; rfl) (by unfold maxLen; omega) (by omega) fun a43 w7 A7 c7 AP => ?_
    have szw7 := AP.kept.size
    have HKn := AP.grow PN.codes HK
    have RDn := RD.keptO AP.kept PN.codes.own (by decide) (by decide) (fun a ha => Nat.le_trans hBw (PN.codes.from a ha))
    have BPn := BP.kept AP.kept (own_ne PN.codes.own BP (by decide))
    have PNn := PN.pushc hBw HK.size AP
    refine ⟨trivial, fun f43 => ?_⟩
    clear f41 a41 f42 Bg5 HK RD BP PN
    have HK := HKn
    have RD := RDn
    have BP := BPn
    have PN := PNn
    clear HKn RDn BPn PNn AP
    refine R.u 9 f43 rfl ht trivial (fun W hW => (E.nilCheck f43 rfl)) fun a44 f44 => ?_
    refine R.u 10 f44 rfl ht trivial (fun W hW => (E.fa 23 f44 U28 rfl wsz26_wg)) fun a45 f45 => ?_
    refine R.one 11 (by kernel_rfl) ?_
    refine OT.store f45 rfl wantedN wsz26_wg rfl rfl rfl BP (by (simp [Value.cells]; done)) fun a46 w8 f46 NB8 ks8 => ?_
    have szw8 := ks8.size
    replace HK := HK.trans ks8 (ktr (by simp))
    replace PN := PN.kept1 ks8 BP (by decide) (by omega)
    replace RD := RD.kept1 ks8 (by omega) (by omega) BP (by decide)
    replace BP := NB8
    simp only [Value.cells, z1, z2, z3, Nat.reduceAdd, Nat.zero_add] at BP
    clear f43 a43 f44 a44 ks8 f45 a45
    refine R.done (by kernel_rfl) (hKL5 _ _ (r5.l.length) ?_ ?_)
    ·omega
    exact ⟨{ pp with codes := pp.codes ++ [v5] }, r5, { ss with ca := A7, cc := c7 }, m', rfl, by omega, by rw [← hlp, loop_9 hr0 (by omega)]; simp only [e5], hkp, by show pp.subs.length + (pp.codes ++ [v5]).length + _ ≤ _; rw [List.length_append, List.length_singleton]; omega, HK, RD, by rw [Pk.cells, List.length_append]; exact BP, PN, f46.sub (sub_cons rfl (sub_cons rfl sn))⟩
   skip
   obtain ⟨csg, BGO⟩ := RD.bk
   refine O.call f39 rfl rfl (by decide) wantedN (run_call Tryd.call80 (args1 f39 rfl)) (one_any B g _ _ RD) ?_
   rintro e w5 ⟨v5, r5, e5, hv5, rfl, RDn, kc5⟩
   clear RD
   refine ⟨_, rfl, trivial, fun a40 f40 => ?_⟩
   have szw5 := kc5.size
   replace HK := HK.trans kc5 (ktr (by simp))
   replace BP := BP.kept kc5 (by simp; omega)
   replace PN := PN.kept1 kc5 BGO (by decide) (by omega)
   clear f39 a39 kc5
   have RD := RDn
   clear RDn BGO
   have hx : r5.l.length < rr.l.length := by have h := one_lt hr0; rw [e5] at h; exact h
   refine R.two 4 7 (by kernel_rfl) ?_ ?_
   ·skip
    refine O.val f40 rfl rfl (by decide) wantedN (by exact E.ld f40 U26 (BP)) trivial fun a41 f41 => ?_
    refine R.one 7 (by kernel_rfl) ?_
    refine O.buildSlice f41 rfl wantedN (by decide) (parts1 f41 rfl) U26 wzi3_wg rfl rfl (wbs26_1_wg _) (fun _ _ => trivial) fun a42 w6 g5 N5 hSn f42 => ?_
    clear f40 a40 hSn
    have Bg5 := N5.blk
    have kg5 := N5.kept
    have log5 := N5.lo
    have ltg5 := Bg5.lt
    have szw6 := kg5.size
    have frg5 : w.heap.size ≤ g5 := Nat.le_trans HK.size log5
    have negp_g5 : gp ≠ g5 := by have := BP.lt; omega
    replace HK := HK.trans kg5 (by simp)
    replace BP := BP.kept kg5 (by simp)
    replace PN := PN.kept0 kg5
    replace RD := RD.kept0 kg5
    clear N5 kg5
    refine R.one 8 (by kernel_rfl) ?_
    refine O.append f42 rfl wantedN (by decide) U26 wzib3_wg rfl rfl rfl rfl PN.codes.own (Bg5.slN (size := 1) rfl) (by intro u hu; simp at hu; subst hu; rfl) (by unfold maxLen; omega) (by omega) fun a43 w7 A7 c7 AP => ?_
    have szw7 := AP.kept.size
    have HKn := AP.grow PN.codes HK
    have RDn := RD.keptO AP.kept PN.codes.own (by decide) (by decide) (fun a ha => Nat.le_trans hBw (PN.codes.from a ha))
    have BPn := BP.kept AP.kept (own_ne PN.codes.own BP (by decide))
    have PNn := PN.pushc hBw HK.size AP
    refine ⟨trivial, fun f43 => ?_⟩
    clear f41 a41 f42 Bg5 HK RD BP PN
    have HK := HKn
    have RD := RDn
    have BP := BPn
    have PN := PNn
    clear HKn RDn BPn PNn AP
    refine R.u 9 f43 rfl ht trivial (fun W hW => (E.nilCheck f43 rfl)) fun a44 f44 => ?_
    refine R.u 10 f44 rfl ht trivial (fun W hW => (E.fa 23 f44 U28 rfl wsz26_wg)) fun a45 f45 => ?_
    refine R.one 11 (by kernel_rfl) ?_
    refine OT.store f45 rfl wantedN wsz26_wg rfl rfl rfl BP (by (simp [Value.cells]; done)) fun a46 w8 f46 NB8 ks8 => ?_
    have szw8 := ks8.size
    replace HK := HK.trans ks8 (ktr (by simp))
    replace PN := PN.kept1 ks8 BP (by decide) (by omega)
    replace RD := RD.kept1 ks8 (by omega) (by omega) BP (by decide)
    replace BP := NB8
    simp only [Value.cells, z1, z2, z3, Nat.reduceAdd, Nat.zero_add] at BP
    clear f43 a43 f44 a44 ks8 f45 a45
    refine R.done (by kernel_rfl) (hKL5 _ _ (r5.l.length) ?_ ?_)
    ·omega
    exact ⟨{ pp with codes := pp.codes ++ [v5] }, r5, { ss with ca := A7, cc := c7 }, m', rfl, by omega, by rw [← hlp, loop_9 hr0 (by omega)]; simp only [e5], hkp, by show pp.subs.length + (pp.codes ++ [v5]).length + _ ≤ _; rw [List.length_append, List.length_singleton]; omega, HK, RD, by rw [Pk.cells, List.length_append]; exact BP, PN, f46.sub (sub_cons rfl (sub_cons rfl sn))⟩
   skip
   refine O.buildSlice f40 rfl wantedN (by decide) (parts1 f40 rfl) U26 wzi3_wg rfl rfl (wbs26_1_wg _) (fun _ _ => trivial) fun a41 w6 g5 N5 hSn f41 => ?_
   clear hSn
   have Bg5 := N5.blk
   have kg5 := N5.kept
   have log5 := N5.lo
   have ltg5 := Bg5.lt
   have szw6 := kg5.size
   have frg5 : w.heap.size ≤ g5 := Nat.le_trans HK.size log5
   have negp_g5 : gp ≠ g5 := by have := BP.lt; omega
   replace HK := HK.trans kg5 (by simp)
   replace BP := BP.kept kg5 (by simp)
   replace PN := PN.kept0 kg5
   replace RD := RD.kept0 kg5
   clear N5 kg5
   refine R.one 4 (by kernel_rfl) ?_
   refine O.val f41 rfl rfl (by decide) wantedN (by exact E.ld f41 U26 (BP)) trivial fun a42 f42 => ?_
   refine R.one 8 (by kernel_rfl) ?_
   refine O.append f42 rfl wantedN (by decide) U26 wzib3_wg rfl rfl rfl rfl PN.codes.own (Bg5.slN (size := 1) rfl) (by intro u hu; simp at hu; subst hu; rfl) (by unfold maxLen; omega) (by omega) fun a43 w7 A7 c7 AP => ?_
   have szw7 := AP.kept.size
   have HKn := AP.grow PN.codes HK
   have RDn := RD.keptO AP.kept PN.codes.own (by decide) (by decide) (fun a ha => Nat.le_trans hBw (PN.codes.from a ha))
   have BPn := BP.kept AP.kept (own_ne PN.codes.own BP (by decide))
   have PNn := PN.pushc hBw HK.size AP
   refine ⟨trivial, fun f43 => ?_⟩
   clear f40 a40 f41 a41 f42 Bg5 HK RD BP PN
   have HK := HKn
   have RD := RDn
   have BP := BPn
   have PN := PNn
   clear HKn RDn BPn PNn AP
   refine R.u 9 f43 rfl ht trivial (fun W hW => (E.nilCheck f43 rfl)) fun a44 f44 => ?_
   refine R.u 10 f44 rfl ht trivial (fun W hW => (E.fa 23 f44 U28 rfl wsz26_wg)) fun a45 f45 => ?_
   refine R.one 11 (by kernel_rfl) ?_
   refine OT.store f45 rfl wantedN wsz26_wg rfl rfl rfl BP (by (simp [Value.cells]; done)) fun a46 w8 f46 NB8 ks8 => ?_
   have szw8 := ks8.size
   replace HK := HK.trans ks8 (ktr (by simp))
   replace PN := PN.kept1 ks8 BP (by decide) (by omega)
   replace RD := RD.kept1 ks8 (by omega) (by omega) BP (by decide)
   replace BP := NB8
   simp only [Value.cells, z1, z2, z3, Nat.reduceAdd, Nat.zero_add] at BP
   clear f43 a43 f44 a44 ks8 f45 a45
   refine R.done (by kernel_rfl) (hKL5 _ _ (r5.l.length) ?_ ?_)
   ·omega
   exact ⟨{ pp with codes := pp.codes ++ [v5] }, r5, { ss with ca := A7, cc := c7 }, m', rfl, by omega, by rw [← hlp, loop_9 hr0 (by omega)]; simp only [e5], hkp, by show pp.subs.length + (pp.codes ++ [v5]).length + _ ≤ _; rw [List.length_append, List.length_singleton]; omega, HK, RD, by rw [Pk.cells, List.length_append]; exact BP, PN, f46.sub (sub_cons rfl (sub_cons rfl sn))⟩
  refine C.condF f34 rfl ?_
  refine C.region ?_
  refine L.mv f34 fun a35 f35 => ?_
  refine L.mv f35 fun a36 f36 => ?_
  refine L.va f36 (E.nilCheck f36 rfl) fun a37 f37 => ?_
  refine L.fa 1 f37 U91 rfl wsz4_wg fun a38 f38 => ?_
  refine L.store f38 wantedN wsz4_wg rfl rfl rfl BG (by (simp [Value.cells]; done)) fun a39 w4 f39 NB4 ks4 => ?_
  have szw4 := ks4.size
  replace HK := HK.trans ks4 (ktr (by simp))
  replace BP := BP.kept ks4 (by simp; omega)
  replace PN := PN.kept1 ks4 BG (by decide) (by omega)
  replace BG := NB4
  simp only [Value.cells, z1, z2, z3, Nat.reduceAdd, Nat.zero_add] at BG
  clear f33 f34 a32 f35 a35 f36 a36 f37 a37 ks4 f38 a38
  refine L.va f39 (E.nilCheck f39 rfl) fun a40 f40 => ?_
  refine L.fa 0 f40 U91 rfl wsz22_wg fun a41 f41 => ?_
  refine L.store f41 wantedN wsz22_wg rfl rfl rfl BG (by (simp [Value.cells]; done)) fun a42 w5 f42 NB5 ks5 => ?_
  have szw5 := ks5.size
  replace HK := HK.trans ks5 (ktr (by simp))
  replace BP := BP.kept ks5 (by simp; omega)
  replace PN := PN.kept1 ks5 BG (by decide) (by omega)
  replace BG := NB5
  simp only [Value.cells, z1, z2, z3, Nat.reduceAdd, Nat.zero_add] at BG
  clear f39 a39 f40 a40 ks5 f41 a41
  refine wpList_nil (hKL5 _ _ (([] : List UInt8).length) ?_ ?_)
  ·(simp; omega)
  exact ⟨pp, ⟨[], true⟩, ss, m', rfl, by simp, by rw [← hlp]; exact (loop_x hr0 (by omega) (by omega) (by omega) (by omega)).symm, hkp, by simp; omega, HK, ⟨hBg_, none, 0, BG, Bs.nil _ _ _ _, by simp, by simp⟩, BP, PN, f42.sub (sub_cons rfl (sub_cons rfl sn))⟩
 have hr0 : rr.l = [] := List.eq_nil_of_length_eq_zero (by omega)
 refine C.condF f12 rfl ?_
 refine wp_exit (C.end0 (P := Tryd.prog) (fn := Tryd.f59) f12 rfl ?_)
 exact ⟨pp, rr, ss, by rw [restP_eq]; simp only [hH, hI]; rw [← hlp]; exact loop_end m pp rr hr0, rfl, HK, RD, BP, PN⟩
end Go.Proofs.YtigjafbbnocihaaDoor
namespace Go.Proofs.YtigjafbbnocihaaDoor
open Go.RowKit Go.Hub Go.Lib Go.Vl
section
variable {P : Program} {ops : Array Oper} {rest : List Oper} {a : Act} {w : World} {Q : Exit → Act → World → Prop} {n d : Nat} {l : FL} {ty : TypeId} {ps : String} {af : Array Edge} {gd : Option (Nat × Bool)} {x : Operand} {src dst u8t : TypeId}
theorem L.convSB2 (B : Nat) (f : Fr n a l) (hw : Region.wanted ⟨some d, .convert src dst x, ty, ps, af, gd⟩ (yielded ops a.tmps) = true) (hn : d < n) (hs : P.underlying src = some .string) (hd : P.underlying dst = some (.slice 5)) (he : P.underlying 5 = some (.int .u8)) {s : ByteArray} (hx : evl l x = some (.string s))
    (hm : s.size ≤ 1000000) (hK : ∀ a' w' c A, Fr n a' ((d, .slice A s.toList.length c) :: l) → (s.toList.length ≤ c ∧ c ≤ maxLen) → Bs [5] B w' A s.toList.length s.toList → Kept [] w w' → wpList P ops Q rest a' w') : wpList P ops Q (⟨some d, .convert src dst x, ty, ps, af, gd⟩ :: rest) a w := by
  have h := run_bytes_of_string (P := P) w src dst 5 s hs hd he
  refine L.val (v := .slice (some ⟨w.heap.size, 0, none⟩) s.size (grownCap w s.size 0 5)) (w' := w.drew.alloc (.cells (bytesRow s (grownCap w s.size 0 5)) 5 ((bytesRow s (grownCap w s.size 0 5)).size, (bytesRow s (grownCap w s.size 0 5)).size + 1))) f hw rfl hn (by simp only [execOp, f.ev hx, Sem.run_bind, h, Result.andThen, Sem.run_pure]) fun a' f' => hK a' _ (grownCap w s.size 0 5) _ (by rw [toList_len]; exact f') ?_ ?_ ?_
  · rw [toList_len]
    exact ⟨grownCap_ge _ _ _ _, grownCap_le_maxLen _ _ _ _ (by unfold maxLen; omega)⟩
  · rw [ByteArray.toList_eq]
    exact bs_conv [5] _ w s 5 (by simp) _ _
  exact ((Kept.refl [] w).drewN 1).alloc _
end
end Go.Proofs.YtigjafbbnocihaaDoor
namespace Go.Proofs.YtigjafbbnocihaaDoor
open Go.RowKit Go.Hub Go.Lib Go.Vl
theorem wzi5_wk : (Tryd.prog.info? 5).map (fun i => (i.zero, i.size)) = some (some (.int .u8 0), 1) := by kernel_rfl
theorem wzi22_wk : (Tryd.prog.info? 22).map (fun i => (i.zero, i.size)) = some (some (.slice none 0 0), 1) := by kernel_rfl
theorem wbs22_1_wk (x0 : Int) : Instr.fill (fun i => some (i * 1, 1)) ((Array.range (1 * 1)).map fun j => (Value.cells (.int .u8 0))[j % (Value.cells (.int .u8 0)).size]!) [(0, .int .u8 x0)] = some #[.int .u8 x0] := by kernel_rfl
theorem wbs45_3_wk (x0 : Option Addr) (y0 z0 : Nat) (x1 : Option Addr) (y1 z1 : Nat) (x2 : Option Addr) (y2 z2 : Nat) : Instr.fill (fun i => some (i * 1, 1)) ((Array.range (3 * 1)).map fun j => (Value.cells (.slice none 0 0))[j % (Value.cells (.slice none 0 0)).size]!) [(0, .slice x0 y0 z0), (1, .slice x1 y1 z1), (2, .slice x2 y2 z2)] = some #[.slice x0 y0 z0, .slice x1 y1 z1, .slice x2 y2 z2] := by kernel_rfl
theorem wsz28_wk : (Tryd.prog.info? 28).map (·.size) = some 24 := by kernel_rfl
theorem wzib5_wk : (Tryd.prog.info? 5).map (fun i => (i.zero, i.size, i.bytes)) = some (some (.int .u8 0), 1, 1) := by kernel_rfl
theorem wsz3_wk : (Tryd.prog.info? 3).map (·.size) = some 1 := by kernel_rfl
theorem wsz4_wk : (Tryd.prog.info? 4).map (·.size) = some 1 := by kernel_rfl
def putB (p : Pk) : List UInt8 × Int := if rightB p = true then (encL p, 0) else ([], 26)
theorem putB_t {p : Pk} (h : rightB p = true) : putB p = (encL p, 0) := if_pos h
theorem putB_f {p : Pk} (h : rightB p = false) : putB p = ([], 26) := if_neg (by rw [h]; decide)
def PutW (p : Pk) (w : World) (e : Ending) (w' : World) : Prop := Kept [] w w' ∧ ∃ A c, e = .returned (.tuple #[.slice A (putB p).1.length c, .int .i64 (putB p).2]) ∧ FB w w' A c (putB p).1
theorem own_slice {w : World} {v : Value} {n : Nat} {l : List UInt8} (h : Own w 5 1 v n (l.map u8)) : ∃ A c, v = .slice A n c := by
  obtain ⟨A, c, e, _⟩ := h.form
  exact ⟨A, c, e⟩
theorem vpost {n : Int} {w w' : World} {e : Ending} (hn : 0 ≤ n ∧ n ≤ 268435455) (h : PutPost n w e w') : Kept [] w w' ∧ ∃ A c, e = .returned (.tuple #[.slice A (putL n).length c, .int .i64 0]) ∧ FB w w' A c (putL n) := by
  obtain ⟨hb, h⟩ := h
  refine ⟨Kept.of_below hb [], ?_⟩
  rcases h with ⟨h0, _⟩ | ⟨_, v, he, ho, hlo⟩
  · have := szN_pos n hn
    omega
  obtain ⟨A, c, rfl⟩ := own_slice ho
  rw [← putL_len] at ho he
  exact ⟨A, c, he, ho, fun b hb => hlo b ((own_block A _ c b).2 hb)⟩
theorem vput_any (n : Int) (w : World) (hn : 0 ≤ n ∧ n ≤ 268435455) : Calls Tryd.prog 38 #[.int .i64 n] w fun e w' => Kept [] w w' ∧ ∃ A c, e = .returned (.tuple #[.slice A (putL n).length c, .int .i64 0]) ∧ FB w w' A c (putL n) := (put_any n w).mono fun _ _ h => vpost hn h
theorem vputR_any (n : Int) (w : World) (hn : 0 ≤ n ∧ n ≤ 268435455) : Calls Tryd.prog 43 #[.int .i64 n] w fun e w' => Kept [] w w' ∧ ∃ A c, e = .returned (.tuple #[.slice A (putL n).length c, .int .i64 0]) ∧ FB w w' A c (putL n) := (putR_any n w).mono fun _ _ h => vpost hn h
theorem cat_each {w : World} {A1 A2 A3 : Option Addr} {c1 c2 c3 : Nat} {l1 l2 l3 : List UInt8} (h1 : Sl w A1 l1.length 1 (l1.map u8)) (h2 : Sl w A2 l2.length 1 (l2.map u8)) (h3 : Sl w A3 l3.length 1 (l3.map u8)) : ∀ r ∈ [(A1, c1, l1), (A2, c2, l2), (A3, c3, l3)], Sl w r.1 r.2.2.length 1 (r.2.2.map u8) := fun r hr => by
  simp only [List.mem_cons, List.not_mem_nil, or_false] at hr
  rcases hr with rfl | rfl | rfl
  · exact h1
  · exact h2
  exact h3
theorem FB.one {w0 w w' : World} {g : Nat} {b : UInt8} {cs : Array Value} (h : Newb w w' g 5 cs) (hs : w0.heap.size ≤ w.heap.size) (hc : cs.toList = [b].map u8) : FB w0 w' (some ⟨g, 0, none⟩) 1 [b] := by
  have hz : cs.size = 1 * 1 := by
    have := congrArg List.length hc
    simpa using this
  have ho := h.own (k := 1) (size := 1) hz (by decide)
  rw [hc] at ho
  exact ⟨ho, fun x hx => by simp at hx; subst hx; exact Nat.le_trans hs h.lo⟩
set_option maxHeartbeats 1000000 in
theorem wput_any (p : Pk) (s : Ad) (w : World) (IP : p.In w s) (hL : p.Len) (hT : Tabs w) : Calls Tryd.prog 17 #[.agg (p.cells s)] w (PutW p w) := by
 have HK : Kept [] w w := Kept.refl [] w
 refine C.enter Tryd.func17 rfl Tryd.ntmps17 rfl ?_
 intro a0 f0
 have f1 : Fr 25 a0 [(0, .agg (p.cells s))] := f0
 refine C.sk fun K0 hK0 => ?_
 refine L.box f1 wantedN (by decide) rfl rfl fun a2 w1 g0 N0 f2 => ?_
 have Bg0 := N0.blk
 have kg0 := N0.kept
 have log0 := N0.lo
 have ltg0 := Bg0.lt
 have szw1 := kg0.size
 have frg0 : w.heap.size ≤ g0 := Nat.le_trans HK.size log0
 replace HK := HK.trans kg0 (by simp)
 clear f0 N0 kg0
 refine L.ag f2 fun a3 f3 => ?_
 refine L.ag f3 fun a4 f4 => ?_
 refine wpList_nil (hK0 _ _ ?_)
 have f5 := f4.sub (sc 1 sn)
 refine wp_seq_k fun K1 hK1 => ?_
 refine C.sk fun K2 hK2 => ?_
 refine L.va f5 (by exact E.loadB f5 U28 rfl wsz28_wk rfl (Bg0) rfl) fun a6 f6 => ?_
 refine L.cl f6 (run_call Tryd.call19 (args1 f6 rfl)) (right_any p s _ (IP.kept HK) hL (hT.old (HK.below (by simp) (Nat.le_refl _)))) ?_
 clear f1 a0 f2 a2 f3 a3 f4 f5 a4
 rintro e w2 ⟨kc2, rfl⟩
 refine ⟨_, rfl, fun a7 f7 => ?_⟩
 have szw2 := kc2.size
 replace HK := HK.trans kc2 (by simp)
 replace Bg0 := Bg0.kept kc2 (by simp)
 clear f6 a6 kc2
 refine L.va f7 (E.not f7 rfl) fun a8 f8 => ?_
 refine wpList_nil (hK2 _ _ ?_)
 have f9 := f8.sub (sc 1 (sc 9 sn))
 clear f7 a7 f8
 refine f9.splitNB 9 rfl (fun h0 f10 => ?_) (fun h0 f10 => ?_)
 ·have hr : rightB p = false := h0
  refine C.condT f10 rfl ?_
  refine C.sk fun K3 hK3 => ?_
  refine L.ag f10 fun a11 f11 => ?_
  refine L.ag f11 fun a12 f12 => ?_
  refine wpList_nil (hK3 _ _ ?_)
  have f13 := f12.sub (sc 2 (sc 3 sn))
  refine wp_ret ?_
  try simp only [Exit.inBlock, Exit.then]
  refine C.ret2 (P := Tryd.prog) (fn := Tryd.f17) f13 rfl rfl rfl ?_
  refine ⟨HK, none, 0, ?_, by rw [putB_f hr]; exact FB.nil _ _⟩
  rw [putB_f hr]
  rfl
 have hr : rightB p = true := h0
 have hRt := rightB_iff.1 hr
 have hkd := inB_iff.1 hRt.kd
 have hlen := hRt.len
 refine C.condF f10 rfl ?_
 refine wp_skip (hK1 _ _ ?_)
 have f11 := f10.sub (sc 1 sn)
 refine C.sk fun K4 hK4 => ?_
 refine L.va f11 (by exact E.loadB f11 U28 rfl wsz28_wk rfl (Bg0) rfl) fun a12 f12 => ?_
 refine L.cl f12 (run_call Tryd.call37 (args1 f12 rfl)) (behind_any p s _ (IP.kept HK) hL (fun hk => val_wq hRt.val hk)) ?_
 clear f9 f10 f11 a8
 rintro e w3 ⟨kc3, A3, c3, rfl, Q3⟩
 have szk := HK.size
 have F3 := FB.lower Q3 szk
 clear Q3
 refine ⟨_, rfl, fun a13 f13 => ?_⟩
 have szw3 := kc3.size
 replace HK := HK.trans kc3 (by simp)
 replace Bg0 := Bg0.kept kc3 (by simp)
 clear f12 a12 kc3
 refine L.ag f13 fun a14 f14 => ?_
 refine wpList_nil (hK4 _ _ ?_)
 have f15 := f14.sub (sc 1 (sc 4 sn))
 refine C.sk fun K5 hK5 => ?_
 refine L.mv f15 fun a16 f16 => ?_
 refine L.va f16 (E.lenL f16 U22 rfl) fun a17 f17 => ?_
 refine L.cl f17 (run_call Tryd.call38 (args1 f17 rfl)) (vput_any _ _ (by omega)) ?_
 clear f13 a13 f14 f15 a14 f16 a16
 rintro e w4 ⟨kc4, A4, c4, rfl, Q4⟩
 have szk := HK.size
 have F4 := FB.lower Q4 szk
 clear Q4
 refine ⟨_, rfl, fun a18 f18 => ?_⟩
 have szw4 := kc4.size
 replace HK := HK.trans kc4 (by simp)
 replace Bg0 := Bg0.kept kc4 (by simp)
 replace F3 := F3.kept0 kc4
 clear f17 a17 kc4
 refine L.mv f18 fun a19 f19 => ?_
 refine L.va f19 (E.extract f19 rfl rfl) fun a20 f20 => ?_
 refine L.va f20 (E.extract f20 rfl rfl) fun a21 f21 => ?_
 refine L.ag f21 fun a22 f22 => ?_
 refine L.ag f22 fun a23 f23 => ?_
 refine wpList_nil (hK5 _ _ ?_)
 have f24 := f23.sub (sc 1 (sc 4 (sc 5 sn)))
 refine C.sk fun K6 hK6 => ?_
 refine L.va f24 (by exact E.loadB f24 U28 rfl wsz28_wk rfl (Bg0) rfl) fun a25 f25 => ?_
 refine L.cl f25 (run_call Tryd.call40 (args1 f25 rfl)) (first_any p s _ (by omega) (fun hk => by have := (pub_facts hRt hk).1; omega)) ?_
 clear f18 a18 f19 a19 f20 a20 f21 a21 f22 a22 f23 f24 a23
 rintro e w5 ⟨kc5, rfl⟩
 refine ⟨_, rfl, fun a26 f26 => ?_⟩
 have szw5 := kc5.size
 replace HK := HK.trans kc5 (by simp)
 replace Bg0 := Bg0.kept kc5 (by simp)
 replace F3 := F3.kept0 kc5
 replace F4 := F4.kept0 kc5
 clear f25 a25 kc5
 refine L.buildSlice f26 wantedN (by decide) (parts1 f26 rfl) U22 wzi5_wk rfl rfl (wbs22_1_wk _) fun a27 w6 g5 N5 f27 => ?_
 have Bg5 := N5.blk
 have kg5 := N5.kept
 have log5 := N5.lo
 have ltg5 := Bg5.lt
 have szw6 := kg5.size
 have frg5 : w.heap.size ≤ g5 := Nat.le_trans HK.size log5
 have neg0_g5 : g0 ≠ g5 := by have := Bg0.lt; omega
 replace HK := HK.trans kg5 (by simp)
 replace Bg0 := Bg0.kept kg5 (by simp)
 replace F3 := F3.kept0 kg5
 replace F4 := F4.kept0 kg5
 clear N5 kg5
 refine L.mv f27 fun a28 f28 => ?_
 refine L.mv f28 fun a29 f29 => ?_
 refine L.buildSlice f29 wantedN (by decide) (parts3 f29 rfl rfl rfl) U45 wzi22_wk rfl rfl (wbs45_3_wk _ _ _ _ _ _ _ _ _) fun a30 w7 g6 N6 f30 => ?_
 have Bg6 := N6.blk
 have kg6 := N6.kept
 have log6 := N6.lo
 have ltg6 := Bg6.lt
 have szw7 := kg6.size
 have frg6 : w.heap.size ≤ g6 := Nat.le_trans HK.size log6
 have neg0_g6 : g0 ≠ g6 := by have := Bg0.lt; omega
 have neg5_g6 : g5 ≠ g6 := by have := Bg5.lt; omega
 replace HK := HK.trans kg6 (by simp)
 replace Bg0 := Bg0.kept kg6 (by simp)
 replace F3 := F3.kept0 kg6
 replace F4 := F4.kept0 kg6
 replace Bg5 := Bg5.kept kg6 (by simp)
 clear f26 a26 f27 a27 f28 a28 N6 kg6
 refine L.cl f30 (run_call Tryd.call39 (args1 f30 rfl)) (cat_any [(some ⟨g5, 0, none⟩, 1, [b8 (firstI p)]), (A4, c4, putL ((behindL p).length : Int)), (A3, c3, behindL p)] _ _ _ (Bg6.slN (size := 1) rfl) (cat_each ((Bg5.slN (size := 1) rfl)) F4.sl F3.sl) (by simp [putL_len]; have := szN_le ((behindL p).length : Int); omega) (by simp)) ?_
 clear f29 a29
 rintro e w8 ⟨kc8, A8, c8, rfl, Q8⟩
 have szk := HK.size
 have F8 := FB.lower Q8 szk
 clear Q8
 refine ⟨_, rfl, fun a31 f31 => ?_⟩
 have szw8 := kc8.size
 replace HK := HK.trans kc8 (by simp)
 replace Bg0 := Bg0.kept kc8 (by simp)
 replace F3 := F3.kept0 kc8
 replace F4 := F4.kept0 kc8
 replace Bg5 := Bg5.kept kc8 (by simp)
 replace Bg6 := Bg6.kept kc8 (by simp)
 clear f30 a30 kc8
 refine L.ag f31 fun a32 f32 => ?_
 refine L.ag f32 fun a33 f33 => ?_
 refine wpList_nil (hK6 _ _ ?_)
 have f34 := f33.sub (sc 2 (sc 3 sn))
 refine wp_ret ?_
 try simp only [Exit.inBlock, Exit.then]
 refine C.ret2 (P := Tryd.prog) (fn := Tryd.f17) f34 rfl rfl rfl ?_
 clear f31 a31 f32 a32 f33
 refine ⟨HK, A8, c8, ?_, ?_⟩
 ·rw [putB_t hr]
  simp [encL]
 rw [putB_t hr]
 simpa [encL] using F8
set_option maxHeartbeats 1000000 in
theorem wputR_any (p : Pk) (s : Ad) (w : World) (IP : p.In w s) (hL : p.Len) (hT : Tabs w) : Calls Tryd.prog 18 #[.agg (p.cells s)] w (PutW p w) := by
 have HK : Kept [] w w := Kept.refl [] w
 refine C.enter Tryd.func18 rfl Tryd.ntmps18 rfl ?_
 intro a0 f0
 have f1 : Fr 49 a0 [(0, .agg (p.cells s))] := f0
 refine C.sk fun K0 hK0 => ?_
 refine L.box f1 wantedN (by decide) rfl rfl fun a2 w1 g0 N0 f2 => ?_
 have Bg0 := N0.blk
 have kg0 := N0.kept
 have log0 := N0.lo
 have ltg0 := Bg0.lt
 have szw1 := kg0.size
 have frg0 : w.heap.size ≤ g0 := Nat.le_trans HK.size log0
 replace HK := HK.trans kg0 (by simp)
 clear f0 N0 kg0
 refine L.ag f2 fun a3 f3 => ?_
 refine L.ag f3 fun a4 f4 => ?_
 refine wpList_nil (hK0 _ _ ?_)
 have f5 := f4.sub (sc 1 sn)
 refine wp_seq_k fun K1 hK1 => ?_
 refine C.sk fun K2 hK2 => ?_
 refine L.va f5 (by exact E.loadB f5 U28 rfl wsz28_wk rfl (Bg0) rfl) fun a6 f6 => ?_
 refine L.cl f6 (run_call Tryd.call20 (args1 f6 rfl)) (rightR_any p s _ (IP.kept HK) hL (hT.old (HK.below (by simp) (Nat.le_refl _)))) ?_
 clear f1 a0 f2 a2 f3 a3 f4 f5 a4
 rintro e w2 ⟨kc2, rfl⟩
 refine ⟨_, rfl, fun a7 f7 => ?_⟩
 have szw2 := kc2.size
 replace HK := HK.trans kc2 (by simp)
 replace Bg0 := Bg0.kept kc2 (by simp)
 clear f6 a6 kc2
 refine L.va f7 (E.not f7 rfl) fun a8 f8 => ?_
 refine wpList_nil (hK2 _ _ ?_)
 have f9 := f8.sub (sc 1 (sc 10 sn))
 clear f7 a7 f8
 refine f9.splitNB 10 rfl (fun h0 f10 => ?_) (fun h0 f10 => ?_)
 ·have hr : rightB p = false := by rw [← rightR_is]; exact h0
  refine C.condT f10 rfl ?_
  refine C.sk fun K3 hK3 => ?_
  refine L.ag f10 fun a11 f11 => ?_
  refine L.ag f11 fun a12 f12 => ?_
  refine wpList_nil (hK3 _ _ ?_)
  have f13 := f12.sub (sc 2 (sc 3 sn))
  refine wp_ret ?_
  try simp only [Exit.inBlock, Exit.then]
  refine C.ret2 (P := Tryd.prog) (fn := Tryd.f18) f13 rfl rfl rfl ?_
  refine ⟨HK, none, 0, ?_, by rw [putB_f hr]; exact FB.nil _ _⟩
  rw [putB_f hr]
  rfl
 have hr : rightB p = true := by rw [← rightR_is]; exact h0
 have hRt := rightB_iff.1 hr
 have hkd := inB_iff.1 hRt.kd
 have hlen := hRt.len
 refine C.condF f10 rfl ?_
 refine wp_skip (hK1 _ _ ?_)
 have f11 := f10.sub (sc 1 sn)
 refine C.sk fun K4 hK4 => ?_
 refine L.ag f11 fun a12 f12 => ?_
 refine wpList_nil (hK4 _ _ ?_)
 have f13 := f12.sub (sc 1 (sc 4 sn))
 obtain ⟨J11, hJ11⟩ : ∃ J : Act → World → Prop, J = fun a W => ∃ fl : Int, p.kind * 16 + fl = firstI p ∧ (0 ≤ fl ∧ fl ≤ 15) ∧ Kept [] w W ∧ Blk W g0 28 (p.cells s) ∧ Fr 49 a [(1, .pointer (some ⟨g0, 0, none⟩)), (4, .int .i64 fl)] := ⟨_, rfl⟩
 clear f9 f10 f11 a8 f12
 refine C.cut J11 ?_ ?_
 ·skip
  refine C.sk fun K5 hK5 => ?_
  refine L.fa 0 f13 U28 rfl wsz3_wk fun a14 f14 => ?_
  refine L.ld f14 U3 Bg0 fun a15 f15 => ?_
  refine wpList_nil (hK5 _ _ ?_)
  have f16 := f15.sub (sc 1 (sc 4 (sc 12 sn)))
  refine wp_block ?_
  refine wp_seq_k fun K6 hK6 => ?_
  refine C.sk fun K7 hK7 => ?_
  refine L.va f16 (E.eq f16) fun a17 f17 => ?_
  refine L.ag f17 fun a18 f18 => ?_
  refine wpList_nil (hK7 _ _ ?_)
  have f19 := f18.sub (sc 1 (sc 4 (sc 12 (sc 13 sn))))
  clear f13 a12 f14 a14 f15 f16 a15 f17 a17 f18
  refine f19.splitD 13 rfl (fun h1 f20 => ?_) (fun h1 f20 => ?_)
  ·refine C.condT f20 rfl ?_
   refine wp_skip (hK6 _ _ ?_)
   have f21 := f20.sub (sc 1 (sc 4 (sc 12 (sc 13 sn))))
   refine C.condT f21 rfl ?_
   refine C.region ?_
   refine L.ag f21 fun a22 f22 => ?_
   exact wpList_nil (then_of (J := J11) (Q := fun _ _ _ => True) (by rw [hJ11]; exact ⟨2, by unfold firstI; rw [if_pos (by omega)], by omega, HK, Bg0, f22.sub (sub_cons rfl (sub_cons rfl sn))⟩))
  refine C.condF f20 rfl ?_
  refine C.sk fun K8 hK8 => ?_
  refine L.va f20 (E.eq f20) fun a21 f21 => ?_
  refine L.ag f21 fun a22 f22 => ?_
  refine wpList_nil (hK8 _ _ ?_)
  have f23 := f22.sub (sc 1 (sc 4 (sc 12 (sc 13 sn))))
  clear f19 f20 a18 f21 a21 f22
  refine f23.splitD 13 rfl (fun h2 f24 => ?_) (fun h2 f24 => ?_)
  ·refine C.condT f24 rfl ?_
   refine wp_skip (hK6 _ _ ?_)
   have f25 := f24.sub (sc 1 (sc 4 (sc 12 (sc 13 sn))))
   refine C.condT f25 rfl ?_
   refine C.region ?_
   refine L.ag f25 fun a26 f26 => ?_
   exact wpList_nil (then_of (J := J11) (Q := fun _ _ _ => True) (by rw [hJ11]; exact ⟨2, by unfold firstI; rw [if_pos (by omega)], by omega, HK, Bg0, f26.sub (sub_cons rfl (sub_cons rfl sn))⟩))
  refine C.condF f24 rfl ?_
  refine C.region ?_
  refine L.va f24 (E.eq f24) fun a25 f25 => ?_
  refine L.ag f25 fun a26 f26 => ?_
  refine wpList_nil (hK6 _ _ ?_)
  have f27 := f26.sub (sc 1 (sc 4 (sc 12 (sc 13 sn))))
  clear f23 f24 a22 f25 a25 f26
  refine f27.splitD 13 rfl (fun h3 f28 => ?_) (fun h3 f28 => ?_)
  ·refine C.condT f28 rfl ?_
   refine C.region ?_
   refine L.ag f28 fun a29 f29 => ?_
   exact wpList_nil (then_of (J := J11) (Q := fun _ _ _ => True) (by rw [hJ11]; exact ⟨2, by unfold firstI; rw [if_pos (by omega)], by omega, HK, Bg0, f29.sub (sub_cons rfl (sub_cons rfl sn))⟩))
  refine C.condF f28 rfl ?_
  refine C.sk fun K9 hK9 => ?_
  refine L.va f28 (E.eq f28) fun a29 f29 => ?_
  refine L.ag f29 fun a30 f30 => ?_
  refine wpList_nil (hK9 _ _ ?_)
  have f31 := f30.sub (sc 1 (sc 4 (sc 17 sn)))
  clear f27 f28 a26 f29 a29 f30
  refine f31.splitD 17 rfl (fun h4 f32 => ?_) (fun h4 f32 => ?_)
  ·refine C.condT f32 rfl ?_
   have hq3 := (pub_facts hRt (by omega)).1
   have hd8 := flg_bd p.dup 8 (by omega)
   have hr1 := flg_bd p.retain 1 (by omega)
   have hd10 : Kept [] w2 (w2.drewN 1) := (Kept.refl _ _).drewN 1
   refine R.beginT (S := fun W => (Kept [] w W) ∧ (Blk W g0 28 (p.cells s))) (by kernel_rfl) (by kernel_rfl) ⟨HK.trans hd10 (by simp), Bg0.kept hd10 (by simp)⟩ fun ht => ?_
   obtain ⟨w3, hww3⟩ : ∃ W, W = w2.drewN 1 := ⟨_, rfl⟩
   rw [← hww3] at hd10 ⊢
   clear f31 hww3
   have szw3 := hd10.size
   replace HK := HK.trans hd10 (by simp)
   replace Bg0 := Bg0.kept hd10 (by simp)
   clear hd10
   refine R.u 0 f32 rfl ht ⟨HK, Bg0⟩ (fun W hW => (E.fa 1 f32 U28 rfl wsz4_wk)) fun a33 f33 => ?_
   refine R.u 1 f33 rfl ht ⟨HK, Bg0⟩ (fun W hW => (by exact E.ld f33 U4 (hW.2))) fun a34 f34 => ?_
   refine R.u 3 f34 rfl ht ⟨HK, Bg0⟩ (fun W hW => (E.fa 3 f34 U28 rfl wsz3_wk)) fun a35 f35 => ?_
   refine R.u 4 f35 rfl ht ⟨HK, Bg0⟩ (fun W hW => (by exact E.ld f35 U3 (hW.2))) fun a36 f36 => ?_
   refine R.u 5 f36 rfl ht ⟨HK, Bg0⟩ (fun W hW => (E.mul f36 rfl rfl (IntWalk.i64_in _ (by omega)))) fun a37 f37 => ?_
   refine R.u 7 f37 rfl ht ⟨HK, Bg0⟩ (fun W hW => (E.fa 2 f37 U28 rfl wsz4_wk)) fun a38 f38 => ?_
   refine R.u 8 f38 rfl ht ⟨HK, Bg0⟩ (fun W hW => (by exact E.ld f38 U4 (hW.2))) fun a39 f39 => ?_
   clear f32 a30 f33 a33 f34 a34 f35 a35 f36 a36 f37 a37 f38 a38
   refine R.call 2 f39 rfl rfl (by decide) (by kernel_rfl) wantedN (run_call Tryd.call41 (args2 f39 rfl rfl)) (bit_any _ _ _) ?_
   rintro e w3x ⟨rfl, rfl⟩
   refine ⟨_, rfl, ⟨HK, Bg0⟩, fun a40 f40 => ?_⟩
   refine R.u 6 f40 rfl ht ⟨HK, Bg0⟩ (fun W hW => (E.add f40 rfl rfl (IntWalk.i64_in _ (by omega)))) fun a41 f41 => ?_
   refine R.call 9 f41 rfl rfl (by decide) (by kernel_rfl) wantedN (run_call Tryd.call41 (args2 f41 rfl rfl)) (bit_any _ _ _) ?_
   clear f39 a39 f40 a40
   rintro e w3x ⟨rfl, rfl⟩
   refine ⟨_, rfl, ⟨HK, Bg0⟩, fun a42 f42 => ?_⟩
   refine R.u 10 f42 rfl ht ⟨HK, Bg0⟩ (fun W hW => (E.add f42 rfl rfl (IntWalk.i64_in _ (by omega)))) fun a43 f43 => ?_
   refine R.u 11 f43 rfl ht ⟨HK, Bg0⟩ (fun W hW => (E.assign f43 rfl)) fun a44 f44 => ?_
   exact R.done (by kernel_rfl) (then_of (J := J11) (Q := fun _ _ _ => True) (by rw [hJ11]; exact ⟨flg p.dup 8 + 2 * p.qos + flg p.retain 1, by unfold firstI; rw [if_neg (by omega), if_pos (by omega)], by omega, HK, Bg0, f44.sub (sub_cons rfl (sub_cons rfl sn))⟩))
  refine C.condF f32 rfl ?_
  exact wp_skip (then_of (J := J11) (Q := fun _ _ _ => True) (by rw [hJ11]; exact ⟨0, by unfold firstI; rw [if_neg (by omega), if_neg (by omega)], by omega, HK, Bg0, f32.sub (sub_cons rfl (sub_cons rfl sn))⟩))
 intro a14 w3 hj
 rw [hJ11] at hj
 clear hJ11 J11
 obtain ⟨fl, hfl, hflb, HK, Bg0, f14⟩ := hj
 try clear f13
 refine C.sk fun K10 hK10 => ?_
 refine L.va f14 (by exact E.loadB f14 U28 rfl wsz28_wk rfl (Bg0) rfl) fun a15 f15 => ?_
 have hC := body_any p s w3 (IP.kept HK) hL (fun hk => val_wq hRt.val hk)
 rw [body_is p hRt.kd hRt.bare] at hC
 refine L.cl f15 (run_call Tryd.call42 (args1 f15 rfl)) hC ?_
 clear f14 a14
 rintro e w4 ⟨kc4, A4, c4, rfl, Q4⟩
 have szk := HK.size
 have F4 := FB.lower Q4 szk
 clear Q4
 refine ⟨_, rfl, fun a16 f16 => ?_⟩
 have szw4 := kc4.size
 replace HK := HK.trans kc4 (by simp)
 replace Bg0 := Bg0.kept kc4 (by simp)
 clear f15 a15 kc4
 refine L.ag f16 fun a17 f17 => ?_
 refine wpList_nil (hK10 _ _ ?_)
 have f18 := f17.sub (sc 1 (sc 4 (sc 5 sn)))
 refine C.sk fun K11 hK11 => ?_
 refine L.mv f18 fun a19 f19 => ?_
 refine L.va f19 (E.lenL f19 U22 rfl) fun a20 f20 => ?_
 refine L.cl f20 (run_call Tryd.call43 (args1 f20 rfl)) (vputR_any _ _ (by omega)) ?_
 clear f16 a16 f17 f18 a17 f19 a19
 rintro e w5 ⟨kc5, A5, c5, rfl, Q5⟩
 have szk := HK.size
 have F5 := FB.lower Q5 szk
 clear Q5
 refine ⟨_, rfl, fun a21 f21 => ?_⟩
 have szw5 := kc5.size
 replace HK := HK.trans kc5 (by simp)
 replace Bg0 := Bg0.kept kc5 (by simp)
 replace F4 := F4.kept0 kc5
 clear f20 a20 kc5
 refine L.mv f21 fun a22 f22 => ?_
 refine L.va f22 (E.extract f22 rfl rfl) fun a23 f23 => ?_
 refine L.va f23 (E.extract f23 rfl rfl) fun a24 f24 => ?_
 refine L.ag f24 fun a25 f25 => ?_
 refine L.ag f25 fun a26 f26 => ?_
 refine wpList_nil (hK11 _ _ ?_)
 have f27 := f26.sub (sc 1 (sc 4 (sc 5 (sc 6 sn))))
 refine wp_seq_k fun K12 hK12 => ?_
 have HK0 := HK
 replace HK : Kept [] w5 w5 := Kept.refl [] _
 refine C.region ?_
 refine L.fa 0 f27 U28 rfl wsz3_wk fun a28 f28 => ?_
 refine L.ld f28 U3 Bg0 fun a29 f29 => ?_
 clear f21 a21 f22 a22 f23 a23 f24 a24 f25 a25 f26 f27 a26 f28 a28
 refine L.va f29 (E.mul f29 rfl rfl (IntWalk.i64_in _ (by omega))) fun a30 f30 => ?_
 refine L.mv f30 fun a31 f31 => ?_
 refine L.va f31 (E.add f31 rfl rfl (IntWalk.i64_in _ (by omega))) fun a32 f32 => ?_
 refine L.va f32 (E.conv f32 U3 U5 rfl (wrap_u8 _)) fun a33 f33 => ?_
 refine L.buildSlice f33 wantedN (by decide) (parts1 f33 rfl) U22 wzi5_wk rfl rfl (wbs22_1_wk _) fun a34 w6 g5 N5 f34 => ?_
 have FZ := FB.one N5 (b := b8 (16 * p.kind + fl)) HK.size (by simp [u8_b8])
 have Bg5 := N5.blk
 have kg5 := N5.kept
 have log5 := N5.lo
 have ltg5 := Bg5.lt
 have szw6 := kg5.size
 have frg5 : w5.heap.size ≤ g5 := Nat.le_trans HK.size log5
 have neg0_g5 : g0 ≠ g5 := by have := Bg0.lt; omega
 replace HK := HK.trans kg5 (by simp)
 replace Bg0 := Bg0.kept kg5 (by simp)
 clear f29 a29 f30 a30 f31 a31 f32 a32 N5 kg5
 refine L.mv f34 fun a35 f35 => ?_
 refine L.append f35 wantedN (by decide) U22 wzib5_wk rfl rfl rfl rfl FZ.own (F5.sl.kept HK) (u8_one) (by first | (simp [putL_len, maxLen]; have := szN_le ((behindL p).length : Int); omega)) (by first | (simp [putL_len, maxLen]; have := szN_le ((behindL p).length : Int); omega)) fun a36 w7 A7 c7 AP7 f36 => ?_
 have FN7 := AP7.nextB FZ HK.size ((putL ((behindL p).length : Int))) (rfl) (rfl)
 have kap7 := AP7.kept
 have szw7 := kap7.size
 replace HK := FZ.rel HK kap7
 replace Bg0 := Bg0.kept kap7 (own_ne FZ.own Bg0 (by decide))
 clear f33 a33 f34 a34 f35 a35 kap7 AP7 FZ
 have f37 := f36.as (i := 46) rfl (sl_lenF FN7 (rfl))
 refine L.mv f37 fun a38 f38 => ?_
 refine L.append f38 wantedN (by decide) U22 wzib5_wk rfl rfl rfl rfl FN7.own (F4.sl.kept HK) (u8_one) (by first | (simp [putL_len, maxLen]; have := szN_le ((behindL p).length : Int); omega)) (by first | (simp [putL_len, maxLen]; have := szN_le ((behindL p).length : Int); omega)) fun a39 w8 A8 c8 AP8 f39 => ?_
 have FN8 := AP8.nextB FN7 HK.size ((behindL p)) (rfl) (rfl)
 have kap8 := AP8.kept
 have szw8 := kap8.size
 replace HK := FN7.rel HK kap8
 replace Bg0 := Bg0.kept kap8 (own_ne FN7.own Bg0 (by decide))
 clear f36 f37 a36 f38 a38 kap8 AP8 FN7
 have f40 := f39.as (i := 48) rfl (sl_lenF FN8 (rfl))
 refine L.ag f40 fun a41 f41 => ?_
 refine L.ag f41 fun a42 f42 => ?_
 refine wpList_nil (hK12 _ _ ?_)
 have f43 := f42.sub (sc 2 (sc 3 sn))
 refine wp_ret ?_
 try simp only [Exit.inBlock, Exit.then]
 refine C.ret2 (P := Tryd.prog) (fn := Tryd.f18) f43 rfl rfl rfl ?_
 have he : [b8 (16 * p.kind + fl)] ++ putL ((behindL p).length : Int) ++ behindL p = encL p := by unfold encL; rw [← hfl, Int.mul_comm]; rfl
 rw [he] at FN8
 exact ⟨HK0.trans HK (by simp), _, _, by rw [putB_t hr, ← he], by rw [putB_t hr]; exact FB.lower FN8 HK0.size⟩
end Go.Proofs.YtigjafbbnocihaaDoor
namespace Go.Hub
open Go.RowKit
section
variable {P : Program} {a : Act} {w : World} {n : Nat} {l : FL} {fn : Func} {R : Ending → World → Prop}
theorem C.retC3 (f : Fr n a l) {p u v : Tmp} {ty : TypeId} (hr : fn.results = #[.cell p ty, .tmp u, .tmp v]) {g : Nat} {cs : Array Value} {t : TypeId} {d : TypeDesc} {x y : Value} (hp : look l p = some (.pointer (some ⟨g, 0, none⟩))) (hx : look l u = some x) (hy : look l v = some y) (B : Blk w g t cs)
    (hu : P.underlying ty = some d) (hd : (match d with | .struct _ | .array _ _ => true | _ => false) = true) (hi : (P.info? ty).map (·.size) = some cs.size) (h : R (.returned (.tuple #[.agg cs, x, y])) w) : bodyPost P fn R .ret a w := by
  refine bodyPost_ret (v := .tuple #[.agg cs, x, y]) ?_ f.defers h
  have hl := run_loadVar_row (P := P) w g t ty cs (0, 0) d B hu hd hi
  have hp' : a.tmps[p]?.getD undef = .pointer (some ⟨g, 0, none⟩) := by simpa using f.get hp
  have hx' : a.tmps[u]?.getD undef = x := by simpa using f.get hx
  have hy' : a.tmps[v]?.getD undef = y := by simpa using f.get hy
  simp [results, hr, hp', hx', hy', asAddr, Sem.run_bind, Result.andThen, hl]
end
end Go.Hub
namespace Go.Proofs.YtigjafbbnocihaaDoor
open Go.RowKit Go.Hub Go.Lib Go.Vl
theorem wsz4_wl : (Tryd.prog.info? 4).map (·.size) = some 1 := by kernel_rfl
theorem wsz5_wl : (Tryd.prog.info? 5).map (·.size) = some 1 := by kernel_rfl
theorem wsz28_wl : (Tryd.prog.info? 28).map (·.size) = some 24 := by kernel_rfl
theorem wbl28__wl  : Tryd.prog.built 28 [] = some #[(.int .i64 0), (.bool false), (.bool false), (.int .i64 0), (.int .i64 0), (.string ⟨#[]⟩), (.slice none 0 0), (.int .i64 0), (.string ⟨#[]⟩), (.bool false), (.int .i64 0), (.bool false), (.string ⟨#[]⟩), (.slice none 0 0), (.int .i64 0), (.bool false), (.bool false), (.bool false), (.string ⟨#[]⟩), (.slice none 0 0), (.bool false), (.int .i64 0), (.slice none 0 0), (.slice none 0 0)] := by kernel_rfl
theorem wbl91_0_wl (x0 : Option Addr) (y0 z0 : Nat) : Tryd.prog.built 91 [(0, .slice x0 y0 z0)] = some #[.slice x0 y0 z0, (.bool false)] := by kernel_rfl
theorem readL_bd (l : List UInt8) : (0 ≤ (readL l).1 ∧ (readL l).1 ≤ 268435455) ∧ 0 ≤ (readL l).2.1 ∧ (readL l).2.1 ≤ 4 := by
  unfold readL
  simp only [rd]
  repeat' split
  all_goals simp
  all_goals omega
theorem vread_any (t : List UInt8) (A : Option Addr) (c : Nat) (w : World) {B : Nat} (h : Bs [5] B w A t.length t) (hm : t.length ≤ 1000000) : Calls Tryd.prog 58 #[.slice A t.length c] w fun e w' => w = w' ∧ ∃ n s er : Int, readL t = (n, s, er) ∧ (0 ≤ n ∧ n ≤ 268435455) ∧ (0 ≤ s ∧ s ≤ 4) ∧ e = .returned (.tuple #[.int .i64 n, .int .i64 s, .int .i64 er]) :=
  (read_any A t.length c t w rfl (by unfold maxLen; omega) h.rds).mono fun e w' ⟨h1, h2⟩ => ⟨h2, _, _, _, rfl, (readL_bd t).1, (readL_bd t).2, h1⟩
section
variable {w W : World} {A : Option Addr} {c : Nat} {c0 : UInt8} {t l : List UInt8}
theorem bs_mono {B n : Nat} {E E' : List TypeId} (h : Bs E B w A n l) (hE : ∀ x ∈ E, x ∈ E') : Bs E' B w A n l :=
  ⟨h.1, fun hn => by
    obtain ⟨b, off, e, hb, ht, hc⟩ := h.2 hn
    exact ⟨b, off, e, hb, ht.imp_right fun ht => ht.mono hE, hc⟩⟩
theorem bs_later (SA : Sl w A l.length 1 (l.map u8)) (HK : Kept [] w W) : Bs [5] w.heap.size W A l.length l := (bs_mono SA.bs (by simp)).kept0 HK
theorem cut_one (SA : Sl w A (c0 :: t).length 1 ((c0 :: t).map u8)) (HK : Kept [] w W) (hcap : (c0 :: t).length ≤ c) : ∃ A1 c1, (Value.slice (if c = (1 : Int).toNat then A else A.map (·.add ((1 : Int).toNat * 1))) ((c0 :: t).length - (1 : Int).toNat) (c - (1 : Int).toNat)) = .slice A1 t.length c1 ∧ Bs [5] w.heap.size W A1 t.length t ∧ t.length ≤ c1 := by
  have h := (bs_later SA HK).cut (k := 1) (c := c) (by simp) hcap
  refine ⟨_, _, rfl, h, ?_⟩
  simp only [List.length_cons] at hcap
  show t.length ≤ c - 1
  omega
theorem cut_mid {lo n : Nat} {hi : Int} (SA : Sl w A (c0 :: t).length 1 ((c0 :: t).map u8)) (HK : Kept [] w W) (hcap : (c0 :: t).length ≤ c) (hlo : 1 ≤ lo) (hh : hi = (lo + n : Nat)) (hle : lo + n ≤ (c0 :: t).length) {lo' : Int} (hlo' : lo' = lo) :
    ∃ A1 c1, (Value.slice (if c = lo'.toNat then A else A.map (·.add (lo'.toNat * 1))) (hi.toNat - lo'.toNat) (c - lo'.toNat)) = .slice A1 ((t.drop (lo - 1)).take n).length c1 ∧ Bs [5] w.heap.size W A1 ((t.drop (lo - 1)).take n).length ((t.drop (lo - 1)).take n) ∧ ((t.drop (lo - 1)).take n).length ≤ c1 := by
  subst hh hlo'
  have h := ((bs_later SA HK).cut (k := lo) (c := c) (by omega) hcap).head (k := n) (by omega)
  have e : (c0 :: t).drop lo = t.drop (lo - 1) := by
    obtain ⟨m, rfl⟩ : ∃ m, lo = m + 1 := ⟨lo - 1, by omega⟩
    rfl
  have e2 : ((t.drop (lo - 1)).take n).length = n := by
    simp only [List.length_cons] at hle
    rw [List.length_take, List.length_drop]
    omega
  rw [e] at h
  rw [e2]
  refine ⟨_, c - lo, ?_, h, ?_⟩
  · rw [Int.toNat_natCast, Int.toNat_natCast]
    congr 1
    omega
  omega
theorem cut_hi {k : Nat} {hi : Int} (SA : Sl w A l.length 1 (l.map u8)) (HK : Kept [] w W) (hcap : l.length ≤ c) (hh : hi = (k : Nat)) (hle : k ≤ l.length) :
    ∃ A1 c1, (Value.slice A hi.toNat c) = .slice A1 (l.take k).length c1 ∧ Bs [5] w.heap.size W A1 (l.take k).length (l.take k) ∧ (l.take k).length ≤ c1 := by
  subst hh
  have h := (bs_later SA HK).head hle
  have e2 : (l.take k).length = k := by rw [List.length_take]; omega
  rw [e2]
  exact ⟨A, c, by rw [Int.toNat_natCast], h, by omega⟩
end
def ReadW (v : Pk × Int × Int) (w : World) (e : Ending) (w' : World) : Prop := Kept [] w w' ∧ v.1.Len ∧ ∃ s, e = .returned (.tuple #[.agg (v.1.cells s), .int .i64 v.2.1, .int .i64 v.2.2]) ∧ v.1.In w' s
section
variable {c0 : UInt8} {t : List UInt8} {n s er : Int}
theorem readP_nil : readP [] = ({}, 0, 20) := rfl
theorem readP_bad (hb : begunB c0.toNat = false) : readP (c0 :: t) = ({}, 0, 21) := by rw [readP_cons, if_pos hb]
theorem readP_err (hb : begunB c0.toNat = true) (hv : readL t = (n, s, er)) (he : er ≠ 0) : readP (c0 :: t) = ({}, 0, er) := by rw [readP_cons, if_neg (by rw [hb]; decide), hv]; simp only; rw [if_pos he]
theorem readP_long (hb : begunB c0.toNat = true) (hv : readL t = (n, s, er)) (he : er = 0) (hn : 8192 < n) : readP (c0 :: t) = ({}, 0, 22) := by rw [readP_cons, if_neg (by rw [hb]; decide), hv]; simp only; rw [if_neg (by omega), if_pos hn]
theorem readP_short (hb : begunB c0.toNat = true) (hv : readL t = (n, s, er)) (he : er = 0) (hn : ¬ 8192 < n) (hs : (t.length : Int) < s + n) : readP (c0 :: t) = ({}, 0, 20) := by rw [readP_cons, if_neg (by rw [hb]; decide), hv]; simp only; rw [if_neg (by omega), if_neg hn, if_pos hs]
end
section
variable {c0 : UInt8} {t : List UInt8} {n s : Nat} {er : Int} {p : Pk} {r : Rd}
theorem readP_ok (hb : begunB c0.toNat = true) (hv : readL t = ((n : Int), (s : Int), er)) (he : er = 0) (hn : ¬ 8192 < (n : Int)) (hs : ¬ (t.length : Int) < (s : Int) + (n : Int)) (hq : restP (begunP c0.toNat) ⟨(t.drop s).take n, false⟩ = (p, r)) (h1 : r.lk = false) (h2 : rightB p = true) (h3 : encL p = c0 :: t.take (s + n)) :
    readP (c0 :: t) = (p, 1 + (s : Int) + (n : Int), 0) := by
  rw [readP_cons, if_neg (by rw [hb]; decide), hv]
  simp only
  rw [if_neg (by omega), if_neg hn, if_neg hs]
  simp only [Int.toNat_natCast, hq]
  rw [if_pos ⟨h1, h2, by rw [h3]; congr 2⟩]
theorem readP_no (hb : begunB c0.toNat = true) (hv : readL t = ((n : Int), (s : Int), er)) (he : er = 0) (hn : ¬ 8192 < (n : Int)) (hs : ¬ (t.length : Int) < (s : Int) + (n : Int)) (hq : restP (begunP c0.toNat) ⟨(t.drop s).take n, false⟩ = (p, r)) (h : ¬ (r.lk = false ∧ rightB p = true ∧ encL p = c0 :: t.take (s + n))) :
    readP (c0 :: t) = ({}, 0, 21) := by
  rw [readP_cons, if_neg (by rw [hb]; decide), hv]
  simp only
  rw [if_neg (by omega), if_neg hn, if_neg hs]
  simp only [Int.toNat_natCast, hq]
  refine if_neg fun ⟨h1, h2, h3⟩ => h ⟨h1, h2, ?_⟩
  rw [h3]
  congr 2
end
theorem putB_0 {p : Pk} (h : (putB p).2 = 0) : rightB p = true := by
  unfold putB at h
  split at h
  · assumption
  simp at h
theorem putB_1 {p : Pk} (h : rightB p = true) : (putB p).2 = 0 := by rw [putB_t h]
theorem begunP_z (c : Int) : (begunP c).pay = [] ∧ (begunP c).wp = [] ∧ (begunP c).pass = [] ∧ (begunP c).subs = [] ∧ (begunP c).codes = [] := by
  unfold begunP
  split <;> exact ⟨rfl, rfl, rfl, rfl, rfl⟩
theorem begunP_1 {c : Int} (h : (begunP c).kind = 1) : begunP c = { kind := 1 } := by
  unfold begunP at h ⊢
  split at h
  · simp at h
  rename_i h3
  rw [if_neg h3]
  simp only at h
  rw [h]
theorem em_le : em.size ≤ 1000000 := by decide
theorem begunP_len (c : Int) : (begunP c).Len := by
  unfold begunP
  split <;> exact ⟨by simp, by simp, by simp, by simp, by simp, em_le, em_le, em_le, em_le, by simp⟩
section
variable {p : Pk} {r : Rd}
theorem lump_le (r : Rd) : r.lump.1.length ≤ 65535 := by
  have := two_bd r
  unfold Rd.lump
  rw [take_len]
  omega
theorem text_le (r : Rd) : r.text.1.size ≤ 65535 := by
  unfold Rd.text
  rw [bytes_arr]
  exact lump_le r
theorem connHead_len (h : p.Len) (r : Rd) : (connHead p r).1.2.Len := ⟨h.pay, h.wp, h.pass, h.subs, h.codes, h.topic, Nat.le_trans (text_le _) (by omega), h.wt, h.user, h.each⟩
theorem connWill_len (f : Int) (h : p.Len) (r : Rd) : (connWill f p r).1.Len := by
  unfold connWill
  split
  · exact ⟨h.pay, Nat.le_trans (lump_le _) (by omega), h.pass, h.subs, h.codes, h.topic, h.client, Nat.le_trans (text_le _) (by omega), h.user, h.each⟩
  exact h
theorem connUser_len (h : p.Len) (r : Rd) : (connUser p r).1.Len := by
  unfold connUser
  split
  · exact ⟨h.pay, h.wp, h.pass, h.subs, h.codes, h.topic, h.client, h.wt, Nat.le_trans (text_le _) (by omega), h.each⟩
  exact h
theorem connPass_len (h : p.Len) (r : Rd) : (connPass p r).1.Len := by
  unfold connPass
  split
  · exact ⟨h.pay, h.wp, Nat.le_trans (lump_le _) (by omega), h.subs, h.codes, h.topic, h.client, h.wt, h.user, h.each⟩
  exact h
theorem connP_len (h : p.Len) (r : Rd) : (connP p r).1.Len := connPass_len (connUser_len (connWill_len _ (connHead_len h r) _) _) _
theorem headP_len (h : p.Len) (r : Rd) : (headP p r).1.Len := by
  unfold headP
  split
  · exact connP_len h r
  split
  · exact ⟨h.pay, h.wp, h.pass, h.subs, h.codes, h.topic, h.client, h.wt, h.user, h.each⟩
  split
  · exact ⟨h.pay, h.wp, h.pass, h.subs, h.codes, Nat.le_trans (text_le _) (by omega), h.client, h.wt, h.user, h.each⟩
  exact h
theorem idP_len (h : p.Len) (r : Rd) : (idP p r).1.Len := by
  unfold idP
  split
  · exact ⟨h.pay, h.wp, h.pass, h.subs, h.codes, h.topic, h.client, h.wt, h.user, h.each⟩
  exact h
theorem loopP_len : ∀ (m : Nat) (p : Pk) (r : Rd), p.Len → p.subs.length + p.codes.length + r.l.length ≤ 1000000 → (loopP m p r).1.Len
  | 0, p, r, h, _ => h
  | m + 1, p, r, h, hb => by
    unfold loopP
    split
    · exact h
    rename_i h0
    split
    · refine loopP_len m _ _ ⟨?_, h.wp, h.pass, h.subs, h.codes, h.topic, h.client, h.wt, h.user, h.each⟩ ?_
      · show (r.take r.l.length).1.length ≤ _
        rw [take_len]; omega
      have := take_all_len r
      show p.subs.length + p.codes.length + _ ≤ _
      omega
    split
    · have h1 := text_lt h0
      have h2 := one_le r.text.2
      refine loopP_len m _ _ ⟨h.pay, h.wp, h.pass, ?_, h.codes, h.topic, h.client, h.wt, h.user, fun x hx => ?_⟩ ?_
      · show (p.subs ++ [_]).length ≤ _
        rw [List.length_append, List.length_singleton]; omega
      · rcases List.mem_append.1 hx with hx | hx
        · exact h.each x hx
        obtain rfl := List.mem_singleton.1 hx
        exact Nat.le_trans (text_le r) (by omega)
      show (p.subs ++ [_]).length + p.codes.length + _ ≤ _
      rw [List.length_append, List.length_singleton]; omega
    split
    · have h1 := text_lt h0
      refine loopP_len m _ _ ⟨h.pay, h.wp, h.pass, ?_, h.codes, h.topic, h.client, h.wt, h.user, fun x hx => ?_⟩ ?_
      · show (p.subs ++ [_]).length ≤ _
        rw [List.length_append, List.length_singleton]; omega
      · rcases List.mem_append.1 hx with hx | hx
        · exact h.each x hx
        obtain rfl := List.mem_singleton.1 hx
        exact Nat.le_trans (text_le r) (by omega)
      show (p.subs ++ [_]).length + p.codes.length + _ ≤ _
      rw [List.length_append, List.length_singleton]; omega
    split
    · have h1 := one_lt h0
      refine loopP_len m _ _ ⟨h.pay, h.wp, h.pass, h.subs, ?_, h.topic, h.client, h.wt, h.user, h.each⟩ ?_
      · show (p.codes ++ [_]).length ≤ _
        rw [List.length_append, List.length_singleton]; omega
      show p.subs.length + (p.codes ++ [_]).length + _ ≤ _
      rw [List.length_append, List.length_singleton]; omega
    exact loopP_len m _ _ h (by show p.subs.length + p.codes.length + 0 ≤ _; omega)
theorem conn_le (p : Pk) (r : Rd) : (connP p r).2.l.length ≤ r.l.length := by
  have ht : ∀ r : Rd, r.text.2.l.length ≤ r.l.length := fun r => Nat.le_trans (take_le _ _) (take_le _ _)
  have hl : ∀ r : Rd, r.lump.2.l.length ≤ r.l.length := fun r => Nat.le_trans (take_le _ _) (take_le _ _)
  have h2 : ∀ r : Rd, r.two.2.l.length ≤ r.l.length := fun r => take_le r 2
  have hw : ∀ f p r, (connWill f p r).2.l.length ≤ r.l.length := fun f p r => by
    unfold connWill
    split
    · exact Nat.le_trans (hl _) (ht _)
    exact Nat.le_refl _
  have hu : ∀ p r, (connUser p r).2.l.length ≤ r.l.length := fun p r => by
    unfold connUser
    split
    · exact ht _
    exact Nat.le_refl _
  have hp : ∀ p r, (connPass p r).2.l.length ≤ r.l.length := fun p r => by
    unfold connPass
    split
    · exact hl _
    exact Nat.le_refl _
  have hh : (connHead p r).2.l.length ≤ r.l.length := by
    simp only [connHead]
    exact Nat.le_trans (ht _) (Nat.le_trans (h2 _) (Nat.le_trans (one_le _) (Nat.le_trans (one_le _) (ht r))))
  simp only [connP]
  exact Nat.le_trans (hp _ _) (Nat.le_trans (hu _ _) (Nat.le_trans (hw _ _ _) hh))
theorem headP_le (p : Pk) (r : Rd) : (headP p r).2.l.length ≤ r.l.length := by
  unfold headP
  split
  · exact conn_le p r
  split
  · exact Nat.le_trans (take_le _ _) (take_le _ _)
  split
  · exact Nat.le_trans (take_le _ _) (take_le _ _)
  exact Nat.le_refl _
theorem idP_le (p : Pk) (r : Rd) : (idP p r).2.l.length ≤ r.l.length := by
  unfold idP
  split
  · exact take_le _ _
  exact Nat.le_refl _
theorem rest_len (h : p.Len) (hz : p.pay = [] ∧ p.wp = [] ∧ p.pass = [] ∧ p.subs = [] ∧ p.codes = []) (hr : r.l.length ≤ 1000000) : (restP p r).1.Len := by
  rw [restP_eq]
  refine loopP_len _ _ _ (idP_len (headP_len h r) _) ?_
  have h1 := headP_le p r
  have h2 := idP_le (headP p r).1 (headP p r).2
  have h3 : (idP (headP p r).1 (headP p r).2).1.subs = [] := (id_subs rfl).trans (head_subs hz.2.2.2.1 rfl)
  have h4 : (idP (headP p r).1 (headP p r).2).1.codes = [] := (id_codes rfl).trans (head_codes hz.2.2.2.2 rfl)
  rw [h3, h4]
  simp only [List.length_nil]
  omega
end
set_option maxRecDepth 100000 in
set_option maxHeartbeats 4000000 in
theorem wread_any (l : List UInt8) (A : Option Addr) (c : Nat) (w : World) (SA : Sl w A l.length 1 (l.map u8)) (hcap : l.length ≤ c) (hl : l.length ≤ 1000000) (hT : Tabs w) : Calls Tryd.prog 23 #[.slice A l.length c] w (ReadW (readP l) w) := by
 have HK : Kept [] w w := Kept.refl [] w
 refine C.enter Tryd.func23 rfl Tryd.ntmps23 rfl ?_
 intro a0 f0
 have f1 : Fr 87 a0 [(0, .slice A l.length c)] := f0
 refine C.sk fun K0 hK0 => ?_
 refine L.alloc f1 wantedN (by decide) (z := (.agg #[(.int .i64 0), (.bool false), (.bool false), (.int .i64 0), (.int .i64 0), (.string ⟨#[]⟩), (.slice none 0 0), (.int .i64 0), (.string ⟨#[]⟩), (.bool false), (.int .i64 0), (.bool false), (.string ⟨#[]⟩), (.slice none 0 0), (.int .i64 0), (.bool false), (.bool false), (.bool false), (.string ⟨#[]⟩), (.slice none 0 0), (.bool false), (.int .i64 0), (.slice none 0 0), (.slice none 0 0)])) (fun _ => by kernel_rfl) rfl fun a2 w1 g0 N0 f2 => ?_
 have Bg0 := N0.blk
 have kg0 := N0.kept
 have log0 := N0.lo
 have ltg0 := Bg0.lt
 have szw1 := kg0.size
 have frg0 : w.heap.size ≤ g0 := Nat.le_trans HK.size log0
 replace HK := HK.trans kg0 (by simp)
 clear f0 N0 kg0
 refine L.ag f2 fun a3 f3 => ?_
 refine L.ag f3 fun a4 f4 => ?_
 refine wpList_nil (hK0 _ _ ?_)
 have f5 := f4.sub (sc 0 (sc 2 sn))
 refine wp_seq_k fun K1 hK1 => ?_
 refine C.sk fun K2 hK2 => ?_
 refine L.mv f5 fun a6 f6 => ?_
 refine L.va f6 (E.lenL f6 U22 rfl) fun a7 f7 => ?_
 refine L.va f7 (E.eq f7) fun a8 f8 => ?_
 refine wpList_nil (hK2 _ _ ?_)
 have f9 := f8.sub (sc 0 (sc 2 (sc 16 sn)))
 clear f1 a0 f2 a2 f3 a3 f4 f5 a4 f6 a6 f7 a7 f8
 refine f9.splitD 16 rfl (fun h0 f10 => ?_) (fun h0 f10 => ?_)
 ·refine C.condT f10 rfl ?_
  refine C.sk fun K3 hK3 => ?_
  refine L.va f10 (E.build f10 (parts0 f10) (wbl28__wl)) fun a11 f11 => ?_
  refine L.storeR f11 wantedN wsz28_wl rfl rfl rfl Bg0 rfl rfl fun a12 w2 f12 NB2 ks2 => ?_
  have szw2 := ks2.size
  replace HK := HK.trans ks2 (ktr (by omega))
  replace Bg0 := NB2
  clear f9 f10 a8 ks2 f11 a11
  refine L.ag f12 fun a13 f13 => ?_
  refine L.ag f13 fun a14 f14 => ?_
  refine wpList_nil (hK3 _ _ ?_)
  have f15 := f14.sub (sc 2 (sc 3 (sc 4 sn)))
  refine wp_ret ?_
  try simp only [Exit.inBlock, Exit.then]
  refine C.retC3 (P := Tryd.prog) (fn := Tryd.f23) f15 rfl rfl rfl rfl Bg0 U28 rfl wsz28_wl ?_
  have hl0 : l = [] := List.eq_nil_of_length_eq_zero (by omega)
  clear f12 a12 f13 a13 f14
  subst hl0
  refine ⟨HK, ?_, s0, ?_, ?_⟩
  ·rw [readP_nil]; exact Pk.Len.zero
  ·rw [readP_nil]; rfl
  rw [readP_nil]; exact Pk.In.zero _
 obtain ⟨c0, t, rfl⟩ := List.exists_cons_of_ne_nil (l := l) (fun h => by subst h; simp at h0)
 obtain ⟨b0, off0, hA0⟩ := SA.addr (by simp)
 have hlen : (c0 :: t).length = t.length + 1 := rfl
 have hc0 : c0.toNat < 256 := UInt8.toNat_lt _
 refine C.condF f10 rfl ?_
 refine wp_skip (hK1 _ _ ?_)
 have f11 := f10.sub (sc 0 (sc 2 sn))
 refine C.sk fun K4 hK4 => ?_
 refine L.mv f11 fun a12 f12 => ?_
 refine L.va f12 (E.indexA f12 (by assumption) U22 wsz5_wl rfl rfl (by omega) (by omega)) fun a13 f13 => ?_
 refine L.va f13 (by exact E.load f13 U5 rfl rfl ((show World.cell? _ ⟨b0, off0 + (0 : Int).toNat * 1, none⟩ = some (.int .u8 (c0.toNat : Nat)) from byte_cell (SA.kept HK) hA0 (i := 0) rfl))) fun a14 f14 => ?_
 refine L.cl f14 (run_call Tryd.call57 (args1 f14 rfl)) (begun_any (c0.toNat : Nat) _ (by omega)) ?_
 clear f9 f10 f11 a8 f12 a12 f13 a13
 rintro e w2 ⟨kc2, rfl⟩
 refine ⟨_, rfl, fun a15 f15 => ?_⟩
 have szw2 := kc2.size
 replace HK := HK.trans kc2 (by simp)
 replace Bg0 := Bg0.kept kc2 (by simp)
 clear f14 a14 kc2
 refine L.mv f15 fun a16 f16 => ?_
 refine L.va f16 (E.extract f16 rfl rfl) fun a17 f17 => ?_
 refine L.va f17 (E.extract f17 rfl rfl) fun a18 f18 => ?_
 refine L.alloc f18 wantedN (by decide) (z := (.agg #[(.int .i64 0), (.bool false), (.bool false), (.int .i64 0), (.int .i64 0), (.string ⟨#[]⟩), (.slice none 0 0), (.int .i64 0), (.string ⟨#[]⟩), (.bool false), (.int .i64 0), (.bool false), (.string ⟨#[]⟩), (.slice none 0 0), (.int .i64 0), (.bool false), (.bool false), (.bool false), (.string ⟨#[]⟩), (.slice none 0 0), (.bool false), (.int .i64 0), (.slice none 0 0), (.slice none 0 0)])) (fun _ => by kernel_rfl) rfl fun a19 w3 g2 N2 f19 => ?_
 have Bg2 := N2.blk
 have kg2 := N2.kept
 have log2 := N2.lo
 have ltg2 := Bg2.lt
 have szw3 := kg2.size
 have frg2 : w.heap.size ≤ g2 := Nat.le_trans HK.size log2
 have neg0_g2 : g0 ≠ g2 := by have := Bg0.lt; omega
 replace HK := HK.trans kg2 (by simp)
 replace Bg0 := Bg0.kept kg2 (by simp)
 clear f15 a15 f16 a16 f17 a17 N2 kg2
 refine L.storeR f19 wantedN wsz28_wl rfl rfl rfl Bg2 rfl rfl fun a20 w4 f20 NB4 ks4 => ?_
 have szw4 := ks4.size
 replace HK := HK.trans ks4 (ktr (by omega))
 replace Bg0 := Bg0.kept ks4 (by simp; omega)
 replace Bg2 := NB4
 clear f18 a18 ks4 f19 a19
 refine L.ag f20 fun a21 f21 => ?_
 refine wpList_nil (hK4 _ _ ?_)
 have f22 := f21.sub (sc 0 (sc 2 (sc 5 (sc 6 sn))))
 refine wp_seq_k fun K5 hK5 => ?_
 refine C.sk fun K6 hK6 => ?_
 refine L.mv f22 fun a23 f23 => ?_
 refine L.va f23 (E.not f23 rfl) fun a24 f24 => ?_
 refine wpList_nil (hK6 _ _ ?_)
 have f25 := f24.sub (sc 0 (sc 2 (sc 5 (sc 26 sn))))
 clear f20 a20 f21 f22 a21 f23 a23 f24
 refine f25.splitNB 26 rfl (fun h1 f26 => ?_) (fun h1 f26 => ?_)
 ·have hb : begunB c0.toNat = false := h1
  refine C.condT f26 rfl ?_
  refine C.sk fun K7 hK7 => ?_
  refine L.va f26 (E.build f26 (parts0 f26) (wbl28__wl)) fun a27 f27 => ?_
  refine L.storeR f27 wantedN wsz28_wl rfl rfl rfl Bg0 rfl rfl fun a28 w5 f28 NB5 ks5 => ?_
  have szw5 := ks5.size
  replace HK := HK.trans ks5 (ktr (by omega))
  replace Bg2 := Bg2.kept ks5 (by simp; omega)
  replace Bg0 := NB5
  clear f25 f26 a24 ks5 f27 a27
  refine L.ag f28 fun a29 f29 => ?_
  refine L.ag f29 fun a30 f30 => ?_
  refine wpList_nil (hK7 _ _ ?_)
  have f31 := f30.sub (sc 2 (sc 3 (sc 4 sn)))
  refine wp_ret ?_
  try simp only [Exit.inBlock, Exit.then]
  refine C.retC3 (P := Tryd.prog) (fn := Tryd.f23) f31 rfl rfl rfl rfl Bg0 U28 rfl wsz28_wl ?_
  clear f28 a28 f29 a29 f30
  refine ⟨HK, ?_, s0, ?_, ?_⟩
  ·rw [readP_bad hb]; exact Pk.Len.zero
  ·rw [readP_bad hb]; rfl
  rw [readP_bad hb]; exact Pk.In.zero _
 have hb : begunB c0.toNat = true := h1
 refine C.condF f26 rfl ?_
 refine wp_skip (hK5 _ _ ?_)
 have f27 := f26.sub (sc 0 (sc 2 (sc 5 sn)))
 refine C.sk fun K8 hK8 => ?_
 refine L.mv f27 fun a28 f28 => ?_
 refine L.va f28 (E.slLlo f28 U22 wsz5_wl rfl rfl (by decide) (by omega)) fun a29 f29 => ?_
 obtain ⟨A1, c1, hv_, SA1, hcA1⟩ := cut_one SA HK hcap
 have f30 := f29.as (i := 30) (v' := .slice A1 (t).length c1) rfl hv_
 clear f25 f26 f27 a24 f28 a28 f29 hv_
 refine L.cl f30 (run_call Tryd.call58 (args1 f30 rfl)) (vread_any t A1 c1 _ SA1 (by omega)) ?_
 rintro e w4x ⟨rfl, n, sz, er, hv, hnb, hsb, rfl⟩
 obtain ⟨n, rfl⟩ := Int.eq_ofNat_of_zero_le hnb.1
 obtain ⟨sz, rfl⟩ := Int.eq_ofNat_of_zero_le hsb.1
 refine ⟨_, rfl, fun a31 f31 => ?_⟩
 refine L.mv f31 fun a32 f32 => ?_
 refine L.va f32 (E.extract f32 rfl rfl) fun a33 f33 => ?_
 refine L.va f33 (E.extract f33 rfl rfl) fun a34 f34 => ?_
 refine L.va f34 (E.extract f34 rfl rfl) fun a35 f35 => ?_
 refine L.ag f35 fun a36 f36 => ?_
 refine L.ag f36 fun a37 f37 => ?_
 clear f30 a29 f31 a31 f32 a32 f33 a33 f34 a34 f35 a35 f36 a36
 refine L.ag f37 fun a38 f38 => ?_
 refine wpList_nil (hK8 _ _ ?_)
 have f39 := f38.sub (sc 0 (sc 2 (sc 5 (sc 7 (sc 8 (sc 9 sn))))))
 refine C.sk fun K9 hK9 => ?_
 refine L.mv f39 fun a40 f40 => ?_
 refine L.va f40 (E.add f40 rfl rfl (IntWalk.i64_in _ (by omega))) fun a41 f41 => ?_
 refine L.mv f41 fun a42 f42 => ?_
 refine L.va f42 (E.add f42 rfl rfl (IntWalk.i64_in _ (by omega))) fun a43 f43 => ?_
 refine L.ag f43 fun a44 f44 => ?_
 refine wpList_nil (hK9 _ _ ?_)
 have f45 := f44.sub (sc 0 (sc 2 (sc 5 (sc 7 (sc 8 (sc 9 (sc 10 sn)))))))
 clear f37 a37 f38 f39 a38 f40 a40 f41 a41 f42 a42 f43 a43 f44
 refine wp_seq_k fun K10 hK10 => ?_
 refine wp_block ?_
 refine C.sk fun K11 hK11 => ?_
 refine L.mv f45 fun a46 f46 => ?_
 refine L.va f46 (E.neq f46 rfl rfl) fun a47 f47 => ?_
 refine L.ag f47 fun a48 f48 => ?_
 refine wpList_nil (hK11 _ _ ?_)
 have f49 := f48.sub (sc 0 (sc 2 (sc 5 (sc 7 (sc 8 (sc 9 (sc 10 (sc 39 sn))))))))
 clear f45 a44 f46 a46 f47 a47 f48
 refine f49.splitN 39 rfl (fun h2 f50 => ?_) (fun h2 f50 => ?_)
 ·refine C.condT f50 rfl ?_
  refine C.sk fun K12 hK12 => ?_
  refine L.va f50 (E.build f50 (parts0 f50) (wbl28__wl)) fun a51 f51 => ?_
  refine L.mv f51 fun a52 f52 => ?_
  refine L.storeR f52 wantedN wsz28_wl rfl rfl rfl Bg0 rfl rfl fun a53 w5 f53 NB5 ks5 => ?_
  have szw5 := ks5.size
  replace HK := HK.trans ks5 (ktr (by omega))
  replace Bg2 := Bg2.kept ks5 (by simp; omega)
  replace SA1 := SA1.kept1 ks5 Bg0 (by decide) (by omega)
  replace Bg0 := NB5
  clear f49 f50 a48 f51 a51 ks5 f52 a52
  refine L.ag f53 fun a54 f54 => ?_
  refine L.ag f54 fun a55 f55 => ?_
  refine wpList_nil (hK12 _ _ ?_)
  have f56 := f55.sub (sc 2 (sc 3 (sc 4 sn)))
  refine wp_ret ?_
  try simp only [Exit.inBlock, Exit.then]
  refine C.retC3 (P := Tryd.prog) (fn := Tryd.f23) f56 rfl rfl rfl rfl Bg0 U28 rfl wsz28_wl ?_
  clear f53 a53 f54 a54 f55
  refine ⟨HK, ?_, s0, ?_, ?_⟩
  ·rw [readP_err hb hv (by omega)]; exact Pk.Len.zero
  ·rw [readP_err hb hv (by omega)]; rfl
  rw [readP_err hb hv (by omega)]; exact Pk.In.zero _
 refine C.condF f50 rfl ?_
 refine C.sk fun K13 hK13 => ?_
 refine L.mv f50 fun a51 f51 => ?_
 refine L.va f51 (E.gtr f51 rfl rfl) fun a52 f52 => ?_
 refine L.ag f52 fun a53 f53 => ?_
 refine wpList_nil (hK13 _ _ ?_)
 have f54 := f53.sub (sc 0 (sc 2 (sc 5 (sc 8 (sc 10 (sc 44 sn))))))
 clear f49 f50 a48 f51 a51 f52 a52 f53
 refine f54.splitD 44 rfl (fun h3 f55 => ?_) (fun h3 f55 => ?_)
 ·refine C.condT f55 rfl ?_
  refine C.sk fun K14 hK14 => ?_
  refine L.va f55 (E.build f55 (parts0 f55) (wbl28__wl)) fun a56 f56 => ?_
  refine L.storeR f56 wantedN wsz28_wl rfl rfl rfl Bg0 rfl rfl fun a57 w5 f57 NB5 ks5 => ?_
  have szw5 := ks5.size
  replace HK := HK.trans ks5 (ktr (by omega))
  replace Bg2 := Bg2.kept ks5 (by simp; omega)
  replace SA1 := SA1.kept1 ks5 Bg0 (by decide) (by omega)
  replace Bg0 := NB5
  clear f54 f55 a53 ks5 f56 a56
  refine L.ag f57 fun a58 f58 => ?_
  refine L.ag f58 fun a59 f59 => ?_
  refine wpList_nil (hK14 _ _ ?_)
  have f60 := f59.sub (sc 2 (sc 3 (sc 4 sn)))
  refine wp_ret ?_
  try simp only [Exit.inBlock, Exit.then]
  refine C.retC3 (P := Tryd.prog) (fn := Tryd.f23) f60 rfl rfl rfl rfl Bg0 U28 rfl wsz28_wl ?_
  clear f57 a57 f58 a58 f59
  refine ⟨HK, ?_, s0, ?_, ?_⟩
  ·rw [readP_long hb hv (by omega) (by omega)]; exact Pk.Len.zero
  ·rw [readP_long hb hv (by omega) (by omega)]; rfl
  rw [readP_long hb hv (by omega) (by omega)]; exact Pk.In.zero _
 refine C.condF f55 rfl ?_
 refine C.sk fun K15 hK15 => ?_
 refine L.mv f55 fun a56 f56 => ?_
 refine L.mv f56 fun a57 f57 => ?_
 refine L.va f57 (E.lenL f57 U22 rfl) fun a58 f58 => ?_
 refine L.va f58 (E.gtr f58 rfl rfl) fun a59 f59 => ?_
 refine L.ag f59 fun a60 f60 => ?_
 refine wpList_nil (hK15 _ _ ?_)
 have f61 := f60.sub (sc 0 (sc 2 (sc 5 (sc 8 (sc 10 (sc 48 sn))))))
 clear f54 f55 a53 f56 a56 f57 a57 f58 a58 f59 a59 f60
 refine f61.splitD 48 rfl (fun h4 f62 => ?_) (fun h4 f62 => ?_)
 ·refine C.condT f62 rfl ?_
  refine C.sk fun K16 hK16 => ?_
  refine L.va f62 (E.build f62 (parts0 f62) (wbl28__wl)) fun a63 f63 => ?_
  refine L.storeR f63 wantedN wsz28_wl rfl rfl rfl Bg0 rfl rfl fun a64 w5 f64 NB5 ks5 => ?_
  have szw5 := ks5.size
  replace HK := HK.trans ks5 (ktr (by omega))
  replace Bg2 := Bg2.kept ks5 (by simp; omega)
  replace SA1 := SA1.kept1 ks5 Bg0 (by decide) (by omega)
  replace Bg0 := NB5
  clear f61 f62 a60 ks5 f63 a63
  refine L.ag f64 fun a65 f65 => ?_
  refine L.ag f65 fun a66 f66 => ?_
  refine wpList_nil (hK16 _ _ ?_)
  have f67 := f66.sub (sc 2 (sc 3 (sc 4 sn)))
  refine wp_ret ?_
  try simp only [Exit.inBlock, Exit.then]
  refine C.retC3 (P := Tryd.prog) (fn := Tryd.f23) f67 rfl rfl rfl rfl Bg0 U28 rfl wsz28_wl ?_
  clear f64 a64 f65 a65 f66
  refine ⟨HK, ?_, s0, ?_, ?_⟩
  ·rw [readP_short hb hv (by omega) (by omega) (by omega)]; exact Pk.Len.zero
  ·rw [readP_short hb hv (by omega) (by omega) (by omega)]; rfl
  rw [readP_short hb hv (by omega) (by omega) (by omega)]; exact Pk.In.zero _
 refine C.condF f62 rfl ?_
 refine wp_skip (hK10 _ _ ?_)
 have f63 := f62.sub (sc 0 (sc 2 (sc 5 (sc 8 (sc 10 sn)))))
 refine C.sk fun K17 hK17 => ?_
 refine L.mv f63 fun a64 f64 => ?_
 refine L.mv f64 fun a65 f65 => ?_
 refine L.va f65 (E.add f65 rfl rfl (IntWalk.i64_in _ (by omega))) fun a66 f66 => ?_
 refine L.mv f66 fun a67 f67 => ?_
 refine L.va f67 (E.slL f67 U22 wsz5_wl rfl rfl rfl (by omega) (by omega) (by omega)) fun a68 f68 => ?_
 obtain ⟨A2, c2, hv_, SA2, hcA2⟩ := cut_mid (lo := sz + 1) (n := n) (hi := 1 + (sz : Int) + (n : Int)) (lo' := 1 + (sz : Int)) SA HK hcap (by omega) (by omega) (by omega) (by omega)
 have f69 := f68.as (i := 58) (v' := .slice A2 ((t.drop sz).take n).length c2) rfl hv_
 clear f61 f62 f63 a60 f64 a64 f65 a65 f66 a66 f67 a67 f68 hv_
 refine L.va f69 (E.build f69 (parts1 f69 rfl) (wbl91_0_wl _ _ _)) fun a70 f70 => ?_
 refine L.box f70 wantedN (by decide) rfl rfl fun a71 w5 g4 N4 f71 => ?_
 have Bg4 := N4.blk
 have kg4 := N4.kept
 have log4 := N4.lo
 have ltg4 := Bg4.lt
 have szw5 := kg4.size
 have frg4 : w.heap.size ≤ g4 := Nat.le_trans HK.size log4
 have neg0_g4 : g0 ≠ g4 := by have := Bg0.lt; omega
 have neg2_g4 : g2 ≠ g4 := by have := Bg2.lt; omega
 replace HK := HK.trans kg4 (by simp)
 replace Bg0 := Bg0.kept kg4 (by simp)
 replace Bg2 := Bg2.kept kg4 (by simp)
 replace SA1 := SA1.kept0 kg4
 replace SA2 := SA2.kept0 kg4
 clear f69 a68 N4 kg4
 refine L.ag f71 fun a72 f72 => ?_
 refine wpList_nil (hK17 _ _ ?_)
 have f73 := f72.sub (sc 0 (sc 2 (sc 5 (sc 10 (sc 11 sn)))))
 refine C.sk fun K18 hK18 => ?_
 refine L.mv f73 fun a74 f74 => ?_
 have RD : RdAt w5 w.heap.size g4 ⟨(t.drop sz).take n, false⟩ := ⟨by omega, A2, c2, Bg4, SA2, hcA2, by rw [List.length_take]; omega⟩
 refine L.cl f74 (run_call Tryd.call59 (args2 f74 rfl rfl)) (rest_any (begunP c0.toNat) (fun h => begunP_1 h) (begunP_z _) w.heap.size g4 g2 _ _ RD (by omega) (by omega) HK.size Bg2) ?_
 clear f70 a70 f71 a71 f72 f73 a72
 rintro e w6 ⟨pp, rr, ss, hq, rfl, kc6, RDn, BPn, PN⟩
 clear RD
 refine ⟨_, rfl, fun a75 f75 => ?_⟩
 have szw6 := kc6.size
 have HKn := HK.trans kc6 (by intro x hx hlt; simp at hx; rcases hx with rfl | rfl <;> (exfalso; omega))
 have B0n := Bg0.kept kc6 (by simp; omega)
 clear f74 a74 HK Bg0 Bg4 Bg2 kc6
 have HK := HKn
 have Bg0 := B0n
 have Bg2 := BPn
 clear HKn B0n BPn
 have hpl : pp.Len := by have h := rest_len (begunP_len c0.toNat) (begunP_z _) (r := ⟨(t.drop sz).take n, false⟩) (by rw [List.length_take]; omega); rw [hq] at h; exact h
 obtain ⟨_, Ar, cr, BG, -, -⟩ := RDn
 refine wpList_nil (hK18 _ _ ?_)
 have f76 := f75.sub (sc 0 (sc 2 (sc 5 (sc 10 (sc 11 sn)))))
 refine wp_seq_k fun K19 hK19 => ?_
 refine C.sk fun K20 hK20 => ?_
 refine L.va f76 (by exact E.loadB f76 U28 rfl wsz28_wl rfl (Bg2) rfl) fun a77 f77 => ?_
 refine L.cl f77 (run_call Tryd.call17 (args1 f77 rfl)) (wput_any pp ss _ PN.toIn hpl (hT.old (HK.below (by simp) (Nat.le_refl _)))) ?_
 clear f75 f76 a75
 rintro e w7 ⟨kc7, Aw, cw, rfl, FW⟩
 refine ⟨_, rfl, fun a78 f78 => ?_⟩
 have szw7 := kc7.size
 replace HK := HK.trans kc7 (by simp)
 replace Bg0 := Bg0.kept kc7 (by simp)
 replace Bg2 := Bg2.kept kc7 (by simp)
 replace BG := BG.kept kc7 (by simp)
 replace PN := PN.kept0 kc7
 clear f77 a77 kc7
 refine L.mv f78 fun a79 f79 => ?_
 refine L.va f79 (E.extract f79 rfl rfl) fun a80 f80 => ?_
 refine L.va f80 (E.extract f80 rfl rfl) fun a81 f81 => ?_
 refine L.ag f81 fun a82 f82 => ?_
 refine L.ag f82 fun a83 f83 => ?_
 refine wpList_nil (hK20 _ _ ?_)
 have f84 := f83.sub (sc 0 (sc 2 (sc 5 (sc 10 (sc 11 (sc 12 (sc 13 sn)))))))
 refine C.sk fun K21 hK21 => ?_
 refine L.mv f84 fun a85 f85 => ?_
 refine L.va f85 (E.nilCheck f85 rfl) fun a86 f86 => ?_
 clear f78 a78 f79 a79 f80 a80 f81 a81 f82 a82 f83 f84 a83 f85 a85
 refine L.fa 1 f86 U91 rfl wsz4_wl fun a87 f87 => ?_
 refine L.ld f87 U4 BG fun a88 f88 => ?_
 refine L.mv f88 fun a89 f89 => ?_
 clear f86 a86 f87 a87 f88 a88
 refine f89.split 72 rfl (fun h5 f90 => ?_) (fun h5 f90 => ?_)
 ·have hlk : rr.lk = true := h5
  refine L.sk f90 (f90.noF rfl rfl) fun a91 f91 => ?_
  refine L.sk f91 (f91.noF rfl rfl) fun a92 f92 => ?_
  refine L.va f92 (E.pickT f92 rfl rfl) fun a93 f93 => ?_
  refine L.mv f93 fun a94 f94 => ?_
  refine L.sk f94 (f94.noF rfl rfl) fun a95 f95 => ?_
  refine L.sk f95 (f95.noF rfl rfl) fun a96 f96 => ?_
  refine L.sk f96 (f96.noF rfl rfl) fun a97 f97 => ?_
  clear f89 f90 a89 f91 a91 f92 a92 f93 a93 f94 a94 f95 a95 f96 a96
  refine L.sk f97 (f97.noF rfl rfl) fun a98 f98 => ?_
  refine L.run f98 (rest' := []) (by kernel_rfl) fun a99 f99 => ?_
  clear f97 a97
  skip
  refine wpList_nil (hK21 _ _ ?_)
  have f100 := f99.sub (sub_cons (i := 2) (Fr.kept f99 (by kernel_rfl) rfl) (sub_cons (i := 5) (Fr.kept f99 (by kernel_rfl) rfl) (sub_cons (i := 10) (Fr.kept f99 (by kernel_rfl) rfl) (sub_cons (i := 83) (v := .bool true) (by kernel_rfl) sn))))
  refine C.condT f100 rfl ?_
  refine C.sk fun K22 hK22 => ?_
  refine L.va f100 (E.build f100 (parts0 f100) (wbl28__wl)) fun a101 f101 => ?_
  refine L.storeR f101 wantedN wsz28_wl rfl rfl rfl Bg0 rfl rfl fun a102 w8 f102 NB8 ks8 => ?_
  have szw8 := ks8.size
  replace HK := HK.trans ks8 (ktr (by omega))
  replace Bg2 := Bg2.kept ks8 (by simp; omega)
  replace BG := BG.kept ks8 (by simp; omega)
  replace PN := PN.kept1 ks8 Bg0 (by decide) (by omega)
  replace FW := FW.keptB ks8 Bg0 (by decide)
  replace Bg0 := NB8
  clear f99 f98 f100 a99 ks8 f101 a101
  refine L.ag f102 fun a103 f103 => ?_
  refine L.ag f103 fun a104 f104 => ?_
  refine wpList_nil (hK22 _ _ ?_)
  have f105 := f104.sub (sc 2 (sc 3 (sc 4 sn)))
  refine wp_ret ?_
  try simp only [Exit.inBlock, Exit.then]
  refine C.retC3 (P := Tryd.prog) (fn := Tryd.f23) f105 rfl rfl rfl rfl Bg0 U28 rfl wsz28_wl ?_
  have hx : readP (c0 :: t) = ({}, 0, 21) := readP_no hb hv (by omega) (by omega) (by omega) hq (by exact fun q => absurd q.1 (by rw [hlk]; decide))
  clear f102 a102 f103 a103 f104
  refine ⟨HK, ?_, s0, ?_, ?_⟩
  ·rw [hx]; exact Pk.Len.zero
  ·rw [hx]; rfl
  rw [hx]; exact Pk.In.zero _
 have hlk : rr.lk = false := h5
 refine L.mv f90 (hw := (f90.yes rfl rfl)) fun a91 f91 => ?_
 refine L.va f91 (E.neq f91 rfl rfl) (hw := (f91.yes rfl rfl)) fun a92 f92 => ?_
 refine L.va f92 (E.pickF f92 rfl rfl) fun a93 f93 => ?_
 refine L.mv f93 fun a94 f94 => ?_
 clear f89 f90 a89 f91 a91 f92 a92 f93 a93
 refine f94.splitN 76 rfl (fun h6 f95 => ?_) (fun h6 f95 => ?_)
 ·refine L.sk f95 (f95.noF rfl rfl) fun a96 f96 => ?_
  refine L.sk f96 (f96.noF rfl rfl) fun a97 f97 => ?_
  refine L.sk f97 (f97.noF rfl rfl) fun a98 f98 => ?_
  refine L.sk f98 (f98.noF rfl rfl) fun a99 f99 => ?_
  refine L.run f99 (rest' := []) (by kernel_rfl) fun a100 f100 => ?_
  clear f94 f95 a94 f96 a96 f97 a97 f98 a98
  skip
  refine wpList_nil (hK21 _ _ ?_)
  have f101 := f100.sub (sub_cons (i := 2) (Fr.kept f100 (by kernel_rfl) rfl) (sub_cons (i := 5) (Fr.kept f100 (by kernel_rfl) rfl) (sub_cons (i := 10) (Fr.kept f100 (by kernel_rfl) rfl) (sub_cons (i := 83) (v := .bool true) (by kernel_rfl) sn))))
  refine C.condT f101 rfl ?_
  refine C.sk fun K23 hK23 => ?_
  refine L.va f101 (E.build f101 (parts0 f101) (wbl28__wl)) fun a102 f102 => ?_
  refine L.storeR f102 wantedN wsz28_wl rfl rfl rfl Bg0 rfl rfl fun a103 w8 f103 NB8 ks8 => ?_
  have szw8 := ks8.size
  replace HK := HK.trans ks8 (ktr (by omega))
  replace Bg2 := Bg2.kept ks8 (by simp; omega)
  replace BG := BG.kept ks8 (by simp; omega)
  replace PN := PN.kept1 ks8 Bg0 (by decide) (by omega)
  replace FW := FW.keptB ks8 Bg0 (by decide)
  replace Bg0 := NB8
  clear f100 f99 f101 a100 ks8 f102 a102
  refine L.ag f103 fun a104 f104 => ?_
  refine L.ag f104 fun a105 f105 => ?_
  refine wpList_nil (hK23 _ _ ?_)
  have f106 := f105.sub (sc 2 (sc 3 (sc 4 sn)))
  refine wp_ret ?_
  try simp only [Exit.inBlock, Exit.then]
  refine C.retC3 (P := Tryd.prog) (fn := Tryd.f23) f106 rfl rfl rfl rfl Bg0 U28 rfl wsz28_wl ?_
  have hx : readP (c0 :: t) = ({}, 0, 21) := readP_no hb hv (by omega) (by omega) (by omega) hq (by exact fun q => absurd (putB_1 q.2.1) (by omega))
  clear f103 a103 f104 a104 f105
  refine ⟨HK, ?_, s0, ?_, ?_⟩
  ·rw [hx]; exact Pk.Len.zero
  ·rw [hx]; rfl
  rw [hx]; exact Pk.In.zero _
 refine L.mv f95 (hw := (f95.yes rfl rfl)) fun a96 f96 => ?_
 refine L.mv f96 (hw := (f96.yes rfl rfl)) fun a97 f97 => ?_
 refine L.mv f97 (hw := (f97.yes rfl rfl)) fun a98 f98 => ?_
 refine L.va f98 (E.slLhi f98 U22 wsz5_wl rfl rfl (by omega) (by omega)) (hw := (f98.yes rfl rfl)) fun a99 f99 => ?_
 obtain ⟨A3, c3, hv_, SA3, hcA3⟩ := cut_hi (k := sz + n + 1) (hi := 1 + (sz : Int) + (n : Int)) SA HK hcap (by omega) (by omega)
 have f100 := f99.as (i := 80) (v' := .slice A3 ((c0 :: t).take (sz + n + 1)).length c3) rfl hv_
 clear f94 f95 a94 f96 a96 f97 a97 f98 a98 f99 hv_
 refine L.cl f100 (run_call Tryd.call51 (args2 f100 rfl rfl)) (beq_any _ _ _ _ _ _ _ FW.sl SA3.toSl) ?_ (hw := (f100.yes rfl rfl))
 rintro e w7x ⟨rfl, rfl⟩
 refine ⟨_, rfl, fun a101 f101 => ?_⟩
 refine L.va f101 (E.not f101 rfl) (hw := (f101.yes rfl rfl)) fun a102 f102 => ?_
 refine L.va f102 (E.pickF f102 rfl rfl) fun a103 f103 => ?_
 refine wpList_nil (hK21 _ _ ?_)
 have f104 := f103.sub (sc 2 (sc 5 (sc 10 (sc 83 sn))))
 clear f100 a99 f101 a101 f102 a102 f103
 refine f104.splitN 83 rfl (fun h7 f105 => ?_) (fun h7 f105 => ?_)
 ·have hEq := h7
  refine C.condT f105 rfl ?_
  refine C.sk fun K24 hK24 => ?_
  refine L.va f105 (E.build f105 (parts0 f105) (wbl28__wl)) fun a106 f106 => ?_
  refine L.storeR f106 wantedN wsz28_wl rfl rfl rfl Bg0 rfl rfl fun a107 w8 f107 NB8 ks8 => ?_
  have szw8 := ks8.size
  replace HK := HK.trans ks8 (ktr (by omega))
  replace Bg2 := Bg2.kept ks8 (by simp; omega)
  replace BG := BG.kept ks8 (by simp; omega)
  replace PN := PN.kept1 ks8 Bg0 (by decide) (by omega)
  replace FW := FW.keptB ks8 Bg0 (by decide)
  replace SA3 := SA3.kept1 ks8 Bg0 (by decide) (by omega)
  replace Bg0 := NB8
  clear f104 f105 a103 ks8 f106 a106
  refine L.ag f107 fun a108 f108 => ?_
  refine L.ag f108 fun a109 f109 => ?_
  refine wpList_nil (hK24 _ _ ?_)
  have f110 := f109.sub (sc 2 (sc 3 (sc 4 sn)))
  refine wp_ret ?_
  try simp only [Exit.inBlock, Exit.then]
  refine C.retC3 (P := Tryd.prog) (fn := Tryd.f23) f110 rfl rfl rfl rfl Bg0 U28 rfl wsz28_wl ?_
  have hx : readP (c0 :: t) = ({}, 0, 21) := readP_no hb hv (by omega) (by omega) (by omega) hq (by exact fun q => hEq (by rw [putB_t q.2.1]; exact q.2.2))
  clear f107 a107 f108 a108 f109
  refine ⟨HK, ?_, s0, ?_, ?_⟩
  ·rw [hx]; exact Pk.Len.zero
  ·rw [hx]; rfl
  rw [hx]; exact Pk.In.zero _
 have hEq := h7
 refine C.condF f105 rfl ?_
 refine wp_skip (hK19 _ _ ?_)
 have f106 := f105.sub (sc 2 (sc 5 (sc 10 sn)))
 refine C.sk fun K25 hK25 => ?_
 refine L.va f106 (by exact E.loadB f106 U28 rfl wsz28_wl rfl (Bg2) rfl) fun a107 f107 => ?_
 refine L.mv f107 fun a108 f108 => ?_
 refine L.storeR f108 wantedN wsz28_wl rfl rfl rfl Bg0 rfl rfl fun a109 w8 f109 NB8 ks8 => ?_
 have szw8 := ks8.size
 replace HK := HK.trans ks8 (ktr (by omega))
 replace Bg2 := Bg2.kept ks8 (by simp; omega)
 replace BG := BG.kept ks8 (by simp; omega)
 replace PN := PN.kept1 ks8 Bg0 (by decide) (by omega)
 replace FW := FW.keptB ks8 Bg0 (by decide)
 replace SA3 := SA3.kept1 ks8 Bg0 (by decide) (by omega)
 replace Bg0 := NB8
 clear f104 f105 f106 a103 f107 a107 ks8 f108 a108
 refine L.ag f109 fun a110 f110 => ?_
 refine L.ag f110 fun a111 f111 => ?_
 refine wpList_nil (hK25 _ _ ?_)
 have f112 := f111.sub (sc 2 (sc 3 (sc 4 sn)))
 refine wp_ret ?_
 try simp only [Exit.inBlock, Exit.then]
 refine C.retC3 (P := Tryd.prog) (fn := Tryd.f23) f112 rfl rfl rfl rfl Bg0 U28 rfl wsz28_wl ?_
 have hr : rightB pp = true := putB_0 (by omega)
 have he : encL pp = c0 :: t.take (sz + n) := by rw [putB_t hr] at hEq; exact hEq
 have hx := readP_ok hb hv (by omega) (by omega) (by omega) hq hlk hr he
 refine ⟨HK, by rw [hx]; exact hpl, ss, ?_, by rw [hx]; exact PN.toIn⟩
 rw [hx]
end Go.Proofs.YtigjafbbnocihaaDoor
namespace Go.Proofs.YtigjafbbnocihaaDoor
open Go.RowKit Go.Hub Go.Lib Go.Vl
theorem wzi5_xa : (Tryd.prog.info? 5).map (fun i => (i.zero, i.size)) = some (some (.int .u8 0), 1) := by kernel_rfl
theorem wbs22_2_xa (x0 : Int) (x1 : Int) : Instr.fill (fun i => some (i * 1, 1)) ((Array.range (2 * 1)).map fun j => (Value.cells (.int .u8 0))[j % (Value.cells (.int .u8 0)).size]!) [(0, .int .u8 x0), (1, .int .u8 x1)] = some #[.int .u8 x0, .int .u8 x1] := by kernel_rfl
theorem wbs22_3_xa (x0 : Int) (x1 : Int) (x2 : Int) : Instr.fill (fun i => some (i * 1, 1)) ((Array.range (3 * 1)).map fun j => (Value.cells (.int .u8 0))[j % (Value.cells (.int .u8 0)).size]!) [(0, .int .u8 x0), (1, .int .u8 x1), (2, .int .u8 x2)] = some #[.int .u8 x0, .int .u8 x1, .int .u8 x2] := by kernel_rfl
theorem wsz3_xa : (Tryd.prog.info? 3).map (·.size) = some 1 := by kernel_rfl
theorem wsz28_xa : (Tryd.prog.info? 28).map (·.size) = some 24 := by kernel_rfl
theorem wbl28__xa  : Tryd.prog.built 28 [] = some #[(.int .i64 0), (.bool false), (.bool false), (.int .i64 0), (.int .i64 0), (.string ⟨#[]⟩), (.slice none 0 0), (.int .i64 0), (.string ⟨#[]⟩), (.bool false), (.int .i64 0), (.bool false), (.string ⟨#[]⟩), (.slice none 0 0), (.int .i64 0), (.bool false), (.bool false), (.bool false), (.string ⟨#[]⟩), (.slice none 0 0), (.bool false), (.int .i64 0), (.slice none 0 0), (.slice none 0 0)] := by kernel_rfl
theorem wbl28_0_xa (x0 : Int) : Tryd.prog.built 28 [(0, .int .i64 x0)] = some #[.int .i64 x0, (.bool false), (.bool false), (.int .i64 0), (.int .i64 0), (.string ⟨#[]⟩), (.slice none 0 0), (.int .i64 0), (.string ⟨#[]⟩), (.bool false), (.int .i64 0), (.bool false), (.string ⟨#[]⟩), (.slice none 0 0), (.int .i64 0), (.bool false), (.bool false), (.bool false), (.string ⟨#[]⟩), (.slice none 0 0), (.bool false), (.int .i64 0), (.slice none 0 0), (.slice none 0 0)] := by kernel_rfl
def PutV (v : List UInt8 × Int) (w : World) (e : Ending) (w' : World) : Prop := Kept [] w w' ∧ ∃ A c, e = .returned (.tuple #[.slice A v.1.length c, .int .i64 v.2]) ∧ FB w w' A c v.1
theorem putV_of {p : Pk} {v : List UInt8 × Int} {w w' : World} {e : Ending} (hv : putB p = v) (h : PutW p w e w') : PutV v w e w' := by subst hv; exact h
theorem readV_of {l : List UInt8} {v : Pk × Int × Int} {w w' : World} {e : Ending} (hv : readP l = v) (h : ReadW (readP l) w e w') : ReadW v w e w' := by subst hv; exact h
theorem kindLen (k : Int) : Pk.Len { kind := k } := ⟨by simp, by simp, by simp, by simp, by simp, em_le, em_le, em_le, em_le, by simp⟩
theorem kindIn (k : Int) (w : World) : Pk.In w { kind := k } s0 := ⟨Sl.nil _ _ _, Sl.nil _ _ _, Sl.nil _ _ _, Sl.nil _ _ _, Sl.nil _ _ _⟩
theorem right0 : rightB {} = false := by simp [rightB, inB]
theorem rightK (k : Int) (h : 12 ≤ k ∧ k ≤ 14) : RightP { kind := k } := by
  have hn : numB { kind := k } = false := by simp [numB, inB]; omega
  refine ⟨inB_iff.2 (by constructor <;> (show _ ≤ _) <;> simp <;> omega), ?_, ?_, ?_⟩
  · unfold bareP
    simp only
    rw [if_neg (by omega), if_neg (by omega), if_neg (by omega), if_neg (by omega), if_neg (by omega), if_neg (by rw [hn]; decide)]
  · unfold valB
    rw [hn]
    simp only
    rw [if_neg (by omega), if_neg (by omega), if_neg (by omega), if_neg (by omega), if_neg (by omega), if_neg (by omega)]
    rfl
  unfold behindL
  simp only
  rw [if_neg (by omega), if_neg (by omega), if_neg (by omega), hn]
  simp
theorem behindK (k : Int) (h : 12 ≤ k ∧ k ≤ 14) : behindL { kind := k } = [] := by
  have hn : numB { kind := k } = false := by simp [numB, inB]; omega
  unfold behindL
  simp only
  rw [if_neg (by omega), if_neg (by omega), if_neg (by omega), hn]
  rfl
theorem put12 : putB { kind := 12 } = ([192, 0], 0) := by
  rw [putB_t (rightB_iff.2 (rightK 12 (by decide)))]
  unfold encL
  rw [behindK 12 (by decide)]
  rfl
theorem read13 : readP [208, 0, 7] = ({ kind := 13 }, 2, 0) := by
  have h := read_enc (rightK 13 (by decide)) [7]
  unfold encL at h
  rw [behindK 13 (by decide)] at h
  exact h
theorem read12 : readP [192, 1, 7] = ({}, 0, 21) := by kernel_rfl
theorem read48 : readP [48, 5] = ({}, 0, 20) := by kernel_rfl
theorem sl_lit {w : World} {g : Nat} {cs : Array Value} (B : Blk w g 5 cs) (l : List UInt8) (h : cs.toList = l.map u8) : Sl w (some ⟨g, 0, none⟩) l.length 1 (l.map u8) := by
  have hs : cs.size = l.length * 1 := by
    have := congrArg List.length h
    simpa using this
  have := B.slN hs
  rwa [h] at this
theorem own_cap {w : World} {e size n c : Nat} {A : Option Addr} {xs : List Value} (h : Own w e size (.slice A n c) n xs) : n ≤ c := by
  rcases h.2 with ⟨_, h0⟩ | ⟨g, off, cap, cur, hv, _, hc, _⟩
  · omega
  injection hv with _ _ h3
  omega
def InFar (p : Pk) (s : Ad) (x : Nat) : Prop := (0 < p.pay.length → ∀ a, s.pa = some a → a.block ≠ x) ∧ (0 < p.wp.length → ∀ a, s.wa = some a → a.block ≠ x) ∧ (0 < p.pass.length → ∀ a, s.sa = some a → a.block ≠ x) ∧ (0 < p.subs.length → ∀ a, s.ua = some a → a.block ≠ x) ∧ (0 < p.codes.length → ∀ a, s.ca = some a → a.block ≠ x)
theorem sl_far {w : World} {A : Option Addr} {n size x : Nat} {xs : List Value} (h : Sl w A n size xs) (hx : w.heap.size ≤ x) (hn : 0 < n) : ∀ a, A = some a → a.block ≠ x := fun a ha => by
  obtain ⟨b, off, e, hb, _⟩ := h.2 hn
  rw [ha] at e
  injection e with e
  subst e
  show b ≠ x
  omega
theorem sl_keptF {w w' : World} {A : Option Addr} {n size x : Nat} {xs : List Value} (h : Sl w A n size xs) (hk : Kept [x] w w') (hf : 0 < n → ∀ a, A = some a → a.block ≠ x) : Sl w' A n size xs := by
  rcases Nat.eq_zero_or_pos n with h0 | h0
  · exact ⟨h.1, fun h1 => by omega⟩
  exact h.keptF hk fun a ha hx => hf h0 a ha (by simpa using hx)
theorem _root_.Go.Hub.Pk.In.far {w : World} {p : Pk} {s : Ad} {x : Nat} (h : p.In w s) (hx : w.heap.size ≤ x) : InFar p s x := ⟨sl_far h.pay hx, sl_far h.wp hx, sl_far h.pass hx, sl_far h.subs hx, sl_far h.codes hx⟩
theorem _root_.Go.Hub.Pk.In.keptF {w w' : World} {p : Pk} {s : Ad} {x : Nat} (h : p.In w s) (hk : Kept [x] w w') (f : InFar p s x) : p.In w' s := ⟨sl_keptF h.pay hk f.1, sl_keptF h.wp hk f.2.1, sl_keptF h.pass hk f.2.2.1, sl_keptF h.subs hk f.2.2.2.1, sl_keptF h.codes hk f.2.2.2.2⟩
set_option maxHeartbeats 1000000 in
theorem known_any (w : World) (hT : Tabs w) : Calls Tryd.prog 13 #[] w (fun e w' => Kept [] w w' ∧ e = .returned (.bool true)) := by
 have HK : Kept [] w w := Kept.refl [] w
 refine C.enter Tryd.func13 rfl Tryd.ntmps13 rfl ?_
 intro a0 f0
 have f1 : Fr 68 a0 [] := f0
 refine C.sk fun K0 hK0 => ?_
 refine L.ag f1 fun a2 f2 => ?_
 refine wpList_nil (hK0 _ _ ?_)
 have f3 := f2.sub sn
 refine C.sk fun K1 hK1 => ?_
 refine L.va f3 (E.build f3 (parts1 f3 rfl) (wbl28_0_xa _)) fun a4 f4 => ?_
 have hC := (wput_any { kind := 12 } _ w (kindIn 12 _) (kindLen 12) (hT.old (HK.below (by simp) (Nat.le_refl _)))).mono (fun _ _ h => putV_of (v := ([192, 0], 0)) put12 h)
 refine L.cl f4 (run_call Tryd.call17 (args1 f4 rfl)) hC ?_
 clear f0 f1 a0 f2 f3 a2
 rintro e w1 ⟨kc1, AP, cP, rfl, FP⟩
 refine ⟨_, rfl, fun a5 f5 => ?_⟩
 have szw1 := kc1.size
 replace HK := HK.trans kc1 (by simp)
 clear f4 a4 kc1
 refine L.mv f5 fun a6 f6 => ?_
 refine L.va f6 (E.extract f6 rfl rfl) fun a7 f7 => ?_
 refine L.va f7 (E.extract f7 rfl rfl) fun a8 f8 => ?_
 refine L.ag f8 fun a9 f9 => ?_
 refine L.ag f9 fun a10 f10 => ?_
 refine wpList_nil (hK1 _ _ ?_)
 have f11 := f10.sub (sc 1 (sc 2 sn))
 refine C.sk fun K2 hK2 => ?_
 refine L.buildSlice f11 wantedN (by decide) (parts3 f11 rfl rfl rfl) U22 wzi5_xa rfl rfl (wbs22_3_xa _ _ _) fun a12 w2 g1 N1 f12 => ?_
 have Bg1 := N1.blk
 have kg1 := N1.kept
 have log1 := N1.lo
 have ltg1 := Bg1.lt
 have szw2 := kg1.size
 have frg1 : w.heap.size ≤ g1 := Nat.le_trans HK.size log1
 replace HK := HK.trans kg1 (by simp)
 replace FP := FP.kept0 kg1
 clear f5 a5 f6 a6 f7 a7 f8 a8 f9 a9 f10 N1 kg1
 have SQ := sl_lit Bg1 [208, 0, 7] rfl
 have hC := (wread_any [208, 0, 7] _ 3 w2 SQ (by simp) (by simp) (hT.old (HK.below (by simp) (Nat.le_refl _)))).mono (fun _ _ h => readV_of (v := ({ kind := 13 }, 2, 0)) read13 h)
 refine L.cl f12 (run_call Tryd.call23 (args1 f12 rfl)) hC ?_
 clear f11 a10
 rintro e w3 ⟨kc3, hpl3, ss3, rfl, IN3⟩
 refine ⟨_, rfl, fun a13 f13 => ?_⟩
 have szw3 := kc3.size
 replace HK := HK.trans kc3 (by simp)
 replace FP := FP.kept0 kc3
 replace Bg1 := Bg1.kept kc3 (by simp)
 clear f12 a12 kc3
 clear SQ
 refine L.mv f13 fun a14 f14 => ?_
 refine L.va f14 (E.extract f14 rfl rfl) fun a15 f15 => ?_
 refine L.va f15 (E.extract f15 rfl rfl) fun a16 f16 => ?_
 refine L.va f16 (E.extract f16 rfl rfl) fun a17 f17 => ?_
 refine L.alloc f17 wantedN (by decide) (z := (.agg #[(.int .i64 0), (.bool false), (.bool false), (.int .i64 0), (.int .i64 0), (.string ⟨#[]⟩), (.slice none 0 0), (.int .i64 0), (.string ⟨#[]⟩), (.bool false), (.int .i64 0), (.bool false), (.string ⟨#[]⟩), (.slice none 0 0), (.int .i64 0), (.bool false), (.bool false), (.bool false), (.string ⟨#[]⟩), (.slice none 0 0), (.bool false), (.int .i64 0), (.slice none 0 0), (.slice none 0 0)])) (fun _ => by kernel_rfl) rfl fun a18 w4 g3 N3 f18 => ?_
 have Bg3 := N3.blk
 have kg3 := N3.kept
 have log3 := N3.lo
 have ltg3 := Bg3.lt
 have szw4 := kg3.size
 have frg3 : w.heap.size ≤ g3 := Nat.le_trans HK.size log3
 have neg1_g3 : g1 ≠ g3 := by have := Bg1.lt; omega
 replace HK := HK.trans kg3 (by simp)
 replace FP := FP.kept0 kg3
 replace Bg1 := Bg1.kept kg3 (by simp)
 clear f13 a13 f14 a14 f15 a15 f16 a16 N3 kg3
 refine L.storeR f18 wantedN wsz28_xa rfl rfl rfl Bg3 rfl rfl fun a19 w5 f19 NB5 ks5 => ?_
 have szw5 := ks5.size
 replace HK := HK.trans ks5 (ktr (by omega))
 replace FP := FP.keptB ks5 Bg3 (by decide)
 replace Bg1 := Bg1.kept ks5 (by simp; omega)
 replace Bg3 := NB5
 clear f17 a17 ks5 f18 a18
 refine L.ag f19 fun a20 f20 => ?_
 refine L.ag f20 fun a21 f21 => ?_
 refine wpList_nil (hK2 _ _ ?_)
 have f22 := f21.sub (sc 1 (sc 2 (sc 3 (sc 4 (sc 5 sn)))))
 refine C.sk fun K3 hK3 => ?_
 refine L.buildSlice f22 wantedN (by decide) (parts3 f22 rfl rfl rfl) U22 wzi5_xa rfl rfl (wbs22_3_xa _ _ _) fun a23 w6 g5 N5 f23 => ?_
 have Bg5 := N5.blk
 have kg5 := N5.kept
 have log5 := N5.lo
 have ltg5 := Bg5.lt
 have szw6 := kg5.size
 have frg5 : w.heap.size ≤ g5 := Nat.le_trans HK.size log5
 have neg1_g5 : g1 ≠ g5 := by have := Bg1.lt; omega
 have neg3_g5 : g3 ≠ g5 := by have := Bg3.lt; omega
 replace HK := HK.trans kg5 (by simp)
 replace FP := FP.kept0 kg5
 replace Bg1 := Bg1.kept kg5 (by simp)
 replace Bg3 := Bg3.kept kg5 (by simp)
 clear f19 a19 f20 a20 f21 N5 kg5
 have SQ := sl_lit Bg5 [192, 1, 7] rfl
 have hC := (wread_any [192, 1, 7] _ 3 w6 SQ (by simp) (by simp) (hT.old (HK.below (by simp) (Nat.le_refl _)))).mono (fun _ _ h => readV_of (v := ({}, 0, 21)) read12 h)
 refine L.cl f23 (run_call Tryd.call23 (args1 f23 rfl)) hC ?_
 clear f22 a21
 rintro e w7 ⟨kc7, hpl7, ss7, rfl, IN7⟩
 refine ⟨_, rfl, fun a24 f24 => ?_⟩
 have szw7 := kc7.size
 replace HK := HK.trans kc7 (by simp)
 replace FP := FP.kept0 kc7
 replace Bg1 := Bg1.kept kc7 (by simp)
 replace Bg3 := Bg3.kept kc7 (by simp)
 replace Bg5 := Bg5.kept kc7 (by simp)
 clear f23 a23 kc7
 clear SQ
 refine L.mv f24 fun a25 f25 => ?_
 refine L.va f25 (E.extract f25 rfl rfl) fun a26 f26 => ?_
 refine L.va f26 (E.extract f26 rfl rfl) fun a27 f27 => ?_
 refine L.va f27 (E.extract f27 rfl rfl) fun a28 f28 => ?_
 refine L.alloc f28 wantedN (by decide) (z := (.agg #[(.int .i64 0), (.bool false), (.bool false), (.int .i64 0), (.int .i64 0), (.string ⟨#[]⟩), (.slice none 0 0), (.int .i64 0), (.string ⟨#[]⟩), (.bool false), (.int .i64 0), (.bool false), (.string ⟨#[]⟩), (.slice none 0 0), (.int .i64 0), (.bool false), (.bool false), (.bool false), (.string ⟨#[]⟩), (.slice none 0 0), (.bool false), (.int .i64 0), (.slice none 0 0), (.slice none 0 0)])) (fun _ => by kernel_rfl) rfl fun a29 w8 g7 N7 f29 => ?_
 have Bg7 := N7.blk
 have kg7 := N7.kept
 have log7 := N7.lo
 have ltg7 := Bg7.lt
 have szw8 := kg7.size
 have frg7 : w.heap.size ≤ g7 := Nat.le_trans HK.size log7
 have neg1_g7 : g1 ≠ g7 := by have := Bg1.lt; omega
 have neg3_g7 : g3 ≠ g7 := by have := Bg3.lt; omega
 have neg5_g7 : g5 ≠ g7 := by have := Bg5.lt; omega
 replace HK := HK.trans kg7 (by simp)
 replace FP := FP.kept0 kg7
 replace Bg1 := Bg1.kept kg7 (by simp)
 replace Bg3 := Bg3.kept kg7 (by simp)
 replace Bg5 := Bg5.kept kg7 (by simp)
 clear f24 a24 f25 a25 f26 a26 f27 a27 N7 kg7
 refine L.storeR f29 wantedN wsz28_xa rfl rfl rfl Bg7 rfl rfl fun a30 w9 f30 NB9 ks9 => ?_
 have szw9 := ks9.size
 replace HK := HK.trans ks9 (ktr (by omega))
 replace FP := FP.keptB ks9 Bg7 (by decide)
 replace Bg1 := Bg1.kept ks9 (by simp; omega)
 replace Bg3 := Bg3.kept ks9 (by simp; omega)
 replace Bg5 := Bg5.kept ks9 (by simp; omega)
 replace Bg7 := NB9
 clear f28 a28 ks9 f29 a29
 refine L.ag f30 fun a31 f31 => ?_
 refine L.ag f31 fun a32 f32 => ?_
 refine wpList_nil (hK3 _ _ ?_)
 have f33 := f32.sub (sc 1 (sc 2 (sc 3 (sc 4 (sc 5 (sc 8 sn))))))
 refine C.sk fun K4 hK4 => ?_
 refine L.buildSlice f33 wantedN (by decide) (parts2 f33 rfl rfl) U22 wzi5_xa rfl rfl (wbs22_2_xa _ _) fun a34 w10 g9 N9 f34 => ?_
 have Bg9 := N9.blk
 have kg9 := N9.kept
 have log9 := N9.lo
 have ltg9 := Bg9.lt
 have szw10 := kg9.size
 have frg9 : w.heap.size ≤ g9 := Nat.le_trans HK.size log9
 have neg1_g9 : g1 ≠ g9 := by have := Bg1.lt; omega
 have neg3_g9 : g3 ≠ g9 := by have := Bg3.lt; omega
 have neg5_g9 : g5 ≠ g9 := by have := Bg5.lt; omega
 have neg7_g9 : g7 ≠ g9 := by have := Bg7.lt; omega
 replace HK := HK.trans kg9 (by simp)
 replace FP := FP.kept0 kg9
 replace Bg1 := Bg1.kept kg9 (by simp)
 replace Bg3 := Bg3.kept kg9 (by simp)
 replace Bg5 := Bg5.kept kg9 (by simp)
 replace Bg7 := Bg7.kept kg9 (by simp)
 clear f30 a30 f31 a31 f32 N9 kg9
 have SQ := sl_lit Bg9 [48, 5] rfl
 have hC := (wread_any [48, 5] _ 2 w10 SQ (by simp) (by simp) (hT.old (HK.below (by simp) (Nat.le_refl _)))).mono (fun _ _ h => readV_of (v := ({}, 0, 20)) read48 h)
 refine L.cl f34 (run_call Tryd.call23 (args1 f34 rfl)) hC ?_
 clear f33 a32
 rintro e w11 ⟨kc11, hpl11, ss11, rfl, IN11⟩
 refine ⟨_, rfl, fun a35 f35 => ?_⟩
 have szw11 := kc11.size
 replace HK := HK.trans kc11 (by simp)
 replace FP := FP.kept0 kc11
 replace Bg1 := Bg1.kept kc11 (by simp)
 replace Bg3 := Bg3.kept kc11 (by simp)
 replace Bg5 := Bg5.kept kc11 (by simp)
 replace Bg7 := Bg7.kept kc11 (by simp)
 replace Bg9 := Bg9.kept kc11 (by simp)
 clear f34 a34 kc11
 clear SQ
 refine L.mv f35 fun a36 f36 => ?_
 refine L.va f36 (E.extract f36 rfl rfl) fun a37 f37 => ?_
 refine L.va f37 (E.extract f37 rfl rfl) fun a38 f38 => ?_
 refine L.va f38 (E.extract f38 rfl rfl) fun a39 f39 => ?_
 refine L.alloc f39 wantedN (by decide) (z := (.agg #[(.int .i64 0), (.bool false), (.bool false), (.int .i64 0), (.int .i64 0), (.string ⟨#[]⟩), (.slice none 0 0), (.int .i64 0), (.string ⟨#[]⟩), (.bool false), (.int .i64 0), (.bool false), (.string ⟨#[]⟩), (.slice none 0 0), (.int .i64 0), (.bool false), (.bool false), (.bool false), (.string ⟨#[]⟩), (.slice none 0 0), (.bool false), (.int .i64 0), (.slice none 0 0), (.slice none 0 0)])) (fun _ => by kernel_rfl) rfl fun a40 w12 g11 N11 f40 => ?_
 have Bg11 := N11.blk
 have kg11 := N11.kept
 have log11 := N11.lo
 have ltg11 := Bg11.lt
 have szw12 := kg11.size
 have frg11 : w.heap.size ≤ g11 := Nat.le_trans HK.size log11
 have neg1_g11 : g1 ≠ g11 := by have := Bg1.lt; omega
 have neg3_g11 : g3 ≠ g11 := by have := Bg3.lt; omega
 have neg5_g11 : g5 ≠ g11 := by have := Bg5.lt; omega
 have neg7_g11 : g7 ≠ g11 := by have := Bg7.lt; omega
 have neg9_g11 : g9 ≠ g11 := by have := Bg9.lt; omega
 replace HK := HK.trans kg11 (by simp)
 replace FP := FP.kept0 kg11
 replace Bg1 := Bg1.kept kg11 (by simp)
 replace Bg3 := Bg3.kept kg11 (by simp)
 replace Bg5 := Bg5.kept kg11 (by simp)
 replace Bg7 := Bg7.kept kg11 (by simp)
 replace Bg9 := Bg9.kept kg11 (by simp)
 clear f35 a35 f36 a36 f37 a37 f38 a38 N11 kg11
 refine L.storeR f40 wantedN wsz28_xa rfl rfl rfl Bg11 rfl rfl fun a41 w13 f41 NB13 ks13 => ?_
 have szw13 := ks13.size
 replace HK := HK.trans ks13 (ktr (by omega))
 replace FP := FP.keptB ks13 Bg11 (by decide)
 replace Bg1 := Bg1.kept ks13 (by simp; omega)
 replace Bg3 := Bg3.kept ks13 (by simp; omega)
 replace Bg5 := Bg5.kept ks13 (by simp; omega)
 replace Bg7 := Bg7.kept ks13 (by simp; omega)
 replace Bg9 := Bg9.kept ks13 (by simp; omega)
 replace Bg11 := NB13
 clear f39 a39 ks13 f40 a40
 refine L.ag f41 fun a42 f42 => ?_
 refine L.ag f42 fun a43 f43 => ?_
 refine wpList_nil (hK4 _ _ ?_)
 have f44 := f43.sub (sc 1 (sc 2 (sc 3 (sc 4 (sc 5 (sc 8 (sc 11 sn)))))))
 refine C.sk fun K5 hK5 => ?_
 refine L.mv f44 fun a45 f45 => ?_
 refine L.va f45 (E.eq f45) fun a46 f46 => ?_
 have f47 := f46.as (i := 36) (v' := .bool true) rfl (by rfl)
 refine L.mv f47 fun a48 f48 => ?_
 refine L.mv f48 (hw := (f48.yes rfl rfl)) fun a49 f49 => ?_
 clear f41 a41 f42 a42 f43 f44 a43 f45 a45 f46 f47 a46 f48 a48
 refine L.va f49 (E.toStr f49 rfl U22 U5 U9 (FP.sl)) (hw := (f49.yes rfl rfl)) fun a50 f50 => ?_
 refine L.va f50 (E.eqlS f50 rfl rfl) (hw := (f50.yes rfl rfl)) fun a51 f51 => ?_
 have f52 := f51.as (i := 40) (v' := .bool true) rfl (by rfl)
 refine L.va f52 (E.pickT f52 rfl rfl) fun a53 f53 => ?_
 refine L.mv f53 fun a54 f54 => ?_
 refine L.fa 0 f54 U28 rfl wsz3_xa (hw := (f54.yes rfl rfl)) fun a55 f55 => ?_
 refine L.ld f55 U3 Bg3 (hw := (f55.yes rfl rfl)) fun a56 f56 => ?_
 refine L.va f56 (E.eq f56) (hw := (f56.yes rfl rfl)) fun a57 f57 => ?_
 clear f49 a49 f50 a50 f51 f52 a51 f53 a53 f54 a54 f55 a55 f56 a56
 have f58 := f57.as (i := 45) (v' := .bool true) rfl (by rfl)
 refine L.va f58 (E.pickT f58 rfl rfl) fun a59 f59 => ?_
 refine L.mv f59 fun a60 f60 => ?_
 refine L.mv f60 (hw := (f60.yes rfl rfl)) fun a61 f61 => ?_
 refine L.va f61 (E.eq f61) (hw := (f61.yes rfl rfl)) fun a62 f62 => ?_
 have f63 := f62.as (i := 49) (v' := .bool true) rfl (by rfl)
 refine L.va f63 (E.pickT f63 rfl rfl) fun a64 f64 => ?_
 refine L.mv f64 fun a65 f65 => ?_
 clear f57 f58 a57 f59 a59 f60 a60 f61 a61 f62 f63 a62 f64 a64
 refine L.mv f65 (hw := (f65.yes rfl rfl)) fun a66 f66 => ?_
 refine L.va f66 (E.eq f66) (hw := (f66.yes rfl rfl)) fun a67 f67 => ?_
 have f68 := f67.as (i := 53) (v' := .bool true) rfl (by rfl)
 refine L.va f68 (E.pickT f68 rfl rfl) fun a69 f69 => ?_
 refine L.mv f69 fun a70 f70 => ?_
 refine L.mv f70 (hw := (f70.yes rfl rfl)) fun a71 f71 => ?_
 refine L.va f71 (E.eq f71) (hw := (f71.yes rfl rfl)) fun a72 f72 => ?_
 have f73 := f72.as (i := 57) (v' := .bool true) rfl (by rfl)
 clear f65 a65 f66 a66 f67 f68 a67 f69 a69 f70 a70 f71 a71 f72
 refine L.va f73 (E.pickT f73 rfl rfl) fun a74 f74 => ?_
 refine L.mv f74 fun a75 f75 => ?_
 refine L.mv f75 (hw := (f75.yes rfl rfl)) fun a76 f76 => ?_
 refine L.va f76 (E.eq f76) (hw := (f76.yes rfl rfl)) fun a77 f77 => ?_
 have f78 := f77.as (i := 61) (v' := .bool true) rfl (by rfl)
 refine L.va f78 (E.pickT f78 rfl rfl) fun a79 f79 => ?_
 refine L.mv f79 fun a80 f80 => ?_
 refine L.va f80 (E.build f80 (parts0 f80) (wbl28__xa)) (hw := (f80.yes rfl rfl)) fun a81 f81 => ?_
 clear f73 a72 f74 a74 f75 a75 f76 a76 f77 f78 a77 f79 a79 f80 a80
 refine L.cl f81 (run_call Tryd.call19 (args1 f81 rfl)) (right_any {} s0 _ (Pk.In.zero _) Pk.Len.zero (hT.old (HK.below (by simp) (Nat.le_refl _)))) ?_ (hw := (f81.yes rfl rfl))
 rintro e w14 ⟨kc14, rfl⟩
 refine ⟨_, rfl, fun a82 f82 => ?_⟩
 have szw14 := kc14.size
 replace HK := HK.trans kc14 (by simp)
 replace FP := FP.kept0 kc14
 replace Bg1 := Bg1.kept kc14 (by simp)
 replace Bg3 := Bg3.kept kc14 (by simp)
 replace Bg5 := Bg5.kept kc14 (by simp)
 replace Bg7 := Bg7.kept kc14 (by simp)
 replace Bg9 := Bg9.kept kc14 (by simp)
 replace Bg11 := Bg11.kept kc14 (by simp)
 clear f81 a81 kc14
 refine L.va f82 (E.not f82 rfl) (hw := (f82.yes rfl rfl)) fun a83 f83 => ?_
 have f84 := f83.as (i := 66) (v' := .bool true) rfl (by rw [right0]; rfl)
 refine L.va f84 (E.pickT f84 rfl rfl) fun a85 f85 => ?_
 refine L.ag f85 fun a86 f86 => ?_
 refine wpList_nil (hK5 _ _ ?_)
 have f87 := f86.sub (sc 0 sn)
 refine wp_ret ?_
 try simp only [Exit.inBlock, Exit.then]
 refine C.ret (P := Tryd.prog) (fn := Tryd.f13) f87 rfl rfl ?_
 exact ⟨HK, rfl⟩
end Go.Proofs.YtigjafbbnocihaaDoor
