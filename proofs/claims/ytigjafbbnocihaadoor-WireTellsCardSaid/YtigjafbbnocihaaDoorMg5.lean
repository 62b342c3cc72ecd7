/- Merged by program (shrink.py): contracts and plain laws that the claim's statement uses, part 5. -/
import Derived.Test.YtigjafbbnocihaaDoorMg4
set_option linter.all false

namespace Go.Proofs.YtigjafbbnocihaaDoor
open Go.RowKit Go.Hub Go.Lib Go.Vl
theorem wzi9_xf : (Tryd.prog.info? 9).map (fun i => (i.zero, i.size)) = some (some (.string ⟨#[]⟩), 1) := by kernel_rfl
theorem wbs104_10_xf (x0 : ByteArray) (x1 : ByteArray) (x2 : ByteArray) (x3 : ByteArray) (x4 : ByteArray) (x5 : ByteArray) (x6 : ByteArray) (x7 : ByteArray) (x8 : ByteArray) (x9 : ByteArray) : Instr.fill (fun i => some (i * 1, 1)) ((Array.range (10 * 1)).map fun j => (Value.cells (.string ⟨#[]⟩))[j % (Value.cells (.string ⟨#[]⟩)).size]!) [(0, .string x0), (1, .string x1), (2, .string x2), (3, .string x3), (4, .string x4), (5, .string x5), (6, .string x6), (7, .string x7), (8, .string x8), (9, .string x9)] = some #[.string x0, .string x1, .string x2, .string x3, .string x4, .string x5, .string x6, .string x7, .string x8, .string x9] := by kernel_rfl
theorem wsz9_xf : (Tryd.prog.info? 9).map (·.size) = some 1 := by kernel_rfl
theorem wbs104_7_xf (x0 : ByteArray) (x1 : ByteArray) (x2 : ByteArray) (x3 : ByteArray) (x4 : ByteArray) (x5 : ByteArray) (x6 : ByteArray) : Instr.fill (fun i => some (i * 1, 1)) ((Array.range (7 * 1)).map fun j => (Value.cells (.string ⟨#[]⟩))[j % (Value.cells (.string ⟨#[]⟩)).size]!) [(0, .string x0), (1, .string x1), (2, .string x2), (3, .string x3), (4, .string x4), (5, .string x5), (6, .string x6)] = some #[.string x0, .string x1, .string x2, .string x3, .string x4, .string x5, .string x6] := by kernel_rfl
theorem wbs104_5_xf (x0 : ByteArray) (x1 : ByteArray) (x2 : ByteArray) (x3 : ByteArray) (x4 : ByteArray) : Instr.fill (fun i => some (i * 1, 1)) ((Array.range (5 * 1)).map fun j => (Value.cells (.string ⟨#[]⟩))[j % (Value.cells (.string ⟨#[]⟩)).size]!) [(0, .string x0), (1, .string x1), (2, .string x2), (3, .string x3), (4, .string x4)] = some #[.string x0, .string x1, .string x2, .string x3, .string x4] := by kernel_rfl
theorem wsz3_xf : (Tryd.prog.info? 3).map (·.size) = some 1 := by kernel_rfl
theorem wsz4_xf : (Tryd.prog.info? 4).map (·.size) = some 1 := by kernel_rfl
theorem wsz22_xf : (Tryd.prog.info? 22).map (·.size) = some 1 := by kernel_rfl
theorem wsz24_xf : (Tryd.prog.info? 24).map (·.size) = some 4 := by kernel_rfl
theorem wsz28_xf : (Tryd.prog.info? 28).map (·.size) = some 24 := by kernel_rfl
theorem wbl24_0_1_2_3_xf (x0 : ByteArray) (x1 : Option Addr) (y1 z1 : Nat) (x2 : Int) (x3 : Bool) : Tryd.prog.built 24 [(0, .string x0), (1, .slice x1 y1 z1), (2, .int .i64 x2), (3, .bool x3)] = some #[.string x0, .slice x1 y1 z1, .int .i64 x2, .bool x3] := by kernel_rfl
theorem wbl28_0_7_8_9_10_xf (x0 : Int) (x1 : Int) (x2 : ByteArray) (x3 : Bool) (x4 : Int) : Tryd.prog.built 28 [(0, .int .i64 x0), (7, .int .i64 x1), (8, .string x2), (9, .bool x3), (10, .int .i64 x4)] = some #[.int .i64 x0, (.bool false), (.bool false), (.int .i64 0), (.int .i64 0), (.string ⟨#[]⟩), (.slice none 0 0), .int .i64 x1, .string x2, .bool x3, .int .i64 x4, (.bool false), (.string ⟨#[]⟩), (.slice none 0 0), (.int .i64 0), (.bool false), (.bool false), (.bool false), (.string ⟨#[]⟩), (.slice none 0 0), (.bool false), (.int .i64 0), (.slice none 0 0), (.slice none 0 0)] := by kernel_rfl
def p7 : List ByteArray := [⟨#[97]⟩, ⟨#[97, 47, 98]⟩, ⟨#[98, 47, 99]⟩, ⟨#[36, 115, 47, 97]⟩, ⟨#[97, 47, 47, 98]⟩, ⟨#[195, 169, 47, 97]⟩, ⟨#[99]⟩]
def p10 : List ByteArray := [⟨#[97]⟩, ⟨#[35]⟩, ⟨#[97, 47, 43]⟩, ⟨#[43, 47, 98]⟩, ⟨#[97, 47, 35]⟩, ⟨#[98, 47, 99]⟩, ⟨#[36, 115, 47, 35]⟩, ⟨#[43]⟩, ⟨#[43, 47, 43]⟩, ⟨#[195, 169, 47, 35]⟩]
def p5 : List ByteArray := [⟨#[107]⟩, ⟨#[108]⟩, ⟨#[109]⟩, ⟨#[195, 169]⟩, ⟨#[]⟩]
def topicS (k : Int) : ByteArray := p7.getD (k % 7).toNat em
def filterS (k : Int) : ByteArray := p10.getD (k % 10).toNat em
def cliS (k : Int) : ByteArray := p5.getD (k % 5).toNat em
theorem list_at (l : List ByteArray) (i : Nat) (h : i < l.length) : l[i]? = some (l.getD i em) := by rw [List.getD_eq_getElem?_getD, List.getElem?_eq_getElem h]; rfl
theorem ss_blk {w : World} {g t : Nat} {l : List ByteArray} (B : Blk w g t (l.map Value.string).toArray) : Sl w (some ⟨g, 0, none⟩) l.length 1 (l.map Value.string) := by
  have h := B.slN (n := l.length) (size := 1) (by simp)
  simpa using h
theorem ss_cellI {w : World} {A : Option Addr} {b off : Nat} {l : List ByteArray} {x : ByteArray} {i : Int} (h : Sl w A l.length 1 (l.map Value.string)) (hA : A = some ⟨b, off, none⟩) (hx : l[i.toNat]? = some x) : w.cell? ⟨b, off + i.toNat * 1, none⟩ = some (.string x) := by
  have hk := (List.getElem?_eq_some_iff.1 hx).1
  rw [Nat.mul_one]
  exact Sl.cell h (by omega) hA (by simp [hx])
def SeatPost (p : Pk) (w : World) (e : Ending) (w' : World) : Prop := ∃ s, e = .returned (.agg (p.cells s)) ∧ Kept [] w w' ∧ p.In w' s
def con1 (a b c : Int) : Pk := if cliS a = em then { kind := 1, level := 4, client := cliS a, clean := decide (0 < b % 9), keep := c % 5 } else { kind := 1, level := 4, client := cliS a, clean := decide (b % 2 = 0), keep := c % 5 }
def con2 (a b c : Int) (x : List UInt8) (p : Pk) : Pk := if c % 3 = 0 then { p with hasWill := true, wt := topicS c, wp := x, wq := a % 3, wr := decide (b % 3 = 0) } else p
def con3 (a : Int) (p : Pk) : Pk := if a % 8 = 7 then { p with level := 3 } else p
def con4 (b : Int) (x : List UInt8) (p : Pk) : Pk := if b % 10 = 9 then { p with hasUser := true, user := ⟨#[117]⟩, hasPass := true, pass := x } else p
def seatCon (a b c : Int) (x : List UInt8) : Pk := con4 b x (con3 a (con2 a b c x (con1 a b c)))
theorem con1_nil (a b c : Int) : (con1 a b c).pay = [] ∧ (con1 a b c).wp = [] ∧ (con1 a b c).pass = [] ∧ (con1 a b c).subs = [] ∧ (con1 a b c).codes = [] := by
  unfold con1
  split <;> exact ⟨rfl, rfl, rfl, rfl, rfl⟩
def adC (b c : Int) (A : Option Addr) (cx : Nat) : Ad := if b % 10 = 9 then { (if c % 3 = 0 then { s0 with wa := A, wc := cx } else s0 : Ad) with sa := A, sc := cx } else (if c % 3 = 0 then { s0 with wa := A, wc := cx } else s0)
theorem seatcon_in {W : World} {a b c : Int} {x : List UInt8} {A : Option Addr} {cx : Nat} (S : Sl W A x.length 1 (x.map u8)) :
    (seatCon a b c x).In W (adC b c A cx) := by
  unfold adC
  have z : Pk.In W {} s0 := Pk.In.zero W
  obtain ⟨h1, h2, h3, h4, h5⟩ := con1_nil a b c
  unfold seatCon con4 con3 con2
  by_cases hb : b % 10 = 9 <;> by_cases hc : c % 3 = 0 <;> by_cases ha : a % 8 = 7 <;> simp only [hb, hc, ha, if_true, if_false, reduceIte] <;> constructor <;> (first | exact S | (simp only [h1, h2, h3, h4, h5]; exact Sl.nil _ _ _))
set_option maxHeartbeats 1000000 in
theorem filterS_any (k : Int) (w : World) (hk : 0 ≤ k ∧ k < 256) : Calls Tryd.prog 35 #[.int .u8 k] w (fun e w' => Kept [] w w' ∧ e = .returned (.string (filterS k))) := by
 have HK : Kept [] w w := Kept.refl [] w
 refine C.enter Tryd.func35 rfl Tryd.ntmps35 rfl ?_
 intro a0 f0
 have f1 : Fr 8 a0 [(0, .int .u8 k)] := f0
 refine C.sk fun K0 hK0 => ?_
 refine L.ag f1 fun a2 f2 => ?_
 refine wpList_nil (hK0 _ _ ?_)
 have f3 := f2.sub (sc 0 sn)
 refine wp_seq_k fun K1 hK1 => ?_
 have hx : p10[(k % 10).toNat]? = some (filterS k) := list_at p10 _ (by show _ < 10; omega)
 refine C.region ?_
 refine L.buildSlice f3 wantedN (by decide) (parts10 f3 rfl rfl rfl rfl rfl rfl rfl rfl rfl rfl) U104 wzi9_xf rfl rfl (wbs104_10_xf _ _ _ _ _ _ _ _ _ _) fun a4 w1 g0 N0 f4 => ?_
 have SL := ss_blk (l := p10) N0.blk
 have Bg0 := N0.blk
 have kg0 := N0.kept
 have log0 := N0.lo
 have ltg0 := Bg0.lt
 have szw1 := kg0.size
 have frg0 : w.heap.size ≤ g0 := Nat.le_trans HK.size log0
 replace HK := HK.trans kg0 (by simp)
 clear f0 f1 a0 f2 N0 kg0
 refine L.mv f4 fun a5 f5 => ?_
 refine L.va f5 (E.rem f5 rfl rfl (by omega) (Int.tmod_eq_emod_of_nonneg (by omega))) fun a6 f6 => ?_
 refine L.va f6 (E.indexA f6 (by rfl) U104 wsz9_xf rfl rfl (by omega) (by omega)) fun a7 f7 => ?_
 refine L.va f7 (by exact E.load f7 U9 rfl rfl (ss_cellI SL rfl hx)) fun a8 f8 => ?_
 refine L.ag f8 fun a9 f9 => ?_
 refine wpList_nil (hK1 _ _ ?_)
 have f10 := f9.sub (sc 2 sn)
 refine wp_ret ?_
 try simp only [Exit.inBlock, Exit.then]
 refine C.ret (P := Tryd.prog) (fn := Tryd.f35) f10 rfl rfl ?_
 exact ⟨HK, rfl⟩
set_option maxHeartbeats 1000000 in
theorem topicS_any (k : Int) (w : World) (hk : 0 ≤ k ∧ k < 256) : Calls Tryd.prog 34 #[.int .u8 k] w (fun e w' => Kept [] w w' ∧ e = .returned (.string (topicS k))) := by
 have HK : Kept [] w w := Kept.refl [] w
 refine C.enter Tryd.func34 rfl Tryd.ntmps34 rfl ?_
 intro a0 f0
 have f1 : Fr 8 a0 [(0, .int .u8 k)] := f0
 refine C.sk fun K0 hK0 => ?_
 refine L.ag f1 fun a2 f2 => ?_
 refine wpList_nil (hK0 _ _ ?_)
 have f3 := f2.sub (sc 0 sn)
 refine wp_seq_k fun K1 hK1 => ?_
 have hx : p7[(k % 7).toNat]? = some (topicS k) := list_at p7 _ (by show _ < 7; omega)
 refine C.region ?_
 refine L.buildSlice f3 wantedN (by decide) (parts7 f3 rfl rfl rfl rfl rfl rfl rfl) U104 wzi9_xf rfl rfl (wbs104_7_xf _ _ _ _ _ _ _) fun a4 w1 g0 N0 f4 => ?_
 have SL := ss_blk (l := p7) N0.blk
 have Bg0 := N0.blk
 have kg0 := N0.kept
 have log0 := N0.lo
 have ltg0 := Bg0.lt
 have szw1 := kg0.size
 have frg0 : w.heap.size ≤ g0 := Nat.le_trans HK.size log0
 replace HK := HK.trans kg0 (by simp)
 clear f0 f1 a0 f2 N0 kg0
 refine L.mv f4 fun a5 f5 => ?_
 refine L.va f5 (E.rem f5 rfl rfl (by omega) (Int.tmod_eq_emod_of_nonneg (by omega))) fun a6 f6 => ?_
 refine L.va f6 (E.indexA f6 (by rfl) U104 wsz9_xf rfl rfl (by omega) (by omega)) fun a7 f7 => ?_
 refine L.va f7 (by exact E.load f7 U9 rfl rfl (ss_cellI SL rfl hx)) fun a8 f8 => ?_
 refine L.ag f8 fun a9 f9 => ?_
 refine wpList_nil (hK1 _ _ ?_)
 have f10 := f9.sub (sc 2 sn)
 refine wp_ret ?_
 try simp only [Exit.inBlock, Exit.then]
 refine C.ret (P := Tryd.prog) (fn := Tryd.f34) f10 rfl rfl ?_
 exact ⟨HK, rfl⟩
set_option maxHeartbeats 4000000 in
theorem seatcon_any (a0_ b c : Int) (x : List UInt8) (A : Option Addr) (cx : Nat) (w : World) (SX : Sl w A x.length 1 (x.map u8)) (ha : 0 ≤ a0_ ∧ a0_ < 256) (hb : 0 ≤ b ∧ b < 256) (hc : 0 ≤ c ∧ c < 256) : Calls Tryd.prog 36 #[.int .u8 a0_, .int .u8 b, .int .u8 c, .slice A x.length cx] w (fun e w' => Kept [] w w' ∧ e = .returned (.agg ((seatCon a0_ b c x).cells (adC b c A cx)))) := by
 have HK : Kept [] w w := Kept.refl [] w
 refine C.enter Tryd.func36 rfl Tryd.ntmps36 rfl ?_
 intro a0 f0
 have f1 : Fr 57 a0 [(0, .int .u8 a0_), (1, .int .u8 b), (2, .int .u8 c), (3, .slice A x.length cx)] := f0
 refine C.sk fun K0 hK0 => ?_
 refine L.alloc f1 wantedN (by decide) (z := (.agg #[(.int .i64 0), (.bool false), (.bool false), (.int .i64 0), (.int .i64 0), (.string ⟨#[]⟩), (.slice none 0 0), (.int .i64 0), (.string ⟨#[]⟩), (.bool false), (.int .i64 0), (.bool false), (.string ⟨#[]⟩), (.slice none 0 0), (.int .i64 0), (.bool false), (.bool false), (.bool false), (.string ⟨#[]⟩), (.slice none 0 0), (.bool false), (.int .i64 0), (.slice none 0 0), (.slice none 0 0)])) (fun _ => by kernel_rfl) rfl fun a2 w1 g0 N0 f2 => ?_
 have Bg0 := N0.blk
 have kg0 := N0.kept
 have log0 := N0.lo
 have ltg0 := Bg0.lt
 have szw1 := kg0.size
 have frg0 : w.heap.size ≤ g0 := Nat.le_trans HK.size log0
 replace HK := HK.trans kg0 (by simp)
 clear f0 N0 kg0
 refine wpList_nil (hK0 _ _ ?_)
 have f3 := f2.sub (sc 0 (sc 1 (sc 2 (sc 3 (sc 8 sn)))))
 refine wp_seq_k fun K1 hK1 => ?_
 have hx : p5[(a0_ % 5).toNat]? = some (cliS a0_) := list_at p5 _ (by show _ < 5; omega)
 refine C.region ?_
 refine L.buildSlice f3 wantedN (by decide) (parts5 f3 rfl rfl rfl rfl rfl) U104 wzi9_xf rfl rfl (wbs104_5_xf _ _ _ _ _) fun a4 w2 g1 N1 f4 => ?_
 have SL := ss_blk (l := p5) N1.blk
 have Bg1 := N1.blk
 have kg1 := N1.kept
 have log1 := N1.lo
 have ltg1 := Bg1.lt
 have szw2 := kg1.size
 have frg1 : w.heap.size ≤ g1 := Nat.le_trans HK.size log1
 have neg0_g1 : g0 ≠ g1 := by have := Bg0.lt; omega
 replace HK := HK.trans kg1 (by simp)
 replace Bg0 := Bg0.kept kg1 (by simp)
 clear f1 a0 f2 N1 kg1
 refine L.mv f4 fun a5 f5 => ?_
 refine L.va f5 (E.rem f5 rfl rfl (by omega) (Int.tmod_eq_emod_of_nonneg (by omega))) fun a6 f6 => ?_
 refine L.va f6 (E.indexA f6 (by rfl) U104 wsz9_xf rfl rfl (by omega) (by omega)) fun a7 f7 => ?_
 refine L.va f7 (by exact E.load f7 U9 rfl rfl (ss_cellI SL rfl hx)) fun a8 f8 => ?_
 refine L.mv f8 fun a9 f9 => ?_
 refine L.va f9 (E.rem f9 rfl rfl (by omega) (Int.tmod_eq_emod_of_nonneg (by omega))) fun a10 f10 => ?_
 clear f3 a2 f4 a4 f5 a5 f6 a6 f7 a7 f8 a8 f9 a9
 refine L.va f10 (E.eq f10) fun a11 f11 => ?_
 refine L.mv f11 fun a12 f12 => ?_
 refine L.va f12 (E.rem f12 rfl rfl (by omega) (Int.tmod_eq_emod_of_nonneg (by omega))) fun a13 f13 => ?_
 refine L.va f13 (E.conv f13 U5 U3 rfl (IntWalk.i64_in _ (by omega))) fun a14 f14 => ?_
 refine L.va f14 (E.build f14 (parts5 f14 rfl rfl rfl rfl rfl) (wbl28_0_7_8_9_10_xf _ _ _ _ _)) fun a15 f15 => ?_
 refine L.alloc f15 wantedN (by decide) (z := (.agg #[(.int .i64 0), (.bool false), (.bool false), (.int .i64 0), (.int .i64 0), (.string ⟨#[]⟩), (.slice none 0 0), (.int .i64 0), (.string ⟨#[]⟩), (.bool false), (.int .i64 0), (.bool false), (.string ⟨#[]⟩), (.slice none 0 0), (.int .i64 0), (.bool false), (.bool false), (.bool false), (.string ⟨#[]⟩), (.slice none 0 0), (.bool false), (.int .i64 0), (.slice none 0 0), (.slice none 0 0)])) (fun _ => by kernel_rfl) rfl fun a16 w3 g2 N2 f16 => ?_
 have Bg2 := N2.blk
 have kg2 := N2.kept
 have log2 := N2.lo
 have ltg2 := Bg2.lt
 have szw3 := kg2.size
 have frg2 : w.heap.size ≤ g2 := Nat.le_trans HK.size log2
 have neg0_g2 : g0 ≠ g2 := by have := Bg0.lt; omega
 have neg1_g2 : g1 ≠ g2 := by have := Bg1.lt; omega
 replace HK := HK.trans kg2 (by simp)
 replace Bg0 := Bg0.kept kg2 (by simp)
 replace Bg1 := Bg1.kept kg2 (by simp)
 clear f10 a10 f11 a11 f12 a12 f13 a13 f14 a14 N2 kg2
 refine L.storeR f16 wantedN wsz28_xf rfl rfl rfl Bg2 rfl rfl fun a17 w4 f17 NB4 ks4 => ?_
 have szw4 := ks4.size
 replace HK := HK.trans ks4 (ktr (by omega))
 replace Bg0 := Bg0.kept ks4 (by simp; omega)
 replace Bg1 := Bg1.kept ks4 (by simp; omega)
 replace Bg2 := NB4
 clear f15 a15 ks4 f16 a16
 refine wpList_nil (hK1 _ _ ?_)
 have f18 := f17.sub (sc 0 (sc 1 (sc 2 (sc 3 (sc 8 (sc 9 sn))))))
 obtain ⟨J4, hJ4⟩ : ∃ J : Act → World → Prop, J = fun a W => ∃ (gq : Nat) (p : Pk), p = con1 a0_ b c ∧ gq ≠ g0 ∧ w.heap.size ≤ gq ∧ Kept [] w W ∧ Blk W g0 28 zeroPk ∧ Blk W gq 28 (p.cells s0) ∧ Fr 57 a [(0, .int .u8 a0_), (1, .int .u8 b), (2, .int .u8 c), (3, .slice A x.length cx), (8, .pointer (some ⟨g0, 0, none⟩)), (9, .pointer (some ⟨gq, 0, none⟩))] := ⟨_, rfl⟩
 clear f17
 refine C.cut J4 ?_ ?_
 ·skip
  refine C.sk fun K2 hK2 => ?_
  refine L.fa 8 f18 U28 rfl wsz9_xf fun a19 f19 => ?_
  refine L.ld f19 U9 Bg2 fun a20 f20 => ?_
  refine L.va f20 (E.eqlS f20 rfl rfl) fun a21 f21 => ?_
  refine wpList_nil (hK2 _ _ ?_)
  have f22 := f21.sub (sc 0 (sc 1 (sc 2 (sc 3 (sc 8 (sc 9 (sc 24 sn)))))))
  clear f18 a17 f19 a19 f20 a20 f21
  refine f22.splitD 24 rfl (fun h0 f23 => ?_) (fun h0 f23 => ?_)
  ·refine C.condT f23 rfl ?_
   refine C.region ?_
   refine L.mv f23 fun a24 f24 => ?_
   refine L.va f24 (E.rem f24 rfl rfl (by omega) (Int.tmod_eq_emod_of_nonneg (by omega))) fun a25 f25 => ?_
   refine L.va f25 (E.gtr f25 rfl rfl) fun a26 f26 => ?_
   refine L.fa 9 f26 U28 rfl wsz4_xf fun a27 f27 => ?_
   refine L.store f27 wantedN wsz4_xf rfl rfl rfl Bg2 (by (simp [Value.cells]; done)) fun a28 w5 f28 NB5 ks5 => ?_
   have szw5 := ks5.size
   replace HK := HK.trans ks5 (ktr (by omega))
   replace Bg0 := Bg0.kept ks5 (by simp; omega)
   replace Bg1 := Bg1.kept ks5 (by simp; omega)
   replace Bg2 := NB5
   simp only [Value.cells, z1, z2, z3, Nat.reduceAdd, Nat.zero_add] at Bg2
   clear f22 f23 a21 f24 a24 f25 a25 f26 a26 ks5 f27 a27
   exact wpList_nil (then_of (J := J4) (Q := fun _ _ _ => True) (by rw [hJ4]; exact ⟨g2, { kind := 1, level := 4, client := cliS a0_, clean := decide (0 < b % 9), keep := c % 5 }, by unfold con1; rw [if_pos (by assumption)], by omega, by omega, HK, Bg0, Bg2, f28.sub (sub_cons rfl (sub_cons rfl (sub_cons rfl (sub_cons rfl (sub_cons rfl (sub_cons rfl sn))))))⟩))
  refine C.condF f23 rfl ?_
  exact wp_skip (then_of (J := J4) (Q := fun _ _ _ => True) (by rw [hJ4]; exact ⟨g2, { kind := 1, level := 4, client := cliS a0_, clean := decide (b % 2 = 0), keep := c % 5 }, by unfold con1; rw [if_neg (by assumption)], by omega, by omega, HK, Bg0, Bg2, f23.sub (sub_cons rfl (sub_cons rfl (sub_cons rfl (sub_cons rfl (sub_cons rfl (sub_cons rfl sn))))))⟩))
 intro a19 w5 hj
 rw [hJ4] at hj
 clear hJ4 J4
 obtain ⟨gq, p, hp, hne, hgq, HK, Bg0, BQ, f19⟩ := hj
 try clear f18
 replace BQ : Blk w5 gq 28 #[.int .i64 p.kind, .bool p.dup, .bool p.retain, .int .i64 p.qos, .int .i64 p.id, .string p.topic, .slice s0.pa p.pay.length s0.pc, .int .i64 p.level, .string p.client, .bool p.clean, .int .i64 p.keep, .bool p.hasWill, .string p.wt, .slice s0.wa p.wp.length s0.wc, .int .i64 p.wq, .bool p.wr, .bool p.hasUser, .bool p.hasPass, .string p.user, .slice s0.sa p.pass.length s0.sc, .bool p.present, .int .i64 p.code, .slice s0.ua p.subs.length s0.uc, .slice s0.ca p.codes.length s0.cc] := BQ
 have hne2 : g0 ≠ gq := fun e => hne e.symm
 obtain ⟨J6, hJ6⟩ : ∃ J : Act → World → Prop, J = fun a W => ∃ (p1 : Pk) (s1 : Ad), p1 = con2 a0_ b c x p ∧ s1 = (if c % 3 = 0 then { s0 with wa := A, wc := cx } else s0) ∧ Kept [] w W ∧ Blk W g0 28 zeroPk ∧ Blk W gq 28 (p1.cells s1) ∧ Fr 57 a [(0, .int .u8 a0_), (1, .int .u8 b), (3, .slice A x.length cx), (8, .pointer (some ⟨g0, 0, none⟩)), (9, .pointer (some ⟨gq, 0, none⟩))] := ⟨_, rfl⟩
 refine C.cut J6 ?_ ?_
 ·skip
  refine C.sk fun K3 hK3 => ?_
  refine L.mv f19 fun a20 f20 => ?_
  refine L.va f20 (E.rem f20 rfl rfl (by omega) (Int.tmod_eq_emod_of_nonneg (by omega))) fun a21 f21 => ?_
  refine L.va f21 (E.eq f21) fun a22 f22 => ?_
  refine wpList_nil (hK3 _ _ ?_)
  have f23 := f22.sub (sc 0 (sc 1 (sc 2 (sc 3 (sc 8 (sc 9 (sc 31 sn)))))))
  clear f19 a19 f20 a20 f21 a21 f22
  refine f23.splitD 31 rfl (fun h1 f24 => ?_) (fun h1 f24 => ?_)
  ·refine C.condT f24 rfl ?_
   refine C.region ?_
   refine L.mv f24 fun a25 f25 => ?_
   refine L.cl f25 (run_call Tryd.call34 (args1 f25 rfl)) (topicS_any c _ hc) ?_
   clear f23 f24 a22
   rintro e w6 ⟨kc6, rfl⟩
   refine ⟨_, rfl, fun a26 f26 => ?_⟩
   have szw6 := kc6.size
   replace HK := HK.trans kc6 (by simp)
   replace Bg0 := Bg0.kept kc6 (by simp)
   replace BQ := BQ.kept kc6 (by simp)
   clear f25 a25 kc6
   refine L.mv f26 fun a27 f27 => ?_
   refine L.mv f27 fun a28 f28 => ?_
   refine L.va f28 (E.rem f28 rfl rfl (by omega) (Int.tmod_eq_emod_of_nonneg (by omega))) fun a29 f29 => ?_
   refine L.va f29 (E.conv f29 U5 U3 rfl (IntWalk.i64_in _ (by omega))) fun a30 f30 => ?_
   refine L.mv f30 fun a31 f31 => ?_
   refine L.va f31 (E.rem f31 rfl rfl (by omega) (Int.tmod_eq_emod_of_nonneg (by omega))) fun a32 f32 => ?_
   refine L.va f32 (E.eq f32) fun a33 f33 => ?_
   clear f26 a26 f27 a27 f28 a28 f29 a29 f30 a30 f31 a31 f32 a32
   refine L.va f33 (E.build f33 (parts4 f33 rfl rfl rfl rfl) (wbl24_0_1_2_3_xf _ _ _ _ _ _)) fun a34 f34 => ?_
   refine L.fa 11 f34 U28 rfl wsz4_xf fun a35 f35 => ?_
   refine L.store f35 wantedN wsz4_xf rfl rfl rfl BQ (by (simp [Value.cells]; done)) fun a36 w7 f36 NB7 ks7 => ?_
   have szw7 := ks7.size
   replace HK := HK.trans ks7 (ktr (by omega))
   replace Bg0 := Bg0.kept ks7 (by simp; omega)
   replace BQ := NB7
   simp only [Value.cells, z1, z2, z3, Nat.reduceAdd, Nat.zero_add] at BQ
   clear f33 a33 f34 a34 ks7 f35 a35
   refine L.fa 12 f36 U28 rfl wsz24_xf fun a37 f37 => ?_
   refine L.storeSeg f37 wantedN wsz24_xf rfl rfl rfl BQ (Nat.le_of_ble_eq_true rfl) rfl fun a38 w8 f38 NB8 ks8 => ?_
   have szw8 := ks8.size
   replace HK := HK.trans ks8 (ktr (by omega))
   replace Bg0 := Bg0.kept ks8 (by simp; omega)
   replace BQ := NB8
   simp only [setSeg, List.set_cons_zero, List.set_cons_succ, Nat.reduceAdd, Nat.zero_add] at BQ
   clear f36 a36 ks8 f37 a37
   exact wpList_nil (then_of (J := J6) (Q := fun _ _ _ => True) (by rw [hJ6]; exact ⟨{ p with hasWill := true, wt := topicS c, wp := x, wq := a0_ % 3, wr := decide (b % 3 = 0) }, { s0 with wa := A, wc := cx }, by unfold con2; rw [if_pos (by assumption)], by rw [if_pos (by assumption)], HK, Bg0, BQ, f38.sub (sub_cons rfl (sub_cons rfl (sub_cons rfl (sub_cons rfl (sub_cons rfl sn)))))⟩))
  refine C.condF f24 rfl ?_
  exact wp_skip (then_of (J := J6) (Q := fun _ _ _ => True) (by rw [hJ6]; exact ⟨p, s0, by unfold con2; rw [if_neg (by assumption)], by rw [if_neg (by assumption)], HK, Bg0, BQ, f24.sub (sub_cons rfl (sub_cons rfl (sub_cons rfl (sub_cons rfl (sub_cons rfl sn)))))⟩))
 intro a20 w6 hj
 rw [hJ6] at hj
 clear hJ6 J6
 obtain ⟨p1, s1, hp1, hs1, HK, Bg0, BQ, f20⟩ := hj
 try clear f19
 replace BQ : Blk w6 gq 28 #[.int .i64 p1.kind, .bool p1.dup, .bool p1.retain, .int .i64 p1.qos, .int .i64 p1.id, .string p1.topic, .slice s1.pa p1.pay.length s1.pc, .int .i64 p1.level, .string p1.client, .bool p1.clean, .int .i64 p1.keep, .bool p1.hasWill, .string p1.wt, .slice s1.wa p1.wp.length s1.wc, .int .i64 p1.wq, .bool p1.wr, .bool p1.hasUser, .bool p1.hasPass, .string p1.user, .slice s1.sa p1.pass.length s1.sc, .bool p1.present, .int .i64 p1.code, .slice s1.ua p1.subs.length s1.uc, .slice s1.ca p1.codes.length s1.cc] := BQ
 obtain ⟨J8, hJ8⟩ : ∃ J : Act → World → Prop, J = fun a W => ∃ (p2 : Pk), p2 = con3 a0_ p1 ∧ Kept [] w W ∧ Blk W g0 28 zeroPk ∧ Blk W gq 28 (p2.cells s1) ∧ Fr 57 a [(1, .int .u8 b), (3, .slice A x.length cx), (8, .pointer (some ⟨g0, 0, none⟩)), (9, .pointer (some ⟨gq, 0, none⟩))] := ⟨_, rfl⟩
 refine C.cut J8 ?_ ?_
 ·skip
  refine C.sk fun K4 hK4 => ?_
  refine L.mv f20 fun a21 f21 => ?_
  refine L.va f21 (E.rem f21 rfl rfl (by omega) (Int.tmod_eq_emod_of_nonneg (by omega))) fun a22 f22 => ?_
  refine L.va f22 (E.eq f22) fun a23 f23 => ?_
  refine wpList_nil (hK4 _ _ ?_)
  have f24 := f23.sub (sc 1 (sc 3 (sc 8 (sc 9 (sc 46 sn)))))
  clear f20 a20 f21 a21 f22 a22 f23
  refine f24.splitD 46 rfl (fun h2 f25 => ?_) (fun h2 f25 => ?_)
  ·refine C.condT f25 rfl ?_
   refine C.region ?_
   refine L.fa 7 f25 U28 rfl wsz3_xf fun a26 f26 => ?_
   refine L.store f26 wantedN wsz3_xf rfl rfl rfl BQ (by (simp [Value.cells]; done)) fun a27 w7 f27 NB7 ks7 => ?_
   have szw7 := ks7.size
   replace HK := HK.trans ks7 (ktr (by omega))
   replace Bg0 := Bg0.kept ks7 (by simp; omega)
   replace BQ := NB7
   simp only [Value.cells, z1, z2, z3, Nat.reduceAdd, Nat.zero_add] at BQ
   clear f24 f25 a23 ks7 f26 a26
   exact wpList_nil (then_of (J := J8) (Q := fun _ _ _ => True) (by rw [hJ8]; exact ⟨{ p1 with level := 3 }, by unfold con3; rw [if_pos (by assumption)], HK, Bg0, BQ, f27.sub (sub_cons rfl (sub_cons rfl (sub_cons rfl (sub_cons rfl sn))))⟩))
  refine C.condF f25 rfl ?_
  exact wp_skip (then_of (J := J8) (Q := fun _ _ _ => True) (by rw [hJ8]; exact ⟨p1, by unfold con3; rw [if_neg (by assumption)], HK, Bg0, BQ, f25.sub (sub_cons rfl (sub_cons rfl (sub_cons rfl (sub_cons rfl sn))))⟩))
 intro a21 w7 hj
 rw [hJ8] at hj
 clear hJ8 J8
 obtain ⟨p2, hp2, HK, Bg0, BQ, f21⟩ := hj
 try clear f20
 replace BQ : Blk w7 gq 28 #[.int .i64 p2.kind, .bool p2.dup, .bool p2.retain, .int .i64 p2.qos, .int .i64 p2.id, .string p2.topic, .slice s1.pa p2.pay.length s1.pc, .int .i64 p2.level, .string p2.client, .bool p2.clean, .int .i64 p2.keep, .bool p2.hasWill, .string p2.wt, .slice s1.wa p2.wp.length s1.wc, .int .i64 p2.wq, .bool p2.wr, .bool p2.hasUser, .bool p2.hasPass, .string p2.user, .slice s1.sa p2.pass.length s1.sc, .bool p2.present, .int .i64 p2.code, .slice s1.ua p2.subs.length s1.uc, .slice s1.ca p2.codes.length s1.cc] := BQ
 obtain ⟨J10, hJ10⟩ : ∃ J : Act → World → Prop, J = fun a W => ∃ (p3 : Pk) (s3 : Ad), p3 = con4 b x p2 ∧ s3 = (if b % 10 = 9 then { s1 with sa := A, sc := cx } else s1) ∧ Kept [] w W ∧ Blk W g0 28 zeroPk ∧ Blk W gq 28 (p3.cells s3) ∧ Fr 57 a [(8, .pointer (some ⟨g0, 0, none⟩)), (9, .pointer (some ⟨gq, 0, none⟩))] := ⟨_, rfl⟩
 refine C.cut J10 ?_ ?_
 ·skip
  refine C.sk fun K5 hK5 => ?_
  refine L.mv f21 fun a22 f22 => ?_
  refine L.va f22 (E.rem f22 rfl rfl (by omega) (Int.tmod_eq_emod_of_nonneg (by omega))) fun a23 f23 => ?_
  refine L.va f23 (E.eq f23) fun a24 f24 => ?_
  refine wpList_nil (hK5 _ _ ?_)
  have f25 := f24.sub (sc 3 (sc 8 (sc 9 (sc 50 sn))))
  clear f21 a21 f22 a22 f23 a23 f24
  refine f25.splitD 50 rfl (fun h3 f26 => ?_) (fun h3 f26 => ?_)
  ·refine C.condT f26 rfl ?_
   refine C.region ?_
   refine L.mv f26 fun a27 f27 => ?_
   refine L.fa 16 f27 U28 rfl wsz4_xf fun a28 f28 => ?_
   refine L.store f28 wantedN wsz4_xf rfl rfl rfl BQ (by (simp [Value.cells]; done)) fun a29 w8 f29 NB8 ks8 => ?_
   have szw8 := ks8.size
   replace HK := HK.trans ks8 (ktr (by omega))
   replace Bg0 := Bg0.kept ks8 (by simp; omega)
   replace BQ := NB8
   simp only [Value.cells, z1, z2, z3, Nat.reduceAdd, Nat.zero_add] at BQ
   clear f25 f26 a24 f27 a27 ks8 f28 a28
   refine L.fa 18 f29 U28 rfl wsz9_xf fun a30 f30 => ?_
   refine L.store f30 wantedN wsz9_xf rfl rfl rfl BQ (by (simp [Value.cells]; done)) fun a31 w9 f31 NB9 ks9 => ?_
   have szw9 := ks9.size
   replace HK := HK.trans ks9 (ktr (by omega))
   replace Bg0 := Bg0.kept ks9 (by simp; omega)
   replace BQ := NB9
   simp only [Value.cells, z1, z2, z3, Nat.reduceAdd, Nat.zero_add] at BQ
   clear f29 a29 ks9 f30 a30
   refine L.fa 17 f31 U28 rfl wsz4_xf fun a32 f32 => ?_
   refine L.store f32 wantedN wsz4_xf rfl rfl rfl BQ (by (simp [Value.cells]; done)) fun a33 w10 f33 NB10 ks10 => ?_
   have szw10 := ks10.size
   replace HK := HK.trans ks10 (ktr (by omega))
   replace Bg0 := Bg0.kept ks10 (by simp; omega)
   replace BQ := NB10
   simp only [Value.cells, z1, z2, z3, Nat.reduceAdd, Nat.zero_add] at BQ
   clear f31 a31 ks10 f32 a32
   refine L.fa 19 f33 U28 rfl wsz22_xf fun a34 f34 => ?_
   refine L.store f34 wantedN wsz22_xf rfl rfl rfl BQ (by (simp [Value.cells]; done)) fun a35 w11 f35 NB11 ks11 => ?_
   have szw11 := ks11.size
   replace HK := HK.trans ks11 (ktr (by omega))
   replace Bg0 := Bg0.kept ks11 (by simp; omega)
   replace BQ := NB11
   simp only [Value.cells, z1, z2, z3, Nat.reduceAdd, Nat.zero_add] at BQ
   clear f33 a33 ks11 f34 a34
   exact wpList_nil (then_of (J := J10) (Q := fun _ _ _ => True) (by rw [hJ10]; exact ⟨{ p2 with hasUser := true, user := ⟨#[117]⟩, hasPass := true, pass := x }, { s1 with sa := A, sc := cx }, by unfold con4; rw [if_pos (by assumption)], by rw [if_pos (by assumption)], HK, Bg0, BQ, f35.sub (sub_cons rfl (sub_cons rfl sn))⟩))
  refine C.condF f26 rfl ?_
  exact wp_skip (then_of (J := J10) (Q := fun _ _ _ => True) (by rw [hJ10]; exact ⟨p2, s1, by unfold con4; rw [if_neg (by assumption)], by rw [if_neg (by assumption)], HK, Bg0, BQ, f26.sub (sub_cons rfl (sub_cons rfl sn))⟩))
 intro a22 w8 hj
 rw [hJ10] at hj
 clear hJ10 J10
 obtain ⟨p3, s3, hp3, hs3, HK, Bg0, BQ, f22⟩ := hj
 try clear f21
 refine C.sk fun K6 hK6 => ?_
 refine L.va f22 (by exact E.loadB f22 U28 rfl wsz28_xf rfl (BQ) rfl) fun a23 f23 => ?_
 refine L.storeR f23 wantedN wsz28_xf rfl rfl rfl Bg0 rfl rfl fun a24 w9 f24 NB9 ks9 => ?_
 have szw9 := ks9.size
 replace HK := HK.trans ks9 (ktr (by omega))
 replace BQ := BQ.kept ks9 (by simp; omega)
 replace Bg0 := NB9
 clear f22 a22 ks9 f23 a23
 refine wpList_nil (hK6 _ _ ?_)
 have f25 := f24.sub (sc 8 sn)
 refine wp_ret ?_
 try simp only [Exit.inBlock, Exit.then]
 refine C.retC (P := Tryd.prog) (fn := Tryd.f36) f25 rfl rfl Bg0 U28 rfl wsz28_xf ?_
 have he : p3 = seatCon a0_ b c x := by rw [hp3, hp2, hp1, hp]; rfl
 have hs : s3 = adC b c A cx := by rw [hs3, hs1]; rfl
 exact ⟨HK, by rw [← he, ← hs]⟩
end Go.Proofs.YtigjafbbnocihaaDoor
namespace Go.Proofs.YtigjafbbnocihaaDoor
open Go.RowKit Go.Hub Go.Lib Go.Vl
theorem wzib70_xg : (Tryd.prog.info? 70).map (fun i => (i.zero, i.size, i.bytes)) = some (some (.agg #[(.string ⟨#[]⟩), (.int .i64 0)]), 2, 24) := by kernel_rfl
theorem wzi70_xg : (Tryd.prog.info? 70).map (fun i => (i.zero, i.size)) = some (some (.agg #[(.string ⟨#[]⟩), (.int .i64 0)]), 2) := by kernel_rfl
theorem wbs25_1_xg (x0_0 x0_1 : Value) : Instr.fill (fun i => some (i * 2, 2)) ((Array.range (1 * 2)).map fun j => (Value.cells (.agg #[(.string ⟨#[]⟩), (.int .i64 0)]))[j % (Value.cells (.agg #[(.string ⟨#[]⟩), (.int .i64 0)])).size]!) [(0, .agg #[x0_0, x0_1])] = some #[x0_0, x0_1] := by kernel_rfl
theorem wbs25_2_xg (x0_0 x0_1 : Value) (x1_0 x1_1 : Value) : Instr.fill (fun i => some (i * 2, 2)) ((Array.range (2 * 2)).map fun j => (Value.cells (.agg #[(.string ⟨#[]⟩), (.int .i64 0)]))[j % (Value.cells (.agg #[(.string ⟨#[]⟩), (.int .i64 0)])).size]!) [(0, .agg #[x0_0, x0_1]), (1, .agg #[x1_0, x1_1])] = some #[x0_0, x0_1, x1_0, x1_1] := by kernel_rfl
theorem wsz3_xg : (Tryd.prog.info? 3).map (·.size) = some 1 := by kernel_rfl
theorem wsz4_xg : (Tryd.prog.info? 4).map (·.size) = some 1 := by kernel_rfl
theorem wsz25_xg : (Tryd.prog.info? 25).map (·.size) = some 1 := by kernel_rfl
theorem wsz28_xg : (Tryd.prog.info? 28).map (·.size) = some 24 := by kernel_rfl
theorem wsz70_xg : (Tryd.prog.info? 70).map (·.size) = some 2 := by kernel_rfl
theorem wbl28_0_xg (x0 : Int) : Tryd.prog.built 28 [(0, .int .i64 x0)] = some #[.int .i64 x0, (.bool false), (.bool false), (.int .i64 0), (.int .i64 0), (.string ⟨#[]⟩), (.slice none 0 0), (.int .i64 0), (.string ⟨#[]⟩), (.bool false), (.int .i64 0), (.bool false), (.string ⟨#[]⟩), (.slice none 0 0), (.int .i64 0), (.bool false), (.bool false), (.bool false), (.string ⟨#[]⟩), (.slice none 0 0), (.bool false), (.int .i64 0), (.slice none 0 0), (.slice none 0 0)] := by kernel_rfl
theorem wbl28_0_4_xg (x0 : Int) (x1 : Int) : Tryd.prog.built 28 [(0, .int .i64 x0), (4, .int .i64 x1)] = some #[.int .i64 x0, (.bool false), (.bool false), (.int .i64 0), .int .i64 x1, (.string ⟨#[]⟩), (.slice none 0 0), (.int .i64 0), (.string ⟨#[]⟩), (.bool false), (.int .i64 0), (.bool false), (.string ⟨#[]⟩), (.slice none 0 0), (.int .i64 0), (.bool false), (.bool false), (.bool false), (.string ⟨#[]⟩), (.slice none 0 0), (.bool false), (.int .i64 0), (.slice none 0 0), (.slice none 0 0)] := by kernel_rfl
theorem wbl28_0_4_19_xg (x0 : Int) (x1 : Int) (x2 : Option Addr) (y2 z2 : Nat) : Tryd.prog.built 28 [(0, .int .i64 x0), (4, .int .i64 x1), (19, .slice x2 y2 z2)] = some #[.int .i64 x0, (.bool false), (.bool false), (.int .i64 0), .int .i64 x1, (.string ⟨#[]⟩), (.slice none 0 0), (.int .i64 0), (.string ⟨#[]⟩), (.bool false), (.int .i64 0), (.bool false), (.string ⟨#[]⟩), (.slice none 0 0), (.int .i64 0), (.bool false), (.bool false), (.bool false), (.string ⟨#[]⟩), (.slice none 0 0), (.bool false), (.int .i64 0), .slice x2 y2 z2, (.slice none 0 0)] := by kernel_rfl
theorem wbl28_0_5_6_3_2_xg (x0 : Int) (x1 : ByteArray) (x2 : Option Addr) (y2 z2 : Nat) (x3 : Int) (x4 : Bool) : Tryd.prog.built 28 [(0, .int .i64 x0), (5, .string x1), (6, .slice x2 y2 z2), (3, .int .i64 x3), (2, .bool x4)] = some #[.int .i64 x0, (.bool false), .bool x4, .int .i64 x3, (.int .i64 0), .string x1, .slice x2 y2 z2, (.int .i64 0), (.string ⟨#[]⟩), (.bool false), (.int .i64 0), (.bool false), (.string ⟨#[]⟩), (.slice none 0 0), (.int .i64 0), (.bool false), (.bool false), (.bool false), (.string ⟨#[]⟩), (.slice none 0 0), (.bool false), (.int .i64 0), (.slice none 0 0), (.slice none 0 0)] := by kernel_rfl
theorem wbl70_0_xg (x0 : ByteArray) : Tryd.prog.built 70 [(0, .string x0)] = some #[.string x0, (.int .i64 0)] := by kernel_rfl
theorem wbl70_0_1_xg (x0 : ByteArray) (x1 : Int) : Tryd.prog.built 70 [(0, .string x0), (1, .int .i64 x1)] = some #[.string x0, .int .i64 x1] := by kernel_rfl
def seatPub (a b c : Int) (x : List UInt8) : Pk := if 0 < b % 3 then { kind := 3, topic := topicS a, pay := x, qos := b % 3, retain := decide (c % 2 = 0), id := c % 5 + 1, dup := decide (c % 7 = 0) } else { kind := 3, topic := topicS a, pay := x, qos := b % 3, retain := decide (c % 2 = 0) }
def sub2 (c : Int) (l : List (ByteArray × Int)) : List (ByteArray × Int) := if c % 3 = 0 then l ++ [(filterS c, c % 2)] else l
def sub3 (c : Int) (l : List (ByteArray × Int)) : List (ByteArray × Int) := if c % 11 = 0 then l ++ [(⟨#[97, 35]⟩, 1)] else l
def unsL (a c : Int) : List (ByteArray × Int) := if c % 2 = 0 then [(filterS a, 0)] else [(filterS a, 0), (filterS c, 0)]
def seatP (k a b c : Int) (x : List UInt8) : Pk :=
  if k % 15 ≤ 3 then seatPub a b c x
  else if k % 15 ≤ 6 then { kind := 8, id := b % 7 + 1, subs := sub3 c (sub2 c [(filterS a, b % 3)]) }
  else if k % 15 = 7 then { kind := 10, id := b % 7 + 1, subs := unsL a c }
  else if k % 15 = 8 then { kind := 4, id := b % 7 + 1 }
  else if k % 15 = 9 then { kind := 5, id := b % 7 + 1 }
  else if k % 15 = 10 then { kind := 7, id := b % 7 + 1 }
  else if k % 15 = 11 then { kind := 6, id := c % 5 + 1 }
  else if k % 15 = 12 then { kind := 12 }
  else if k % 15 = 13 then seatCon a b c x
  else { kind := 14 }
section
variable {k a b c : Int} {x : List UInt8}
theorem seat_pub (h : k % 15 ≤ 3) : seatP k a b c x = if 0 < b % 3 then { kind := 3, topic := topicS a, pay := x, qos := b % 3, retain := decide (c % 2 = 0), id := c % 5 + 1, dup := decide (c % 7 = 0) } else { kind := 3, topic := topicS a, pay := x, qos := b % 3, retain := decide (c % 2 = 0) } := by unfold seatP; rw [if_pos h]; rfl
theorem seat_sub (h : 4 ≤ k % 15 ∧ k % 15 ≤ 6) : seatP k a b c x = { kind := 8, id := b % 7 + 1, subs := sub3 c (sub2 c [(filterS a, b % 3)]) } := by unfold seatP; rw [if_neg (by omega), if_pos h.2]
theorem seat_uns (h : k % 15 = 7) : seatP k a b c x = { kind := 10, id := b % 7 + 1, subs := unsL a c } := by unfold seatP; rw [if_neg (by omega), if_neg (by omega), if_pos h]
theorem seat_a (h : k % 15 = 8) : seatP k a b c x = { kind := 4, id := b % 7 + 1 } := by unfold seatP; rw [if_neg (by omega), if_neg (by omega), if_neg (by omega), if_pos h]
theorem seat_r (h : k % 15 = 9) : seatP k a b c x = { kind := 5, id := b % 7 + 1 } := by unfold seatP; rw [if_neg (by omega), if_neg (by omega), if_neg (by omega), if_neg (by omega), if_pos h]
theorem seat_p (h : k % 15 = 10) : seatP k a b c x = { kind := 7, id := b % 7 + 1 } := by unfold seatP; rw [if_neg (by omega), if_neg (by omega), if_neg (by omega), if_neg (by omega), if_neg (by omega), if_pos h]
theorem seat_l (h : k % 15 = 11) : seatP k a b c x = { kind := 6, id := c % 5 + 1 } := by unfold seatP; rw [if_neg (by omega), if_neg (by omega), if_neg (by omega), if_neg (by omega), if_neg (by omega), if_neg (by omega), if_pos h]
theorem seat_q (h : k % 15 = 12) : seatP k a b c x = { kind := 12 } := by unfold seatP; rw [if_neg (by omega), if_neg (by omega), if_neg (by omega), if_neg (by omega), if_neg (by omega), if_neg (by omega), if_neg (by omega), if_pos h]
theorem seat_con (h : k % 15 = 13) : seatP k a b c x = seatCon a b c x := by unfold seatP; rw [if_neg (by omega), if_neg (by omega), if_neg (by omega), if_neg (by omega), if_neg (by omega), if_neg (by omega), if_neg (by omega), if_neg (by omega), if_pos h]
theorem seat_d (h : 14 ≤ k % 15) : seatP k a b c x = { kind := 14 } := by unfold seatP; rw [if_neg (by omega), if_neg (by omega), if_neg (by omega), if_neg (by omega), if_neg (by omega), if_neg (by omega), if_neg (by omega), if_neg (by omega), if_neg (by omega)]
end
theorem uns_len (a c : Int) : (unsL a c).length = (1 + c % 2).toNat := by
  unfold unsL
  rcases (by omega : c % 2 = 0 ∨ c % 2 = 1) with h | h
  · rw [if_pos h, h]; rfl
  rw [if_neg (by omega), h]; rfl
theorem uns_sl {w : World} {g : Nat} {a c : Int} (B : Blk w g 70 #[.string (filterS a), .int .i64 0, .string (filterS c), .int .i64 0]) : Sl w (some ⟨g, 0, none⟩) (unsL a c).length 2 (subCells (unsL a c)) := by
  unfold unsL
  split
  · exact ⟨rfl, fun _ => ⟨g, 0, rfl, B.lt, fun j u hu => by
      rw [Nat.zero_add]
      refine B.cl ?_
      match j, hu with
      | 0, hu => exact hu
      | 1, hu => exact hu
      | n + 2, hu => simp [subCells] at hu⟩⟩
  exact B.slN (n := 2) (size := 2) rfl
theorem sub_cells (l : List (ByteArray × Int)) (x : ByteArray × Int) : subCells (l ++ [x]) = subCells l ++ [.string x.1, .int .i64 x.2] := by simp [subCells]
theorem su_one {w w1 w2 : World} {g : Nat} {s : ByteArray} {i : Int} (hs : w.heap.size ≤ w1.heap.size) (N : Newb w1 w2 g 70 #[.string s, .int .i64 i]) : Fresh w w2 70 2 (some ⟨g, 0, none⟩) ([(s, i)] : List (ByteArray × Int)).length 1 (subCells [(s, i)]) :=
  ⟨N.own (k := 1) (size := 2) rfl (by decide), fun b hb => by
    simp at hb
    subst hb
    exact Nat.le_trans hs N.lo⟩
set_option maxRecDepth 100000 in
set_option maxHeartbeats 8000000 in
theorem seat_any (k a0_ b c : Int) (x : List UInt8) (A : Option Addr) (cx : Nat) (w : World) (SX : Sl w A x.length 1 (x.map u8)) (hk : 0 ≤ k ∧ k < 256) (ha0_ : 0 ≤ a0_ ∧ a0_ < 256) (hb : 0 ≤ b ∧ b < 256) (hc : 0 ≤ c ∧ c < 256) : Calls Tryd.prog 15 #[.int .u8 k, .int .u8 a0_, .int .u8 b, .int .u8 c, .slice A x.length cx] w (SeatPost (seatP k a0_ b c x) w) := by
 have HK : Kept [] w w := Kept.refl [] w
 refine C.enter Tryd.func15 rfl Tryd.ntmps15 rfl ?_
 intro a0 f0
 have f1 : Fr 130 a0 [(0, .int .u8 k), (1, .int .u8 a0_), (2, .int .u8 b), (3, .int .u8 c), (4, .slice A x.length cx)] := f0
 refine C.sk fun K0 hK0 => ?_
 refine L.alloc f1 wantedN (by decide) (z := (.agg #[(.int .i64 0), (.bool false), (.bool false), (.int .i64 0), (.int .i64 0), (.string ⟨#[]⟩), (.slice none 0 0), (.int .i64 0), (.string ⟨#[]⟩), (.bool false), (.int .i64 0), (.bool false), (.string ⟨#[]⟩), (.slice none 0 0), (.int .i64 0), (.bool false), (.bool false), (.bool false), (.string ⟨#[]⟩), (.slice none 0 0), (.bool false), (.int .i64 0), (.slice none 0 0), (.slice none 0 0)])) (fun _ => by kernel_rfl) rfl fun a2 w1 g0 N0 f2 => ?_
 have Bg0 := N0.blk
 have kg0 := N0.kept
 have log0 := N0.lo
 have ltg0 := Bg0.lt
 have szw1 := kg0.size
 have frg0 : w.heap.size ≤ g0 := Nat.le_trans HK.size log0
 replace HK := HK.trans kg0 (by simp)
 clear f0 N0 kg0
 refine wpList_nil (hK0 _ _ ?_)
 have f3 := f2.sub (sc 0 (sc 1 (sc 2 (sc 3 (sc 4 (sc 10 sn))))))
 refine C.sk fun K1 hK1 => ?_
 refine L.mv f3 fun a4 f4 => ?_
 refine L.va f4 (E.rem f4 rfl rfl (by omega) (Int.tmod_eq_emod_of_nonneg (by omega))) fun a5 f5 => ?_
 refine L.va f5 (E.conv f5 U5 U3 rfl (IntWalk.i64_in _ (by omega))) fun a6 f6 => ?_
 refine L.va f6 (E.add f6 rfl rfl (IntWalk.i64_in _ (by omega))) fun a7 f7 => ?_
 refine L.ag f7 fun a8 f8 => ?_
 refine wpList_nil (hK1 _ _ ?_)
 have f9 := f8.sub (sc 0 (sc 1 (sc 2 (sc 3 (sc 4 (sc 10 (sc 11 sn)))))))
 clear f1 a0 f2 f3 a2 f4 a4 f5 a5 f6 a6 f7 a7 f8
 refine wp_seq_k fun K2 hK2 => ?_
 refine C.sk fun K3 hK3 => ?_
 refine L.mv f9 fun a10 f10 => ?_
 refine L.va f10 (E.rem f10 rfl rfl (by omega) (Int.tmod_eq_emod_of_nonneg (by omega))) fun a11 f11 => ?_
 refine wpList_nil (hK3 _ _ ?_)
 have f12 := f11.sub (sc 1 (sc 2 (sc 3 (sc 4 (sc 10 (sc 11 (sc 19 sn)))))))
 refine wp_block ?_
 obtain ⟨J7, hJ7⟩ : ∃ J : Act → World → Prop, J = fun a W => Kept [] w W ∧ Blk W g0 28 zeroPk ∧ Fr 130 a [(1, .int .u8 a0_), (2, .int .u8 b), (3, .int .u8 c), (4, .slice A x.length cx), (10, .pointer (some ⟨g0, 0, none⟩)), (11, .int .i64 (b % 7 + 1)), (19, .int .u8 (k % 15)), (20, .bool (decide (k % 15 ≤ 3)))] := ⟨_, rfl⟩
 clear f9 a8 f10 a10 f11
 refine C.cut J7 ?_ ?_
 ·skip
  refine C.sk fun K4 hK4 => ?_
  refine L.va f12 (E.eq f12) fun a13 f13 => ?_
  refine L.ag f13 fun a14 f14 => ?_
  refine wpList_nil (hK4 _ _ ?_)
  have f15 := f14.sub (sc 1 (sc 2 (sc 3 (sc 4 (sc 10 (sc 11 (sc 19 (sc 20 sn))))))))
  clear f12 a11 f13 a13 f14
  refine f15.splitD 20 rfl (fun h0 f16 => ?_) (fun h0 f16 => ?_)
  ·have hm := h0
   refine C.condT f16 rfl ?_
   exact wp_skip (then_of (J := J7) (Q := fun _ _ _ => True) (by rw [hJ7]; exact ⟨HK, Bg0, f16.sub (sub_cons rfl (sub_cons rfl (sub_cons rfl (sub_cons rfl (sub_cons rfl (sub_cons rfl (sub_cons rfl (sub_cons (by exact congrArg (fun t => some (Value.bool t)) (decide_eq_true (by omega : k % 15 ≤ 3)).symm) sn))))))))⟩))
  refine C.condF f16 rfl ?_
  refine C.sk fun K5 hK5 => ?_
  refine L.va f16 (E.eq f16) fun a17 f17 => ?_
  refine L.ag f17 fun a18 f18 => ?_
  refine wpList_nil (hK5 _ _ ?_)
  have f19 := f18.sub (sc 1 (sc 2 (sc 3 (sc 4 (sc 10 (sc 11 (sc 19 (sc 20 sn))))))))
  clear f15 f16 a14 f17 a17 f18
  refine f19.splitD 20 rfl (fun h1 f20 => ?_) (fun h1 f20 => ?_)
  ·have hm := h1
   refine C.condT f20 rfl ?_
   exact wp_skip (then_of (J := J7) (Q := fun _ _ _ => True) (by rw [hJ7]; exact ⟨HK, Bg0, f20.sub (sub_cons rfl (sub_cons rfl (sub_cons rfl (sub_cons rfl (sub_cons rfl (sub_cons rfl (sub_cons rfl (sub_cons (by exact congrArg (fun t => some (Value.bool t)) (decide_eq_true (by omega : k % 15 ≤ 3)).symm) sn))))))))⟩))
  refine C.condF f20 rfl ?_
  refine C.sk fun K6 hK6 => ?_
  refine L.va f20 (E.eq f20) fun a21 f21 => ?_
  refine L.ag f21 fun a22 f22 => ?_
  refine wpList_nil (hK6 _ _ ?_)
  have f23 := f22.sub (sc 1 (sc 2 (sc 3 (sc 4 (sc 10 (sc 11 (sc 19 (sc 20 sn))))))))
  clear f19 f20 a18 f21 a21 f22
  refine f23.splitD 20 rfl (fun h2 f24 => ?_) (fun h2 f24 => ?_)
  ·have hm := h2
   refine C.condT f24 rfl ?_
   exact wp_skip (then_of (J := J7) (Q := fun _ _ _ => True) (by rw [hJ7]; exact ⟨HK, Bg0, f24.sub (sub_cons rfl (sub_cons rfl (sub_cons rfl (sub_cons rfl (sub_cons rfl (sub_cons rfl (sub_cons rfl (sub_cons (by exact congrArg (fun t => some (Value.bool t)) (decide_eq_true (by omega : k % 15 ≤ 3)).symm) sn))))))))⟩))
  refine C.condF f24 rfl ?_
  refine C.region ?_
  refine L.va f24 (E.eq f24) fun a25 f25 => ?_
  refine L.ag f25 fun a26 f26 => ?_
  exact wpList_nil (then_of (J := J7) (Q := fun _ _ _ => True) (by rw [hJ7]; exact ⟨HK, Bg0, f26.sub (sub_cons rfl (sub_cons rfl (sub_cons rfl (sub_cons rfl (sub_cons rfl (sub_cons rfl (sub_cons rfl (sub_cons (by exact congrArg (fun t => some (Value.bool t)) (decide_eq_decide.2 (by omega))) sn))))))))⟩))
 intro a13 w2 hj
 rw [hJ7] at hj
 clear hJ7 J7
 obtain ⟨HK, Bg0, f13⟩ := hj
 try clear f12
 refine f13.splitD 20 rfl (fun h3 f14 => ?_) (fun h3 f14 => ?_)
 ·have hm := h3
  refine C.condT f14 rfl ?_
  refine C.sk fun K7 hK7 => ?_
  refine L.mv f14 fun a15 f15 => ?_
  refine L.cl f15 (run_call Tryd.call34 (args1 f15 rfl)) (topicS_any a0_ _ ha0_) ?_
  clear f13 f14 a13
  rintro e w3 ⟨kc3, rfl⟩
  refine ⟨_, rfl, fun a16 f16 => ?_⟩
  have szw3 := kc3.size
  replace HK := HK.trans kc3 (by simp)
  replace Bg0 := Bg0.kept kc3 (by simp)
  clear f15 a15 kc3
  refine L.mv f16 fun a17 f17 => ?_
  refine L.mv f17 fun a18 f18 => ?_
  refine L.va f18 (E.rem f18 rfl rfl (by omega) (Int.tmod_eq_emod_of_nonneg (by omega))) fun a19 f19 => ?_
  refine L.va f19 (E.conv f19 U5 U3 rfl (IntWalk.i64_in _ (by omega))) fun a20 f20 => ?_
  refine L.mv f20 fun a21 f21 => ?_
  refine L.va f21 (E.rem f21 rfl rfl (by omega) (Int.tmod_eq_emod_of_nonneg (by omega))) fun a22 f22 => ?_
  refine L.va f22 (E.eq f22) fun a23 f23 => ?_
  clear f16 a16 f17 a17 f18 a18 f19 a19 f20 a20 f21 a21 f22 a22
  refine L.va f23 (E.build f23 (parts5 f23 rfl rfl rfl rfl rfl) (wbl28_0_5_6_3_2_xg _ _ _ _ _ _ _)) fun a24 f24 => ?_
  refine L.alloc f24 wantedN (by decide) (z := (.agg #[(.int .i64 0), (.bool false), (.bool false), (.int .i64 0), (.int .i64 0), (.string ⟨#[]⟩), (.slice none 0 0), (.int .i64 0), (.string ⟨#[]⟩), (.bool false), (.int .i64 0), (.bool false), (.string ⟨#[]⟩), (.slice none 0 0), (.int .i64 0), (.bool false), (.bool false), (.bool false), (.string ⟨#[]⟩), (.slice none 0 0), (.bool false), (.int .i64 0), (.slice none 0 0), (.slice none 0 0)])) (fun _ => by kernel_rfl) rfl fun a25 w4 g3 N3 f25 => ?_
  have Bg3 := N3.blk
  have kg3 := N3.kept
  have log3 := N3.lo
  have ltg3 := Bg3.lt
  have szw4 := kg3.size
  have frg3 : w.heap.size ≤ g3 := Nat.le_trans HK.size log3
  have neg0_g3 : g0 ≠ g3 := by have := Bg0.lt; omega
  replace HK := HK.trans kg3 (by simp)
  replace Bg0 := Bg0.kept kg3 (by simp)
  clear f23 a23 N3 kg3
  refine L.storeR f25 wantedN wsz28_xg rfl rfl rfl Bg3 rfl rfl fun a26 w5 f26 NB5 ks5 => ?_
  have szw5 := ks5.size
  replace HK := HK.trans ks5 (ktr (by omega))
  replace Bg0 := Bg0.kept ks5 (by simp; omega)
  replace Bg3 := NB5
  clear f24 a24 ks5 f25 a25
  refine wpList_nil (hK7 _ _ ?_)
  have f27 := f26.sub (sc 3 (sc 10 (sc 12 sn)))
  refine wp_seq_k fun K8 hK8 => ?_
  refine C.sk fun K9 hK9 => ?_
  refine L.fa 3 f27 U28 rfl wsz3_xg fun a28 f28 => ?_
  refine L.ld f28 U3 Bg3 fun a29 f29 => ?_
  refine L.va f29 (E.gtr f29 rfl rfl) fun a30 f30 => ?_
  refine wpList_nil (hK9 _ _ ?_)
  have f31 := f30.sub (sc 3 (sc 10 (sc 12 (sc 37 sn))))
  clear f26 f27 a26 f28 a28 f29 a29 f30
  refine f31.splitD 37 rfl (fun h4 f32 => ?_) (fun h4 f32 => ?_)
  ·refine C.condT f32 rfl ?_
   refine C.region ?_
   refine L.mv f32 fun a33 f33 => ?_
   refine L.va f33 (E.rem f33 rfl rfl (by omega) (Int.tmod_eq_emod_of_nonneg (by omega))) fun a34 f34 => ?_
   refine L.va f34 (E.conv f34 U5 U3 rfl (IntWalk.i64_in _ (by omega))) fun a35 f35 => ?_
   refine L.va f35 (E.add f35 rfl rfl (IntWalk.i64_in _ (by omega))) fun a36 f36 => ?_
   refine L.mv f36 fun a37 f37 => ?_
   refine L.va f37 (E.rem f37 rfl rfl (by omega) (Int.tmod_eq_emod_of_nonneg (by omega))) fun a38 f38 => ?_
   refine L.va f38 (E.eq f38) fun a39 f39 => ?_
   clear f31 f32 a30 f33 a33 f34 a34 f35 a35 f36 a36 f37 a37 f38 a38
   refine L.fa 4 f39 U28 rfl wsz3_xg fun a40 f40 => ?_
   refine L.store f40 wantedN wsz3_xg rfl rfl rfl Bg3 (by (simp [Value.cells]; done)) fun a41 w6 f41 NB6 ks6 => ?_
   have szw6 := ks6.size
   replace HK := HK.trans ks6 (ktr (by omega))
   replace Bg0 := Bg0.kept ks6 (by simp; omega)
   replace Bg3 := NB6
   simp only [Value.cells, z1, z2, z3, Nat.reduceAdd, Nat.zero_add] at Bg3
   clear f39 a39 ks6 f40 a40
   refine L.fa 1 f41 U28 rfl wsz4_xg fun a42 f42 => ?_
   refine L.store f42 wantedN wsz4_xg rfl rfl rfl Bg3 (by (simp [Value.cells]; done)) fun a43 w7 f43 NB7 ks7 => ?_
   have szw7 := ks7.size
   replace HK := HK.trans ks7 (ktr (by omega))
   replace Bg0 := Bg0.kept ks7 (by simp; omega)
   replace Bg3 := NB7
   simp only [Value.cells, z1, z2, z3, Nat.reduceAdd, Nat.zero_add] at Bg3
   clear f41 a41 ks7 f42 a42
   refine wpList_nil (hK8 _ _ ?_)
   have f44 := f43.sub (sc 10 (sc 12 sn))
   refine C.sk fun K10 hK10 => ?_
   refine L.va f44 (by exact E.loadB f44 U28 rfl wsz28_xg rfl (Bg3) rfl) fun a45 f45 => ?_
   refine L.storeR f45 wantedN wsz28_xg rfl rfl rfl Bg0 rfl rfl fun a46 w8 f46 NB8 ks8 => ?_
   have szw8 := ks8.size
   replace HK := HK.trans ks8 (ktr (by omega))
   replace Bg3 := Bg3.kept ks8 (by simp; omega)
   replace Bg0 := NB8
   clear f43 f44 a43 ks8 f45 a45
   refine wpList_nil (hK10 _ _ ?_)
   have f47 := f46.sub (sc 10 sn)
   refine wp_ret ?_
   try simp only [Exit.inBlock, Exit.then]
   refine C.retC (P := Tryd.prog) (fn := Tryd.f15) f47 rfl rfl Bg0 U28 rfl wsz28_xg ?_
   exact ⟨{ s0 with pa := A, pc := cx }, by rw [seat_pub hm, if_pos (by assumption)]; rfl, HK, by rw [seat_pub hm, if_pos (by assumption)]; exact ⟨SX.kept HK, Sl.nil _ _ _, Sl.nil _ _ _, Sl.nil _ _ _, Sl.nil _ _ _⟩⟩
  refine C.condF f32 rfl ?_
  refine wp_skip (hK8 _ _ ?_)
  have f33 := f32.sub (sc 10 (sc 12 sn))
  refine C.sk fun K11 hK11 => ?_
  refine L.va f33 (by exact E.loadB f33 U28 rfl wsz28_xg rfl (Bg3) rfl) fun a34 f34 => ?_
  refine L.storeR f34 wantedN wsz28_xg rfl rfl rfl Bg0 rfl rfl fun a35 w6 f35 NB6 ks6 => ?_
  have szw6 := ks6.size
  replace HK := HK.trans ks6 (ktr (by omega))
  replace Bg3 := Bg3.kept ks6 (by simp; omega)
  replace Bg0 := NB6
  clear f31 f32 f33 a30 ks6 f34 a34
  refine wpList_nil (hK11 _ _ ?_)
  have f36 := f35.sub (sc 10 sn)
  refine wp_ret ?_
  try simp only [Exit.inBlock, Exit.then]
  refine C.retC (P := Tryd.prog) (fn := Tryd.f15) f36 rfl rfl Bg0 U28 rfl wsz28_xg ?_
  exact ⟨{ s0 with pa := A, pc := cx }, by rw [seat_pub hm, if_neg (by assumption)]; rfl, HK, by rw [seat_pub hm, if_neg (by assumption)]; exact ⟨SX.kept HK, Sl.nil _ _ _, Sl.nil _ _ _, Sl.nil _ _ _, Sl.nil _ _ _⟩⟩
 refine C.condF f14 rfl ?_
 obtain ⟨J14, hJ14⟩ : ∃ J : Act → World → Prop, J = fun a W => Kept [] w W ∧ Blk W g0 28 zeroPk ∧ Fr 130 a [(1, .int .u8 a0_), (2, .int .u8 b), (3, .int .u8 c), (4, .slice A x.length cx), (10, .pointer (some ⟨g0, 0, none⟩)), (11, .int .i64 (b % 7 + 1)), (19, .int .u8 (k % 15)), (48, .bool (decide (k % 15 ≤ 6)))] := ⟨_, rfl⟩
 clear f13
 refine C.cut J14 ?_ ?_
 ·skip
  refine C.sk fun K12 hK12 => ?_
  refine L.va f14 (E.eq f14) fun a15 f15 => ?_
  refine L.ag f15 fun a16 f16 => ?_
  refine wpList_nil (hK12 _ _ ?_)
  have f17 := f16.sub (sc 1 (sc 2 (sc 3 (sc 4 (sc 10 (sc 11 (sc 19 (sc 48 sn))))))))
  clear f14 a13 f15 a15 f16
  refine f17.splitD 48 rfl (fun h5 f18 => ?_) (fun h5 f18 => ?_)
  ·have hm : 4 ≤ k % 15 ∧ k % 15 ≤ 6 := by omega
   refine C.condT f18 rfl ?_
   exact wp_skip (then_of (J := J14) (Q := fun _ _ _ => True) (by rw [hJ14]; exact ⟨HK, Bg0, f18.sub (sub_cons rfl (sub_cons rfl (sub_cons rfl (sub_cons rfl (sub_cons rfl (sub_cons rfl (sub_cons rfl (sub_cons (by exact congrArg (fun t => some (Value.bool t)) (decide_eq_true (by omega : k % 15 ≤ 6)).symm) sn))))))))⟩))
  refine C.condF f18 rfl ?_
  refine C.sk fun K13 hK13 => ?_
  refine L.va f18 (E.eq f18) fun a19 f19 => ?_
  refine L.ag f19 fun a20 f20 => ?_
  refine wpList_nil (hK13 _ _ ?_)
  have f21 := f20.sub (sc 1 (sc 2 (sc 3 (sc 4 (sc 10 (sc 11 (sc 19 (sc 48 sn))))))))
  clear f17 f18 a16 f19 a19 f20
  refine f21.splitD 48 rfl (fun h6 f22 => ?_) (fun h6 f22 => ?_)
  ·have hm : 4 ≤ k % 15 ∧ k % 15 ≤ 6 := by omega
   refine C.condT f22 rfl ?_
   exact wp_skip (then_of (J := J14) (Q := fun _ _ _ => True) (by rw [hJ14]; exact ⟨HK, Bg0, f22.sub (sub_cons rfl (sub_cons rfl (sub_cons rfl (sub_cons rfl (sub_cons rfl (sub_cons rfl (sub_cons rfl (sub_cons (by exact congrArg (fun t => some (Value.bool t)) (decide_eq_true (by omega : k % 15 ≤ 6)).symm) sn))))))))⟩))
  refine C.condF f22 rfl ?_
  refine C.region ?_
  refine L.va f22 (E.eq f22) fun a23 f23 => ?_
  refine L.ag f23 fun a24 f24 => ?_
  exact wpList_nil (then_of (J := J14) (Q := fun _ _ _ => True) (by rw [hJ14]; exact ⟨HK, Bg0, f24.sub (sub_cons rfl (sub_cons rfl (sub_cons rfl (sub_cons rfl (sub_cons rfl (sub_cons rfl (sub_cons rfl (sub_cons (by exact congrArg (fun t => some (Value.bool t)) (decide_eq_decide.2 (by omega))) sn))))))))⟩))
 intro a15 w3 hj
 rw [hJ14] at hj
 clear hJ14 J14
 obtain ⟨HK, Bg0, f15⟩ := hj
 try clear f14
 refine f15.splitD 48 rfl (fun h7 f16 => ?_) (fun h7 f16 => ?_)
 ·have hm : 4 ≤ k % 15 ∧ k % 15 ≤ 6 := by omega
  refine C.condT f16 rfl ?_
  obtain ⟨J15, hJ15⟩ : ∃ J : Act → World → Prop, J = fun a W => ∃ (gq : Nat) (l : List (ByteArray × Int)) (Aq : Option Addr) (cq : Nat), l = [(filterS a0_, b % 3)] ∧ gq ≠ g0 ∧ w.heap.size ≤ gq ∧ Kept [] w W ∧ Blk W g0 28 zeroPk ∧ Blk W gq 28 (({ kind := 8, id := b % 7 + 1, subs := l } : Pk).cells { s0 with ua := Aq, uc := cq }) ∧ Fresh w W 70 2 Aq l.length cq (subCells l) ∧ Fr 130 a [(3, .int .u8 c), (10, .pointer (some ⟨g0, 0, none⟩)), (13, .pointer (some ⟨gq, 0, none⟩))] := ⟨_, rfl⟩
  clear f15
  refine C.cut J15 ?_ ?_
  ·skip
   refine C.region ?_
   refine L.mv f16 fun a17 f17 => ?_
   refine L.mv f17 fun a18 f18 => ?_
   refine L.cl f18 (run_call Tryd.call35 (args1 f18 rfl)) (filterS_any a0_ _ ha0_) ?_
   clear f16 a15 f17 a17
   rintro e w4 ⟨kc4, rfl⟩
   refine ⟨_, rfl, fun a19 f19 => ?_⟩
   have szw4 := kc4.size
   replace HK := HK.trans kc4 (by simp)
   replace Bg0 := Bg0.kept kc4 (by simp)
   clear f18 a18 kc4
   refine L.mv f19 fun a20 f20 => ?_
   refine L.va f20 (E.rem f20 rfl rfl (by omega) (Int.tmod_eq_emod_of_nonneg (by omega))) fun a21 f21 => ?_
   refine L.va f21 (E.conv f21 U5 U3 rfl (IntWalk.i64_in _ (by omega))) fun a22 f22 => ?_
   refine L.va f22 (E.build f22 (parts2 f22 rfl rfl) (wbl70_0_1_xg _ _)) fun a23 f23 => ?_
   refine L.buildSlice f23 wantedN (by decide) (parts1 f23 rfl) U25 wzi70_xg rfl rfl (wbs25_1_xg _ _) fun a24 w5 g4 N4 f24 => ?_
   have SU := su_one HK.size N4
   have Bg4 := N4.blk
   have kg4 := N4.kept
   have log4 := N4.lo
   have ltg4 := Bg4.lt
   have szw5 := kg4.size
   have frg4 : w.heap.size ≤ g4 := Nat.le_trans HK.size log4
   have neg0_g4 : g0 ≠ g4 := by have := Bg0.lt; omega
   replace HK := HK.trans kg4 (by simp)
   replace Bg0 := Bg0.kept kg4 (by simp)
   clear f19 a19 f20 a20 f21 a21 f22 a22 N4 kg4
   refine L.va f24 (E.build f24 (parts3 f24 rfl rfl rfl) (wbl28_0_4_19_xg _ _ _ _ _)) fun a25 f25 => ?_
   refine L.alloc f25 wantedN (by decide) (z := (.agg #[(.int .i64 0), (.bool false), (.bool false), (.int .i64 0), (.int .i64 0), (.string ⟨#[]⟩), (.slice none 0 0), (.int .i64 0), (.string ⟨#[]⟩), (.bool false), (.int .i64 0), (.bool false), (.string ⟨#[]⟩), (.slice none 0 0), (.int .i64 0), (.bool false), (.bool false), (.bool false), (.string ⟨#[]⟩), (.slice none 0 0), (.bool false), (.int .i64 0), (.slice none 0 0), (.slice none 0 0)])) (fun _ => by kernel_rfl) rfl fun a26 w6 g5 N5 f26 => ?_
   have Bg5 := N5.blk
   have kg5 := N5.kept
   have log5 := N5.lo
   have ltg5 := Bg5.lt
   have szw6 := kg5.size
   have frg5 : w.heap.size ≤ g5 := Nat.le_trans HK.size log5
   have neg0_g5 : g0 ≠ g5 := by have := Bg0.lt; omega
   have neg4_g5 : g4 ≠ g5 := by have := Bg4.lt; omega
   replace HK := HK.trans kg5 (by simp)
   replace Bg0 := Bg0.kept kg5 (by simp)
   replace Bg4 := Bg4.kept kg5 (by simp)
   replace SU := SU.kept0 kg5
   clear f23 a23 f24 a24 N5 kg5
   refine L.storeR f26 wantedN wsz28_xg rfl rfl rfl Bg5 rfl rfl fun a27 w7 f27 NB7 ks7 => ?_
   have szw7 := ks7.size
   replace HK := HK.trans ks7 (ktr (by omega))
   replace Bg0 := Bg0.kept ks7 (by simp; omega)
   replace Bg4 := Bg4.kept ks7 (by simp; omega)
   replace SU := fresh_blk SU ks7 Bg5 (by decide)
   replace Bg5 := NB7
   clear f25 a25 ks7 f26 a26
   exact wpList_nil (then_of (J := J15) (Q := fun _ _ _ => True) (by rw [hJ15]; exact ⟨g5, [(filterS a0_, b % 3)], some ⟨g4, 0, none⟩, 1, rfl, by omega, by omega, HK, Bg0, Bg5, SU, f27.sub (sub_cons rfl (sub_cons rfl (sub_cons rfl sn)))⟩))
  intro a17 w4 hj
  rw [hJ15] at hj
  clear hJ15 J15
  obtain ⟨gq, l, Aq, cq, hl, hne, hgq, HK, Bg0, BQ, SU, f17⟩ := hj
  try clear f16
  replace BQ : Blk w4 gq 28 #[.int .i64 8, .bool false, .bool false, .int .i64 0, .int .i64 (b % 7 + 1), .string em, .slice none 0 0, .int .i64 0, .string em, .bool false, .int .i64 0, .bool false, .string em, .slice none 0 0, .int .i64 0, .bool false, .bool false, .bool false, .string em, .slice none 0 0, .bool false, .int .i64 0, .slice Aq l.length cq, .slice none 0 0] := BQ
  have hne2 : g0 ≠ gq := fun e => hne e.symm
  have hll : l.length = 1 := by rw [hl]; rfl
  obtain ⟨J17, hJ17⟩ : ∃ J : Act → World → Prop, J = fun a W => ∃ (l2 : List (ByteArray × Int)) (A2 : Option Addr) (c2 : Nat), l2 = sub2 c l ∧ Kept [] w W ∧ Blk W g0 28 zeroPk ∧ Blk W gq 28 (({ kind := 8, id := b % 7 + 1, subs := l2 } : Pk).cells { s0 with ua := A2, uc := c2 }) ∧ Fresh w W 70 2 A2 l2.length c2 (subCells l2) ∧ Fr 130 a [(3, .int .u8 c), (10, .pointer (some ⟨g0, 0, none⟩)), (13, .pointer (some ⟨gq, 0, none⟩))] := ⟨_, rfl⟩
  refine C.cut J17 ?_ ?_
  ·skip
   refine C.sk fun K14 hK14 => ?_
   refine L.mv f17 fun a18 f18 => ?_
   refine L.va f18 (E.rem f18 rfl rfl (by omega) (Int.tmod_eq_emod_of_nonneg (by omega))) fun a19 f19 => ?_
   refine L.va f19 (E.eq f19) fun a20 f20 => ?_
   refine wpList_nil (hK14 _ _ ?_)
   have f21 := f20.sub (sc 3 (sc 10 (sc 13 (sc 63 sn))))
   clear f17 a17 f18 a18 f19 a19 f20
   refine f21.splitD 63 rfl (fun h8 f22 => ?_) (fun h8 f22 => ?_)
   ·refine C.condT f22 rfl ?_
    have hd16 : Kept [] w4 (w4.drewN 1) := (Kept.refl _ _).drewN 1
    refine R.beginT (S := fun _ => True) (by kernel_rfl) (by kernel_rfl) trivial fun ht => ?_
    obtain ⟨w5, hww5⟩ : ∃ W, W = w4.drewN 1 := ⟨_, rfl⟩
    rw [← hww5] at hd16 ⊢
    clear f21 hww5
    have szw5 := hd16.size
    replace HK := HK.trans hd16 (by simp)
    replace Bg0 := Bg0.kept hd16 (by simp)
    replace BQ := BQ.kept hd16 (by simp)
    replace SU := SU.kept0 hd16
    clear hd16
    refine R.u 0 f22 rfl ht trivial (fun W hW => (E.fa 22 f22 U28 rfl wsz25_xg)) fun a23 f23 => ?_
    refine R.u 2 f23 rfl ht trivial (fun W hW => (E.move f23 rfl)) fun a24 f24 => ?_
    refine R.u 4 f24 rfl ht trivial (fun W hW => (E.move f24 rfl)) fun a25 f25 => ?_
    refine R.u 5 f25 rfl ht trivial (fun W hW => (E.rem f25 rfl rfl (by omega) (Int.tmod_eq_emod_of_nonneg (by omega)))) fun a26 f26 => ?_
    refine R.u 6 f26 rfl ht trivial (fun W hW => (E.conv f26 U5 U3 rfl (IntWalk.i64_in _ (by omega)))) fun a27 f27 => ?_
    clear f22 a20 f23 a23 f24 a24 f25 a25 f26 a26
    refine R.two 1 3 (by kernel_rfl) ?_ ?_
    ·skip
     refine O.val f27 rfl rfl (by decide) wantedN (by exact E.ld f27 U25 (BQ)) trivial fun a28 f28 => ?_
     refine R.one 3 (by kernel_rfl) ?_
     refine O.call f28 rfl rfl (by decide) wantedN (run_call Tryd.call35 (args1 f28 rfl)) (filterS_any c _ hc) ?_
     clear f27 a27
     rintro e w6 ⟨kc6, rfl⟩
     refine ⟨_, rfl, trivial, fun a29 f29 => ?_⟩
     have szw6 := kc6.size
     replace HK := HK.trans kc6 (by simp)
     replace Bg0 := Bg0.kept kc6 (by simp)
     replace BQ := BQ.kept kc6 (by simp)
     replace SU := SU.kept0 kc6
     clear f28 a28 kc6
     refine R.u 7 f29 rfl ht trivial (fun W hW => (E.build f29 (parts2 f29 rfl rfl) (wbl70_0_1_xg _ _))) fun a30 f30 => ?_
     refine R.one 8 (by kernel_rfl) ?_
     refine O.buildSlice f30 rfl wantedN (by decide) (parts1 f30 rfl) U25 wzi70_xg rfl rfl (wbs25_1_xg _ _) (fun _ _ => trivial) fun a31 w7 g6 N6 hSn f31 => ?_
     clear f29 a29 hSn
     have Bg6 := N6.blk
     have kg6 := N6.kept
     have log6 := N6.lo
     have ltg6 := Bg6.lt
     have szw7 := kg6.size
     have frg6 : w.heap.size ≤ g6 := Nat.le_trans HK.size log6
     have neg0_g6 : g0 ≠ g6 := by have := Bg0.lt; omega
     have negq_g6 : gq ≠ g6 := by have := BQ.lt; omega
     replace HK := HK.trans kg6 (by simp)
     replace Bg0 := Bg0.kept kg6 (by simp)
     replace BQ := BQ.kept kg6 (by simp)
     replace SU := SU.kept0 kg6
     clear N6 kg6
     refine R.one 9 (by kernel_rfl) ?_
     refine O.append f31 rfl wantedN (by decide) U25 wzib70_xg rfl rfl rfl rfl SU.own (Bg6.slN (size := 2) rfl) (by intro u hu; simp at hu; rcases hu with rfl | rfl <;> rfl) (by unfold maxLen; omega) (by omega) fun a32 w8 A8 c8 AP => ?_
     have szw8 := AP.kept.size
     have HKn := AP.grow SU HK
     have BQn := BQ.kept AP.kept (own_ne SU.own BQ (by decide))
     have Bg0n := Bg0.kept AP.kept (own_ne SU.own Bg0 (by decide))
     have SUn := AP.next SU HK.size
     refine ⟨trivial, fun f32 => ?_⟩
     clear f30 a30 f31 Bg6 HK SU BQ Bg0
     have HK := HKn
     have SU := SUn
     have BQ := BQn
     have Bg0 := Bg0n
     clear HKn SUn BQn Bg0n AP
     refine R.u 10 f32 rfl ht trivial (fun W hW => (E.fa 22 f32 U28 rfl wsz25_xg)) fun a33 f33 => ?_
     refine R.one 11 (by kernel_rfl) ?_
     refine OT.store f33 rfl wantedN wsz25_xg rfl rfl rfl BQ (by (simp [Value.cells]; done)) fun a34 w9 f34 NB9 ks9 => ?_
     have szw9 := ks9.size
     replace HK := HK.trans ks9 (ktr (by omega))
     replace Bg0 := Bg0.kept ks9 (by simp; omega)
     replace SU := fresh_blk SU ks9 BQ (by decide)
     replace BQ := NB9
     simp only [Value.cells, z1, z2, z3, Nat.reduceAdd, Nat.zero_add] at BQ
     clear f32 a32 ks9 f33 a33
     exact R.done (by kernel_rfl) (then_of (J := J17) (Q := fun _ _ _ => True) (by rw [hJ17]; exact ⟨l ++ [(filterS c, c % 2)], A8, c8, by unfold sub2; rw [if_pos (by assumption)], HK, Bg0, by rw [Pk.cells, List.length_append]; exact BQ, by rw [sub_cells, List.length_append]; exact SU, f34.sub (sub_cons rfl (sub_cons rfl (sub_cons rfl sn)))⟩))
    skip
    refine O.call f27 rfl rfl (by decide) wantedN (run_call Tryd.call35 (args1 f27 rfl)) (filterS_any c _ hc) ?_
    rintro e w6 ⟨kc6, rfl⟩
    refine ⟨_, rfl, trivial, fun a28 f28 => ?_⟩
    have szw6 := kc6.size
    replace HK := HK.trans kc6 (by simp)
    replace Bg0 := Bg0.kept kc6 (by simp)
    replace BQ := BQ.kept kc6 (by simp)
    replace SU := SU.kept0 kc6
    clear f27 a27 kc6
    refine R.u 7 f28 rfl ht trivial (fun W hW => (E.build f28 (parts2 f28 rfl rfl) (wbl70_0_1_xg _ _))) fun a29 f29 => ?_
    clear f28 a28
    refine R.two 1 8 (by kernel_rfl) ?_ ?_
    ·skip
     refine O.val f29 rfl rfl (by decide) wantedN (by exact E.ld f29 U25 (BQ)) trivial fun a30 f30 => ?_
     refine R.one 8 (by kernel_rfl) ?_
     refine O.buildSlice f30 rfl wantedN (by decide) (parts1 f30 rfl) U25 wzi70_xg rfl rfl (wbs25_1_xg _ _) (fun _ _ => trivial) fun a31 w7 g6 N6 hSn f31 => ?_
     clear f29 a29 hSn
     have Bg6 := N6.blk
     have kg6 := N6.kept
     have log6 := N6.lo
     have ltg6 := Bg6.lt
     have szw7 := kg6.size
     have frg6 : w.heap.size ≤ g6 := Nat.le_trans HK.size log6
     have neg0_g6 : g0 ≠ g6 := by have := Bg0.lt; omega
     have negq_g6 : gq ≠ g6 := by have := BQ.lt; omega
     replace HK := HK.trans kg6 (by simp)
     replace Bg0 := Bg0.kept kg6 (by simp)
     replace BQ := BQ.kept kg6 (by simp)
     replace SU := SU.kept0 kg6
     clear N6 kg6
     refine R.one 9 (by kernel_rfl) ?_
     refine O.append f31 rfl wantedN (by decide) U25 wzib70_xg rfl rfl rfl rfl SU.own (Bg6.slN (size := 2) rfl) (by intro u hu; simp at hu; rcases hu with rfl | rfl <;> rfl) (by unfold maxLen; omega) (by omega) fun a32 w8 A8 c8 AP => ?_
     have szw8 := AP.kept.size
     have HKn := AP.grow SU HK
     have BQn := BQ.kept AP.kept (own_ne SU.own BQ (by decide))
     have Bg0n := Bg0.kept AP.kept (own_ne SU.own Bg0 (by decide))
     have SUn := AP.next SU HK.size
     refine ⟨trivial, fun f32 => ?_⟩
     clear f30 a30 f31 Bg6 HK SU BQ Bg0
     have HK := HKn
     have SU := SUn
     have BQ := BQn
     have Bg0 := Bg0n
     clear HKn SUn BQn Bg0n AP
     refine R.u 10 f32 rfl ht trivial (fun W hW => (E.fa 22 f32 U28 rfl wsz25_xg)) fun a33 f33 => ?_
     refine R.one 11 (by kernel_rfl) ?_
     refine OT.store f33 rfl wantedN wsz25_xg rfl rfl rfl BQ (by (simp [Value.cells]; done)) fun a34 w9 f34 NB9 ks9 => ?_
     have szw9 := ks9.size
     replace HK := HK.trans ks9 (ktr (by omega))
     replace Bg0 := Bg0.kept ks9 (by simp; omega)
     replace SU := fresh_blk SU ks9 BQ (by decide)
     replace BQ := NB9
     simp only [Value.cells, z1, z2, z3, Nat.reduceAdd, Nat.zero_add] at BQ
     clear f32 a32 ks9 f33 a33
     exact R.done (by kernel_rfl) (then_of (J := J17) (Q := fun _ _ _ => True) (by rw [hJ17]; exact ⟨l ++ [(filterS c, c % 2)], A8, c8, by unfold sub2; rw [if_pos (by assumption)], HK, Bg0, by rw [Pk.cells, List.length_append]; exact BQ, by rw [sub_cells, List.length_append]; exact SU, f34.sub (sub_cons rfl (sub_cons rfl (sub_cons rfl sn)))⟩))
    skip
    refine O.buildSlice f29 rfl wantedN (by decide) (parts1 f29 rfl) U25 wzi70_xg rfl rfl (wbs25_1_xg _ _) (fun _ _ => trivial) fun a30 w7 g6 N6 hSn f30 => ?_
    clear hSn
    have Bg6 := N6.blk
    have kg6 := N6.kept
    have log6 := N6.lo
    have ltg6 := Bg6.lt
    have szw7 := kg6.size
    have frg6 : w.heap.size ≤ g6 := Nat.le_trans HK.size log6
    have neg0_g6 : g0 ≠ g6 := by have := Bg0.lt; omega
    have negq_g6 : gq ≠ g6 := by have := BQ.lt; omega
    replace HK := HK.trans kg6 (by simp)
    replace Bg0 := Bg0.kept kg6 (by simp)
    replace BQ := BQ.kept kg6 (by simp)
    replace SU := SU.kept0 kg6
    clear N6 kg6
    refine R.one 1 (by kernel_rfl) ?_
    refine O.val f30 rfl rfl (by decide) wantedN (by exact E.ld f30 U25 (BQ)) trivial fun a31 f31 => ?_
    refine R.one 9 (by kernel_rfl) ?_
    refine O.append f31 rfl wantedN (by decide) U25 wzib70_xg rfl rfl rfl rfl SU.own (Bg6.slN (size := 2) rfl) (by intro u hu; simp at hu; rcases hu with rfl | rfl <;> rfl) (by unfold maxLen; omega) (by omega) fun a32 w8 A8 c8 AP => ?_
    have szw8 := AP.kept.size
    have HKn := AP.grow SU HK
    have BQn := BQ.kept AP.kept (own_ne SU.own BQ (by decide))
    have Bg0n := Bg0.kept AP.kept (own_ne SU.own Bg0 (by decide))
    have SUn := AP.next SU HK.size
    refine ⟨trivial, fun f32 => ?_⟩
    clear f29 a29 f30 a30 f31 Bg6 HK SU BQ Bg0
    have HK := HKn
    have SU := SUn
    have BQ := BQn
    have Bg0 := Bg0n
    clear HKn SUn BQn Bg0n AP
    refine R.u 10 f32 rfl ht trivial (fun W hW => (E.fa 22 f32 U28 rfl wsz25_xg)) fun a33 f33 => ?_
    refine R.one 11 (by kernel_rfl) ?_
    refine OT.store f33 rfl wantedN wsz25_xg rfl rfl rfl BQ (by (simp [Value.cells]; done)) fun a34 w9 f34 NB9 ks9 => ?_
    have szw9 := ks9.size
    replace HK := HK.trans ks9 (ktr (by omega))
    replace Bg0 := Bg0.kept ks9 (by simp; omega)
    replace SU := fresh_blk SU ks9 BQ (by decide)
    replace BQ := NB9
    simp only [Value.cells, z1, z2, z3, Nat.reduceAdd, Nat.zero_add] at BQ
    clear f32 a32 ks9 f33 a33
    exact R.done (by kernel_rfl) (then_of (J := J17) (Q := fun _ _ _ => True) (by rw [hJ17]; exact ⟨l ++ [(filterS c, c % 2)], A8, c8, by unfold sub2; rw [if_pos (by assumption)], HK, Bg0, by rw [Pk.cells, List.length_append]; exact BQ, by rw [sub_cells, List.length_append]; exact SU, f34.sub (sub_cons rfl (sub_cons rfl (sub_cons rfl sn)))⟩))
   refine C.condF f22 rfl ?_
   exact wp_skip (then_of (J := J17) (Q := fun _ _ _ => True) (by rw [hJ17]; exact ⟨l, Aq, cq, by unfold sub2; rw [if_neg (by assumption)], HK, Bg0, BQ, SU, f22.sub (sub_cons rfl (sub_cons rfl (sub_cons rfl sn)))⟩))
  intro a18 w5 hj
  rw [hJ17] at hj
  clear hJ17 J17
  obtain ⟨l2, A2, c2, hl2, HK, Bg0, BQ, SU, f18⟩ := hj
  try clear f17
  replace BQ : Blk w5 gq 28 #[.int .i64 8, .bool false, .bool false, .int .i64 0, .int .i64 (b % 7 + 1), .string em, .slice none 0 0, .int .i64 0, .string em, .bool false, .int .i64 0, .bool false, .string em, .slice none 0 0, .int .i64 0, .bool false, .bool false, .bool false, .string em, .slice none 0 0, .bool false, .int .i64 0, .slice A2 l2.length c2, .slice none 0 0] := BQ
  have hll2 : l2.length ≤ 2 := by rw [hl2]; unfold sub2; split <;> simp [hll]
  obtain ⟨J19, hJ19⟩ : ∃ J : Act → World → Prop, J = fun a W => ∃ (l3 : List (ByteArray × Int)) (A3 : Option Addr) (c3 : Nat), l3 = sub3 c l2 ∧ Kept [] w W ∧ Blk W g0 28 zeroPk ∧ Blk W gq 28 (({ kind := 8, id := b % 7 + 1, subs := l3 } : Pk).cells { s0 with ua := A3, uc := c3 }) ∧ Fresh w W 70 2 A3 l3.length c3 (subCells l3) ∧ Fr 130 a [(10, .pointer (some ⟨g0, 0, none⟩)), (13, .pointer (some ⟨gq, 0, none⟩))] := ⟨_, rfl⟩
  refine C.cut J19 ?_ ?_
  ·skip
   refine C.sk fun K15 hK15 => ?_
   refine L.mv f18 fun a19 f19 => ?_
   refine L.va f19 (E.rem f19 rfl rfl (by omega) (Int.tmod_eq_emod_of_nonneg (by omega))) fun a20 f20 => ?_
   refine L.va f20 (E.eq f20) fun a21 f21 => ?_
   refine wpList_nil (hK15 _ _ ?_)
   have f22 := f21.sub (sc 10 (sc 13 (sc 77 sn)))
   clear f18 a18 f19 a19 f20 a20 f21
   refine f22.splitD 77 rfl (fun h9 f23 => ?_) (fun h9 f23 => ?_)
   ·refine C.condT f23 rfl ?_
    refine C.region ?_
    refine L.fa 22 f23 U28 rfl wsz25_xg fun a24 f24 => ?_
    refine L.ld f24 U25 BQ fun a25 f25 => ?_
    refine L.va f25 (E.build f25 (parts2 f25 rfl rfl) (wbl70_0_1_xg _ _)) fun a26 f26 => ?_
    refine L.buildSlice f26 wantedN (by decide) (parts1 f26 rfl) U25 wzi70_xg rfl rfl (wbs25_1_xg _ _) fun a27 w6 g5 N5 f27 => ?_
    have Bg5 := N5.blk
    have kg5 := N5.kept
    have log5 := N5.lo
    have ltg5 := Bg5.lt
    have szw6 := kg5.size
    have frg5 : w.heap.size ≤ g5 := Nat.le_trans HK.size log5
    have neg0_g5 : g0 ≠ g5 := by have := Bg0.lt; omega
    have negq_g5 : gq ≠ g5 := by have := BQ.lt; omega
    replace HK := HK.trans kg5 (by simp)
    replace Bg0 := Bg0.kept kg5 (by simp)
    replace BQ := BQ.kept kg5 (by simp)
    replace SU := SU.kept0 kg5
    clear f22 f23 a21 f24 a24 f25 a25 N5 kg5
    refine L.append f27 wantedN (by decide) U25 wzib70_xg rfl rfl rfl rfl SU.own (Bg5.slN (size := 2) rfl) (by intro u hu; simp at hu; rcases hu with rfl | rfl <;> rfl) (by unfold maxLen; omega) (by omega) fun a28 w7 A7 c7 AP f28 => ?_
    have szw7 := AP.kept.size
    have HKn := AP.grow SU HK
    have BQn := BQ.kept AP.kept (own_ne SU.own BQ (by decide))
    have Bg0n := Bg0.kept AP.kept (own_ne SU.own Bg0 (by decide))
    have SUn := AP.next SU HK.size
    clear f26 a26 f27 Bg5 HK SU BQ Bg0
    have HK := HKn
    have SU := SUn
    have BQ := BQn
    have Bg0 := Bg0n
    clear HKn SUn BQn Bg0n AP
    refine L.fa 22 f28 U28 rfl wsz25_xg fun a29 f29 => ?_
    refine L.store f29 wantedN wsz25_xg rfl rfl rfl BQ (by (simp [Value.cells]; done)) fun a30 w8 f30 NB8 ks8 => ?_
    have szw8 := ks8.size
    replace HK := HK.trans ks8 (ktr (by omega))
    replace Bg0 := Bg0.kept ks8 (by simp; omega)
    replace SU := fresh_blk SU ks8 BQ (by decide)
    replace BQ := NB8
    simp only [Value.cells, z1, z2, z3, Nat.reduceAdd, Nat.zero_add] at BQ
    clear f28 a28 ks8 f29 a29
    exact wpList_nil (then_of (J := J19) (Q := fun _ _ _ => True) (by rw [hJ19]; exact ⟨l2 ++ [(⟨#[97, 35]⟩, 1)], A7, c7, by unfold sub3; rw [if_pos (by assumption)], HK, Bg0, by rw [Pk.cells, List.length_append]; exact BQ, by rw [sub_cells, List.length_append]; exact SU, f30.sub (sub_cons rfl (sub_cons rfl sn))⟩))
   refine C.condF f23 rfl ?_
   exact wp_skip (then_of (J := J19) (Q := fun _ _ _ => True) (by rw [hJ19]; exact ⟨l2, A2, c2, by unfold sub3; rw [if_neg (by assumption)], HK, Bg0, BQ, SU, f23.sub (sub_cons rfl (sub_cons rfl sn))⟩))
  intro a19 w6 hj
  rw [hJ19] at hj
  clear hJ19 J19
  obtain ⟨l3, A3, c3, hl3, HK, Bg0, BQ, SU, f19⟩ := hj
  try clear f18
  refine C.sk fun K16 hK16 => ?_
  refine L.va f19 (by exact E.loadB f19 U28 rfl wsz28_xg rfl (BQ) rfl) fun a20 f20 => ?_
  refine L.storeR f20 wantedN wsz28_xg rfl rfl rfl Bg0 rfl rfl fun a21 w7 f21 NB7 ks7 => ?_
  have szw7 := ks7.size
  replace HK := HK.trans ks7 (ktr (by omega))
  replace BQ := BQ.kept ks7 (by simp; omega)
  replace SU := fresh_blk SU ks7 Bg0 (by decide)
  replace Bg0 := NB7
  clear f19 a19 ks7 f20 a20
  refine wpList_nil (hK16 _ _ ?_)
  have f22 := f21.sub (sc 10 sn)
  refine wp_ret ?_
  try simp only [Exit.inBlock, Exit.then]
  refine C.retC (P := Tryd.prog) (fn := Tryd.f15) f22 rfl rfl Bg0 U28 rfl wsz28_xg ?_
  exact ⟨{ s0 with ua := A3, uc := c3 }, by rw [seat_sub hm, ← hl, ← hl2, ← hl3], HK, by rw [seat_sub hm, ← hl, ← hl2, ← hl3]; exact ⟨Sl.nil _ _ _, Sl.nil _ _ _, Sl.nil _ _ _, SU.sl, Sl.nil _ _ _⟩⟩
 refine C.condF f16 rfl ?_
 refine C.sk fun K17 hK17 => ?_
 refine L.va f16 (E.eq f16) fun a17 f17 => ?_
 refine L.ag f17 fun a18 f18 => ?_
 refine wpList_nil (hK17 _ _ ?_)
 have f19 := f18.sub (sc 1 (sc 2 (sc 3 (sc 4 (sc 10 (sc 11 (sc 19 (sc 85 sn))))))))
 clear f15 f16 a15 f17 a17 f18
 refine f19.splitD 85 rfl (fun h10 f20 => ?_) (fun h10 f20 => ?_)
 ·refine C.condT f20 rfl ?_
  refine C.sk fun K18 hK18 => ?_
  refine L.mv f20 fun a21 f21 => ?_
  refine L.mv f21 fun a22 f22 => ?_
  refine L.cl f22 (run_call Tryd.call35 (args1 f22 rfl)) (filterS_any a0_ _ ha0_) ?_
  clear f19 f20 a18 f21 a21
  rintro e w4 ⟨kc4, rfl⟩
  refine ⟨_, rfl, fun a23 f23 => ?_⟩
  have szw4 := kc4.size
  replace HK := HK.trans kc4 (by simp)
  replace Bg0 := Bg0.kept kc4 (by simp)
  clear f22 a22 kc4
  refine L.va f23 (E.build f23 (parts1 f23 rfl) (wbl70_0_xg _)) fun a24 f24 => ?_
  refine L.mv f24 fun a25 f25 => ?_
  refine L.cl f25 (run_call Tryd.call35 (args1 f25 rfl)) (filterS_any c _ hc) ?_
  clear f23 a23 f24 a24
  rintro e w5 ⟨kc5, rfl⟩
  refine ⟨_, rfl, fun a26 f26 => ?_⟩
  have szw5 := kc5.size
  replace HK := HK.trans kc5 (by simp)
  replace Bg0 := Bg0.kept kc5 (by simp)
  clear f25 a25 kc5
  refine L.va f26 (E.build f26 (parts1 f26 rfl) (wbl70_0_xg _)) fun a27 f27 => ?_
  refine L.buildSlice f27 wantedN (by decide) (parts2 f27 rfl rfl) U25 wzi70_xg rfl rfl (wbs25_2_xg _ _ _ _) fun a28 w6 g5 N5 f28 => ?_
  have Bg5 := N5.blk
  have kg5 := N5.kept
  have log5 := N5.lo
  have ltg5 := Bg5.lt
  have szw6 := kg5.size
  have frg5 : w.heap.size ≤ g5 := Nat.le_trans HK.size log5
  have neg0_g5 : g0 ≠ g5 := by have := Bg0.lt; omega
  replace HK := HK.trans kg5 (by simp)
  replace Bg0 := Bg0.kept kg5 (by simp)
  clear f26 a26 N5 kg5
  refine L.mv f28 fun a29 f29 => ?_
  refine L.va f29 (E.rem f29 rfl rfl (by omega) (Int.tmod_eq_emod_of_nonneg (by omega))) fun a30 f30 => ?_
  refine L.va f30 (E.add f30 rfl rfl (IntWalk.u8_in _ (by omega))) fun a31 f31 => ?_
  refine L.va f31 (E.slLhi f31 U25 wsz70_xg rfl rfl (by omega) (by omega) ) fun a32 f32 => ?_
  refine L.va f32 (E.build f32 (parts3 f32 rfl rfl rfl) (wbl28_0_4_19_xg _ _ _ _ _)) fun a33 f33 => ?_
  refine L.storeR f33 wantedN wsz28_xg rfl rfl rfl Bg0 rfl rfl fun a34 w7 f34 NB7 ks7 => ?_
  have szw7 := ks7.size
  replace HK := HK.trans ks7 (ktr (by omega))
  replace Bg5 := Bg5.kept ks7 (by simp; omega)
  replace Bg0 := NB7
  clear f27 a27 f28 a28 f29 a29 f30 a30 f31 a31 f32 a32 ks7 f33 a33
  refine wpList_nil (hK18 _ _ ?_)
  have f35 := f34.sub (sc 10 sn)
  refine wp_ret ?_
  try simp only [Exit.inBlock, Exit.then]
  refine C.retC (P := Tryd.prog) (fn := Tryd.f15) f35 rfl rfl Bg0 U28 rfl wsz28_xg ?_
  clear f34
  refine ⟨{ s0 with ua := some ⟨g5, 0, none⟩, uc := 2 }, ?_, HK, ?_⟩
  ·rw [seat_uns (by assumption)]; unfold Pk.cells; simp only [uns_len]; rfl
  rw [seat_uns (by assumption)]; exact ⟨Sl.nil _ _ _, Sl.nil _ _ _, Sl.nil _ _ _, uns_sl Bg5, Sl.nil _ _ _⟩
 refine C.condF f20 rfl ?_
 refine C.sk fun K19 hK19 => ?_
 refine L.va f20 (E.eq f20) fun a21 f21 => ?_
 refine L.ag f21 fun a22 f22 => ?_
 refine wpList_nil (hK19 _ _ ?_)
 have f23 := f22.sub (sc 1 (sc 2 (sc 3 (sc 4 (sc 10 (sc 11 (sc 19 (sc 100 sn))))))))
 clear f19 f20 a18 f21 a21 f22
 refine f23.splitD 100 rfl (fun h11 f24 => ?_) (fun h11 f24 => ?_)
 ·refine C.condT f24 rfl ?_
  refine C.sk fun K20 hK20 => ?_
  refine L.mv f24 fun a25 f25 => ?_
  refine L.va f25 (E.build f25 (parts2 f25 rfl rfl) (wbl28_0_4_xg _ _)) fun a26 f26 => ?_
  refine L.storeR f26 wantedN wsz28_xg rfl rfl rfl Bg0 rfl rfl fun a27 w4 f27 NB4 ks4 => ?_
  have szw4 := ks4.size
  replace HK := HK.trans ks4 (ktr (by omega))
  replace Bg0 := NB4
  clear f23 f24 a22 f25 a25 ks4 f26 a26
  refine wpList_nil (hK20 _ _ ?_)
  have f28 := f27.sub (sc 10 sn)
  refine wp_ret ?_
  try simp only [Exit.inBlock, Exit.then]
  refine C.retC (P := Tryd.prog) (fn := Tryd.f15) f28 rfl rfl Bg0 U28 rfl wsz28_xg ?_
  exact ⟨s0, by rw [seat_a (by assumption)]; rfl, HK, by rw [seat_a (by assumption)]; exact ⟨Sl.nil _ _ _, Sl.nil _ _ _, Sl.nil _ _ _, Sl.nil _ _ _, Sl.nil _ _ _⟩⟩
 refine C.condF f24 rfl ?_
 refine C.sk fun K21 hK21 => ?_
 refine L.va f24 (E.eq f24) fun a25 f25 => ?_
 refine L.ag f25 fun a26 f26 => ?_
 refine wpList_nil (hK21 _ _ ?_)
 have f27 := f26.sub (sc 1 (sc 2 (sc 3 (sc 4 (sc 10 (sc 11 (sc 19 (sc 104 sn))))))))
 clear f23 f24 a22 f25 a25 f26
 refine f27.splitD 104 rfl (fun h12 f28 => ?_) (fun h12 f28 => ?_)
 ·refine C.condT f28 rfl ?_
  refine C.sk fun K22 hK22 => ?_
  refine L.mv f28 fun a29 f29 => ?_
  refine L.va f29 (E.build f29 (parts2 f29 rfl rfl) (wbl28_0_4_xg _ _)) fun a30 f30 => ?_
  refine L.storeR f30 wantedN wsz28_xg rfl rfl rfl Bg0 rfl rfl fun a31 w4 f31 NB4 ks4 => ?_
  have szw4 := ks4.size
  replace HK := HK.trans ks4 (ktr (by omega))
  replace Bg0 := NB4
  clear f27 f28 a26 f29 a29 ks4 f30 a30
  refine wpList_nil (hK22 _ _ ?_)
  have f32 := f31.sub (sc 10 sn)
  refine wp_ret ?_
  try simp only [Exit.inBlock, Exit.then]
  refine C.retC (P := Tryd.prog) (fn := Tryd.f15) f32 rfl rfl Bg0 U28 rfl wsz28_xg ?_
  exact ⟨s0, by rw [seat_r (by assumption)]; rfl, HK, by rw [seat_r (by assumption)]; exact ⟨Sl.nil _ _ _, Sl.nil _ _ _, Sl.nil _ _ _, Sl.nil _ _ _, Sl.nil _ _ _⟩⟩
 refine C.condF f28 rfl ?_
 refine C.sk fun K23 hK23 => ?_
 refine L.va f28 (E.eq f28) fun a29 f29 => ?_
 refine L.ag f29 fun a30 f30 => ?_
 refine wpList_nil (hK23 _ _ ?_)
 have f31 := f30.sub (sc 1 (sc 2 (sc 3 (sc 4 (sc 10 (sc 11 (sc 19 (sc 108 sn))))))))
 clear f27 f28 a26 f29 a29 f30
 refine f31.splitD 108 rfl (fun h13 f32 => ?_) (fun h13 f32 => ?_)
 ·refine C.condT f32 rfl ?_
  refine C.sk fun K24 hK24 => ?_
  refine L.mv f32 fun a33 f33 => ?_
  refine L.va f33 (E.build f33 (parts2 f33 rfl rfl) (wbl28_0_4_xg _ _)) fun a34 f34 => ?_
  refine L.storeR f34 wantedN wsz28_xg rfl rfl rfl Bg0 rfl rfl fun a35 w4 f35 NB4 ks4 => ?_
  have szw4 := ks4.size
  replace HK := HK.trans ks4 (ktr (by omega))
  replace Bg0 := NB4
  clear f31 f32 a30 f33 a33 ks4 f34 a34
  refine wpList_nil (hK24 _ _ ?_)
  have f36 := f35.sub (sc 10 sn)
  refine wp_ret ?_
  try simp only [Exit.inBlock, Exit.then]
  refine C.retC (P := Tryd.prog) (fn := Tryd.f15) f36 rfl rfl Bg0 U28 rfl wsz28_xg ?_
  exact ⟨s0, by rw [seat_p (by assumption)]; rfl, HK, by rw [seat_p (by assumption)]; exact ⟨Sl.nil _ _ _, Sl.nil _ _ _, Sl.nil _ _ _, Sl.nil _ _ _, Sl.nil _ _ _⟩⟩
 refine C.condF f32 rfl ?_
 refine C.sk fun K25 hK25 => ?_
 refine L.va f32 (E.eq f32) fun a33 f33 => ?_
 refine L.ag f33 fun a34 f34 => ?_
 refine wpList_nil (hK25 _ _ ?_)
 have f35 := f34.sub (sc 1 (sc 2 (sc 3 (sc 4 (sc 10 (sc 19 (sc 112 sn)))))))
 clear f31 f32 a30 f33 a33 f34
 refine f35.splitD 112 rfl (fun h14 f36 => ?_) (fun h14 f36 => ?_)
 ·refine C.condT f36 rfl ?_
  refine C.sk fun K26 hK26 => ?_
  refine L.mv f36 fun a37 f37 => ?_
  refine L.va f37 (E.rem f37 rfl rfl (by omega) (Int.tmod_eq_emod_of_nonneg (by omega))) fun a38 f38 => ?_
  refine L.va f38 (E.conv f38 U5 U3 rfl (IntWalk.i64_in _ (by omega))) fun a39 f39 => ?_
  refine L.va f39 (E.add f39 rfl rfl (IntWalk.i64_in _ (by omega))) fun a40 f40 => ?_
  refine L.va f40 (E.build f40 (parts2 f40 rfl rfl) (wbl28_0_4_xg _ _)) fun a41 f41 => ?_
  refine L.storeR f41 wantedN wsz28_xg rfl rfl rfl Bg0 rfl rfl fun a42 w4 f42 NB4 ks4 => ?_
  have szw4 := ks4.size
  replace HK := HK.trans ks4 (ktr (by omega))
  replace Bg0 := NB4
  clear f35 f36 a34 f37 a37 f38 a38 f39 a39 f40 a40 ks4 f41 a41
  refine wpList_nil (hK26 _ _ ?_)
  have f43 := f42.sub (sc 10 sn)
  refine wp_ret ?_
  try simp only [Exit.inBlock, Exit.then]
  refine C.retC (P := Tryd.prog) (fn := Tryd.f15) f43 rfl rfl Bg0 U28 rfl wsz28_xg ?_
  exact ⟨s0, by rw [seat_l (by assumption)]; rfl, HK, by rw [seat_l (by assumption)]; exact ⟨Sl.nil _ _ _, Sl.nil _ _ _, Sl.nil _ _ _, Sl.nil _ _ _, Sl.nil _ _ _⟩⟩
 refine C.condF f36 rfl ?_
 refine C.sk fun K27 hK27 => ?_
 refine L.va f36 (E.eq f36) fun a37 f37 => ?_
 refine L.ag f37 fun a38 f38 => ?_
 refine wpList_nil (hK27 _ _ ?_)
 have f39 := f38.sub (sc 1 (sc 2 (sc 3 (sc 4 (sc 10 (sc 19 (sc 119 sn)))))))
 clear f35 f36 a34 f37 a37 f38
 refine f39.splitD 119 rfl (fun h15 f40 => ?_) (fun h15 f40 => ?_)
 ·refine C.condT f40 rfl ?_
  refine C.sk fun K28 hK28 => ?_
  refine L.va f40 (E.build f40 (parts1 f40 rfl) (wbl28_0_xg _)) fun a41 f41 => ?_
  refine L.storeR f41 wantedN wsz28_xg rfl rfl rfl Bg0 rfl rfl fun a42 w4 f42 NB4 ks4 => ?_
  have szw4 := ks4.size
  replace HK := HK.trans ks4 (ktr (by omega))
  replace Bg0 := NB4
  clear f39 f40 a38 ks4 f41 a41
  refine wpList_nil (hK28 _ _ ?_)
  have f43 := f42.sub (sc 10 sn)
  refine wp_ret ?_
  try simp only [Exit.inBlock, Exit.then]
  refine C.retC (P := Tryd.prog) (fn := Tryd.f15) f43 rfl rfl Bg0 U28 rfl wsz28_xg ?_
  exact ⟨s0, by rw [seat_q (by assumption)]; rfl, HK, by rw [seat_q (by assumption)]; exact ⟨Sl.nil _ _ _, Sl.nil _ _ _, Sl.nil _ _ _, Sl.nil _ _ _, Sl.nil _ _ _⟩⟩
 refine C.condF f40 rfl ?_
 refine C.sk fun K29 hK29 => ?_
 refine L.va f40 (E.eq f40) fun a41 f41 => ?_
 refine L.ag f41 fun a42 f42 => ?_
 refine wpList_nil (hK29 _ _ ?_)
 have f43 := f42.sub (sc 1 (sc 2 (sc 3 (sc 4 (sc 10 (sc 122 sn))))))
 clear f39 f40 a38 f41 a41 f42
 refine f43.splitD 122 rfl (fun h16 f44 => ?_) (fun h16 f44 => ?_)
 ·refine C.condT f44 rfl ?_
  refine C.sk fun K30 hK30 => ?_
  refine L.mv f44 fun a45 f45 => ?_
  refine L.mv f45 fun a46 f46 => ?_
  refine L.mv f46 fun a47 f47 => ?_
  refine L.mv f47 fun a48 f48 => ?_
  refine L.cl f48 (run_call Tryd.call36 (args4 f48 rfl rfl rfl rfl)) (seatcon_any a0_ b c x A cx _ (SX.kept HK) ha0_ hb hc) ?_
  clear f43 f44 a42 f45 a45 f46 a46 f47 a47
  rintro e w4 ⟨kc4, rfl⟩
  refine ⟨_, rfl, fun a49 f49 => ?_⟩
  have szw4 := kc4.size
  replace HK := HK.trans kc4 (by simp)
  replace Bg0 := Bg0.kept kc4 (by simp)
  clear f48 a48 kc4
  refine L.storeR f49 wantedN wsz28_xg rfl rfl rfl Bg0 rfl rfl fun a50 w5 f50 NB5 ks5 => ?_
  have szw5 := ks5.size
  replace HK := HK.trans ks5 (ktr (by omega))
  replace Bg0 := NB5
  clear ks5 f49 a49
  refine wpList_nil (hK30 _ _ ?_)
  have f51 := f50.sub (sc 10 sn)
  refine wp_ret ?_
  try simp only [Exit.inBlock, Exit.then]
  refine C.retC (P := Tryd.prog) (fn := Tryd.f15) f51 rfl rfl Bg0 U28 rfl wsz28_xg ?_
  exact ⟨adC b c A cx, by rw [seat_con (by assumption)], HK, by rw [seat_con (by assumption)]; exact seatcon_in (SX.kept HK)⟩
 refine C.condF f44 rfl ?_
 refine wp_skip (hK2 _ _ ?_)
 have f45 := f44.sub (sc 10 sn)
 refine C.sk fun K31 hK31 => ?_
 refine L.va f45 (E.build f45 (parts1 f45 rfl) (wbl28_0_xg _)) fun a46 f46 => ?_
 refine L.storeR f46 wantedN wsz28_xg rfl rfl rfl Bg0 rfl rfl fun a47 w4 f47 NB4 ks4 => ?_
 have szw4 := ks4.size
 replace HK := HK.trans ks4 (ktr (by omega))
 replace Bg0 := NB4
 clear f43 f44 f45 a42 ks4 f46 a46
 refine wpList_nil (hK31 _ _ ?_)
 have f48 := f47.sub (sc 10 sn)
 refine wp_ret ?_
 try simp only [Exit.inBlock, Exit.then]
 refine C.retC (P := Tryd.prog) (fn := Tryd.f15) f48 rfl rfl Bg0 U28 rfl wsz28_xg ?_
 have hd : 14 ≤ k % 15 := by omega
 exact ⟨s0, by rw [seat_d hd]; rfl, HK, by rw [seat_d hd]; exact ⟨Sl.nil _ _ _, Sl.nil _ _ _, Sl.nil _ _ _, Sl.nil _ _ _, Sl.nil _ _ _⟩⟩
end Go.Proofs.YtigjafbbnocihaaDoor
namespace Go.Proofs.YtigjafbbnocihaaDoor
open Go.RowKit Go.Hub Go.Lib Go.Vl
theorem p7_tx : p7.all txB = true := by kernel_rfl
theorem p10_tx : p10.all txB = true := by kernel_rfl
theorem p5_tx : p5.all txB = true := by kernel_rfl
theorem getD_mem (l : List ByteArray) (i : Nat) (h : i < l.length) : l.getD i em ∈ l := List.mem_of_getElem? (list_at l i h)
theorem topic_mem (k : Int) : topicS k ∈ p7 := getD_mem p7 _ (by show _ < 7; omega)
theorem filter_mem (k : Int) : filterS k ∈ p10 := getD_mem p10 _ (by show _ < 10; omega)
theorem cli_mem (k : Int) : cliS k ∈ p5 := getD_mem p5 _ (by show _ < 5; omega)
theorem topic_tx (k : Int) : txB (topicS k) = true := List.all_eq_true.1 p7_tx _ (topic_mem k)
theorem filter_tx (k : Int) : txB (filterS k) = true := List.all_eq_true.1 p10_tx _ (filter_mem k)
theorem cli_tx (k : Int) : txB (cliS k) = true := List.all_eq_true.1 p5_tx _ (cli_mem k)
theorem p7_sz : ∀ s ∈ p7, s.size ≤ 10 := by decide
theorem p10_sz : ∀ s ∈ p10, s.size ≤ 10 := by decide
theorem p5_sz : ∀ s ∈ p5, s.size ≤ 10 := by decide
theorem topic_sz (k : Int) : (topicS k).size ≤ 10 := p7_sz _ (topic_mem k)
theorem filter_sz (k : Int) : (filterS k).size ≤ 10 := p10_sz _ (filter_mem k)
theorem cli_sz (k : Int) : (cliS k).size ≤ 10 := p5_sz _ (cli_mem k)
theorem tx_ah : txB ⟨#[97, 35]⟩ = true := by kernel_rfl
theorem tx_u : txB ⟨#[117]⟩ = true := by kernel_rfl
section
variable {k a b c : Int} {x : List UInt8}
theorem pub_right (hx : x.length ≤ 1000) (hb : 0 ≤ b) (hc : 0 ≤ c) : RightP (seatPub a b c x) := by
  have ht := topic_tx a
  have hz := topic_sz a
  unfold seatPub
  split
  · rename_i h
    refine ⟨by simp [inB], by simp [bareP, h], ?_, ?_⟩
    · simp [valB, numB, inB, ht, h]; omega
    simp [behindL, numB, h, lumpL_len, twoL_len, bytes_len]; omega
  rename_i h
  refine ⟨by simp [inB], by simp [bareP, h], ?_, ?_⟩
  · simp [valB, numB, inB, ht, h]; omega
  simp [behindL, numB, h, lumpL_len, twoL_len, bytes_len]; omega
theorem pub_len (hx : x.length ≤ 1000) : (seatPub a b c x).Len := by
  have hz := topic_sz a
  unfold seatPub
  split <;> exact ⟨by show x.length ≤ _; omega, by simp, by simp, by simp, by simp, by show (topicS a).size ≤ _; omega, em_le, em_le, em_le, by simp⟩
def subOk (l : List (ByteArray × Int)) : Prop := ∀ y ∈ l, txB y.1 = true ∧ (0 ≤ y.2 ∧ y.2 ≤ 2) ∧ y.1.size ≤ 10
theorem sub_ok : subOk (sub3 c (sub2 c [(filterS a, b % 3)])) := by
  have h1 : subOk [(filterS a, b % 3)] := fun y hy => by
    obtain rfl := List.mem_singleton.1 hy
    exact ⟨filter_tx a, by simp only; omega, filter_sz a⟩
  have h2 : subOk (sub2 c [(filterS a, b % 3)]) := by
    unfold sub2
    split
    · intro y hy
      rcases List.mem_append.1 hy with hy | hy
      · exact h1 y hy
      obtain rfl := List.mem_singleton.1 hy
      exact ⟨filter_tx c, by simp only; omega, filter_sz c⟩
    exact h1
  unfold sub3
  split
  · intro y hy
    rcases List.mem_append.1 hy with hy | hy
    · exact h2 y hy
    obtain rfl := List.mem_singleton.1 hy
    exact ⟨tx_ah, by decide, by decide⟩
  exact h2
theorem sub_num : 0 < (sub3 c (sub2 c [(filterS a, b % 3)])).length ∧ (sub3 c (sub2 c [(filterS a, b % 3)])).length ≤ 3 := by
  unfold sub3 sub2
  repeat' split
  all_goals simp
theorem flatS_le (kd : Int) (l : List (ByteArray × Int)) (h : subOk l) : (l.flatMap (subL kd)).length ≤ 13 * l.length := by
  induction l with
  | nil => simp
  | cons y r ih =>
    have h1 := ih fun z hz => h z (List.mem_cons_of_mem _ hz)
    have h2 := (h y (List.mem_cons_self ..)).2.2
    have h3 : (subL kd y).length ≤ 13 := by
      unfold subL
      rw [List.length_append, lumpL_len, bytes_len]
      split <;> simp <;> omega
    rw [List.flatMap_cons, List.length_append, List.length_cons]
    omega
theorem subB_of (m : Int) (l : List (ByteArray × Int)) (h : ∀ y ∈ l, txB y.1 = true ∧ 0 ≤ y.2 ∧ y.2 ≤ m) : subB m l = true := by
  unfold subB
  rw [List.all_eq_true]
  intro y hy
  obtain ⟨h1, h2, h3⟩ := h y hy
  rw [h1, Bool.true_and]
  exact inB_iff.2 ⟨h2, h3⟩
theorem num_8 (k : Int) (h : 4 ≤ k ∧ k ≤ 11) (i : Int) (l : List (ByteArray × Int)) : numB { kind := k, id := i, subs := l } = true := by
  unfold numB
  simp only
  rw [if_neg (by omega)]
  exact inB_iff.2 h
theorem subs_right (kd : Int) (hk : kd = 8 ∨ kd = 10) (i : Int) (hi : 1 ≤ i ∧ i ≤ 65535) (l : List (ByteArray × Int)) (h : subOk l) (h0 : kd = 10 → ∀ y ∈ l, y.2 = 0) (hn : 0 < l.length ∧ l.length ≤ 3) : RightP { kind := kd, id := i, subs := l } := by
  have hnum := num_8 kd (by omega) i l
  refine ⟨inB_iff.2 (by constructor <;> (show _ ≤ _) <;> simp only <;> omega), ?_, ?_, ?_⟩
  · unfold bareP
    simp only
    rw [if_neg (by omega), if_neg (by omega), if_neg (by omega), if_pos hk]
  · unfold valB
    rw [hnum]
    simp only [Bool.not_true, Bool.false_or]
    rw [inB_iff.2 hi, Bool.true_and]
    rcases hk with rfl | rfl
    · rw [if_neg (by decide), if_neg (by decide), if_neg (by decide), if_pos rfl, subB_of 2 l fun y hy => ⟨(h y hy).1, (h y hy).2.1⟩, Bool.true_and]
      exact decide_eq_true hn.1
    rw [if_neg (by decide), if_neg (by decide), if_neg (by decide), if_neg (by decide), if_pos rfl, subB_of 0 l fun y hy => ⟨(h y hy).1, by rw [h0 rfl y hy]; decide⟩, Bool.true_and]
    exact decide_eq_true hn.1
  unfold behindL
  rw [hnum]
  simp only
  rw [if_neg (by omega), if_neg (by omega), if_neg (by omega)]
  have := flatS_le kd l h
  simp only [if_true, reduceIte, List.nil_append, List.length_append, twoL_len, List.map_nil, List.length_nil]
  omega
theorem uns_ok : subOk (unsL a c) ∧ (∀ y ∈ unsL a c, y.2 = 0) ∧ 0 < (unsL a c).length ∧ (unsL a c).length ≤ 3 := by
  unfold unsL
  split
  · refine ⟨fun y hy => ?_, fun y hy => ?_, by simp, by simp⟩
    · obtain rfl := List.mem_singleton.1 hy
      exact ⟨filter_tx a, by simp only; omega, filter_sz a⟩
    obtain rfl := List.mem_singleton.1 hy
    rfl
  refine ⟨fun y hy => ?_, fun y hy => ?_, by simp, by simp⟩
  · simp only [List.mem_cons, List.not_mem_nil, or_false] at hy
    rcases hy with rfl | rfl
    · exact ⟨filter_tx a, by simp only; omega, filter_sz a⟩
    exact ⟨filter_tx c, by simp only; omega, filter_sz c⟩
  simp only [List.mem_cons, List.not_mem_nil, or_false] at hy
  rcases hy with rfl | rfl <;> rfl
theorem id_right (kd : Int) (hk : 4 ≤ kd ∧ kd ≤ 7) (i : Int) (hi : 1 ≤ i ∧ i ≤ 65535) : RightP { kind := kd, id := i } := by
  have hnum := num_8 kd (by omega) i []
  refine ⟨inB_iff.2 (by constructor <;> (show _ ≤ _) <;> simp only <;> omega), ?_, ?_, ?_⟩
  · unfold bareP
    rw [hnum]
    simp only
    rw [if_neg (by omega), if_neg (by omega), if_neg (by omega), if_neg (by omega), if_neg (by omega)]
    rfl
  · unfold valB
    rw [hnum]
    simp only [Bool.not_true, Bool.false_or]
    rw [inB_iff.2 hi, Bool.true_and, if_neg (by omega), if_neg (by omega), if_neg (by omega), if_neg (by omega), if_neg (by omega), if_neg (by omega)]
  unfold behindL
  rw [hnum]
  simp only
  rw [if_neg (by omega), if_neg (by omega), if_neg (by omega)]
  simp [twoL_len]
theorem id_len (kd i : Int) : Pk.Len { kind := kd, id := i } := ⟨by simp, by simp, by simp, by simp, by simp, em_le, em_le, em_le, em_le, by simp⟩
theorem subs_len (kd i : Int) (l : List (ByteArray × Int)) (h : subOk l) (hn : l.length ≤ 3) : Pk.Len { kind := kd, id := i, subs := l } := ⟨by simp, by simp, by simp, by show l.length ≤ _; omega, by simp, em_le, em_le, em_le, em_le, fun y hy => by have := (h y hy).2.2; omega⟩
theorem seatcon_right (hx : x.length ≤ 1000) (ha : 0 ≤ a) (hc : 0 ≤ c) : RightP (seatCon a b c x) := by
  have t1 := topic_tx c
  have z1 := topic_sz c
  have t2 := cli_tx a
  have z2 := cli_sz a
  have t3 := tx_u
  have t4 := txB_em
  have e1 : con1 a b c = { kind := 1, level := 4, client := cliS a, clean := (if cliS a = em then decide (0 < b % 9) else decide (b % 2 = 0)), keep := c % 5 } := by unfold con1; split <;> rfl
  obtain ⟨cl, hcl⟩ : ∃ cl : Bool, cl = (if cliS a = em then decide (0 < b % 9) else decide (b % 2 = 0)) := ⟨_, rfl⟩
  rw [← hcl] at e1
  unfold seatCon
  rw [e1]
  unfold con4 con3 con2
  have hk5 : 0 ≤ c % 5 ∧ c % 5 ≤ 65535 := by omega
  have hw3 : 0 ≤ a % 3 ∧ a % 3 ≤ 2 := by omega
  by_cases h1 : c % 3 = 0 <;> by_cases h2 : a % 8 = 7 <;> by_cases h3 : b % 10 = 9 <;> simp only [h1, h2, h3, if_true, if_false, reduceIte] <;>
    refine ⟨by simp [inB], by simp [bareP], ?_, ?_⟩ <;>
    (first | (simp [valB, numB, inB, t1, t2, t3, t4, hk5, hw3]; done) | (simp [valB, numB, inB, t1, t2, t3, t4, hk5, hw3]; omega) | (simp [behindL, connL, numB, lumpL_len, twoL_len, bytes_len]; omega))
theorem seatcon_len (hx : x.length ≤ 1000) : (seatCon a b c x).Len := by
  have z1 := topic_sz c
  have z2 := cli_sz a
  have hu : (⟨#[117]⟩ : ByteArray).size ≤ 1000000 := by decide
  have h0 : (con1 a b c).Len := by
    unfold con1
    split <;> exact ⟨by simp, by simp, by simp, by simp, by simp, em_le, by show (cliS a).size ≤ _; omega, em_le, em_le, by simp⟩
  have h1 : (con2 a b c x (con1 a b c)).Len := by
    unfold con2
    split
    · exact ⟨h0.pay, by show x.length ≤ _; omega, h0.pass, h0.subs, h0.codes, h0.topic, h0.client, by show (topicS c).size ≤ _; omega, h0.user, h0.each⟩
    exact h0
  have h2 : (con3 a (con2 a b c x (con1 a b c))).Len := by
    unfold con3
    split
    · exact ⟨h1.pay, h1.wp, h1.pass, h1.subs, h1.codes, h1.topic, h1.client, h1.wt, h1.user, h1.each⟩
    exact h1
  unfold seatCon con4
  split
  · exact ⟨h2.pay, h2.wp, by show x.length ≤ _; omega, h2.subs, h2.codes, h2.topic, h2.client, h2.wt, hu, h2.each⟩
  exact h2
theorem seat_right (hk : 0 ≤ k) (ha : 0 ≤ a) (hb : 0 ≤ b) (hc : 0 ≤ c) (hx : x.length ≤ 1000) : RightP (seatP k a b c x) ∧ (seatP k a b c x).Len := by
  obtain ⟨u1, u2, u3, u4⟩ := uns_ok (a := a) (c := c)
  have s1 := sub_num (a := a) (b := b) (c := c)
  unfold seatP
  repeat' split
  · exact ⟨pub_right hx hb hc, pub_len hx⟩
  · exact ⟨subs_right 8 (.inl rfl) _ (by omega) _ sub_ok (fun h => by omega) s1, subs_len _ _ _ sub_ok s1.2⟩
  · exact ⟨subs_right 10 (.inr rfl) _ (by omega) _ u1 (fun _ => u2) ⟨u3, u4⟩, subs_len _ _ _ u1 u4⟩
  · exact ⟨id_right 4 (by decide) _ (by omega), id_len _ _⟩
  · exact ⟨id_right 5 (by decide) _ (by omega), id_len _ _⟩
  · exact ⟨id_right 7 (by decide) _ (by omega), id_len _ _⟩
  · exact ⟨id_right 6 (by decide) _ (by omega), id_len _ _⟩
  · exact ⟨rightK 12 (by decide), kindLen 12⟩
  · exact ⟨seatcon_right hx ha hc, seatcon_len hx⟩
  exact ⟨rightK 14 (by decide), kindLen 14⟩
end
end Go.Proofs.YtigjafbbnocihaaDoor
namespace Go.Proofs.YtigjafbbnocihaaDoor
open Go.RowKit Go.Hub Go.Lib Go.Vl
theorem enc_le {p : Pk} (h : RightP p) : (encL p).length ≤ 8200 := by
  have h1 := h.len
  have h2 := szN_le ((behindL p).length : Int)
  unfold encL
  rw [List.length_append, List.length_cons, putL_len]
  omega
end Go.Proofs.YtigjafbbnocihaaDoor
namespace Go.Proofs.YtigjafbbnocihaaDoor
open Go.RowKit Go.Hub Go.Lib Go.Vl
def pkRow (l : List (Pk × Ad)) : List Value := l.flatMap fun x => (x.1.cells x.2).toList
theorem pk_row {w : World} {A : Option Addr} {l : List (Pk × Ad)} (h : Sl w A l.length 24 (pkRow l)) {b off i : Nat} {x : Pk × Ad} (hA : A = some ⟨b, off, none⟩) (hx : l[i]? = some x) : w.rangeAt b (off + i * 24) (x.1.cells x.2).toList := by
  have hi : i < l.length := (List.getElem?_eq_some_iff.1 hx).1
  exact h.row (by omega) hA fun j u hj => flat_at (fun x : Pk × Ad => (x.1.cells x.2).toList) 24 (fun _ => rfl) l i x hx j u hj
end Go.Proofs.YtigjafbbnocihaaDoor
namespace Go.Proofs.YtigjafbbnocihaaDoor
open Go.RowKit Go.Hub Go.Lib Go.Vl
theorem wzib3_za : (Tryd.prog.info? 3).map (fun i => (i.zero, i.size, i.bytes)) = some (some (.int .i64 0), 1, 8) := by kernel_rfl
theorem wzib70_za : (Tryd.prog.info? 70).map (fun i => (i.zero, i.size, i.bytes)) = some (some (.agg #[(.string ⟨#[]⟩), (.int .i64 0)]), 2, 24) := by kernel_rfl
theorem wzi3_za : (Tryd.prog.info? 3).map (fun i => (i.zero, i.size)) = some (some (.int .i64 0), 1) := by kernel_rfl
theorem wzi70_za : (Tryd.prog.info? 70).map (fun i => (i.zero, i.size)) = some (some (.agg #[(.string ⟨#[]⟩), (.int .i64 0)]), 2) := by kernel_rfl
theorem wbs25_1_za (x0_0 x0_1 : Value) : Instr.fill (fun i => some (i * 2, 2)) ((Array.range (1 * 2)).map fun j => (Value.cells (.agg #[(.string ⟨#[]⟩), (.int .i64 0)]))[j % (Value.cells (.agg #[(.string ⟨#[]⟩), (.int .i64 0)])).size]!) [(0, .agg #[x0_0, x0_1])] = some #[x0_0, x0_1] := by kernel_rfl
theorem wbs26_1_za (x0 : Int) : Instr.fill (fun i => some (i * 1, 1)) ((Array.range (1 * 1)).map fun j => (Value.cells (.int .i64 0))[j % (Value.cells (.int .i64 0)).size]!) [(0, .int .i64 x0)] = some #[.int .i64 x0] := by kernel_rfl
theorem wsz3_za : (Tryd.prog.info? 3).map (·.size) = some 1 := by kernel_rfl
theorem wsz4_za : (Tryd.prog.info? 4).map (·.size) = some 1 := by kernel_rfl
theorem wsz9_za : (Tryd.prog.info? 9).map (·.size) = some 1 := by kernel_rfl
theorem wsz22_za : (Tryd.prog.info? 22).map (·.size) = some 1 := by kernel_rfl
theorem wsz24_za : (Tryd.prog.info? 24).map (·.size) = some 4 := by kernel_rfl
theorem wsz25_za : (Tryd.prog.info? 25).map (·.size) = some 1 := by kernel_rfl
theorem wsz26_za : (Tryd.prog.info? 26).map (·.size) = some 1 := by kernel_rfl
theorem wsz28_za : (Tryd.prog.info? 28).map (·.size) = some 24 := by kernel_rfl
theorem wbl70_0_1_za (x0 : ByteArray) (x1 : Int) : Tryd.prog.built 70 [(0, .string x0), (1, .int .i64 x1)] = some #[.string x0, .int .i64 x1] := by kernel_rfl
theorem wsz70_za : (Tryd.prog.info? 70).map (·.size) = some 2 := by kernel_rfl
def bentP (p : Pk) (what v : Int) (str : ByteArray) : Pk :=
  match (what % 20).toNat with
  | 0 => { p with id := v }
  | 1 => { p with qos := v }
  | 2 => { p with topic := str }
  | 3 => { p with client := str }
  | 4 => { p with level := v }
  | 5 => { p with keep := v }
  | 6 => { p with hasWill := !p.hasWill }
  | 7 => { p with hasUser := !p.hasUser }
  | 8 => { p with hasPass := !p.hasPass }
  | 9 => { p with present := !p.present }
  | 10 => { p with code := v }
  | 11 => { p with codes := p.codes ++ [v] }
  | 12 => { p with subs := p.subs ++ [(str, bits .and .i64 v 3)] }
  | 13 => { p with subs := [] }
  | 14 => { p with dup := !p.dup }
  | 15 => { p with retain := !p.retain }
  | 16 => { p with kind := bits .and .i64 v 15 }
  | 17 => { p with wt := str }
  | 18 => { p with wq := bits .and .i64 v 3 }
  | _ => { p with pay := str.toList }
theorem bent0 {p : Pk} {what v : Int} {str : ByteArray} (h : what % 20 = 0) : bentP p what v str = { p with id := v } := by unfold bentP; rw [h]; rfl
theorem bent1 {p : Pk} {what v : Int} {str : ByteArray} (h : what % 20 = 1) : bentP p what v str = { p with qos := v } := by unfold bentP; rw [h]; rfl
theorem bent2 {p : Pk} {what v : Int} {str : ByteArray} (h : what % 20 = 2) : bentP p what v str = { p with topic := str } := by unfold bentP; rw [h]; rfl
theorem bent3 {p : Pk} {what v : Int} {str : ByteArray} (h : what % 20 = 3) : bentP p what v str = { p with client := str } := by unfold bentP; rw [h]; rfl
theorem bent4 {p : Pk} {what v : Int} {str : ByteArray} (h : what % 20 = 4) : bentP p what v str = { p with level := v } := by unfold bentP; rw [h]; rfl
theorem bent5 {p : Pk} {what v : Int} {str : ByteArray} (h : what % 20 = 5) : bentP p what v str = { p with keep := v } := by unfold bentP; rw [h]; rfl
theorem bent6 {p : Pk} {what v : Int} {str : ByteArray} (h : what % 20 = 6) : bentP p what v str = { p with hasWill := !p.hasWill } := by unfold bentP; rw [h]; rfl
theorem bent7 {p : Pk} {what v : Int} {str : ByteArray} (h : what % 20 = 7) : bentP p what v str = { p with hasUser := !p.hasUser } := by unfold bentP; rw [h]; rfl
theorem bent8 {p : Pk} {what v : Int} {str : ByteArray} (h : what % 20 = 8) : bentP p what v str = { p with hasPass := !p.hasPass } := by unfold bentP; rw [h]; rfl
theorem bent9 {p : Pk} {what v : Int} {str : ByteArray} (h : what % 20 = 9) : bentP p what v str = { p with present := !p.present } := by unfold bentP; rw [h]; rfl
theorem bent10 {p : Pk} {what v : Int} {str : ByteArray} (h : what % 20 = 10) : bentP p what v str = { p with code := v } := by unfold bentP; rw [h]; rfl
theorem bent11 {p : Pk} {what v : Int} {str : ByteArray} (h : what % 20 = 11) : bentP p what v str = { p with codes := p.codes ++ [v] } := by unfold bentP; rw [h]; rfl
theorem bent12 {p : Pk} {what v : Int} {str : ByteArray} (h : what % 20 = 12) : bentP p what v str = { p with subs := p.subs ++ [(str, bits .and .i64 v 3)] } := by unfold bentP; rw [h]; rfl
theorem bent13 {p : Pk} {what v : Int} {str : ByteArray} (h : what % 20 = 13) : bentP p what v str = { p with subs := [] } := by unfold bentP; rw [h]; rfl
theorem bent14 {p : Pk} {what v : Int} {str : ByteArray} (h : what % 20 = 14) : bentP p what v str = { p with dup := !p.dup } := by unfold bentP; rw [h]; rfl
theorem bent15 {p : Pk} {what v : Int} {str : ByteArray} (h : what % 20 = 15) : bentP p what v str = { p with retain := !p.retain } := by unfold bentP; rw [h]; rfl
theorem bent16 {p : Pk} {what v : Int} {str : ByteArray} (h : what % 20 = 16) : bentP p what v str = { p with kind := bits .and .i64 v 15 } := by unfold bentP; rw [h]; rfl
theorem bent17 {p : Pk} {what v : Int} {str : ByteArray} (h : what % 20 = 17) : bentP p what v str = { p with wt := str } := by unfold bentP; rw [h]; rfl
theorem bent18 {p : Pk} {what v : Int} {str : ByteArray} (h : what % 20 = 18) : bentP p what v str = { p with wq := bits .and .i64 v 3 } := by unfold bentP; rw [h]; rfl
theorem bent19 {p : Pk} {what v : Int} {str : ByteArray} (h : what % 20 = 19) : bentP p what v str = { p with pay := str.toList } := by unfold bentP; rw [h]; rfl
theorem code_app (l : List Int) (v : Int) : codeCells (l ++ [v]) = codeCells l ++ [.int .i64 v] := by simp [codeCells]
theorem sub_app1 (l : List (ByteArray × Int)) (a : ByteArray) (b : Int) : subCells (l ++ [(a, b)]) = subCells l ++ [.string a, .int .i64 b] := by simp [subCells]
def _root_.Go.Hub.Pk.Reach (p : Pk) : Prop := p.topic.size ≤ 140737488355328 ∧ p.pay.length ≤ 140737488355328 ∧ p.client.size ≤ 140737488355328 ∧ p.user.size ≤ 140737488355328 ∧ p.pass.length ≤ 140737488355328 ∧ p.wt.size ≤ 140737488355328 ∧ p.wp.length ≤ 140737488355328
structure LightP (p : Pk) : Prop where
  subs : p.subs.length ≤ 10
  codes : p.codes.length ≤ 20
  sum : p.topic.size + p.pay.length + p.client.size + p.user.size + p.pass.length + p.wt.size + p.wp.length ≤ 300
  each : ∀ x ∈ p.subs, x.1.size ≤ 60
theorem take_all {l : List (ByteArray × Int)} {i : Nat} {d : ByteArray × Int} (h : ∀ x ∈ l.take i, x.1.size ≤ 60) (hd : l[i]? = some d) (h2 : d.1.size ≤ 60) : ∀ x ∈ l.take (i + 1), x.1.size ≤ 60 := fun x hx => by
  rw [List.take_add_one, hd] at hx
  rcases List.mem_append.1 hx with hx | hx
  · exact h x hx
  simp at hx
  subst hx
  exact h2
set_option maxRecDepth 100000 in
set_option maxHeartbeats 4000000 in
theorem bent_any (p : Pk) (s : Ad) (what v : Int) (str : ByteArray) (w : World) (IP : p.In w s) (hw : 0 ≤ what ∧ what < 256) (hs1 : p.subs.length ≤ 1000000) (hs2 : p.codes.length ≤ 1000000) (hs3 : str.size ≤ 1000000) : Calls Tryd.prog 16 #[.agg (p.cells s), .int .u8 what, .int .i64 v, .string str] w (fun e w' => ∃ t, e = .returned (.agg ((bentP p what v str).cells t)) ∧ Kept [] w w' ∧ (bentP p what v str).In w' t) := by
 have HK : Kept [] w w := Kept.refl [] w
 refine C.enter Tryd.func16 rfl Tryd.ntmps16 rfl ?_
 intro a0 f0
 have f1 : Fr 119 a0 [(0, .agg (p.cells s)), (1, .int .u8 what), (2, .int .i64 v), (3, .string str)] := f0
 refine C.sk fun K0 hK0 => ?_
 refine L.box f1 wantedN (by decide) rfl rfl fun a2 w1 g0 N0 f2 => ?_
 have Bg0 := N0.blk
 have kg0 := N0.kept
 have log0 := N0.lo
 have ltg0 := Bg0.lt
 have szw1 := kg0.size
 have frg0 : w.heap.size ≤ g0 := Nat.le_trans HK.size log0
 replace HK := HK.trans kg0 (by simp)
 clear f0 N0 kg0
 refine L.alloc f2 wantedN (by decide) (z := (.agg #[(.int .i64 0), (.bool false), (.bool false), (.int .i64 0), (.int .i64 0), (.string ⟨#[]⟩), (.slice none 0 0), (.int .i64 0), (.string ⟨#[]⟩), (.bool false), (.int .i64 0), (.bool false), (.string ⟨#[]⟩), (.slice none 0 0), (.int .i64 0), (.bool false), (.bool false), (.bool false), (.string ⟨#[]⟩), (.slice none 0 0), (.bool false), (.int .i64 0), (.slice none 0 0), (.slice none 0 0)])) (fun _ => by kernel_rfl) rfl fun a3 w2 g1 N1 f3 => ?_
 have Bg1 := N1.blk
 have kg1 := N1.kept
 have log1 := N1.lo
 have ltg1 := Bg1.lt
 have szw2 := kg1.size
 have frg1 : w.heap.size ≤ g1 := Nat.le_trans HK.size log1
 have neg0_g1 : g0 ≠ g1 := by have := Bg0.lt; omega
 replace HK := HK.trans kg1 (by simp)
 replace Bg0 := Bg0.kept kg1 (by simp)
 clear f1 a0 N1 kg1
 refine wpList_nil (hK0 _ _ ?_)
 have f4 := f3.sub (sc 1 (sc 2 (sc 3 (sc 4 (sc 8 sn)))))
 obtain ⟨J41, hJ41⟩ : ∃ J : Act → World → Prop, J = fun a W => ∃ (q : Pk) (t : Ad), q = bentP p what v str ∧ (∀ W', Kept [g1] W W' → q.In W' t) ∧ Kept [] w W ∧ Blk W g0 28 (q.cells t) ∧ Blk W g1 28 zeroPk ∧ Fr 119 a [(4, .pointer (some ⟨g0, 0, none⟩)), (8, .pointer (some ⟨g1, 0, none⟩))] := ⟨_, rfl⟩
 clear f2 a2 f3
 refine C.cut J41 ?_ ?_
 ·skip
  refine wp_seq_k fun K1 hK1 => ?_
  replace Bg0 : Blk w2 g0 28 #[.int .i64 p.kind, .bool p.dup, .bool p.retain, .int .i64 p.qos, .int .i64 p.id, .string p.topic, .slice s.pa p.pay.length s.pc, .int .i64 p.level, .string p.client, .bool p.clean, .int .i64 p.keep, .bool p.hasWill, .string p.wt, .slice s.wa p.wp.length s.wc, .int .i64 p.wq, .bool p.wr, .bool p.hasUser, .bool p.hasPass, .string p.user, .slice s.sa p.pass.length s.sc, .bool p.present, .int .i64 p.code, .slice s.ua p.subs.length s.uc, .slice s.ca p.codes.length s.cc] := Bg0
  refine C.region ?_
  refine L.mv f4 fun a5 f5 => ?_
  refine L.va f5 (E.rem f5 rfl rfl (by omega) (Int.tmod_eq_emod_of_nonneg (by omega))) fun a6 f6 => ?_
  refine wpList_nil (hK1 _ _ ?_)
  have f7 := f6.sub (sc 2 (sc 3 (sc 4 (sc 8 (sc 10 sn)))))
  refine wp_block ?_
  refine C.sk fun K2 hK2 => ?_
  refine L.va f7 (E.eq f7) fun a8 f8 => ?_
  refine L.ag f8 fun a9 f9 => ?_
  refine wpList_nil (hK2 _ _ ?_)
  have f10 := f9.sub (sc 2 (sc 3 (sc 4 (sc 8 (sc 10 (sc 14 sn))))))
  clear f4 a3 f5 a5 f6 f7 a6 f8 a8 f9
  refine f10.splitD 14 rfl (fun h0 f11 => ?_) (fun h0 f11 => ?_)
  ·refine C.condT f11 rfl ?_
   refine C.region ?_
   refine L.mv f11 fun a12 f12 => ?_
   refine L.fa 4 f12 U28 rfl wsz3_za fun a13 f13 => ?_
   refine L.store f13 wantedN wsz3_za rfl rfl rfl Bg0 (by (simp [Value.cells]; done)) fun a14 w3 f14 NB3 ks3 => ?_
   have szw3 := ks3.size
   replace HK := HK.trans ks3 (ktr (by omega))
   replace Bg1 := Bg1.kept ks3 (by simp; omega)
   replace Bg0 := NB3
   simp only [Value.cells, z1, z2, z3, Nat.reduceAdd, Nat.zero_add] at Bg0
   clear f10 f11 a9 f12 a12 ks3 f13 a13
   exact wpList_nil (then_of (J := J41) (Q := fun _ _ _ => True) (by rw [hJ41]; exact ⟨{ p with id := v }, s, (bent0 (by omega)).symm, fun W' hk => ⟨(IP.kept (HK.trans hk (by intro x hx hlt; simp at hx; subst hx; exfalso; omega))).pay, (IP.kept (HK.trans hk (by intro x hx hlt; simp at hx; subst hx; exfalso; omega))).wp, (IP.kept (HK.trans hk (by intro x hx hlt; simp at hx; subst hx; exfalso; omega))).pass, (IP.kept (HK.trans hk (by intro x hx hlt; simp at hx; subst hx; exfalso; omega))).subs, (IP.kept (HK.trans hk (by intro x hx hlt; simp at hx; subst hx; exfalso; omega))).codes⟩, HK, Bg0, Bg1, f14.sub (sub_cons rfl (sub_cons rfl sn))⟩))
  refine C.condF f11 rfl ?_
  refine C.sk fun K3 hK3 => ?_
  refine L.va f11 (E.eq f11) fun a12 f12 => ?_
  refine L.ag f12 fun a13 f13 => ?_
  refine wpList_nil (hK3 _ _ ?_)
  have f14 := f13.sub (sc 2 (sc 3 (sc 4 (sc 8 (sc 10 (sc 18 sn))))))
  clear f10 f11 a9 f12 a12 f13
  refine f14.splitD 18 rfl (fun h1 f15 => ?_) (fun h1 f15 => ?_)
  ·refine C.condT f15 rfl ?_
   refine C.region ?_
   refine L.mv f15 fun a16 f16 => ?_
   refine L.fa 3 f16 U28 rfl wsz3_za fun a17 f17 => ?_
   refine L.store f17 wantedN wsz3_za rfl rfl rfl Bg0 (by (simp [Value.cells]; done)) fun a18 w3 f18 NB3 ks3 => ?_
   have szw3 := ks3.size
   replace HK := HK.trans ks3 (ktr (by omega))
   replace Bg1 := Bg1.kept ks3 (by simp; omega)
   replace Bg0 := NB3
   simp only [Value.cells, z1, z2, z3, Nat.reduceAdd, Nat.zero_add] at Bg0
   clear f14 f15 a13 f16 a16 ks3 f17 a17
   exact wpList_nil (then_of (J := J41) (Q := fun _ _ _ => True) (by rw [hJ41]; exact ⟨{ p with qos := v }, s, (bent1 (by omega)).symm, fun W' hk => ⟨(IP.kept (HK.trans hk (by intro x hx hlt; simp at hx; subst hx; exfalso; omega))).pay, (IP.kept (HK.trans hk (by intro x hx hlt; simp at hx; subst hx; exfalso; omega))).wp, (IP.kept (HK.trans hk (by intro x hx hlt; simp at hx; subst hx; exfalso; omega))).pass, (IP.kept (HK.trans hk (by intro x hx hlt; simp at hx; subst hx; exfalso; omega))).subs, (IP.kept (HK.trans hk (by intro x hx hlt; simp at hx; subst hx; exfalso; omega))).codes⟩, HK, Bg0, Bg1, f18.sub (sub_cons rfl (sub_cons rfl sn))⟩))
  refine C.condF f15 rfl ?_
  refine C.sk fun K4 hK4 => ?_
  refine L.va f15 (E.eq f15) fun a16 f16 => ?_
  refine L.ag f16 fun a17 f17 => ?_
  refine wpList_nil (hK4 _ _ ?_)
  have f18 := f17.sub (sc 2 (sc 3 (sc 4 (sc 8 (sc 10 (sc 22 sn))))))
  clear f14 f15 a13 f16 a16 f17
  refine f18.splitD 22 rfl (fun h2 f19 => ?_) (fun h2 f19 => ?_)
  ·refine C.condT f19 rfl ?_
   refine C.region ?_
   refine L.mv f19 fun a20 f20 => ?_
   refine L.fa 5 f20 U28 rfl wsz9_za fun a21 f21 => ?_
   refine L.store f21 wantedN wsz9_za rfl rfl rfl Bg0 (by (simp [Value.cells]; done)) fun a22 w3 f22 NB3 ks3 => ?_
   have szw3 := ks3.size
   replace HK := HK.trans ks3 (ktr (by omega))
   replace Bg1 := Bg1.kept ks3 (by simp; omega)
   replace Bg0 := NB3
   simp only [Value.cells, z1, z2, z3, Nat.reduceAdd, Nat.zero_add] at Bg0
   clear f18 f19 a17 f20 a20 ks3 f21 a21
   exact wpList_nil (then_of (J := J41) (Q := fun _ _ _ => True) (by rw [hJ41]; exact ⟨{ p with topic := str }, s, (bent2 (by omega)).symm, fun W' hk => ⟨(IP.kept (HK.trans hk (by intro x hx hlt; simp at hx; subst hx; exfalso; omega))).pay, (IP.kept (HK.trans hk (by intro x hx hlt; simp at hx; subst hx; exfalso; omega))).wp, (IP.kept (HK.trans hk (by intro x hx hlt; simp at hx; subst hx; exfalso; omega))).pass, (IP.kept (HK.trans hk (by intro x hx hlt; simp at hx; subst hx; exfalso; omega))).subs, (IP.kept (HK.trans hk (by intro x hx hlt; simp at hx; subst hx; exfalso; omega))).codes⟩, HK, Bg0, Bg1, f22.sub (sub_cons rfl (sub_cons rfl sn))⟩))
  refine C.condF f19 rfl ?_
  refine C.sk fun K5 hK5 => ?_
  refine L.va f19 (E.eq f19) fun a20 f20 => ?_
  refine L.ag f20 fun a21 f21 => ?_
  refine wpList_nil (hK5 _ _ ?_)
  have f22 := f21.sub (sc 2 (sc 3 (sc 4 (sc 8 (sc 10 (sc 26 sn))))))
  clear f18 f19 a17 f20 a20 f21
  refine f22.splitD 26 rfl (fun h3 f23 => ?_) (fun h3 f23 => ?_)
  ·refine C.condT f23 rfl ?_
   refine C.region ?_
   refine L.mv f23 fun a24 f24 => ?_
   refine L.fa 8 f24 U28 rfl wsz9_za fun a25 f25 => ?_
   refine L.store f25 wantedN wsz9_za rfl rfl rfl Bg0 (by (simp [Value.cells]; done)) fun a26 w3 f26 NB3 ks3 => ?_
   have szw3 := ks3.size
   replace HK := HK.trans ks3 (ktr (by omega))
   replace Bg1 := Bg1.kept ks3 (by simp; omega)
   replace Bg0 := NB3
   simp only [Value.cells, z1, z2, z3, Nat.reduceAdd, Nat.zero_add] at Bg0
   clear f22 f23 a21 f24 a24 ks3 f25 a25
   exact wpList_nil (then_of (J := J41) (Q := fun _ _ _ => True) (by rw [hJ41]; exact ⟨{ p with client := str }, s, (bent3 (by omega)).symm, fun W' hk => ⟨(IP.kept (HK.trans hk (by intro x hx hlt; simp at hx; subst hx; exfalso; omega))).pay, (IP.kept (HK.trans hk (by intro x hx hlt; simp at hx; subst hx; exfalso; omega))).wp, (IP.kept (HK.trans hk (by intro x hx hlt; simp at hx; subst hx; exfalso; omega))).pass, (IP.kept (HK.trans hk (by intro x hx hlt; simp at hx; subst hx; exfalso; omega))).subs, (IP.kept (HK.trans hk (by intro x hx hlt; simp at hx; subst hx; exfalso; omega))).codes⟩, HK, Bg0, Bg1, f26.sub (sub_cons rfl (sub_cons rfl sn))⟩))
  refine C.condF f23 rfl ?_
  refine C.sk fun K6 hK6 => ?_
  refine L.va f23 (E.eq f23) fun a24 f24 => ?_
  refine L.ag f24 fun a25 f25 => ?_
  refine wpList_nil (hK6 _ _ ?_)
  have f26 := f25.sub (sc 2 (sc 3 (sc 4 (sc 8 (sc 10 (sc 30 sn))))))
  clear f22 f23 a21 f24 a24 f25
  refine f26.splitD 30 rfl (fun h4 f27 => ?_) (fun h4 f27 => ?_)
  ·refine C.condT f27 rfl ?_
   refine C.region ?_
   refine L.mv f27 fun a28 f28 => ?_
   refine L.fa 7 f28 U28 rfl wsz3_za fun a29 f29 => ?_
   refine L.store f29 wantedN wsz3_za rfl rfl rfl Bg0 (by (simp [Value.cells]; done)) fun a30 w3 f30 NB3 ks3 => ?_
   have szw3 := ks3.size
   replace HK := HK.trans ks3 (ktr (by omega))
   replace Bg1 := Bg1.kept ks3 (by simp; omega)
   replace Bg0 := NB3
   simp only [Value.cells, z1, z2, z3, Nat.reduceAdd, Nat.zero_add] at Bg0
   clear f26 f27 a25 f28 a28 ks3 f29 a29
   exact wpList_nil (then_of (J := J41) (Q := fun _ _ _ => True) (by rw [hJ41]; exact ⟨{ p with level := v }, s, (bent4 (by omega)).symm, fun W' hk => ⟨(IP.kept (HK.trans hk (by intro x hx hlt; simp at hx; subst hx; exfalso; omega))).pay, (IP.kept (HK.trans hk (by intro x hx hlt; simp at hx; subst hx; exfalso; omega))).wp, (IP.kept (HK.trans hk (by intro x hx hlt; simp at hx; subst hx; exfalso; omega))).pass, (IP.kept (HK.trans hk (by intro x hx hlt; simp at hx; subst hx; exfalso; omega))).subs, (IP.kept (HK.trans hk (by intro x hx hlt; simp at hx; subst hx; exfalso; omega))).codes⟩, HK, Bg0, Bg1, f30.sub (sub_cons rfl (sub_cons rfl sn))⟩))
  refine C.condF f27 rfl ?_
  refine C.sk fun K7 hK7 => ?_
  refine L.va f27 (E.eq f27) fun a28 f28 => ?_
  refine L.ag f28 fun a29 f29 => ?_
  refine wpList_nil (hK7 _ _ ?_)
  have f30 := f29.sub (sc 2 (sc 3 (sc 4 (sc 8 (sc 10 (sc 34 sn))))))
  clear f26 f27 a25 f28 a28 f29
  refine f30.splitD 34 rfl (fun h5 f31 => ?_) (fun h5 f31 => ?_)
  ·refine C.condT f31 rfl ?_
   refine C.region ?_
   refine L.mv f31 fun a32 f32 => ?_
   refine L.fa 10 f32 U28 rfl wsz3_za fun a33 f33 => ?_
   refine L.store f33 wantedN wsz3_za rfl rfl rfl Bg0 (by (simp [Value.cells]; done)) fun a34 w3 f34 NB3 ks3 => ?_
   have szw3 := ks3.size
   replace HK := HK.trans ks3 (ktr (by omega))
   replace Bg1 := Bg1.kept ks3 (by simp; omega)
   replace Bg0 := NB3
   simp only [Value.cells, z1, z2, z3, Nat.reduceAdd, Nat.zero_add] at Bg0
   clear f30 f31 a29 f32 a32 ks3 f33 a33
   exact wpList_nil (then_of (J := J41) (Q := fun _ _ _ => True) (by rw [hJ41]; exact ⟨{ p with keep := v }, s, (bent5 (by omega)).symm, fun W' hk => ⟨(IP.kept (HK.trans hk (by intro x hx hlt; simp at hx; subst hx; exfalso; omega))).pay, (IP.kept (HK.trans hk (by intro x hx hlt; simp at hx; subst hx; exfalso; omega))).wp, (IP.kept (HK.trans hk (by intro x hx hlt; simp at hx; subst hx; exfalso; omega))).pass, (IP.kept (HK.trans hk (by intro x hx hlt; simp at hx; subst hx; exfalso; omega))).subs, (IP.kept (HK.trans hk (by intro x hx hlt; simp at hx; subst hx; exfalso; omega))).codes⟩, HK, Bg0, Bg1, f34.sub (sub_cons rfl (sub_cons rfl sn))⟩))
  refine C.condF f31 rfl ?_
  refine C.sk fun K8 hK8 => ?_
  refine L.va f31 (E.eq f31) fun a32 f32 => ?_
  refine L.ag f32 fun a33 f33 => ?_
  refine wpList_nil (hK8 _ _ ?_)
  have f34 := f33.sub (sc 2 (sc 3 (sc 4 (sc 8 (sc 10 (sc 38 sn))))))
  clear f30 f31 a29 f32 a32 f33
  refine f34.splitD 38 rfl (fun h6 f35 => ?_) (fun h6 f35 => ?_)
  ·refine C.condT f35 rfl ?_
   refine C.region ?_
   refine L.fa 11 f35 U28 rfl wsz4_za fun a36 f36 => ?_
   refine L.ld f36 U4 Bg0 fun a37 f37 => ?_
   refine L.va f37 (E.not f37 rfl) fun a38 f38 => ?_
   refine L.fa 11 f38 U28 rfl wsz4_za fun a39 f39 => ?_
   refine L.store f39 wantedN wsz4_za rfl rfl rfl Bg0 (by (simp [Value.cells]; done)) fun a40 w3 f40 NB3 ks3 => ?_
   have szw3 := ks3.size
   replace HK := HK.trans ks3 (ktr (by omega))
   replace Bg1 := Bg1.kept ks3 (by simp; omega)
   replace Bg0 := NB3
   simp only [Value.cells, z1, z2, z3, Nat.reduceAdd, Nat.zero_add] at Bg0
   clear f34 f35 a33 f36 a36 f37 a37 f38 a38 ks3 f39 a39
   exact wpList_nil (then_of (J := J41) (Q := fun _ _ _ => True) (by rw [hJ41]; exact ⟨{ p with hasWill := !p.hasWill }, s, (bent6 (by omega)).symm, fun W' hk => ⟨(IP.kept (HK.trans hk (by intro x hx hlt; simp at hx; subst hx; exfalso; omega))).pay, (IP.kept (HK.trans hk (by intro x hx hlt; simp at hx; subst hx; exfalso; omega))).wp, (IP.kept (HK.trans hk (by intro x hx hlt; simp at hx; subst hx; exfalso; omega))).pass, (IP.kept (HK.trans hk (by intro x hx hlt; simp at hx; subst hx; exfalso; omega))).subs, (IP.kept (HK.trans hk (by intro x hx hlt; simp at hx; subst hx; exfalso; omega))).codes⟩, HK, Bg0, Bg1, f40.sub (sub_cons rfl (sub_cons rfl sn))⟩))
  refine C.condF f35 rfl ?_
  refine C.sk fun K9 hK9 => ?_
  refine L.va f35 (E.eq f35) fun a36 f36 => ?_
  refine L.ag f36 fun a37 f37 => ?_
  refine wpList_nil (hK9 _ _ ?_)
  have f38 := f37.sub (sc 2 (sc 3 (sc 4 (sc 8 (sc 10 (sc 44 sn))))))
  clear f34 f35 a33 f36 a36 f37
  refine f38.splitD 44 rfl (fun h7 f39 => ?_) (fun h7 f39 => ?_)
  ·refine C.condT f39 rfl ?_
   refine C.region ?_
   refine L.fa 16 f39 U28 rfl wsz4_za fun a40 f40 => ?_
   refine L.ld f40 U4 Bg0 fun a41 f41 => ?_
   refine L.va f41 (E.not f41 rfl) fun a42 f42 => ?_
   refine L.fa 16 f42 U28 rfl wsz4_za fun a43 f43 => ?_
   refine L.store f43 wantedN wsz4_za rfl rfl rfl Bg0 (by (simp [Value.cells]; done)) fun a44 w3 f44 NB3 ks3 => ?_
   have szw3 := ks3.size
   replace HK := HK.trans ks3 (ktr (by omega))
   replace Bg1 := Bg1.kept ks3 (by simp; omega)
   replace Bg0 := NB3
   simp only [Value.cells, z1, z2, z3, Nat.reduceAdd, Nat.zero_add] at Bg0
   clear f38 f39 a37 f40 a40 f41 a41 f42 a42 ks3 f43 a43
   exact wpList_nil (then_of (J := J41) (Q := fun _ _ _ => True) (by rw [hJ41]; exact ⟨{ p with hasUser := !p.hasUser }, s, (bent7 (by omega)).symm, fun W' hk => ⟨(IP.kept (HK.trans hk (by intro x hx hlt; simp at hx; subst hx; exfalso; omega))).pay, (IP.kept (HK.trans hk (by intro x hx hlt; simp at hx; subst hx; exfalso; omega))).wp, (IP.kept (HK.trans hk (by intro x hx hlt; simp at hx; subst hx; exfalso; omega))).pass, (IP.kept (HK.trans hk (by intro x hx hlt; simp at hx; subst hx; exfalso; omega))).subs, (IP.kept (HK.trans hk (by intro x hx hlt; simp at hx; subst hx; exfalso; omega))).codes⟩, HK, Bg0, Bg1, f44.sub (sub_cons rfl (sub_cons rfl sn))⟩))
  refine C.condF f39 rfl ?_
  refine C.sk fun K10 hK10 => ?_
  refine L.va f39 (E.eq f39) fun a40 f40 => ?_
  refine L.ag f40 fun a41 f41 => ?_
  refine wpList_nil (hK10 _ _ ?_)
  have f42 := f41.sub (sc 2 (sc 3 (sc 4 (sc 8 (sc 10 (sc 50 sn))))))
  clear f38 f39 a37 f40 a40 f41
  refine f42.splitD 50 rfl (fun h8 f43 => ?_) (fun h8 f43 => ?_)
  ·refine C.condT f43 rfl ?_
   refine C.region ?_
   refine L.fa 17 f43 U28 rfl wsz4_za fun a44 f44 => ?_
   refine L.ld f44 U4 Bg0 fun a45 f45 => ?_
   refine L.va f45 (E.not f45 rfl) fun a46 f46 => ?_
   refine L.fa 17 f46 U28 rfl wsz4_za fun a47 f47 => ?_
   refine L.store f47 wantedN wsz4_za rfl rfl rfl Bg0 (by (simp [Value.cells]; done)) fun a48 w3 f48 NB3 ks3 => ?_
   have szw3 := ks3.size
   replace HK := HK.trans ks3 (ktr (by omega))
   replace Bg1 := Bg1.kept ks3 (by simp; omega)
   replace Bg0 := NB3
   simp only [Value.cells, z1, z2, z3, Nat.reduceAdd, Nat.zero_add] at Bg0
   clear f42 f43 a41 f44 a44 f45 a45 f46 a46 ks3 f47 a47
   exact wpList_nil (then_of (J := J41) (Q := fun _ _ _ => True) (by rw [hJ41]; exact ⟨{ p with hasPass := !p.hasPass }, s, (bent8 (by omega)).symm, fun W' hk => ⟨(IP.kept (HK.trans hk (by intro x hx hlt; simp at hx; subst hx; exfalso; omega))).pay, (IP.kept (HK.trans hk (by intro x hx hlt; simp at hx; subst hx; exfalso; omega))).wp, (IP.kept (HK.trans hk (by intro x hx hlt; simp at hx; subst hx; exfalso; omega))).pass, (IP.kept (HK.trans hk (by intro x hx hlt; simp at hx; subst hx; exfalso; omega))).subs, (IP.kept (HK.trans hk (by intro x hx hlt; simp at hx; subst hx; exfalso; omega))).codes⟩, HK, Bg0, Bg1, f48.sub (sub_cons rfl (sub_cons rfl sn))⟩))
  refine C.condF f43 rfl ?_
  refine C.sk fun K11 hK11 => ?_
  refine L.va f43 (E.eq f43) fun a44 f44 => ?_
  refine L.ag f44 fun a45 f45 => ?_
  refine wpList_nil (hK11 _ _ ?_)
  have f46 := f45.sub (sc 2 (sc 3 (sc 4 (sc 8 (sc 10 (sc 56 sn))))))
  clear f42 f43 a41 f44 a44 f45
  refine f46.splitD 56 rfl (fun h9 f47 => ?_) (fun h9 f47 => ?_)
  ·refine C.condT f47 rfl ?_
   refine C.region ?_
   refine L.fa 20 f47 U28 rfl wsz4_za fun a48 f48 => ?_
   refine L.ld f48 U4 Bg0 fun a49 f49 => ?_
   refine L.va f49 (E.not f49 rfl) fun a50 f50 => ?_
   refine L.fa 20 f50 U28 rfl wsz4_za fun a51 f51 => ?_
   refine L.store f51 wantedN wsz4_za rfl rfl rfl Bg0 (by (simp [Value.cells]; done)) fun a52 w3 f52 NB3 ks3 => ?_
   have szw3 := ks3.size
   replace HK := HK.trans ks3 (ktr (by omega))
   replace Bg1 := Bg1.kept ks3 (by simp; omega)
   replace Bg0 := NB3
   simp only [Value.cells, z1, z2, z3, Nat.reduceAdd, Nat.zero_add] at Bg0
   clear f46 f47 a45 f48 a48 f49 a49 f50 a50 ks3 f51 a51
   exact wpList_nil (then_of (J := J41) (Q := fun _ _ _ => True) (by rw [hJ41]; exact ⟨{ p with present := !p.present }, s, (bent9 (by omega)).symm, fun W' hk => ⟨(IP.kept (HK.trans hk (by intro x hx hlt; simp at hx; subst hx; exfalso; omega))).pay, (IP.kept (HK.trans hk (by intro x hx hlt; simp at hx; subst hx; exfalso; omega))).wp, (IP.kept (HK.trans hk (by intro x hx hlt; simp at hx; subst hx; exfalso; omega))).pass, (IP.kept (HK.trans hk (by intro x hx hlt; simp at hx; subst hx; exfalso; omega))).subs, (IP.kept (HK.trans hk (by intro x hx hlt; simp at hx; subst hx; exfalso; omega))).codes⟩, HK, Bg0, Bg1, f52.sub (sub_cons rfl (sub_cons rfl sn))⟩))
  refine C.condF f47 rfl ?_
  refine C.sk fun K12 hK12 => ?_
  refine L.va f47 (E.eq f47) fun a48 f48 => ?_
  refine L.ag f48 fun a49 f49 => ?_
  refine wpList_nil (hK12 _ _ ?_)
  have f50 := f49.sub (sc 2 (sc 3 (sc 4 (sc 8 (sc 10 (sc 62 sn))))))
  clear f46 f47 a45 f48 a48 f49
  refine f50.splitD 62 rfl (fun h10 f51 => ?_) (fun h10 f51 => ?_)
  ·refine C.condT f51 rfl ?_
   refine C.region ?_
   refine L.mv f51 fun a52 f52 => ?_
   refine L.fa 21 f52 U28 rfl wsz3_za fun a53 f53 => ?_
   refine L.store f53 wantedN wsz3_za rfl rfl rfl Bg0 (by (simp [Value.cells]; done)) fun a54 w3 f54 NB3 ks3 => ?_
   have szw3 := ks3.size
   replace HK := HK.trans ks3 (ktr (by omega))
   replace Bg1 := Bg1.kept ks3 (by simp; omega)
   replace Bg0 := NB3
   simp only [Value.cells, z1, z2, z3, Nat.reduceAdd, Nat.zero_add] at Bg0
   clear f50 f51 a49 f52 a52 ks3 f53 a53
   exact wpList_nil (then_of (J := J41) (Q := fun _ _ _ => True) (by rw [hJ41]; exact ⟨{ p with code := v }, s, (bent10 (by omega)).symm, fun W' hk => ⟨(IP.kept (HK.trans hk (by intro x hx hlt; simp at hx; subst hx; exfalso; omega))).pay, (IP.kept (HK.trans hk (by intro x hx hlt; simp at hx; subst hx; exfalso; omega))).wp, (IP.kept (HK.trans hk (by intro x hx hlt; simp at hx; subst hx; exfalso; omega))).pass, (IP.kept (HK.trans hk (by intro x hx hlt; simp at hx; subst hx; exfalso; omega))).subs, (IP.kept (HK.trans hk (by intro x hx hlt; simp at hx; subst hx; exfalso; omega))).codes⟩, HK, Bg0, Bg1, f54.sub (sub_cons rfl (sub_cons rfl sn))⟩))
  refine C.condF f51 rfl ?_
  refine C.sk fun K13 hK13 => ?_
  refine L.va f51 (E.eq f51) fun a52 f52 => ?_
  refine L.ag f52 fun a53 f53 => ?_
  refine wpList_nil (hK13 _ _ ?_)
  have f54 := f53.sub (sc 2 (sc 3 (sc 4 (sc 8 (sc 10 (sc 66 sn))))))
  clear f50 f51 a49 f52 a52 f53
  refine f54.splitD 66 rfl (fun h11 f55 => ?_) (fun h11 f55 => ?_)
  ·refine C.condT f55 rfl ?_
   refine C.region ?_
   refine L.fa 23 f55 U28 rfl wsz26_za fun a56 f56 => ?_
   refine L.ld f56 U26 Bg0 fun a57 f57 => ?_
   refine L.append f57 wantedN (by decide) U26 wzib3_za rfl rfl rfl rfl (Own.nil _ _ _) ((IP.kept HK).codes) (codeCells_one _) (by unfold maxLen; omega) (by omega) fun a58 w3 A0_ c0_ AP3 f58 => ?_
   have kap3 : Kept [] w2 w3 := by simpa [Value.ownBlock] using AP3.kept
   have FC : Fresh w w3 3 1 A0_ p.codes.length c0_ (codeCells p.codes) := by have h := AP3.next (Fresh.nil w w2 _ _) HK.size; simpa only [Nat.zero_add, List.nil_append] using h
   simp only [Nat.zero_add] at f58
   have szw3 := kap3.size
   replace HK := HK.trans kap3 (by simp)
   replace Bg0 := Bg0.kept kap3 (by simp)
   replace Bg1 := Bg1.kept kap3 (by simp)
   clear f54 f55 a53 f56 a56 f57 a57 kap3
   refine L.mv f58 fun a59 f59 => ?_
   refine L.buildSlice f59 wantedN (by decide) (parts1 f59 rfl) U26 wzi3_za rfl rfl (wbs26_1_za _) fun a60 w4 g3 N3 f60 => ?_
   have Bg3 := N3.blk
   have kg3 := N3.kept
   have log3 := N3.lo
   have ltg3 := Bg3.lt
   have szw4 := kg3.size
   have frg3 : w.heap.size ≤ g3 := Nat.le_trans HK.size log3
   have neg0_g3 : g0 ≠ g3 := by have := Bg0.lt; omega
   have neg1_g3 : g1 ≠ g3 := by have := Bg1.lt; omega
   replace HK := HK.trans kg3 (by simp)
   replace Bg0 := Bg0.kept kg3 (by simp)
   replace Bg1 := Bg1.kept kg3 (by simp)
   replace FC := Fresh.kept0 FC kg3
   clear f58 a58 N3 kg3
   refine L.append f60 wantedN (by decide) U26 wzib3_za rfl rfl rfl rfl FC.own (Bg3.slN (n := 1) (size := 1) rfl) (by intro u hu; simp at hu; subst hu; rfl) (by unfold maxLen; omega) (by omega) fun a61 w5 A5 c5 AP f61 => ?_
   have szw5 := AP.kept.size
   have HKn := AP.grow FC HK
   have Bg0n := Bg0.kept AP.kept (own_ne FC.own Bg0 (by decide))
   have Bg1n := Bg1.kept AP.kept (own_ne FC.own Bg1 (by decide))
   have FCn := AP.next FC HK.size
   clear f59 a59 f60 HK Bg0 Bg1 FC AP Bg3
   have HK := HKn
   have Bg0 := Bg0n
   have Bg1 := Bg1n
   have FC := FCn
   clear HKn Bg0n Bg1n FCn
   refine L.fa 23 f61 U28 rfl wsz26_za fun a62 f62 => ?_
   refine L.store f62 wantedN wsz26_za rfl rfl rfl Bg0 (by (simp [Value.cells]; done)) fun a63 w6 f63 NB6 ks6 => ?_
   have szw6 := ks6.size
   replace HK := HK.trans ks6 (ktr (by omega))
   replace Bg1 := Bg1.kept ks6 (by simp; omega)
   replace FC := fresh_blk FC ks6 Bg0 (by decide)
   replace Bg0 := NB6
   simp only [Value.cells, z1, z2, z3, Nat.reduceAdd, Nat.zero_add] at Bg0
   clear f61 a61 ks6 f62 a62
   exact wpList_nil (then_of (J := J41) (Q := fun _ _ _ => True) (by rw [hJ41]; exact ⟨{ p with codes := p.codes ++ [v] }, { s with ca := A5, cc := c5 }, (bent11 (by omega)).symm, fun W' hk => ⟨(IP.kept (HK.trans hk (by intro x hx hlt; simp at hx; subst hx; exfalso; omega))).pay, (IP.kept (HK.trans hk (by intro x hx hlt; simp at hx; subst hx; exfalso; omega))).wp, (IP.kept (HK.trans hk (by intro x hx hlt; simp at hx; subst hx; exfalso; omega))).pass, (IP.kept (HK.trans hk (by intro x hx hlt; simp at hx; subst hx; exfalso; omega))).subs, by rw [code_app, List.length_append]; exact (fresh_blk FC hk Bg1 (by decide)).sl⟩, HK, by rw [Pk.cells, List.length_append]; exact Bg0, Bg1, f63.sub (sub_cons rfl (sub_cons rfl sn))⟩))
  refine C.condF f55 rfl ?_
  refine C.sk fun K14 hK14 => ?_
  refine L.va f55 (E.eq f55) fun a56 f56 => ?_
  refine L.ag f56 fun a57 f57 => ?_
  refine wpList_nil (hK14 _ _ ?_)
  have f58 := f57.sub (sc 2 (sc 3 (sc 4 (sc 8 (sc 10 (sc 75 sn))))))
  clear f54 f55 a53 f56 a56 f57
  refine f58.splitD 75 rfl (fun h12 f59 => ?_) (fun h12 f59 => ?_)
  ·refine C.condT f59 rfl ?_
   refine C.region ?_
   refine L.fa 22 f59 U28 rfl wsz25_za fun a60 f60 => ?_
   refine L.ld f60 U25 Bg0 fun a61 f61 => ?_
   refine L.append f61 wantedN (by decide) U25 wzib70_za rfl rfl rfl rfl (Own.nil _ _ _) ((IP.kept HK).subs) (subCells_one _) (by unfold maxLen; omega) (by omega) fun a62 w3 A0_ c0_ AP3 f62 => ?_
   have kap3 : Kept [] w2 w3 := by simpa [Value.ownBlock] using AP3.kept
   have FC : Fresh w w3 70 2 A0_ p.subs.length c0_ (subCells p.subs) := by have h := AP3.next (Fresh.nil w w2 _ _) HK.size; simpa only [Nat.zero_add, List.nil_append] using h
   simp only [Nat.zero_add] at f62
   have szw3 := kap3.size
   replace HK := HK.trans kap3 (by simp)
   replace Bg0 := Bg0.kept kap3 (by simp)
   replace Bg1 := Bg1.kept kap3 (by simp)
   clear f58 f59 a57 f60 a60 f61 a61 kap3
   refine L.mv f62 fun a63 f63 => ?_
   refine L.mv f63 fun a64 f64 => ?_
   refine L.va f64 (E.and f64 rfl rfl rfl) fun a65 f65 => ?_
   refine L.va f65 (E.build f65 (parts2 f65 rfl rfl) (wbl70_0_1_za _ _)) fun a66 f66 => ?_
   refine L.buildSlice f66 wantedN (by decide) (parts1 f66 rfl) U25 wzi70_za rfl rfl (wbs25_1_za _ _) fun a67 w4 g3 N3 f67 => ?_
   have Bg3 := N3.blk
   have kg3 := N3.kept
   have log3 := N3.lo
   have ltg3 := Bg3.lt
   have szw4 := kg3.size
   have frg3 : w.heap.size ≤ g3 := Nat.le_trans HK.size log3
   have neg0_g3 : g0 ≠ g3 := by have := Bg0.lt; omega
   have neg1_g3 : g1 ≠ g3 := by have := Bg1.lt; omega
   replace HK := HK.trans kg3 (by simp)
   replace Bg0 := Bg0.kept kg3 (by simp)
   replace Bg1 := Bg1.kept kg3 (by simp)
   replace FC := Fresh.kept0 FC kg3
   clear f62 a62 f63 a63 f64 a64 f65 a65 N3 kg3
   refine L.append f67 wantedN (by decide) U25 wzib70_za rfl rfl rfl rfl FC.own (Bg3.slN (n := 1) (size := 2) rfl) (by intro u hu; simp at hu; rcases hu with rfl | rfl <;> rfl) (by unfold maxLen; omega) (by omega) fun a68 w5 A5 c5 AP f68 => ?_
   have szw5 := AP.kept.size
   have HKn := AP.grow FC HK
   have Bg0n := Bg0.kept AP.kept (own_ne FC.own Bg0 (by decide))
   have Bg1n := Bg1.kept AP.kept (own_ne FC.own Bg1 (by decide))
   have FCn := AP.next FC HK.size
   clear f66 a66 f67 HK Bg0 Bg1 FC AP Bg3
   have HK := HKn
   have Bg0 := Bg0n
   have Bg1 := Bg1n
   have FC := FCn
   clear HKn Bg0n Bg1n FCn
   refine L.fa 22 f68 U28 rfl wsz25_za fun a69 f69 => ?_
   refine L.store f69 wantedN wsz25_za rfl rfl rfl Bg0 (by (simp [Value.cells]; done)) fun a70 w6 f70 NB6 ks6 => ?_
   have szw6 := ks6.size
   replace HK := HK.trans ks6 (ktr (by omega))
   replace Bg1 := Bg1.kept ks6 (by simp; omega)
   replace FC := fresh_blk FC ks6 Bg0 (by decide)
   replace Bg0 := NB6
   simp only [Value.cells, z1, z2, z3, Nat.reduceAdd, Nat.zero_add] at Bg0
   clear f68 a68 ks6 f69 a69
   exact wpList_nil (then_of (J := J41) (Q := fun _ _ _ => True) (by rw [hJ41]; exact ⟨{ p with subs := p.subs ++ [(str, bits .and .i64 v 3)] }, { s with ua := A5, uc := c5 }, (bent12 (by omega)).symm, fun W' hk => ⟨(IP.kept (HK.trans hk (by intro x hx hlt; simp at hx; subst hx; exfalso; omega))).pay, (IP.kept (HK.trans hk (by intro x hx hlt; simp at hx; subst hx; exfalso; omega))).wp, (IP.kept (HK.trans hk (by intro x hx hlt; simp at hx; subst hx; exfalso; omega))).pass, by rw [sub_app1, List.length_append]; exact (fresh_blk FC hk Bg1 (by decide)).sl, (IP.kept (HK.trans hk (by intro x hx hlt; simp at hx; subst hx; exfalso; omega))).codes⟩, HK, by rw [Pk.cells, List.length_append]; exact Bg0, Bg1, f70.sub (sub_cons rfl (sub_cons rfl sn))⟩))
  refine C.condF f59 rfl ?_
  refine C.sk fun K15 hK15 => ?_
  refine L.va f59 (E.eq f59) fun a60 f60 => ?_
  refine L.ag f60 fun a61 f61 => ?_
  refine wpList_nil (hK15 _ _ ?_)
  have f62 := f61.sub (sc 2 (sc 3 (sc 4 (sc 8 (sc 10 (sc 87 sn))))))
  clear f58 f59 a57 f60 a60 f61
  refine f62.splitD 87 rfl (fun h13 f63 => ?_) (fun h13 f63 => ?_)
  ·refine C.condT f63 rfl ?_
   refine C.region ?_
   refine L.fa 22 f63 U28 rfl wsz25_za fun a64 f64 => ?_
   refine L.store f64 wantedN wsz25_za rfl rfl rfl Bg0 (by (simp [Value.cells]; done)) fun a65 w3 f65 NB3 ks3 => ?_
   have szw3 := ks3.size
   replace HK := HK.trans ks3 (ktr (by omega))
   replace Bg1 := Bg1.kept ks3 (by simp; omega)
   replace Bg0 := NB3
   simp only [Value.cells, z1, z2, z3, Nat.reduceAdd, Nat.zero_add] at Bg0
   clear f62 f63 a61 ks3 f64 a64
   exact wpList_nil (then_of (J := J41) (Q := fun _ _ _ => True) (by rw [hJ41]; exact ⟨{ p with subs := [] }, { s with ua := none, uc := 0 }, (bent13 (by omega)).symm, fun W' hk => ⟨(IP.kept (HK.trans hk (by intro x hx hlt; simp at hx; subst hx; exfalso; omega))).pay, (IP.kept (HK.trans hk (by intro x hx hlt; simp at hx; subst hx; exfalso; omega))).wp, (IP.kept (HK.trans hk (by intro x hx hlt; simp at hx; subst hx; exfalso; omega))).pass, Sl.nil _ _ _, (IP.kept (HK.trans hk (by intro x hx hlt; simp at hx; subst hx; exfalso; omega))).codes⟩, HK, Bg0, Bg1, f65.sub (sub_cons rfl (sub_cons rfl sn))⟩))
  refine C.condF f63 rfl ?_
  refine C.sk fun K16 hK16 => ?_
  refine L.va f63 (E.eq f63) fun a64 f64 => ?_
  refine L.ag f64 fun a65 f65 => ?_
  refine wpList_nil (hK16 _ _ ?_)
  have f66 := f65.sub (sc 2 (sc 3 (sc 4 (sc 8 (sc 10 (sc 90 sn))))))
  clear f62 f63 a61 f64 a64 f65
  refine f66.splitD 90 rfl (fun h14 f67 => ?_) (fun h14 f67 => ?_)
  ·refine C.condT f67 rfl ?_
   refine C.region ?_
   refine L.fa 1 f67 U28 rfl wsz4_za fun a68 f68 => ?_
   refine L.ld f68 U4 Bg0 fun a69 f69 => ?_
   refine L.va f69 (E.not f69 rfl) fun a70 f70 => ?_
   refine L.fa 1 f70 U28 rfl wsz4_za fun a71 f71 => ?_
   refine L.store f71 wantedN wsz4_za rfl rfl rfl Bg0 (by (simp [Value.cells]; done)) fun a72 w3 f72 NB3 ks3 => ?_
   have szw3 := ks3.size
   replace HK := HK.trans ks3 (ktr (by omega))
   replace Bg1 := Bg1.kept ks3 (by simp; omega)
   replace Bg0 := NB3
   simp only [Value.cells, z1, z2, z3, Nat.reduceAdd, Nat.zero_add] at Bg0
   clear f66 f67 a65 f68 a68 f69 a69 f70 a70 ks3 f71 a71
   exact wpList_nil (then_of (J := J41) (Q := fun _ _ _ => True) (by rw [hJ41]; exact ⟨{ p with dup := !p.dup }, s, (bent14 (by omega)).symm, fun W' hk => ⟨(IP.kept (HK.trans hk (by intro x hx hlt; simp at hx; subst hx; exfalso; omega))).pay, (IP.kept (HK.trans hk (by intro x hx hlt; simp at hx; subst hx; exfalso; omega))).wp, (IP.kept (HK.trans hk (by intro x hx hlt; simp at hx; subst hx; exfalso; omega))).pass, (IP.kept (HK.trans hk (by intro x hx hlt; simp at hx; subst hx; exfalso; omega))).subs, (IP.kept (HK.trans hk (by intro x hx hlt; simp at hx; subst hx; exfalso; omega))).codes⟩, HK, Bg0, Bg1, f72.sub (sub_cons rfl (sub_cons rfl sn))⟩))
  refine C.condF f67 rfl ?_
  refine C.sk fun K17 hK17 => ?_
  refine L.va f67 (E.eq f67) fun a68 f68 => ?_
  refine L.ag f68 fun a69 f69 => ?_
  refine wpList_nil (hK17 _ _ ?_)
  have f70 := f69.sub (sc 2 (sc 3 (sc 4 (sc 8 (sc 10 (sc 96 sn))))))
  clear f66 f67 a65 f68 a68 f69
  refine f70.splitD 96 rfl (fun h15 f71 => ?_) (fun h15 f71 => ?_)
  ·refine C.condT f71 rfl ?_
   refine C.region ?_
   refine L.fa 2 f71 U28 rfl wsz4_za fun a72 f72 => ?_
   refine L.ld f72 U4 Bg0 fun a73 f73 => ?_
   refine L.va f73 (E.not f73 rfl) fun a74 f74 => ?_
   refine L.fa 2 f74 U28 rfl wsz4_za fun a75 f75 => ?_
   refine L.store f75 wantedN wsz4_za rfl rfl rfl Bg0 (by (simp [Value.cells]; done)) fun a76 w3 f76 NB3 ks3 => ?_
   have szw3 := ks3.size
   replace HK := HK.trans ks3 (ktr (by omega))
   replace Bg1 := Bg1.kept ks3 (by simp; omega)
   replace Bg0 := NB3
   simp only [Value.cells, z1, z2, z3, Nat.reduceAdd, Nat.zero_add] at Bg0
   clear f70 f71 a69 f72 a72 f73 a73 f74 a74 ks3 f75 a75
   exact wpList_nil (then_of (J := J41) (Q := fun _ _ _ => True) (by rw [hJ41]; exact ⟨{ p with retain := !p.retain }, s, (bent15 (by omega)).symm, fun W' hk => ⟨(IP.kept (HK.trans hk (by intro x hx hlt; simp at hx; subst hx; exfalso; omega))).pay, (IP.kept (HK.trans hk (by intro x hx hlt; simp at hx; subst hx; exfalso; omega))).wp, (IP.kept (HK.trans hk (by intro x hx hlt; simp at hx; subst hx; exfalso; omega))).pass, (IP.kept (HK.trans hk (by intro x hx hlt; simp at hx; subst hx; exfalso; omega))).subs, (IP.kept (HK.trans hk (by intro x hx hlt; simp at hx; subst hx; exfalso; omega))).codes⟩, HK, Bg0, Bg1, f76.sub (sub_cons rfl (sub_cons rfl sn))⟩))
  refine C.condF f71 rfl ?_
  refine C.sk fun K18 hK18 => ?_
  refine L.va f71 (E.eq f71) fun a72 f72 => ?_
  refine L.ag f72 fun a73 f73 => ?_
  refine wpList_nil (hK18 _ _ ?_)
  have f74 := f73.sub (sc 2 (sc 3 (sc 4 (sc 8 (sc 10 (sc 102 sn))))))
  clear f70 f71 a69 f72 a72 f73
  refine f74.splitD 102 rfl (fun h16 f75 => ?_) (fun h16 f75 => ?_)
  ·refine C.condT f75 rfl ?_
   refine C.region ?_
   refine L.mv f75 fun a76 f76 => ?_
   refine L.va f76 (E.and f76 rfl rfl rfl) fun a77 f77 => ?_
   refine L.fa 0 f77 U28 rfl wsz3_za fun a78 f78 => ?_
   refine L.store f78 wantedN wsz3_za rfl rfl rfl Bg0 (by (simp [Value.cells]; done)) fun a79 w3 f79 NB3 ks3 => ?_
   have szw3 := ks3.size
   replace HK := HK.trans ks3 (ktr (by omega))
   replace Bg1 := Bg1.kept ks3 (by simp; omega)
   replace Bg0 := NB3
   simp only [Value.cells, z1, z2, z3, Nat.reduceAdd, Nat.zero_add] at Bg0
   clear f74 f75 a73 f76 a76 f77 a77 ks3 f78 a78
   exact wpList_nil (then_of (J := J41) (Q := fun _ _ _ => True) (by rw [hJ41]; exact ⟨{ p with kind := bits .and .i64 v 15 }, s, (bent16 (by omega)).symm, fun W' hk => ⟨(IP.kept (HK.trans hk (by intro x hx hlt; simp at hx; subst hx; exfalso; omega))).pay, (IP.kept (HK.trans hk (by intro x hx hlt; simp at hx; subst hx; exfalso; omega))).wp, (IP.kept (HK.trans hk (by intro x hx hlt; simp at hx; subst hx; exfalso; omega))).pass, (IP.kept (HK.trans hk (by intro x hx hlt; simp at hx; subst hx; exfalso; omega))).subs, (IP.kept (HK.trans hk (by intro x hx hlt; simp at hx; subst hx; exfalso; omega))).codes⟩, HK, Bg0, Bg1, f79.sub (sub_cons rfl (sub_cons rfl sn))⟩))
  refine C.condF f75 rfl ?_
  refine C.sk fun K19 hK19 => ?_
  refine L.va f75 (E.eq f75) fun a76 f76 => ?_
  refine L.ag f76 fun a77 f77 => ?_
  refine wpList_nil (hK19 _ _ ?_)
  have f78 := f77.sub (sc 2 (sc 3 (sc 4 (sc 8 (sc 10 (sc 107 sn))))))
  clear f74 f75 a73 f76 a76 f77
  refine f78.splitD 107 rfl (fun h17 f79 => ?_) (fun h17 f79 => ?_)
  ·refine C.condT f79 rfl ?_
   refine C.region ?_
   refine L.mv f79 fun a80 f80 => ?_
   refine L.fa 12 f80 U28 rfl wsz24_za fun a81 f81 => ?_
   refine L.fa 0 f81 U24 rfl wsz9_za fun a82 f82 => ?_
   refine L.store f82 wantedN wsz9_za rfl rfl rfl Bg0 (by (simp [Value.cells]; done)) fun a83 w3 f83 NB3 ks3 => ?_
   have szw3 := ks3.size
   replace HK := HK.trans ks3 (ktr (by omega))
   replace Bg1 := Bg1.kept ks3 (by simp; omega)
   replace Bg0 := NB3
   simp only [Value.cells, z1, z2, z3, Nat.reduceAdd, Nat.zero_add] at Bg0
   clear f78 f79 a77 f80 a80 f81 a81 ks3 f82 a82
   exact wpList_nil (then_of (J := J41) (Q := fun _ _ _ => True) (by rw [hJ41]; exact ⟨{ p with wt := str }, s, (bent17 (by omega)).symm, fun W' hk => ⟨(IP.kept (HK.trans hk (by intro x hx hlt; simp at hx; subst hx; exfalso; omega))).pay, (IP.kept (HK.trans hk (by intro x hx hlt; simp at hx; subst hx; exfalso; omega))).wp, (IP.kept (HK.trans hk (by intro x hx hlt; simp at hx; subst hx; exfalso; omega))).pass, (IP.kept (HK.trans hk (by intro x hx hlt; simp at hx; subst hx; exfalso; omega))).subs, (IP.kept (HK.trans hk (by intro x hx hlt; simp at hx; subst hx; exfalso; omega))).codes⟩, HK, Bg0, Bg1, f83.sub (sub_cons rfl (sub_cons rfl sn))⟩))
  refine C.condF f79 rfl ?_
  refine C.sk fun K20 hK20 => ?_
  refine L.va f79 (E.eq f79) fun a80 f80 => ?_
  refine L.ag f80 fun a81 f81 => ?_
  refine wpList_nil (hK20 _ _ ?_)
  have f82 := f81.sub (sc 2 (sc 3 (sc 4 (sc 8 (sc 112 sn)))))
  clear f78 f79 a77 f80 a80 f81
  refine f82.splitD 112 rfl (fun h18 f83 => ?_) (fun h18 f83 => ?_)
  ·refine C.condT f83 rfl ?_
   refine C.region ?_
   refine L.mv f83 fun a84 f84 => ?_
   refine L.va f84 (E.and f84 rfl rfl rfl) fun a85 f85 => ?_
   refine L.fa 12 f85 U28 rfl wsz24_za fun a86 f86 => ?_
   refine L.fa 2 f86 U24 rfl wsz3_za fun a87 f87 => ?_
   refine L.store f87 wantedN wsz3_za rfl rfl rfl Bg0 (by (simp [Value.cells]; done)) fun a88 w3 f88 NB3 ks3 => ?_
   have szw3 := ks3.size
   replace HK := HK.trans ks3 (ktr (by omega))
   replace Bg1 := Bg1.kept ks3 (by simp; omega)
   replace Bg0 := NB3
   simp only [Value.cells, z1, z2, z3, Nat.reduceAdd, Nat.zero_add] at Bg0
   clear f82 f83 a81 f84 a84 f85 a85 f86 a86 ks3 f87 a87
   exact wpList_nil (then_of (J := J41) (Q := fun _ _ _ => True) (by rw [hJ41]; exact ⟨{ p with wq := bits .and .i64 v 3 }, s, (bent18 (by omega)).symm, fun W' hk => ⟨(IP.kept (HK.trans hk (by intro x hx hlt; simp at hx; subst hx; exfalso; omega))).pay, (IP.kept (HK.trans hk (by intro x hx hlt; simp at hx; subst hx; exfalso; omega))).wp, (IP.kept (HK.trans hk (by intro x hx hlt; simp at hx; subst hx; exfalso; omega))).pass, (IP.kept (HK.trans hk (by intro x hx hlt; simp at hx; subst hx; exfalso; omega))).subs, (IP.kept (HK.trans hk (by intro x hx hlt; simp at hx; subst hx; exfalso; omega))).codes⟩, HK, Bg0, Bg1, f88.sub (sub_cons rfl (sub_cons rfl sn))⟩))
  refine C.condF f83 rfl ?_
  refine C.region ?_
  refine L.mv f83 fun a84 f84 => ?_
  refine L.convSB2 0 f84 wantedN (by decide) U9 U22 U5 rfl (by omega) fun a85 w3 cb AB f85 hcb BS kcv => ?_
  have szw3 := kcv.size
  replace HK := HK.trans kcv (by simp)
  replace Bg0 := Bg0.kept kcv (by simp)
  replace Bg1 := Bg1.kept kcv (by simp)
  clear f82 f83 a81 f84 a84 kcv
  refine L.fa 6 f85 U28 rfl wsz22_za fun a86 f86 => ?_
  refine L.store f86 wantedN wsz22_za rfl rfl rfl Bg0 (by (simp [Value.cells]; done)) fun a87 w4 f87 NB4 ks4 => ?_
  have szw4 := ks4.size
  replace HK := HK.trans ks4 (ktr (by omega))
  replace Bg1 := Bg1.kept ks4 (by simp; omega)
  replace BS := BS.kept1 ks4 Bg0 (by decide) (Nat.zero_le _)
  replace Bg0 := NB4
  simp only [Value.cells, z1, z2, z3, Nat.reduceAdd, Nat.zero_add] at Bg0
  clear f85 a85 ks4 f86 a86
  exact wpList_nil (then_of (J := J41) (Q := fun _ _ _ => True) (by rw [hJ41]; exact ⟨{ p with pay := str.toList }, { s with pa := AB, pc := cb }, (bent19 (by omega)).symm, fun W' hk => ⟨(BS.kept1 hk Bg1 (by decide) (Nat.zero_le _)).toSl, (IP.kept (HK.trans hk (by intro x hx hlt; simp at hx; subst hx; exfalso; omega))).wp, (IP.kept (HK.trans hk (by intro x hx hlt; simp at hx; subst hx; exfalso; omega))).pass, (IP.kept (HK.trans hk (by intro x hx hlt; simp at hx; subst hx; exfalso; omega))).subs, (IP.kept (HK.trans hk (by intro x hx hlt; simp at hx; subst hx; exfalso; omega))).codes⟩, HK, Bg0, Bg1, f87.sub (sub_cons rfl (sub_cons rfl sn))⟩))
 intro a5 w3 hj
 rw [hJ41] at hj
 clear hJ41 J41
 obtain ⟨q, t, hq, IQ, HK, Bg0, Bg1, f5⟩ := hj
 try clear f4
 refine C.sk fun K21 hK21 => ?_
 refine L.va f5 (by exact E.loadB f5 U28 rfl wsz28_za rfl (Bg0) rfl) fun a6 f6 => ?_
 refine L.storeR f6 wantedN wsz28_za rfl rfl rfl Bg1 rfl rfl fun a7 w4 f7 NB4 ks4 => ?_
 have szw4 := ks4.size
 replace HK := HK.trans ks4 (ktr (by omega))
 replace Bg0 := Bg0.kept ks4 (by simp; omega)
 replace IQ := IQ _ ks4
 replace Bg1 := NB4
 clear f5 a5 ks4 f6 a6
 refine wpList_nil (hK21 _ _ ?_)
 have f8 := f7.sub (sc 8 sn)
 refine wp_ret ?_
 try simp only [Exit.inBlock, Exit.then]
 refine C.retC (P := Tryd.prog) (fn := Tryd.f16) f8 rfl rfl Bg1 U28 rfl wsz28_za ?_
 clear f7
 subst hq
 exact ⟨_, rfl, HK, IQ⟩
set_option maxHeartbeats 2000000 in
theorem light_any (p : Pk) (s : Ad) (w : World) (IP : p.In w s) (hr : p.Reach) : Calls Tryd.prog 14 #[.agg (p.cells s)] w (fun e w' => Kept [] w w' ∧ ∃ b, e = .returned (.bool b) ∧ (b = true → LightP p)) := by
 have HK : Kept [] w w := Kept.refl [] w
 obtain ⟨r1, r2, r3, r4, r5, r6, r7⟩ := hr
 refine C.enter Tryd.func14 rfl Tryd.ntmps14 rfl ?_
 intro a0 f0
 have f1 : Fr 61 a0 [(0, .agg (p.cells s))] := f0
 refine C.sk fun K0 hK0 => ?_
 refine L.box f1 wantedN (by decide) rfl rfl fun a2 w1 g0 N0 f2 => ?_
 have Bg0 := N0.blk
 have kg0 := N0.kept
 have log0 := N0.lo
 have ltg0 := Bg0.lt
 have szw1 := kg0.size
 have frg0 : w.heap.size ≤ g0 := Nat.le_trans HK.size log0
 replace HK := HK.trans kg0 (by simp)
 clear f0 N0 kg0
 refine L.ag f2 fun a3 f3 => ?_
 refine wpList_nil (hK0 _ _ ?_)
 have f4 := f3.sub (sc 1 sn)
 refine wp_seq_k fun K1 hK1 => ?_
 refine wp_seq_k fun K2 hK2 => ?_
 replace Bg0 : Blk w1 g0 28 #[.int .i64 p.kind, .bool p.dup, .bool p.retain, .int .i64 p.qos, .int .i64 p.id, .string p.topic, .slice s.pa p.pay.length s.pc, .int .i64 p.level, .string p.client, .bool p.clean, .int .i64 p.keep, .bool p.hasWill, .string p.wt, .slice s.wa p.wp.length s.wc, .int .i64 p.wq, .bool p.wr, .bool p.hasUser, .bool p.hasPass, .string p.user, .slice s.sa p.pass.length s.sc, .bool p.present, .int .i64 p.code, .slice s.ua p.subs.length s.uc, .slice s.ca p.codes.length s.cc] := Bg0
 refine C.region ?_
 refine L.fa 22 f4 U28 rfl wsz25_za fun a5 f5 => ?_
 refine L.ld f5 U25 Bg0 fun a6 f6 => ?_
 refine L.va f6 (E.lenL f6 U25 rfl) fun a7 f7 => ?_
 refine L.va f7 (E.gtr f7 rfl rfl) fun a8 f8 => ?_
 refine L.mv f8 fun a9 f9 => ?_
 clear f1 a0 f2 a2 f3 f4 a3 f5 a5 f6 a6 f7 a7 f8 a8
 refine f9.splitD 8 rfl (fun h0 f10 => ?_) (fun h0 f10 => ?_)
 ·refine L.run f10 (rest' := []) (by kernel_rfl) fun a11 f11 => ?_
  clear f9
  skip
  refine wpList_nil (hK2 _ _ ?_)
  have f12 := f11.sub (sub_cons (i := 1) (Fr.kept f11 (by kernel_rfl) rfl) (sub_cons (i := 45) (v := .bool true) (by kernel_rfl) sn))
  refine C.condT f12 rfl ?_
  refine C.sk fun K3 hK3 => ?_
  refine L.ag f12 fun a13 f13 => ?_
  refine wpList_nil (hK3 _ _ ?_)
  have f14 := f13.sub (sc 2 sn)
  refine wp_ret ?_
  try simp only [Exit.inBlock, Exit.then]
  refine C.ret (P := Tryd.prog) (fn := Tryd.f14) f14 rfl rfl ?_
  exact ⟨HK, false, rfl, fun h => by cases h⟩
 refine L.fa 23 f10 U28 rfl wsz26_za (hw := (f10.yes rfl rfl)) fun a11 f11 => ?_
 refine L.ld f11 U26 Bg0 (hw := (f11.yes rfl rfl)) fun a12 f12 => ?_
 refine L.va f12 (E.lenL f12 U26 rfl) (hw := (f12.yes rfl rfl)) fun a13 f13 => ?_
 refine L.va f13 (E.gtr f13 rfl rfl) (hw := (f13.yes rfl rfl)) fun a14 f14 => ?_
 refine L.va f14 (E.pickF f14 rfl rfl) fun a15 f15 => ?_
 refine L.mv f15 fun a16 f16 => ?_
 clear f9 f10 a9 f11 a11 f12 a12 f13 a13 f14 a14 f15 a15
 refine f16.splitD 14 rfl (fun h1 f17 => ?_) (fun h1 f17 => ?_)
 ·refine L.run f17 (rest' := []) (by kernel_rfl) fun a18 f18 => ?_
  clear f16
  skip
  refine wpList_nil (hK2 _ _ ?_)
  have f19 := f18.sub (sub_cons (i := 1) (Fr.kept f18 (by kernel_rfl) rfl) (sub_cons (i := 45) (v := .bool true) (by kernel_rfl) sn))
  refine C.condT f19 rfl ?_
  refine C.sk fun K4 hK4 => ?_
  refine L.ag f19 fun a20 f20 => ?_
  refine wpList_nil (hK4 _ _ ?_)
  have f21 := f20.sub (sc 2 sn)
  refine wp_ret ?_
  try simp only [Exit.inBlock, Exit.then]
  refine C.ret (P := Tryd.prog) (fn := Tryd.f14) f21 rfl rfl ?_
  exact ⟨HK, false, rfl, fun h => by cases h⟩
 refine L.fa 5 f17 U28 rfl wsz9_za (hw := (f17.yes rfl rfl)) fun a18 f18 => ?_
 refine L.ld f18 U9 Bg0 (hw := (f18.yes rfl rfl)) fun a19 f19 => ?_
 refine L.va f19 (E.lenS f19 U9 rfl) (hw := (f19.yes rfl rfl)) fun a20 f20 => ?_
 refine L.fa 6 f20 U28 rfl wsz22_za (hw := (f20.yes rfl rfl)) fun a21 f21 => ?_
 refine L.ld f21 U22 Bg0 (hw := (f21.yes rfl rfl)) fun a22 f22 => ?_
 refine L.va f22 (E.lenL f22 U22 rfl) (hw := (f22.yes rfl rfl)) fun a23 f23 => ?_
 refine L.va f23 (E.add f23 rfl rfl (IntWalk.i64_in _ (by omega))) (hw := (f23.yes rfl rfl)) fun a24 f24 => ?_
 clear f16 f17 a16 f18 a18 f19 a19 f20 a20 f21 a21 f22 a22 f23 a23
 refine L.fa 8 f24 U28 rfl wsz9_za (hw := (f24.yes rfl rfl)) fun a25 f25 => ?_
 refine L.ld f25 U9 Bg0 (hw := (f25.yes rfl rfl)) fun a26 f26 => ?_
 refine L.va f26 (E.lenS f26 U9 rfl) (hw := (f26.yes rfl rfl)) fun a27 f27 => ?_
 refine L.va f27 (E.add f27 rfl rfl (IntWalk.i64_in _ (by omega))) (hw := (f27.yes rfl rfl)) fun a28 f28 => ?_
 refine L.fa 18 f28 U28 rfl wsz9_za (hw := (f28.yes rfl rfl)) fun a29 f29 => ?_
 refine L.ld f29 U9 Bg0 (hw := (f29.yes rfl rfl)) fun a30 f30 => ?_
 refine L.va f30 (E.lenS f30 U9 rfl) (hw := (f30.yes rfl rfl)) fun a31 f31 => ?_
 clear f24 a24 f25 a25 f26 a26 f27 a27 f28 a28 f29 a29 f30 a30
 refine L.va f31 (E.add f31 rfl rfl (IntWalk.i64_in _ (by omega))) (hw := (f31.yes rfl rfl)) fun a32 f32 => ?_
 refine L.fa 19 f32 U28 rfl wsz22_za (hw := (f32.yes rfl rfl)) fun a33 f33 => ?_
 refine L.ld f33 U22 Bg0 (hw := (f33.yes rfl rfl)) fun a34 f34 => ?_
 refine L.va f34 (E.lenL f34 U22 rfl) (hw := (f34.yes rfl rfl)) fun a35 f35 => ?_
 refine L.va f35 (E.add f35 rfl rfl (IntWalk.i64_in _ (by omega))) (hw := (f35.yes rfl rfl)) fun a36 f36 => ?_
 refine L.fa 12 f36 U28 rfl wsz24_za (hw := (f36.yes rfl rfl)) fun a37 f37 => ?_
 refine L.fa 0 f37 U24 rfl wsz9_za (hw := (f37.yes rfl rfl)) fun a38 f38 => ?_
 clear f31 a31 f32 a32 f33 a33 f34 a34 f35 a35 f36 a36 f37 a37
 refine L.ld f38 U9 Bg0 (hw := (f38.yes rfl rfl)) fun a39 f39 => ?_
 refine L.va f39 (E.lenS f39 U9 rfl) (hw := (f39.yes rfl rfl)) fun a40 f40 => ?_
 refine L.va f40 (E.add f40 rfl rfl (IntWalk.i64_in _ (by omega))) (hw := (f40.yes rfl rfl)) fun a41 f41 => ?_
 refine L.fa 12 f41 U28 rfl wsz24_za (hw := (f41.yes rfl rfl)) fun a42 f42 => ?_
 refine L.fa 1 f42 U24 rfl wsz22_za (hw := (f42.yes rfl rfl)) fun a43 f43 => ?_
 refine L.ld f43 U22 Bg0 (hw := (f43.yes rfl rfl)) fun a44 f44 => ?_
 refine L.va f44 (E.lenL f44 U22 rfl) (hw := (f44.yes rfl rfl)) fun a45 f45 => ?_
 clear f38 a38 f39 a39 f40 a40 f41 a41 f42 a42 f43 a43 f44 a44
 refine L.va f45 (E.add f45 rfl rfl (IntWalk.i64_in _ (by omega))) (hw := (f45.yes rfl rfl)) fun a46 f46 => ?_
 refine L.va f46 (E.gtr f46 rfl rfl) (hw := (f46.yes rfl rfl)) fun a47 f47 => ?_
 refine L.va f47 (E.pickF f47 rfl rfl) fun a48 f48 => ?_
 refine wpList_nil (hK2 _ _ ?_)
 have f49 := f48.sub (sc 1 (sc 45 sn))
 clear f45 a45 f46 a46 f47 a47 f48
 refine f49.splitD 45 rfl (fun h2 f50 => ?_) (fun h2 f50 => ?_)
 ·refine C.condT f50 rfl ?_
  refine C.sk fun K5 hK5 => ?_
  refine L.ag f50 fun a51 f51 => ?_
  refine wpList_nil (hK5 _ _ ?_)
  have f52 := f51.sub (sc 2 sn)
  refine wp_ret ?_
  try simp only [Exit.inBlock, Exit.then]
  refine C.ret (P := Tryd.prog) (fn := Tryd.f14) f52 rfl rfl ?_
  exact ⟨HK, false, rfl, fun h => by cases h⟩
 refine C.condF f50 rfl ?_
 refine wp_skip (hK1 _ _ ?_)
 have f51 := f50.sub (sc 1 sn)
 refine wp_seq_k fun K6 hK6 => ?_
 refine C.sk fun K7 hK7 => ?_
 refine L.ag f51 fun a52 f52 => ?_
 refine wpList_nil (hK7 _ _ ?_)
 have f53 := f52.sub (sc 1 (sc 3 sn))
 refine wp_block ?_
 clear f49 f50 f51 a48 f52
 refine C.loop (fun gk a W => ∃ i : Nat, i + gk = p.subs.length ∧ Kept [] w W ∧ Blk W g0 28 #[.int .i64 p.kind, .bool p.dup, .bool p.retain, .int .i64 p.qos, .int .i64 p.id, .string p.topic, .slice s.pa p.pay.length s.pc, .int .i64 p.level, .string p.client, .bool p.clean, .int .i64 p.keep, .bool p.hasWill, .string p.wt, .slice s.wa p.wp.length s.wc, .int .i64 p.wq, .bool p.wr, .bool p.hasUser, .bool p.hasPass, .string p.user, .slice s.sa p.pass.length s.sc, .bool p.present, .int .i64 p.code, .slice s.ua p.subs.length s.uc, .slice s.ca p.codes.length s.cc] ∧ (∀ x ∈ p.subs.take i, x.1.size ≤ 60) ∧ Fr 61 a [(1, .pointer (some ⟨g0, 0, none⟩)), (3, .int .i64 i)]) (p.subs.length) ?_ ?_
 ·exact ⟨0, by omega, HK, Bg0, by simp, f53.sub (sub_cons rfl (sub_cons rfl sn))⟩
 intro gk9 a54 w2 hI KL8 hKL8
 obtain ⟨i, hi, HK, Bg0, hall, f54⟩ := hI
 try clear f53
 refine wp_seq_k fun K9 hK9 => ?_
 refine C.sk fun K10 hK10 => ?_
 refine L.mv f54 fun a55 f55 => ?_
 refine L.fa 22 f55 U28 rfl wsz25_za fun a56 f56 => ?_
 refine L.ld f56 U25 Bg0 fun a57 f57 => ?_
 refine L.va f57 (E.lenL f57 U25 rfl) fun a58 f58 => ?_
 refine L.va f58 (E.lss f58 rfl rfl) fun a59 f59 => ?_
 refine wpList_nil (hK10 _ _ ?_)
 have f60 := f59.sub (sc 1 (sc 3 (sc 50 sn)))
 clear f54 a54 f55 a55 f56 a56 f57 a57 f58 a58 f59
 refine f60.splitD 50 rfl (fun h3 f61 => ?_) (fun h3 f61 => ?_)
 ·obtain ⟨d, hd⟩ := some_at p.subs i (by omega)
  obtain ⟨bk, off, hA⟩ := IP.subs.addr (by omega)
  refine C.condT f61 rfl ?_
  refine wp_skip (hK9 _ _ ?_)
  have f62 := f61.sub (sc 1 (sc 3 sn))
  refine wp_seq_k fun K11 hK11 => ?_
  refine wp_block ?_
  refine C.sk fun K12 hK12 => ?_
  refine L.fa 22 f62 U28 rfl wsz25_za fun a63 f63 => ?_
  refine L.ld f63 U25 Bg0 fun a64 f64 => ?_
  refine L.mv f64 fun a65 f65 => ?_
  refine L.va f65 (E.indexA f65 (by assumption) U25 wsz70_za rfl rfl (by omega) (by omega)) fun a66 f66 => ?_
  refine L.fa 0 f66 U70 rfl wsz9_za fun a67 f67 => ?_
  refine L.va f67 (by exact E.load f67 U9 rfl rfl (sub_cell0 (IP.subs.kept HK) hA hd)) fun a68 f68 => ?_
  clear f60 f61 f62 a59 f63 a63 f64 a64 f65 a65 f66 a66 f67 a67
  refine L.va f68 (E.lenS f68 U9 rfl) fun a69 f69 => ?_
  refine L.va f69 (E.gtr f69 rfl rfl) fun a70 f70 => ?_
  refine wpList_nil (hK12 _ _ ?_)
  have f71 := f70.sub (sc 1 (sc 3 (sc 60 sn)))
  clear f68 a68 f69 a69 f70
  refine f71.splitD 60 rfl (fun h4 f72 => ?_) (fun h4 f72 => ?_)
  ·refine C.condT f72 rfl ?_
   refine C.sk fun K13 hK13 => ?_
   refine L.ag f72 fun a73 f73 => ?_
   refine wpList_nil (hK13 _ _ ?_)
   have f74 := f73.sub (sc 2 sn)
   refine wp_ret ?_
   try simp only [Exit.inBlock, Exit.then]
   refine C.ret (P := Tryd.prog) (fn := Tryd.f14) f74 rfl rfl ?_
   exact ⟨HK, false, rfl, fun h => by cases h⟩
  have hd60 := h4
  refine C.condF f72 rfl ?_
  refine wp_skip (hK11 _ _ ?_)
  have f73 := f72.sub (sc 1 (sc 3 sn))
  refine C.region ?_
  refine L.mv f73 fun a74 f74 => ?_
  refine L.va f74 (E.add f74 rfl rfl (IntWalk.i64_in _ (by omega))) fun a75 f75 => ?_
  refine L.ag f75 fun a76 f76 => ?_
  clear f71 f72 f73 a70 f74 a74 f75 a75
  refine wpList_nil (hKL8 _ _ (gk9 - 1) ?_ ?_)
  ·omega
  exact ⟨i + 1, by omega, HK, Bg0, take_all hall hd (by omega), f76.sub (sub_cons rfl (sub_cons rfl sn))⟩
 refine C.condF f61 rfl ?_
 refine wp_exit (hK6 _ _ ?_)
 have f62 := f61.sub sn
 refine C.sk fun K14 hK14 => ?_
 refine L.ag f62 fun a63 f63 => ?_
 refine wpList_nil (hK14 _ _ ?_)
 have f64 := f63.sub (sc 2 sn)
 refine wp_ret ?_
 try simp only [Exit.inBlock, Exit.then]
 refine C.ret (P := Tryd.prog) (fn := Tryd.f14) f64 rfl rfl ?_
 exact ⟨HK, true, rfl, fun _ => ⟨by omega, by omega, by omega, by have e : i = p.subs.length := (by omega); subst e; rw [List.take_length] at hall; exact hall⟩⟩
end Go.Proofs.YtigjafbbnocihaaDoor
namespace Go.Hub
open Go.RowKit
theorem Fr.any {n : Nat} {a : Act} {l : FL} (f : Fr n a l) (d : Nat) (hd : d < n) : ∃ v, Fr n a ((d, v) :: l) := by
  have h : d < a.tmps.size := by rw [f.size]; exact hd
  refine ⟨a.tmps[d], f.defers, f.size, fun i u hi => ?_⟩
  unfold look at hi
  by_cases e : d = i
  · subst e
    simp at hi
    subst hi
    simp [h]
  have e2 : (d == i) = false := by simpa using e
  rw [e2] at hi
  exact f.slot i u hi
namespace Gp
def lst (L0 : Array Bool) (m : Nat) : Array Bool := ((List.range L0.size).map fun j => L0.getD j true || m.testBit j).toArray
def subs : List Nat → List Nat
  | [] => [0]
  | i :: r => subs r ++ (subs r).map (· ||| 2 ^ i)
def cnt (G : List Nat) (m : Nat) : Nat := (G.filter fun i => !m.testBit i).length
def closed (md : Region.Mode) (ops : Array Oper) (L0 : Array Bool) (G : List Nat) (m : Nat) : Bool :=
  G.all fun i => !m.testBit i || ((ops[i]?).map (·.after.all fun e => !Region.binds md e || (lst L0 m).getD e.on false)).getD false
def stepOk (md : Region.Mode) (ops : Array Oper) (L0 : Array Bool) (G : List Nat) (m i : Nat) : Bool :=
  G.contains i && closed md ops L0 G (m ||| 2 ^ i) && cnt G m == cnt G (m ||| 2 ^ i) + 1 && (subs G).contains (m ||| 2 ^ i) && (lst L0 m).setIfInBounds i true == lst L0 (m ||| 2 ^ i)
def okAt (md : Region.Mode) (ops : Array Oper) (L0 L1 : Array Bool) (G : List Nat) (m : Nat) : Bool :=
  !closed md ops L0 G m || (if cnt G m = 0 then lst L0 m == L1 else !(Region.ready md ops (lst L0 m)).isEmpty && (Region.ready md ops (lst L0 m)).all (stepOk md ops L0 G m))
def needs (md : Region.Mode) (ops : Array Oper) (L0 : Array Bool) (G : List Nat) (i j : Nat) : Bool :=
  (subs G).all fun m => !closed md ops L0 G m || !(Region.ready md ops (lst L0 m)).contains i || m.testBit j
def okAll (md : Region.Mode) (ops : Array Oper) (L0 L1 : Array Bool) (G : List Nat) : Bool := (subs G).all (okAt md ops L0 L1 G) && (subs G).contains 0 && closed md ops L0 G 0 && lst L0 0 == L0
section
variable {P : Program} {ops : Array Oper} {Q : Exit → Act → World → Prop} {md : Region.Mode} {S : World → Prop} {G : List Nat} {L0 L1 : Array Bool} {fuel m i j : Nat}
theorem other (h : i ≠ j) : (m ||| 2 ^ i).testBit j = m.testBit j := by
  rw [Nat.testBit_or, Nat.testBit_two_pow]
  simp [h]
theorem full (h : cnt G m = 0) : ∀ i ∈ G, m.testBit i = true := fun i hi => by
  unfold cnt at h
  have := List.eq_nil_of_length_eq_zero h
  rw [List.filter_eq_nil_iff] at this
  have := this i hi
  simpa using this
theorem need (h : needs md ops L0 G i j = true) (hm : m ∈ subs G) (hc : closed md ops L0 G m = true) (hi : i ∈ Region.ready md ops (lst L0 m)) : m.testBit j = true := by
  have h1 := List.all_eq_true.1 h m hm
  rw [hc] at h1
  have h2 : (Region.ready md ops (lst L0 m)).contains i = true := by simpa using hi
  rw [h2] at h1
  simpa using h1
theorem go (hc : (subs G).all (okAt md ops L0 L1 G) = true) (I : Nat → Act → World → Prop)
    (step : ∀ m i a w, m ∈ subs G → closed md ops L0 G m = true → i ∈ Region.ready md ops (lst L0 m) → i ∈ G → I m a w → wpOp P ops Q i (fun a' w' => S w' ∧ I (m ||| 2 ^ i) a' w') a w)
    (K : ∀ m a w, (∀ i ∈ G, m.testBit i = true) → I m a w → wpAnyH P md ops Q S fuel L1 a w) :
    ∀ n m a w, cnt G m = n → m ∈ subs G → closed md ops L0 G m = true → I m a w → wpAnyH P md ops Q S (fuel + n) (lst L0 m) a w
  | 0, m, a, w, hn, hm, hcl, hI => by
    have h := List.all_eq_true.1 hc m hm
    unfold okAt at h
    rw [hcl, if_pos hn] at h
    have e : lst L0 m = L1 := by simpa using h
    rw [e]
    exact K m a w (full hn) hI
  | n + 1, m, a, w, hn, hm, hcl, hI => by
    have h := List.all_eq_true.1 hc m hm
    unfold okAt at h
    rw [hcl, if_neg (by omega)] at h
    simp only [Bool.not_true, Bool.false_or, Bool.and_eq_true, Bool.not_eq_true', List.isEmpty_eq_false_iff] at h
    refine wpAnyH_all rfl h.1 fun i hi => ?_
    have hs := List.all_eq_true.1 h.2 i hi
    unfold stepOk at hs
    simp only [Bool.and_eq_true, beq_iff_eq] at hs
    obtain ⟨⟨⟨⟨h1, h2⟩, h3⟩, h4⟩, h5⟩ := hs
    refine wpOp_mono (fun a' w' h' => ⟨h'.1, ?_⟩) (step m i a w hm hcl hi (by simpa using h1) hI)
    rw [h5]
    exact go hc I step K n (m ||| 2 ^ i) a' w' (by omega) (by simpa using h4) h2 h'.2
theorem enter {fuel0 : Nat} {a : Act} {w : World} (I : Nat → Act → World → Prop) (hc : okAll md ops L0 L1 G = true) (hf : fuel0 = fuel + cnt G 0) (h0 : I 0 a w)
    (step : ∀ m i a w, m ∈ subs G → closed md ops L0 G m = true → i ∈ Region.ready md ops (lst L0 m) → i ∈ G → I m a w → wpOp P ops Q i (fun a' w' => S w' ∧ I (m ||| 2 ^ i) a' w') a w)
    (K : ∀ m a w, (∀ i ∈ G, m.testBit i = true) → I m a w → wpAnyH P md ops Q S fuel L1 a w) : wpAnyH P md ops Q S fuel0 L0 a w := by
  unfold okAll at hc
  simp only [Bool.and_eq_true, beq_iff_eq] at hc
  obtain ⟨⟨⟨h1, h2⟩, h3⟩, h4⟩ := hc
  have h := go (Q := Q) (S := S) (fuel := fuel) h1 I step K (cnt G 0) 0 a w rfl (by simpa using h2) h3 h0
  rw [h4] at h
  rw [hf]
  exact h
end
end Gp
end Go.Hub
namespace Go.Proofs.YtigjafbbnocihaaDoor
open Go.RowKit Go.Hub Go.Lib Go.Vl
theorem wzib5_zb : (Tryd.prog.info? 5).map (fun i => (i.zero, i.size, i.bytes)) = some (some (.int .u8 0), 1, 1) := by kernel_rfl
theorem wzi3_zb : (Tryd.prog.info? 3).map (fun i => (i.zero, i.size)) = some (some (.int .i64 0), 1) := by kernel_rfl
theorem wbs26_1_zb (x0 : Int) : Instr.fill (fun i => some (i * 1, 1)) ((Array.range (1 * 1)).map fun j => (Value.cells (.int .i64 0))[j % (Value.cells (.int .i64 0)).size]!) [(0, .int .i64 x0)] = some #[.int .i64 x0] := by kernel_rfl
theorem wbs26_2_zb (x0 : Int) (x1 : Int) : Instr.fill (fun i => some (i * 1, 1)) ((Array.range (2 * 1)).map fun j => (Value.cells (.int .i64 0))[j % (Value.cells (.int .i64 0)).size]!) [(0, .int .i64 x0), (1, .int .i64 x1)] = some #[.int .i64 x0, .int .i64 x1] := by kernel_rfl
theorem wsz28_zb : (Tryd.prog.info? 28).map (·.size) = some 24 := by kernel_rfl
theorem wbl28_0_17_18_zb (x0 : Int) (x1 : Bool) (x2 : Int) : Tryd.prog.built 28 [(0, .int .i64 x0), (17, .bool x1), (18, .int .i64 x2)] = some #[.int .i64 x0, (.bool false), (.bool false), (.int .i64 0), (.int .i64 0), (.string ⟨#[]⟩), (.slice none 0 0), (.int .i64 0), (.string ⟨#[]⟩), (.bool false), (.int .i64 0), (.bool false), (.string ⟨#[]⟩), (.slice none 0 0), (.int .i64 0), (.bool false), (.bool false), (.bool false), (.string ⟨#[]⟩), (.slice none 0 0), .bool x1, .int .i64 x2, (.slice none 0 0), (.slice none 0 0)] := by kernel_rfl
theorem wbl28_0_4_zb (x0 : Int) (x1 : Int) : Tryd.prog.built 28 [(0, .int .i64 x0), (4, .int .i64 x1)] = some #[.int .i64 x0, (.bool false), (.bool false), (.int .i64 0), .int .i64 x1, (.string ⟨#[]⟩), (.slice none 0 0), (.int .i64 0), (.string ⟨#[]⟩), (.bool false), (.int .i64 0), (.bool false), (.string ⟨#[]⟩), (.slice none 0 0), (.int .i64 0), (.bool false), (.bool false), (.bool false), (.string ⟨#[]⟩), (.slice none 0 0), (.bool false), (.int .i64 0), (.slice none 0 0), (.slice none 0 0)] := by kernel_rfl
theorem wbl28_0_4_20_zb (x0 : Int) (x1 : Int) (x2 : Option Addr) (y2 z2 : Nat) : Tryd.prog.built 28 [(0, .int .i64 x0), (4, .int .i64 x1), (20, .slice x2 y2 z2)] = some #[.int .i64 x0, (.bool false), (.bool false), (.int .i64 0), .int .i64 x1, (.string ⟨#[]⟩), (.slice none 0 0), (.int .i64 0), (.string ⟨#[]⟩), (.bool false), (.int .i64 0), (.bool false), (.string ⟨#[]⟩), (.slice none 0 0), (.int .i64 0), (.bool false), (.bool false), (.bool false), (.string ⟨#[]⟩), (.slice none 0 0), (.bool false), (.int .i64 0), (.slice none 0 0), .slice x2 y2 z2] := by kernel_rfl
def PhiP (p : Pk) (v : Value) (W : World) : Prop := ∃ s, v = .agg (p.cells s) ∧ p.In W s
def PhiI (l : List Int) (n : Nat) (v : Value) (W : World) : Prop := ∃ g, v = .slice (some ⟨g, 0, none⟩) n n ∧ Sl W (some ⟨g, 0, none⟩) n 1 (codeCells l)
theorem PhiP.kept {p : Pk} {v : Value} {W W' : World} (h : PhiP p v W) (hk : Kept [] W W') : PhiP p v W' := by
  obtain ⟨s, e, h⟩ := h
  exact ⟨s, e, h.kept hk⟩
theorem PhiI.kept {l : List Int} {n : Nat} {v : Value} {W W' : World} (h : PhiI l n v W) (hk : Kept [] W W') : PhiI l n v W' := by
  obtain ⟨g, e, h⟩ := h
  exact ⟨g, e, h.kept hk⟩
theorem zi28z : (Tryd.prog.info? 28).map (fun i => (i.zero, i.size)) = some (some (.agg zeroPk), 24) := by kernel_rfl
theorem slice9 (p0 p1 p2 p3 p4 p5 p6 p7 p8 : Pk) (s0 s1 s2 s3 s4 s5 s6 s7 s8 : Ad) : Instr.fill (fun i => some (i * 24, 24)) ((Array.range (9 * 24)).map (zeroPk[· % zeroPk.size]!)) [(0, .agg (p0.cells s0)), (1, .agg (p1.cells s1)), (2, .agg (p2.cells s2)), (3, .agg (p3.cells s3)), (4, .agg (p4.cells s4)), (5, .agg (p5.cells s5)), (6, .agg (p6.cells s6)), (7, .agg (p7.cells s7)), (8, .agg (p8.cells s8))] = some (pkRow [(p0, s0), (p1, s1), (p2, s2), (p3, s3), (p4, s4), (p5, s5), (p6, s6), (p7, s7), (p8, s8)]).toArray := by kernel_rfl
theorem light_len {p : Pk} (h : LightP p) : p.Len := by
  have hs := h.sum
  have h1 := h.subs
  have h2 := h.codes
  exact ⟨by omega, by omega, by omega, by omega, by omega, by omega, by omega, by omega, by omega, fun x hx => by have := h.each x hx; omega⟩
theorem seat_few {k a b c : Int} {x : List UInt8} : (seatP k a b c x).subs.length ≤ 10 ∧ (seatP k a b c x).codes.length ≤ 10 := by
  unfold seatP
  repeat' split
  all_goals first
    | (unfold seatPub; split <;> exact ⟨by simp, by simp⟩)
    | (unfold sub3 sub2; (repeat' split) <;> exact ⟨by simp, by simp⟩)
    | (unfold unsL; split <;> exact ⟨by simp, by simp⟩)
    | (unfold seatCon con4 con3 con2 con1; (repeat' split) <;> exact ⟨by simp, by simp⟩)
    | exact ⟨by simp, by simp⟩
section
variable {p : Pk} {what v : Int} {str : ByteArray}
theorem bent_few : (bentP p what v str).subs.length ≤ p.subs.length + 1 ∧ (bentP p what v str).codes.length ≤ p.codes.length + 1 := by
  unfold bentP
  split <;> exact ⟨by simp, by simp⟩
theorem bent_len (h : p.Len) (h1 : p.subs.length + 1 ≤ 1000000) (h2 : p.codes.length + 1 ≤ 1000000) (hs : str.size ≤ 1000000) : (bentP p what v str).Len := by
  have hb : str.toList.length ≤ 1000000 := by rw [bytes_len]; exact hs
  obtain ⟨a1, a2, a3, a4, a5, a6, a7, a8, a9, a10⟩ := h
  unfold bentP
  split <;> first
    | exact ⟨a1, a2, a3, a4, a5, a6, a7, a8, a9, a10⟩
    | exact ⟨a1, a2, a3, a4, a5, hs, a7, a8, a9, a10⟩
    | exact ⟨a1, a2, a3, a4, a5, a6, hs, a8, a9, a10⟩
    | exact ⟨a1, a2, a3, a4, a5, a6, a7, hs, a9, a10⟩
    | exact ⟨hb, a2, a3, a4, a5, a6, a7, a8, a9, a10⟩
    | exact ⟨a1, a2, a3, Nat.zero_le _, a5, a6, a7, a8, a9, fun x hx => absurd hx List.not_mem_nil⟩
    | exact ⟨a1, a2, a3, a4, (by rw [List.length_append]; exact h2), a6, a7, a8, a9, a10⟩
    | exact ⟨a1, a2, a3, (by rw [List.length_append]; exact h1), a5, a6, a7, a8, a9, fun x hx => by
        rcases List.mem_append.1 hx with hx | hx
        · exact a10 x hx
        simp at hx; subst hx; exact hs⟩
end
theorem l5 {k a b : Int} : ({ kind := k % 16, id := a, codes := [b % 4] } : Pk).Len := ⟨by simp, by simp, by simp, by simp, by simp, em_le, em_le, em_le, em_le, by simp⟩
theorem l7 {a b : Int} : ({ kind := 9, id := 1 + a, codes := [b % 3, 128] } : Pk).Len := ⟨by simp, by simp, by simp, by simp, by simp, em_le, em_le, em_le, em_le, by simp⟩
theorem rows9 {W : World} {p0 p1 p2 p3 p4 p5 p7 : Pk} {s0' s1 s2 s3 s4 s5 s7 : Ad} {b : Bool} {n m : Int} (hk : Kept [] W W) (i0 : p0.In W s0') (l0 : p0.Len) (i1 : p1.In W s1) (l1 : p1.Len) (i2 : p2.In W s2) (l2 : p2.Len) (i3 : p3.In W s3) (l3 : p3.Len) (i4 : p4.In W s4) (l4 : p4.Len) (i5 : p5.In W s5) (l5 : p5.Len) (i7 : p7.In W s7) (l7 : p7.Len) :
    ∀ r ∈ [(p0, s0'), (p1, s1), (p2, s2), (p3, s3), (p4, s4), (p5, s5), (({ kind := 2, present := b, code := n } : Pk), s0), (p7, s7), (({ kind := 11, id := m } : Pk), s0)], r.1.In W r.2 ∧ r.1.Len := fun r hr => by
  have z1 : ({ kind := 2, present := b, code := n } : Pk).In W s0 ∧ ({ kind := 2, present := b, code := n } : Pk).Len := ⟨⟨Sl.nil _ _ _, Sl.nil _ _ _, Sl.nil _ _ _, Sl.nil _ _ _, Sl.nil _ _ _⟩, ⟨by simp, by simp, by simp, by simp, by simp, em_le, em_le, em_le, em_le, by simp⟩⟩
  have z2 : ({ kind := 11, id := m } : Pk).In W s0 ∧ ({ kind := 11, id := m } : Pk).Len := ⟨⟨Sl.nil _ _ _, Sl.nil _ _ _, Sl.nil _ _ _, Sl.nil _ _ _, Sl.nil _ _ _⟩, ⟨by simp, by simp, by simp, by simp, by simp, em_le, em_le, em_le, em_le, by simp⟩⟩
  simp only [List.mem_cons, List.not_mem_nil, or_false] at hr
  rcases hr with rfl | rfl | rfl | rfl | rfl | rfl | rfl | rfl | rfl
  · exact ⟨i0, l0⟩
  · exact ⟨i1, l1⟩
  · exact ⟨i2, l2⟩
  · exact ⟨i3, l3⟩
  · exact ⟨i4, l4⟩
  · exact ⟨i5, l5⟩
  · exact z1
  · exact ⟨i7, l7⟩
  exact z2
set_option maxRecDepth 100000 in
set_option maxHeartbeats 8000000 in
theorem tells_walk (p0 : Pk) (s0_ : Ad) (k a0_ b c : Int) (x : List UInt8) (A : Option Addr) (cx : Nat) (what more v : Int) (str : ByteArray) (w : World) (hT : Tabs w) (I0 : p0.In w s0_) (hr0 : p0.Reach) (SX : Sl w A x.length 1 (x.map u8)) (hk : 0 ≤ k ∧ k < 256) (ha0_ : 0 ≤ a0_ ∧ a0_ < 256) (hb : 0 ≤ b ∧ b < 256) (hc : 0 ≤ c ∧ c < 256) (hwhat : 0 ≤ what ∧ what < 256) (hmore : 0 ≤ more ∧ more < 256) : Calls Tryd.prog 3 #[.agg (p0.cells s0_), .int .u8 k, .int .u8 a0_, .int .u8 b, .int .u8 c, .slice A x.length cx, .int .u8 what, .int .u8 more, .int .i64 v, .string str] w (fun e w' => Kept [] w w' ∧ e = .returned (.bool true)) := by
 have HK : Kept [] w w := Kept.refl [] w
 refine C.enter Tryd.func3 rfl Tryd.ntmps3 rfl ?_
 intro a0 f0
 have f1 : Fr 168 a0 [(0, .agg (p0.cells s0_)), (1, .int .u8 k), (2, .int .u8 a0_), (3, .int .u8 b), (4, .int .u8 c), (5, .slice A x.length cx), (6, .int .u8 what), (7, .int .u8 more), (8, .int .i64 v), (9, .string str)] := f0
 refine C.sk fun K0 hK0 => ?_
 refine L.box f1 wantedN (by decide) rfl rfl fun a2 w1 g0 N0 f2 => ?_
 have Bg0 := N0.blk
 have kg0 := N0.kept
 have log0 := N0.lo
 have ltg0 := Bg0.lt
 have szw1 := kg0.size
 have frg0 : w.heap.size ≤ g0 := Nat.le_trans HK.size log0
 replace HK := HK.trans kg0 (by simp)
 clear f0 N0 kg0
 refine L.ag f2 fun a3 f3 => ?_
 refine wpList_nil (hK0 _ _ ?_)
 have f4 := f3.sub (sc 1 (sc 2 (sc 3 (sc 4 (sc 5 (sc 6 (sc 7 (sc 8 (sc 9 (sc 10 sn))))))))))
 refine wp_seq_k fun K1 hK1 => ?_
 refine C.sk fun K2 hK2 => ?_
 refine L.cl f4 (run_call Tryd.call13 (args0 f4)) (known_any _ (hT.old (HK.below (by simp) (Nat.le_refl _)))) ?_
 clear f1 a0 f2 a2 f3
 rintro e w2 ⟨kc2, rfl⟩
 refine ⟨_, rfl, fun a5 f5 => ?_⟩
 have szw2 := kc2.size
 replace HK := HK.trans kc2 (by simp)
 replace Bg0 := Bg0.kept kc2 (by simp)
 clear f4 a3 kc2
 refine L.va f5 (E.not f5 rfl) fun a6 f6 => ?_
 refine wpList_nil (hK2 _ _ ?_)
 have f7 := f6.sub (sc 1 (sc 2 (sc 3 (sc 4 (sc 5 (sc 6 (sc 7 (sc 8 (sc 9 (sc 10 (sc 33 sn)))))))))))
 refine C.condF f7 rfl ?_
 refine wp_skip (hK1 _ _ ?_)
 have f8 := f7.sub (sc 1 (sc 2 (sc 3 (sc 4 (sc 5 (sc 6 (sc 7 (sc 8 (sc 9 (sc 10 sn))))))))))
 refine wp_seq_k fun K3 hK3 => ?_
 refine C.sk fun K4 hK4 => ?_
 refine L.va f8 (by exact E.loadB f8 U28 rfl wsz28_zb rfl (Bg0) rfl) fun a9 f9 => ?_
 refine L.cl f9 (run_call Tryd.call14 (args1 f9 rfl)) (light_any p0 s0_ _ (I0.kept HK) hr0) ?_
 clear f5 a5 f6 f7 f8 a6
 rintro e w3 ⟨kc3, bl, rfl, hbl⟩
 refine ⟨_, rfl, fun a10 f10 => ?_⟩
 have szw3 := kc3.size
 replace HK := HK.trans kc3 (by simp)
 replace Bg0 := Bg0.kept kc3 (by simp)
 clear f9 a9 kc3
 refine L.va f10 (E.not f10 rfl) fun a11 f11 => ?_
 refine L.mv f11 fun a12 f12 => ?_
 clear f10 a10 f11 a11
 refine f12.splitNB 37 rfl (fun h0 f13 => ?_) (fun h0 f13 => ?_)
 ·refine L.run f13 (rest' := []) (by kernel_rfl) fun a14 f14 => ?_
  clear f12
  skip
  refine wpList_nil (hK4 _ _ ?_)
  have f15 := f14.sub (sub_cons (i := 1) (Fr.kept f14 (by kernel_rfl) rfl) (sub_cons (i := 2) (Fr.kept f14 (by kernel_rfl) rfl) (sub_cons (i := 3) (Fr.kept f14 (by kernel_rfl) rfl) (sub_cons (i := 4) (Fr.kept f14 (by kernel_rfl) rfl) (sub_cons (i := 5) (Fr.kept f14 (by kernel_rfl) rfl) (sub_cons (i := 6) (Fr.kept f14 (by kernel_rfl) rfl) (sub_cons (i := 7) (Fr.kept f14 (by kernel_rfl) rfl) (sub_cons (i := 8) (Fr.kept f14 (by kernel_rfl) rfl) (sub_cons (i := 9) (Fr.kept f14 (by kernel_rfl) rfl) (sub_cons (i := 10) (Fr.kept f14 (by kernel_rfl) rfl) (sub_cons (i := 46) (v := .bool true) (by kernel_rfl) sn)))))))))))
  refine C.condT f15 rfl ?_
  refine C.sk fun K5 hK5 => ?_
  refine L.ag f15 fun a16 f16 => ?_
  refine wpList_nil (hK5 _ _ ?_)
  have f17 := f16.sub (sc 20 sn)
  refine wp_ret ?_
  try simp only [Exit.inBlock, Exit.then]
  refine C.ret (P := Tryd.prog) (fn := Tryd.f3) f17 rfl rfl ?_
  exact ⟨HK, rfl⟩
 have hbt : bl = true := by simpa using h0
 have hlt := hbl hbt
 refine L.mv f13 (hw := (f13.yes rfl rfl)) fun a14 f14 => ?_
 refine L.va f14 (E.lenL f14 U22 rfl) (hw := (f14.yes rfl rfl)) fun a15 f15 => ?_
 refine L.va f15 (E.gtr f15 rfl rfl) (hw := (f15.yes rfl rfl)) fun a16 f16 => ?_
 refine L.va f16 (E.pickF f16 rfl rfl) fun a17 f17 => ?_
 refine L.mv f17 fun a18 f18 => ?_
 clear f12 f13 a12 f14 a14 f15 a15 f16 a16 f17 a17
 refine f18.splitD 42 rfl (fun h1 f19 => ?_) (fun h1 f19 => ?_)
 ·refine L.run f19 (rest' := []) (by kernel_rfl) fun a20 f20 => ?_
  clear f18
  skip
  refine wpList_nil (hK4 _ _ ?_)
  have f21 := f20.sub (sub_cons (i := 1) (Fr.kept f20 (by kernel_rfl) rfl) (sub_cons (i := 2) (Fr.kept f20 (by kernel_rfl) rfl) (sub_cons (i := 3) (Fr.kept f20 (by kernel_rfl) rfl) (sub_cons (i := 4) (Fr.kept f20 (by kernel_rfl) rfl) (sub_cons (i := 5) (Fr.kept f20 (by kernel_rfl) rfl) (sub_cons (i := 6) (Fr.kept f20 (by kernel_rfl) rfl) (sub_cons (i := 7) (Fr.kept f20 (by kernel_rfl) rfl) (sub_cons (i := 8) (Fr.kept f20 (by kernel_rfl) rfl) (sub_cons (i := 9) (Fr.kept f20 (by kernel_rfl) rfl) (sub_cons (i := 10) (Fr.kept f20 (by kernel_rfl) rfl) (sub_cons (i := 46) (v := .bool true) (by kernel_rfl) sn)))))))))))
  refine C.condT f21 rfl ?_
  refine C.sk fun K6 hK6 => ?_
  refine L.ag f21 fun a22 f22 => ?_
  refine wpList_nil (hK6 _ _ ?_)
  have f23 := f22.sub (sc 20 sn)
  refine wp_ret ?_
  try simp only [Exit.inBlock, Exit.then]
  refine C.ret (P := Tryd.prog) (fn := Tryd.f3) f23 rfl rfl ?_
  exact ⟨HK, rfl⟩
 refine L.mv f19 (hw := (f19.yes rfl rfl)) fun a20 f20 => ?_
 refine L.va f20 (E.lenS f20 U9 rfl) (hw := (f20.yes rfl rfl)) fun a21 f21 => ?_
 refine L.va f21 (E.gtr f21 rfl rfl) (hw := (f21.yes rfl rfl)) fun a22 f22 => ?_
 refine L.va f22 (E.pickF f22 rfl rfl) fun a23 f23 => ?_
 refine wpList_nil (hK4 _ _ ?_)
 have f24 := f23.sub (sc 1 (sc 2 (sc 3 (sc 4 (sc 5 (sc 6 (sc 7 (sc 8 (sc 9 (sc 10 (sc 46 sn)))))))))))
 clear f18 f19 a18 f20 a20 f21 a21 f22 a22 f23
 refine f24.splitD 46 rfl (fun h2 f25 => ?_) (fun h2 f25 => ?_)
 ·refine C.condT f25 rfl ?_
  refine C.sk fun K7 hK7 => ?_
  refine L.ag f25 fun a26 f26 => ?_
  refine wpList_nil (hK7 _ _ ?_)
  have f27 := f26.sub (sc 20 sn)
  refine wp_ret ?_
  try simp only [Exit.inBlock, Exit.then]
  refine C.ret (P := Tryd.prog) (fn := Tryd.f3) f27 rfl rfl ?_
  exact ⟨HK, rfl⟩
 refine C.condF f25 rfl ?_
 refine wp_skip (hK3 _ _ ?_)
 have f26 := f25.sub (sc 1 (sc 2 (sc 3 (sc 4 (sc 5 (sc 6 (sc 7 (sc 8 (sc 9 (sc 10 sn))))))))))
 refine wp_seq_k fun K8 hK8 => ?_
 obtain ⟨rP, lP⟩ := seat_right (k := k) (a := a0_) (b := b) (c := c) (x := x) hk.1 ha0_.1 hb.1 hc.1 (by omega)
 obtain ⟨n1, n2⟩ := seat_few (k := k) (a := a0_) (b := b) (c := c) (x := x)
 have L0 := light_len hlt
 have lQ := bent_len (what := what) (v := v) (str := str) lP (by omega) (by omega) (by omega)
 obtain ⟨n3, n4⟩ := bent_few (p := seatP k a0_ b c x) (what := what) (v := v) (str := str)
 have lQ1 := bent_len (what := more) (v := bits .and .i64 v 7) (str := str) lQ (by omega) (by omega) (by omega)
 have lQ2 := bent_len (what := what) (v := bits .and .i64 v 131071) (str := ⟨#[195, 169]⟩) lP (by omega) (by omega) (by decide)
 refine C.region ?_
 refine L.mv f26 fun a27 f27 => ?_
 refine L.mv f27 fun a28 f28 => ?_
 refine L.mv f28 fun a29 f29 => ?_
 refine L.mv f29 fun a30 f30 => ?_
 refine L.mv f30 fun a31 f31 => ?_
 refine L.cl f31 (run_call Tryd.call15 (args5 f31 rfl rfl rfl rfl rfl)) (seat_any k a0_ b c x A cx _ (SX.kept HK) hk ha0_ hb hc) ?_
 clear f24 f25 f26 a23 f27 a27 f28 a28 f29 a29 f30 a30
 rintro e w4 ⟨sP, rfl, kc4, IP⟩
 refine ⟨_, rfl, fun a32 f32 => ?_⟩
 have szw4 := kc4.size
 replace HK := HK.trans kc4 (by simp)
 replace Bg0 := Bg0.kept kc4 (by simp)
 clear f31 a31 kc4
 have HKp := Kept.refl [] w4
 refine L.alloc f32 wantedN (by decide) (z := (.agg #[(.int .i64 0), (.bool false), (.bool false), (.int .i64 0), (.int .i64 0), (.string ⟨#[]⟩), (.slice none 0 0), (.int .i64 0), (.string ⟨#[]⟩), (.bool false), (.int .i64 0), (.bool false), (.string ⟨#[]⟩), (.slice none 0 0), (.int .i64 0), (.bool false), (.bool false), (.bool false), (.string ⟨#[]⟩), (.slice none 0 0), (.bool false), (.int .i64 0), (.slice none 0 0), (.slice none 0 0)])) (fun _ => by kernel_rfl) rfl fun a33 w5 g4 N4 f33 => ?_
 have Bg4 := N4.blk
 have kg4 := N4.kept
 have log4 := N4.lo
 have ltg4 := Bg4.lt
 have szw5 := kg4.size
 have frg4 : w.heap.size ≤ g4 := Nat.le_trans HK.size log4
 have frg4_HKp : w4.heap.size ≤ g4 := Nat.le_trans HKp.size log4
 have neg0_g4 : g0 ≠ g4 := by have := Bg0.lt; omega
 replace HK := HK.trans kg4 (by simp)
 replace Bg0 := Bg0.kept kg4 (by simp)
 replace HKp := HKp.trans kg4 (by simp)
 clear N4 kg4
 refine L.storeR f33 wantedN wsz28_zb rfl rfl rfl Bg4 rfl rfl fun a34 w6 f34 NB6 ks6 => ?_
 have szw6 := ks6.size
 replace HK := HK.trans ks6 (ktr (by omega))
 replace Bg0 := Bg0.kept ks6 (by simp; omega)
 replace HKp := HKp.trans ks6 (ktr (by omega))
 replace Bg4 := NB6
 clear f32 a32 ks6 f33 a33
 refine wpList_nil (hK8 _ _ ?_)
 have f35 := f34.sub (sc 1 (sc 2 (sc 3 (sc 4 (sc 5 (sc 6 (sc 7 (sc 8 (sc 9 (sc 10 (sc 21 sn)))))))))))
 refine C.sk fun K9 hK9 => ?_
 refine L.va f35 (by exact E.loadB f35 U28 rfl wsz28_zb rfl (Bg4) rfl) fun a36 f36 => ?_
 refine L.mv f36 fun a37 f37 => ?_
 refine L.mv f37 fun a38 f38 => ?_
 refine L.mv f38 fun a39 f39 => ?_
 refine L.cl f39 (run_call Tryd.call16 (args4 f39 rfl rfl rfl rfl)) (bent_any (seatP k a0_ b c x) sP what v str _ (IP.kept HKp) hwhat (by omega) (by omega) (by omega)) ?_
 clear f34 f35 a34 f36 a36 f37 a37 f38 a38
 rintro e w7 ⟨sQ, rfl, kc7, IQ⟩
 refine ⟨_, rfl, fun a40 f40 => ?_⟩
 have szw7 := kc7.size
 replace HK := HK.trans kc7 (by simp)
 replace Bg0 := Bg0.kept kc7 (by simp)
 replace HKp := HKp.trans kc7 (by simp)
 replace Bg4 := Bg4.kept kc7 (by simp)
 clear f39 a39 kc7
 have HKq := Kept.refl [] w7
 refine L.alloc f40 wantedN (by decide) (z := (.agg #[(.int .i64 0), (.bool false), (.bool false), (.int .i64 0), (.int .i64 0), (.string ⟨#[]⟩), (.slice none 0 0), (.int .i64 0), (.string ⟨#[]⟩), (.bool false), (.int .i64 0), (.bool false), (.string ⟨#[]⟩), (.slice none 0 0), (.int .i64 0), (.bool false), (.bool false), (.bool false), (.string ⟨#[]⟩), (.slice none 0 0), (.bool false), (.int .i64 0), (.slice none 0 0), (.slice none 0 0)])) (fun _ => by kernel_rfl) rfl fun a41 w8 g7 N7 f41 => ?_
 have Bg7 := N7.blk
 have kg7 := N7.kept
 have log7 := N7.lo
 have ltg7 := Bg7.lt
 have szw8 := kg7.size
 have frg7 : w.heap.size ≤ g7 := Nat.le_trans HK.size log7
 have frg7_HKp : w4.heap.size ≤ g7 := Nat.le_trans HKp.size log7
 have frg7_HKq : w7.heap.size ≤ g7 := Nat.le_trans HKq.size log7
 have neg0_g7 : g0 ≠ g7 := by have := Bg0.lt; omega
 have neg4_g7 : g4 ≠ g7 := by have := Bg4.lt; omega
 replace HK := HK.trans kg7 (by simp)
 replace Bg0 := Bg0.kept kg7 (by simp)
 replace HKp := HKp.trans kg7 (by simp)
 replace Bg4 := Bg4.kept kg7 (by simp)
 replace HKq := HKq.trans kg7 (by simp)
 clear N7 kg7
 refine L.storeR f41 wantedN wsz28_zb rfl rfl rfl Bg7 rfl rfl fun a42 w9 f42 NB9 ks9 => ?_
 have szw9 := ks9.size
 replace HK := HK.trans ks9 (ktr (by omega))
 replace Bg0 := Bg0.kept ks9 (by simp; omega)
 replace HKp := HKp.trans ks9 (ktr (by omega))
 replace Bg4 := Bg4.kept ks9 (by simp; omega)
 replace HKq := HKq.trans ks9 (ktr (by omega))
 replace Bg7 := NB9
 clear f40 a40 ks9 f41 a41
 refine wpList_nil (hK9 _ _ ?_)
 have f43 := f42.sub (sc 1 (sc 2 (sc 3 (sc 4 (sc 5 (sc 6 (sc 7 (sc 8 (sc 9 (sc 10 (sc 21 (sc 22 sn))))))))))))
 refine wp_seq_k fun K10 hK10 => ?_
 obtain ⟨J8, hJ8⟩ : ∃ J : Act → World → Prop, J = fun a W => ∃ (Rw : List (Pk × Ad)) (gp : Nat) (AR : Option Addr) (cR : Nat), Rw.length ≤ 9 ∧ Sl W AR Rw.length 24 (pkRow Rw) ∧ (∀ r ∈ Rw, r.1.In W r.2 ∧ r.1.Len) ∧ Kept [] w W ∧ Kept [] w4 W ∧ Blk W gp 28 ((seatP k a0_ b c x).cells sP) ∧ Fr 168 a [(5, .slice A x.length cx), (21, .pointer (some ⟨gp, 0, none⟩)), (100, .slice AR Rw.length cR), (101, .int .i64 Rw.length), (102, .int .i64 0)] := ⟨_, rfl⟩
 clear f42
 refine C.cut J8 ?_ ?_
 ·skip
  replace Bg0 : Blk w9 g0 28 ((p0).cells s0_) := Bg0
  replace Bg4 : Blk w9 g4 28 ((seatP k a0_ b c x).cells sP) := Bg4
  replace Bg7 : Blk w9 g7 28 ((bentP (seatP k a0_ b c x) what v str).cells sQ) := Bg7
  have hd7 : Kept [] w9 (w9.drewN 1) := (Kept.refl _ _).drewN 1
  refine R.beginT (S := fun W => (Kept [] w W) ∧ (Blk W g0 28 ((p0).cells s0_)) ∧ (Kept [] w4 W) ∧ (Blk W g4 28 ((seatP k a0_ b c x).cells sP)) ∧ (Kept [] w7 W) ∧ (Blk W g7 28 ((bentP (seatP k a0_ b c x) what v str).cells sQ))) (by kernel_rfl) (by kernel_rfl) ⟨HK.trans hd7 (by simp), Bg0.kept hd7 (by simp), HKp.trans hd7 (by simp), Bg4.kept hd7 (by simp), HKq.trans hd7 (by simp), Bg7.kept hd7 (by simp)⟩ fun ht => ?_
  obtain ⟨w10, hww10⟩ : ∃ W, W = w9.drewN 1 := ⟨_, rfl⟩
  rw [← hww10] at hd7 ⊢
  clear hww10
  have szw10 := hd7.size
  replace HK := HK.trans hd7 (by simp)
  replace Bg0 := Bg0.kept hd7 (by simp)
  replace HKp := HKp.trans hd7 (by simp)
  replace Bg4 := Bg4.kept hd7 (by simp)
  replace HKq := HKq.trans hd7 (by simp)
  replace Bg7 := Bg7.kept hd7 (by simp)
  clear hd7
  refine R.u 0 f43 rfl ht ⟨HK, Bg0, HKp, Bg4, HKq, Bg7⟩ (fun W hW => (by exact E.loadB f43 U28 rfl wsz28_zb rfl (hW.2.1) rfl)) fun a44 f44 => ?_
  refine R.u 1 f44 rfl ht ⟨HK, Bg0, HKp, Bg4, HKq, Bg7⟩ (fun W hW => (by exact E.loadB f44 U28 rfl wsz28_zb rfl (hW.2.2.2.1) rfl)) fun a45 f45 => ?_
  refine R.u 2 f45 rfl ht ⟨HK, Bg0, HKp, Bg4, HKq, Bg7⟩ (fun W hW => (by exact E.loadB f45 U28 rfl wsz28_zb rfl (hW.2.2.2.2.2) rfl)) fun a46 f46 => ?_
  refine R.u 3 f46 rfl ht ⟨HK, Bg0, HKp, Bg4, HKq, Bg7⟩ (fun W hW => (by exact E.loadB f46 U28 rfl wsz28_zb rfl (hW.2.2.2.2.2) rfl)) fun a47 f47 => ?_
  refine R.u 4 f47 rfl ht ⟨HK, Bg0, HKp, Bg4, HKq, Bg7⟩ (fun W hW => (E.move f47 rfl)) fun a48 f48 => ?_
  refine R.u 5 f48 rfl ht ⟨HK, Bg0, HKp, Bg4, HKq, Bg7⟩ (fun W hW => (E.move f48 rfl)) fun a49 f49 => ?_
  refine R.u 6 f49 rfl ht ⟨HK, Bg0, HKp, Bg4, HKq, Bg7⟩ (fun W hW => (E.and f49 rfl rfl rfl)) fun a50 f50 => ?_
  clear f43 a42 f44 a44 f45 a45 f46 a46 f47 a47 f48 a48 f49 a49
  refine R.u 7 f50 rfl ht ⟨HK, Bg0, HKp, Bg4, HKq, Bg7⟩ (fun W hW => (E.move f50 rfl)) fun a51 f51 => ?_
  refine R.u 9 f51 rfl ht ⟨HK, Bg0, HKp, Bg4, HKq, Bg7⟩ (fun W hW => (by exact E.loadB f51 U28 rfl wsz28_zb rfl (hW.2.2.2.1) rfl)) fun a52 f52 => ?_
  refine R.u 10 f52 rfl ht ⟨HK, Bg0, HKp, Bg4, HKq, Bg7⟩ (fun W hW => (E.move f52 rfl)) fun a53 f53 => ?_
  refine R.u 11 f53 rfl ht ⟨HK, Bg0, HKp, Bg4, HKq, Bg7⟩ (fun W hW => (E.move f53 rfl)) fun a54 f54 => ?_
  refine R.u 12 f54 rfl ht ⟨HK, Bg0, HKp, Bg4, HKq, Bg7⟩ (fun W hW => (E.and f54 rfl rfl rfl)) fun a55 f55 => ?_
  refine R.u 14 f55 rfl ht ⟨HK, Bg0, HKp, Bg4, HKq, Bg7⟩ (fun W hW => (E.move f55 rfl)) fun a56 f56 => ?_
  refine R.u 15 f56 rfl ht ⟨HK, Bg0, HKp, Bg4, HKq, Bg7⟩ (fun W hW => (E.rem f56 rfl rfl (by omega) (Int.tmod_eq_emod_of_nonneg (by omega)))) fun a57 f57 => ?_
  clear f50 a50 f51 a51 f52 a52 f53 a53 f54 a54 f55 a55 f56 a56
  refine R.u 16 f57 rfl ht ⟨HK, Bg0, HKp, Bg4, HKq, Bg7⟩ (fun W hW => (E.conv f57 U5 U3 rfl (IntWalk.i64_in _ (by omega)))) fun a58 f58 => ?_
  refine R.u 17 f58 rfl ht ⟨HK, Bg0, HKp, Bg4, HKq, Bg7⟩ (fun W hW => (E.move f58 rfl)) fun a59 f59 => ?_
  refine R.u 18 f59 rfl ht ⟨HK, Bg0, HKp, Bg4, HKq, Bg7⟩ (fun W hW => (E.conv f59 U5 U3 rfl (IntWalk.i64_in _ (by omega)))) fun a60 f60 => ?_
  refine R.u 19 f60 rfl ht ⟨HK, Bg0, HKp, Bg4, HKq, Bg7⟩ (fun W hW => (E.move f60 rfl)) fun a61 f61 => ?_
  refine R.u 20 f61 rfl ht ⟨HK, Bg0, HKp, Bg4, HKq, Bg7⟩ (fun W hW => (E.rem f61 rfl rfl (by omega) (Int.tmod_eq_emod_of_nonneg (by omega)))) fun a62 f62 => ?_
  refine R.u 21 f62 rfl ht ⟨HK, Bg0, HKp, Bg4, HKq, Bg7⟩ (fun W hW => (E.conv f62 U5 U3 rfl (IntWalk.i64_in _ (by omega)))) fun a63 f63 => ?_
  refine R.u 24 f63 rfl ht ⟨HK, Bg0, HKp, Bg4, HKq, Bg7⟩ (fun W hW => (E.move f63 rfl)) fun a64 f64 => ?_
  clear f57 a57 f58 a58 f59 a59 f60 a60 f61 a61 f62 a62 f63 a63
  refine R.u 25 f64 rfl ht ⟨HK, Bg0, HKp, Bg4, HKq, Bg7⟩ (fun W hW => (E.rem f64 rfl rfl (by omega) (Int.tmod_eq_emod_of_nonneg (by omega)))) fun a65 f65 => ?_
  refine R.u 26 f65 rfl ht ⟨HK, Bg0, HKp, Bg4, HKq, Bg7⟩ (fun W hW => (E.eq f65)) fun a66 f66 => ?_
  refine R.u 27 f66 rfl ht ⟨HK, Bg0, HKp, Bg4, HKq, Bg7⟩ (fun W hW => (E.move f66 rfl)) fun a67 f67 => ?_
  refine R.u 28 f67 rfl ht ⟨HK, Bg0, HKp, Bg4, HKq, Bg7⟩ (fun W hW => (E.rem f67 rfl rfl (by omega) (Int.tmod_eq_emod_of_nonneg (by omega)))) fun a68 f68 => ?_
  refine R.u 29 f68 rfl ht ⟨HK, Bg0, HKp, Bg4, HKq, Bg7⟩ (fun W hW => (E.conv f68 U5 U3 rfl (IntWalk.i64_in _ (by omega)))) fun a69 f69 => ?_
  refine R.u 30 f69 rfl ht ⟨HK, Bg0, HKp, Bg4, HKq, Bg7⟩ (fun W hW => (E.build f69 (parts3 f69 rfl rfl rfl) (wbl28_0_17_18_zb _ _ _))) fun a70 f70 => ?_
  refine R.u 31 f70 rfl ht ⟨HK, Bg0, HKp, Bg4, HKq, Bg7⟩ (fun W hW => (E.move f70 rfl)) fun a71 f71 => ?_
  clear f64 a64 f65 a65 f66 a66 f67 a67 f68 a68 f69 a69 f70 a70
  refine R.u 32 f71 rfl ht ⟨HK, Bg0, HKp, Bg4, HKq, Bg7⟩ (fun W hW => (E.conv f71 U5 U3 rfl (IntWalk.i64_in _ (by omega)))) fun a72 f72 => ?_
  refine R.u 33 f72 rfl ht ⟨HK, Bg0, HKp, Bg4, HKq, Bg7⟩ (fun W hW => (E.add f72 rfl rfl (IntWalk.i64_in _ (by omega)))) fun a73 f73 => ?_
  refine R.u 34 f73 rfl ht ⟨HK, Bg0, HKp, Bg4, HKq, Bg7⟩ (fun W hW => (E.move f73 rfl)) fun a74 f74 => ?_
  refine R.u 35 f74 rfl ht ⟨HK, Bg0, HKp, Bg4, HKq, Bg7⟩ (fun W hW => (E.rem f74 rfl rfl (by omega) (Int.tmod_eq_emod_of_nonneg (by omega)))) fun a75 f75 => ?_
  refine R.u 36 f75 rfl ht ⟨HK, Bg0, HKp, Bg4, HKq, Bg7⟩ (fun W hW => (E.conv f75 U5 U3 rfl (IntWalk.i64_in _ (by omega)))) fun a76 f76 => ?_
  refine R.u 39 f76 rfl ht ⟨HK, Bg0, HKp, Bg4, HKq, Bg7⟩ (fun W hW => (E.move f76 rfl)) fun a77 f77 => ?_
  refine R.u 40 f77 rfl ht ⟨HK, Bg0, HKp, Bg4, HKq, Bg7⟩ (fun W hW => (E.conv f77 U5 U3 rfl (IntWalk.i64_in _ (by omega)))) fun a78 f78 => ?_
  clear f71 a71 f72 a72 f73 a73 f74 a74 f75 a75 f76 a76 f77 a77
  refine R.u 41 f78 rfl ht ⟨HK, Bg0, HKp, Bg4, HKq, Bg7⟩ (fun W hW => (E.build f78 (parts2 f78 rfl rfl) (wbl28_0_4_zb _ _))) fun a79 f79 => ?_
  refine R.u 44 f79 rfl ht ⟨HK, Bg0, HKp, Bg4, HKq, Bg7⟩ (fun W hW => (E.move f79 rfl)) fun a80 f80 => ?_
  clear f78 a78 f79 a79
  refine Gp.enter (G := [8, 13, 22, 23, 37, 38]) (L0 := #[true, true, true, true, true, true, true, true, false, true, true, true, true, false, true, true, true, true, true, true, true, true, false, false, true, true, true, true, true, true, true, true, true, true, true, true, true, false, false, true, true, true, false, false, true]) (L1 := #[true, true, true, true, true, true, true, true, true, true, true, true, true, true, true, true, true, true, true, true, true, true, true, true, true, true, true, true, true, true, true, true, true, true, true, true, true, true, true, true, true, true, false, false, true]) (fuel := 2) (fun m a W => ∃ v66 v71 v80 v81 v95 v96 : Value, Fr 168 a [(5, .slice A x.length cx), (10, .pointer (some ⟨g0, 0, none⟩)), (21, .pointer (some ⟨g4, 0, none⟩)), (22, .pointer (some ⟨g7, 0, none⟩)), (58, .agg (p0.cells s0_)), (59, .agg ((seatP k a0_ b c x).cells sP)), (60, .agg ((bentP (seatP k a0_ b c x) what v str).cells sQ)), (61, .agg ((bentP (seatP k a0_ b c x) what v str).cells sQ)), (62, .int .u8 more), (64, .int .i64 (bits .and .i64 v 7)), (65, .string str), (67, .agg ((seatP k a0_ b c x).cells sP)), (68, .int .u8 what), (70, .int .i64 (bits .and .i64 v 131071)), (74, .int .i64 (k % 16)), (76, .int .i64 a0_), (79, .int .i64 (b % 4)), (88, .agg (({ kind := 2, present := decide (a0_ % 2 = 0), code := b % 7 } : Pk).cells s0)), (91, .int .i64 (1 + a0_)), (94, .int .i64 (b % 3)), (99, .agg (({ kind := 11, id := c } : Pk).cells s0)), (102, .int .i64 0), (66, v66), (71, v71), (80, v80), (81, v81), (95, v95), (96, v96)] ∧ (Kept [] w W) ∧ (Blk W g0 28 ((p0).cells s0_)) ∧ (Kept [] w4 W) ∧ (Blk W g4 28 ((seatP k a0_ b c x).cells sP)) ∧ (Kept [] w7 W) ∧ (Blk W g7 28 ((bentP (seatP k a0_ b c x) what v str).cells sQ)) ∧ (m.testBit 8 = true → PhiP (bentP (bentP (seatP k a0_ b c x) what v str) more (bits .and .i64 v 7) str) v66 W) ∧ (m.testBit 13 = true → PhiP (bentP (seatP k a0_ b c x) what (bits .and .i64 v 131071) ⟨#[195, 169]⟩) v71 W) ∧ (m.testBit 22 = true → PhiI [b % 4] 1 v80 W) ∧ (m.testBit 23 = true → PhiP { kind := k % 16, id := a0_, codes := [b % 4] } v81 W) ∧ (m.testBit 37 = true → PhiI [b % 3, 128] 2 v95 W) ∧ (m.testBit 38 = true → PhiP { kind := 9, id := 1 + a0_, codes := [b % 3, 128] } v96 W)) (by kernel_rfl) (by kernel_rfl) ?_ ?_ ?_
  ·obtain ⟨v66, f81⟩ := f80.any 66 (by decide)
   obtain ⟨v71, f82⟩ := f81.any 71 (by decide)
   obtain ⟨v80, f83⟩ := f82.any 80 (by decide)
   obtain ⟨v81, f84⟩ := f83.any 81 (by decide)
   obtain ⟨v95, f85⟩ := f84.any 95 (by decide)
   obtain ⟨v96, f86⟩ := f85.any 96 (by decide)
   exact ⟨v66, v71, v80, v81, v95, v96, f86.sub (sub_cons rfl (sub_cons rfl (sub_cons rfl (sub_cons rfl (sub_cons rfl (sub_cons rfl (sub_cons rfl (sub_cons rfl (sub_cons rfl (sub_cons rfl (sub_cons rfl (sub_cons rfl (sub_cons rfl (sub_cons rfl (sub_cons rfl (sub_cons rfl (sub_cons rfl (sub_cons rfl (sub_cons rfl (sub_cons rfl (sub_cons rfl (sub_cons rfl (sub_cons rfl (sub_cons rfl (sub_cons rfl (sub_cons rfl (sub_cons rfl (sub_cons rfl sn)))))))))))))))))))))))))))), HK, Bg0, HKp, Bg4, HKq, Bg7, fun q => absurd q (by simp), fun q => absurd q (by simp), fun q => absurd q (by simp), fun q => absurd q (by simp), fun q => absurd q (by simp), fun q => absurd q (by simp)⟩
  ·intro m i_ a81 w11 hm hcl hi hG hI
   obtain ⟨v66, v71, v80, v81, v95, v96, f81, HK, Bg0, HKp, Bg4, HKq, Bg7, P8, P13, P22, P23, P37, P38⟩ := hI
   simp only [List.mem_cons, List.not_mem_nil, or_false] at hG
   rcases hG with rfl | rfl | rfl | rfl | rfl | rfl
   ·skip
    refine O.call f81 rfl rfl (by decide) wantedN (run_call Tryd.call16 (args4 f81 rfl rfl rfl rfl)) (bent_any (bentP (seatP k a0_ b c x) what v str) sQ more (bits .and .i64 v 7) str _ (IQ.kept HKq) hmore (by omega) (by omega) (by omega)) ?_
    rintro e w12 ⟨t_, rfl, kc12, I_⟩
    have szw12 := kc12.size
    replace HK := HK.trans kc12 (by simp)
    replace Bg0 := Bg0.kept kc12 (by simp)
    replace HKp := HKp.trans kc12 (by simp)
    replace Bg4 := Bg4.kept kc12 (by simp)
    replace HKq := HKq.trans kc12 (by simp)
    replace Bg7 := Bg7.kept kc12 (by simp)
    replace P8 := fun q => (P8 q).kept kc12
    replace P13 := fun q => (P13 q).kept kc12
    replace P22 := fun q => (P22 q).kept kc12
    replace P23 := fun q => (P23 q).kept kc12
    replace P37 := fun q => (P37 q).kept kc12
    replace P38 := fun q => (P38 q).kept kc12
    refine ⟨_, rfl, ⟨HK, Bg0, HKp, Bg4, HKq, Bg7⟩, fun a82 f82 => ?_⟩
    clear f81 a81 kc12
    exact ⟨_, _, _, _, _, _, f82.sub (sub_cons rfl (sub_cons rfl (sub_cons rfl (sub_cons rfl (sub_cons rfl (sub_cons rfl (sub_cons rfl (sub_cons rfl (sub_cons rfl (sub_cons rfl (sub_cons rfl (sub_cons rfl (sub_cons rfl (sub_cons rfl (sub_cons rfl (sub_cons rfl (sub_cons rfl (sub_cons rfl (sub_cons rfl (sub_cons rfl (sub_cons rfl (sub_cons rfl (sub_cons rfl (sub_cons rfl (sub_cons rfl (sub_cons rfl (sub_cons rfl (sub_cons rfl sn)))))))))))))))))))))))))))), HK, Bg0, HKp, Bg4, HKq, Bg7, fun _ => ⟨t_, rfl, I_⟩, fun q => P13 (by rwa [Gp.other (by decide)] at q), fun q => P22 (by rwa [Gp.other (by decide)] at q), fun q => P23 (by rwa [Gp.other (by decide)] at q), fun q => P37 (by rwa [Gp.other (by decide)] at q), fun q => P38 (by rwa [Gp.other (by decide)] at q)⟩
   ·skip
    refine O.call f81 rfl rfl (by decide) wantedN (run_call Tryd.call16 (args4 f81 rfl rfl rfl rfl)) (bent_any (seatP k a0_ b c x) sP what (bits .and .i64 v 131071) ⟨#[195, 169]⟩ _ (IP.kept HKp) hwhat (by omega) (by omega) (by decide)) ?_
    rintro e w12 ⟨t_, rfl, kc12, I_⟩
    have szw12 := kc12.size
    replace HK := HK.trans kc12 (by simp)
    replace Bg0 := Bg0.kept kc12 (by simp)
    replace HKp := HKp.trans kc12 (by simp)
    replace Bg4 := Bg4.kept kc12 (by simp)
    replace HKq := HKq.trans kc12 (by simp)
    replace Bg7 := Bg7.kept kc12 (by simp)
    replace P8 := fun q => (P8 q).kept kc12
    replace P13 := fun q => (P13 q).kept kc12
    replace P22 := fun q => (P22 q).kept kc12
    replace P23 := fun q => (P23 q).kept kc12
    replace P37 := fun q => (P37 q).kept kc12
    replace P38 := fun q => (P38 q).kept kc12
    refine ⟨_, rfl, ⟨HK, Bg0, HKp, Bg4, HKq, Bg7⟩, fun a82 f82 => ?_⟩
    clear f81 a81 kc12
    exact ⟨_, _, _, _, _, _, f82.sub (sub_cons rfl (sub_cons rfl (sub_cons rfl (sub_cons rfl (sub_cons rfl (sub_cons rfl (sub_cons rfl (sub_cons rfl (sub_cons rfl (sub_cons rfl (sub_cons rfl (sub_cons rfl (sub_cons rfl (sub_cons rfl (sub_cons rfl (sub_cons rfl (sub_cons rfl (sub_cons rfl (sub_cons rfl (sub_cons rfl (sub_cons rfl (sub_cons rfl (sub_cons rfl (sub_cons rfl (sub_cons rfl (sub_cons rfl (sub_cons rfl (sub_cons rfl sn)))))))))))))))))))))))))))), HK, Bg0, HKp, Bg4, HKq, Bg7, fun q => P8 (by rwa [Gp.other (by decide)] at q), fun _ => ⟨t_, rfl, I_⟩, fun q => P22 (by rwa [Gp.other (by decide)] at q), fun q => P23 (by rwa [Gp.other (by decide)] at q), fun q => P37 (by rwa [Gp.other (by decide)] at q), fun q => P38 (by rwa [Gp.other (by decide)] at q)⟩
   ·skip
    refine O.buildSlice f81 rfl wantedN (by decide) (parts1 f81 rfl) U26 wzi3_zb rfl rfl (wbs26_1_zb _) (fun _ hk => ⟨HK.trans hk (by simp), Bg0.kept hk (by simp), HKp.trans hk (by simp), Bg4.kept hk (by simp), HKq.trans hk (by simp), Bg7.kept hk (by simp)⟩) fun a82 w12 g11 N11 hSn f82 => ?_
    clear hSn
    have Bg11 := N11.blk
    have kg11 := N11.kept
    have log11 := N11.lo
    have ltg11 := Bg11.lt
    have szw12 := kg11.size
    have frg11 : w.heap.size ≤ g11 := Nat.le_trans HK.size log11
    have frg11_HKp : w4.heap.size ≤ g11 := Nat.le_trans HKp.size log11
    have frg11_HKq : w7.heap.size ≤ g11 := Nat.le_trans HKq.size log11
    have neg0_g11 : g0 ≠ g11 := by have := Bg0.lt; omega
    have neg4_g11 : g4 ≠ g11 := by have := Bg4.lt; omega
    have neg7_g11 : g7 ≠ g11 := by have := Bg7.lt; omega
    replace HK := HK.trans kg11 (by simp)
    replace Bg0 := Bg0.kept kg11 (by simp)
    replace HKp := HKp.trans kg11 (by simp)
    replace Bg4 := Bg4.kept kg11 (by simp)
    replace HKq := HKq.trans kg11 (by simp)
    replace Bg7 := Bg7.kept kg11 (by simp)
    replace P8 := fun q => (P8 q).kept kg11
    replace P13 := fun q => (P13 q).kept kg11
    replace P22 := fun q => (P22 q).kept kg11
    replace P23 := fun q => (P23 q).kept kg11
    replace P37 := fun q => (P37 q).kept kg11
    replace P38 := fun q => (P38 q).kept kg11
    clear N11 kg11
    exact ⟨_, _, _, _, _, _, f82.sub (sub_cons rfl (sub_cons rfl (sub_cons rfl (sub_cons rfl (sub_cons rfl (sub_cons rfl (sub_cons rfl (sub_cons rfl (sub_cons rfl (sub_cons rfl (sub_cons rfl (sub_cons rfl (sub_cons rfl (sub_cons rfl (sub_cons rfl (sub_cons rfl (sub_cons rfl (sub_cons rfl (sub_cons rfl (sub_cons rfl (sub_cons rfl (sub_cons rfl (sub_cons rfl (sub_cons rfl (sub_cons rfl (sub_cons rfl (sub_cons rfl (sub_cons rfl sn)))))))))))))))))))))))))))), HK, Bg0, HKp, Bg4, HKq, Bg7, fun q => P8 (by rwa [Gp.other (by decide)] at q), fun q => P13 (by rwa [Gp.other (by decide)] at q), fun _ => ⟨g11, rfl, Bg11.slN (n := 1) (size := 1) rfl⟩, fun q => P23 (by rwa [Gp.other (by decide)] at q), fun q => P37 (by rwa [Gp.other (by decide)] at q), fun q => P38 (by rwa [Gp.other (by decide)] at q)⟩
   ·skip
    have D22 := P22 (Gp.need (j := 22) (by kernel_rfl) hm hcl hi)
    obtain ⟨g80, rfl, S80⟩ := D22
    refine O.val f81 rfl rfl (by decide) wantedN (E.build f81 (parts3 f81 rfl rfl rfl) (wbl28_0_4_20_zb _ _ _ _ _)) ⟨HK, Bg0, HKp, Bg4, HKq, Bg7⟩ fun a82 f82 => ?_
    exact ⟨_, _, _, _, _, _, f82.sub (sub_cons rfl (sub_cons rfl (sub_cons rfl (sub_cons rfl (sub_cons rfl (sub_cons rfl (sub_cons rfl (sub_cons rfl (sub_cons rfl (sub_cons rfl (sub_cons rfl (sub_cons rfl (sub_cons rfl (sub_cons rfl (sub_cons rfl (sub_cons rfl (sub_cons rfl (sub_cons rfl (sub_cons rfl (sub_cons rfl (sub_cons rfl (sub_cons rfl (sub_cons rfl (sub_cons rfl (sub_cons rfl (sub_cons rfl (sub_cons rfl (sub_cons rfl sn)))))))))))))))))))))))))))), HK, Bg0, HKp, Bg4, HKq, Bg7, fun q => P8 (by rwa [Gp.other (by decide)] at q), fun q => P13 (by rwa [Gp.other (by decide)] at q), fun q => P22 (by rwa [Gp.other (by decide)] at q), fun _ => ⟨{ s0 with ca := some ⟨g80, 0, none⟩, cc := 1 }, rfl, ⟨Sl.nil _ _ _, Sl.nil _ _ _, Sl.nil _ _ _, Sl.nil _ _ _, S80⟩⟩, fun q => P37 (by rwa [Gp.other (by decide)] at q), fun q => P38 (by rwa [Gp.other (by decide)] at q)⟩
   ·skip
    refine O.buildSlice f81 rfl wantedN (by decide) (parts2 f81 rfl rfl) U26 wzi3_zb rfl rfl (wbs26_2_zb _ _) (fun _ hk => ⟨HK.trans hk (by simp), Bg0.kept hk (by simp), HKp.trans hk (by simp), Bg4.kept hk (by simp), HKq.trans hk (by simp), Bg7.kept hk (by simp)⟩) fun a82 w12 g11 N11 hSn f82 => ?_
    clear hSn
    have Bg11 := N11.blk
    have kg11 := N11.kept
    have log11 := N11.lo
    have ltg11 := Bg11.lt
    have szw12 := kg11.size
    have frg11 : w.heap.size ≤ g11 := Nat.le_trans HK.size log11
    have frg11_HKp : w4.heap.size ≤ g11 := Nat.le_trans HKp.size log11
    have frg11_HKq : w7.heap.size ≤ g11 := Nat.le_trans HKq.size log11
    have neg0_g11 : g0 ≠ g11 := by have := Bg0.lt; omega
    have neg4_g11 : g4 ≠ g11 := by have := Bg4.lt; omega
    have neg7_g11 : g7 ≠ g11 := by have := Bg7.lt; omega
    replace HK := HK.trans kg11 (by simp)
    replace Bg0 := Bg0.kept kg11 (by simp)
    replace HKp := HKp.trans kg11 (by simp)
    replace Bg4 := Bg4.kept kg11 (by simp)
    replace HKq := HKq.trans kg11 (by simp)
    replace Bg7 := Bg7.kept kg11 (by simp)
    replace P8 := fun q => (P8 q).kept kg11
    replace P13 := fun q => (P13 q).kept kg11
    replace P22 := fun q => (P22 q).kept kg11
    replace P23 := fun q => (P23 q).kept kg11
    replace P37 := fun q => (P37 q).kept kg11
    replace P38 := fun q => (P38 q).kept kg11
    clear N11 kg11
    exact ⟨_, _, _, _, _, _, f82.sub (sub_cons rfl (sub_cons rfl (sub_cons rfl (sub_cons rfl (sub_cons rfl (sub_cons rfl (sub_cons rfl (sub_cons rfl (sub_cons rfl (sub_cons rfl (sub_cons rfl (sub_cons rfl (sub_cons rfl (sub_cons rfl (sub_cons rfl (sub_cons rfl (sub_cons rfl (sub_cons rfl (sub_cons rfl (sub_cons rfl (sub_cons rfl (sub_cons rfl (sub_cons rfl (sub_cons rfl (sub_cons rfl (sub_cons rfl (sub_cons rfl (sub_cons rfl sn)))))))))))))))))))))))))))), HK, Bg0, HKp, Bg4, HKq, Bg7, fun q => P8 (by rwa [Gp.other (by decide)] at q), fun q => P13 (by rwa [Gp.other (by decide)] at q), fun q => P22 (by rwa [Gp.other (by decide)] at q), fun q => P23 (by rwa [Gp.other (by decide)] at q), fun _ => ⟨g11, rfl, Bg11.slN (n := 2) (size := 1) rfl⟩, fun q => P38 (by rwa [Gp.other (by decide)] at q)⟩
   skip
   have D37 := P37 (Gp.need (j := 37) (by kernel_rfl) hm hcl hi)
   obtain ⟨g95, rfl, S95⟩ := D37
   refine O.val f81 rfl rfl (by decide) wantedN (E.build f81 (parts3 f81 rfl rfl rfl) (wbl28_0_4_20_zb _ _ _ _ _)) ⟨HK, Bg0, HKp, Bg4, HKq, Bg7⟩ fun a82 f82 => ?_
   exact ⟨_, _, _, _, _, _, f82.sub (sub_cons rfl (sub_cons rfl (sub_cons rfl (sub_cons rfl (sub_cons rfl (sub_cons rfl (sub_cons rfl (sub_cons rfl (sub_cons rfl (sub_cons rfl (sub_cons rfl (sub_cons rfl (sub_cons rfl (sub_cons rfl (sub_cons rfl (sub_cons rfl (sub_cons rfl (sub_cons rfl (sub_cons rfl (sub_cons rfl (sub_cons rfl (sub_cons rfl (sub_cons rfl (sub_cons rfl (sub_cons rfl (sub_cons rfl (sub_cons rfl (sub_cons rfl sn)))))))))))))))))))))))))))), HK, Bg0, HKp, Bg4, HKq, Bg7, fun q => P8 (by rwa [Gp.other (by decide)] at q), fun q => P13 (by rwa [Gp.other (by decide)] at q), fun q => P22 (by rwa [Gp.other (by decide)] at q), fun q => P23 (by rwa [Gp.other (by decide)] at q), fun q => P37 (by rwa [Gp.other (by decide)] at q), fun _ => ⟨{ s0 with ca := some ⟨g95, 0, none⟩, cc := 2 }, rfl, ⟨Sl.nil _ _ _, Sl.nil _ _ _, Sl.nil _ _ _, Sl.nil _ _ _, S95⟩⟩⟩
  intro m a81 w11 hm hI
  obtain ⟨v66, v71, v80, v81, v95, v96, f81, HK, Bg0, HKp, Bg4, HKq, Bg7, P8, P13, P22, P23, P37, P38⟩ := hI
  have D8 := P8 (hm 8 (by decide))
  obtain ⟨s66, rfl, I66⟩ := D8
  have D13 := P13 (hm 13 (by decide))
  obtain ⟨s71, rfl, I71⟩ := D13
  have D23 := P23 (hm 23 (by decide))
  obtain ⟨s81, rfl, I81⟩ := D23
  have D38 := P38 (hm 38 (by decide))
  obtain ⟨s96, rfl, I96⟩ := D38
  clear P8 P13 P22 P23 P37 P38
  refine R.one 42 (by kernel_rfl) ?_
  refine O.buildSlice f81 rfl wantedN (by decide) (parts9 f81 rfl rfl rfl rfl rfl rfl rfl rfl rfl) U33 zi28z rfl rfl (slice9 _ _ _ _ _ _ _ _ _ _ _ _ _ _ _ _ _ _) (fun _ hk => ⟨HK.trans hk (by simp), Bg0.kept hk (by simp), HKp.trans hk (by simp), Bg4.kept hk (by simp), HKq.trans hk (by simp), Bg7.kept hk (by simp)⟩) fun a82 w12 g11 N11 hSn f82 => ?_
  clear hSn
  have Bg11 := N11.blk
  have kg11 := N11.kept
  have log11 := N11.lo
  have ltg11 := Bg11.lt
  have szw12 := kg11.size
  have frg11 : w.heap.size ≤ g11 := Nat.le_trans HK.size log11
  have frg11_HKp : w4.heap.size ≤ g11 := Nat.le_trans HKp.size log11
  have frg11_HKq : w7.heap.size ≤ g11 := Nat.le_trans HKq.size log11
  have neg0_g11 : g0 ≠ g11 := by have := Bg0.lt; omega
  have neg4_g11 : g4 ≠ g11 := by have := Bg4.lt; omega
  have neg7_g11 : g7 ≠ g11 := by have := Bg7.lt; omega
  replace HK := HK.trans kg11 (by simp)
  replace Bg0 := Bg0.kept kg11 (by simp)
  replace HKp := HKp.trans kg11 (by simp)
  replace Bg4 := Bg4.kept kg11 (by simp)
  replace HKq := HKq.trans kg11 (by simp)
  replace Bg7 := Bg7.kept kg11 (by simp)
  replace I66 := I66.kept kg11
  replace I71 := I71.kept kg11
  replace I81 := I81.kept kg11
  replace I96 := I96.kept kg11
  clear N11 kg11
  refine R.u 43 f82 rfl ht ⟨HK, Bg0, HKp, Bg4, HKq, Bg7⟩ (fun W hW => (E.lenL f82 U33 rfl)) fun a83 f83 => ?_
  have SRW : Sl w12 (some ⟨g11, 0, none⟩) 9 24 (pkRow [(p0, s0_), (seatP k a0_ b c x, sP), (bentP (seatP k a0_ b c x) what v str, sQ), (bentP (bentP (seatP k a0_ b c x) what v str) more (bits .and .i64 v 7) str, s66), (bentP (seatP k a0_ b c x) what (bits .and .i64 v 131071) ⟨#[195, 169]⟩, s71), ({ kind := k % 16, id := a0_, codes := [b % 4] }, s81), ({ kind := 2, present := decide (a0_ % 2 = 0), code := b % 7 }, s0), ({ kind := 9, id := 1 + a0_, codes := [b % 3, 128] }, s96), ({ kind := 11, id := c }, s0)]) := by have h := Bg11.slN (n := 9) (size := 24) rfl; simpa using h
  exact R.done (by kernel_rfl) (then_of (J := J8) (Q := fun _ _ _ => True) (by rw [hJ8]; exact ⟨[(p0, s0_), (seatP k a0_ b c x, sP), (bentP (seatP k a0_ b c x) what v str, sQ), (bentP (bentP (seatP k a0_ b c x) what v str) more (bits .and .i64 v 7) str, s66), (bentP (seatP k a0_ b c x) what (bits .and .i64 v 131071) ⟨#[195, 169]⟩, s71), ({ kind := k % 16, id := a0_, codes := [b % 4] }, s81), ({ kind := 2, present := decide (a0_ % 2 = 0), code := b % 7 }, s0), ({ kind := 9, id := 1 + a0_, codes := [b % 3, 128] }, s96), ({ kind := 11, id := c }, s0)], g4, _, _, Nat.le_refl _, SRW, rows9 (Kept.refl [] _) (I0.kept HK) L0 (IP.kept HKp) lP (IQ.kept HKq) lQ I66 lQ1 I71 lQ2 I81 l5 I96 l7, HK, HKp, Bg4, f83.sub (sub_cons rfl (sub_cons rfl (sub_cons rfl (sub_cons rfl (sub_cons rfl sn)))))⟩))
 intro a44 w10 hj
 rw [hJ8] at hj
 clear hJ8 J8
 obtain ⟨Rw, gp, AR, cR, hR9, SRW, SE, HK, HKp, BP, f44⟩ := hj
 try clear f43
 have HK1 := Kept.refl [] w10
 have IP1 := IP.kept HKp
 have szb := HK.size
 refine wp_block ?_
 refine C.loop (fun gk a W => ∃ i : Nat, i + gk = Rw.length ∧ Kept [] w W ∧ Kept [] w10 W ∧ Blk W gp 28 ((seatP k a0_ b c x).cells sP) ∧ Fr 168 a [(5, .slice A x.length cx), (21, .pointer (some ⟨gp, 0, none⟩)), (100, .slice AR Rw.length cR), (101, .int .i64 Rw.length), (102, .int .i64 i)]) (Rw.length) ?_ ?_
 ·exact ⟨0, by omega, HK, HK1, BP, f44.sub (sub_cons rfl (sub_cons rfl (sub_cons rfl (sub_cons rfl (sub_cons rfl sn)))))⟩
 intro gk12 a45 w11 hI KL11 hKL11
 obtain ⟨i, hi, HK, HK1, BP, f45⟩ := hI
 try clear f44
 refine C.sk fun K12 hK12 => ?_
 refine L.va f45 (E.lss f45 rfl rfl) fun a46 f46 => ?_
 refine wpList_nil (hK12 _ _ ?_)
 have f47 := f46.sub (sc 5 (sc 21 (sc 100 (sc 101 (sc 102 (sc 103 sn))))))
 refine wp_seq_k fun K13 hK13 => ?_
 clear f45 a45 f46
 refine f47.splitD 103 rfl (fun h3 f48 => ?_) (fun h3 f48 => ?_)
 ·obtain ⟨d, hd⟩ := some_at Rw i (by omega)
  obtain ⟨bk, off, hA⟩ := SRW.addr (by omega)
  have hmem := List.mem_of_getElem? hd
  refine C.condT f48 rfl ?_
  refine wp_skip (hK13 _ _ ?_)
  have f49 := f48.sub (sc 5 (sc 21 (sc 100 (sc 101 (sc 102 sn)))))
  refine wp_seq_k fun K14 hK14 => ?_
  refine wp_block ?_
  refine C.sk fun K15 hK15 => ?_
  refine L.va f49 (E.indexA f49 (by assumption) U33 wsz28_zb rfl rfl (by omega) (by omega)) fun a50 f50 => ?_
  refine L.va f50 (by exact E.loadA f50 U28 rfl wsz28_zb rfl (pk_row (SRW.kept HK1) hA hd) rfl) fun a51 f51 => ?_
  refine L.alloc f51 wantedN (by decide) (z := (.agg #[(.int .i64 0), (.bool false), (.bool false), (.int .i64 0), (.int .i64 0), (.string ⟨#[]⟩), (.slice none 0 0), (.int .i64 0), (.string ⟨#[]⟩), (.bool false), (.int .i64 0), (.bool false), (.string ⟨#[]⟩), (.slice none 0 0), (.int .i64 0), (.bool false), (.bool false), (.bool false), (.string ⟨#[]⟩), (.slice none 0 0), (.bool false), (.int .i64 0), (.slice none 0 0), (.slice none 0 0)])) (fun _ => by kernel_rfl) rfl fun a52 w12 g11 N11 f52 => ?_
  have Bg11 := N11.blk
  have kg11 := N11.kept
  have log11 := N11.lo
  have ltg11 := Bg11.lt
  have szw12 := kg11.size
  have frg11 : w.heap.size ≤ g11 := Nat.le_trans HK.size log11
  have frg11_HK1 : w10.heap.size ≤ g11 := Nat.le_trans HK1.size log11
  have negp_g11 : gp ≠ g11 := by have := BP.lt; omega
  replace HK := HK.trans kg11 (by simp)
  replace HK1 := HK1.trans kg11 (by simp)
  replace BP := BP.kept kg11 (by simp)
  clear f47 f48 f49 a46 f50 a50 N11 kg11
  refine L.storeR f52 wantedN wsz28_zb rfl rfl rfl Bg11 rfl rfl fun a53 w13 f53 NB13 ks13 => ?_
  have szw13 := ks13.size
  replace HK := HK.trans ks13 (ktr (by omega))
  replace HK1 := HK1.trans ks13 (ktr (by omega))
  replace BP := BP.kept ks13 (by simp; omega)
  replace Bg11 := NB13
  clear f51 a51 ks13 f52 a52
  refine wpList_nil (hK15 _ _ ?_)
  have f54 := f53.sub (sc 5 (sc 21 (sc 24 (sc 100 (sc 101 (sc 102 sn))))))
  refine C.sk fun K16 hK16 => ?_
  refine L.va f54 (by exact E.loadB f54 U28 rfl wsz28_zb rfl (Bg11) rfl) fun a55 f55 => ?_
  refine L.cl f55 (run_call Tryd.call17 (args1 f55 rfl)) (wput_any d.1 d.2 _ ((SE d hmem).1.kept HK1) (SE d hmem).2 (hT.old (HK.below (by simp) (Nat.le_refl _)))) ?_
  clear f53 f54 a53
  rintro e w14 ⟨kc14, AF10, cF10, rfl, F10⟩
  have szk := HK.size
  replace F10 := FB.lower F10 szk
  refine ⟨_, rfl, fun a56 f56 => ?_⟩
  have szw14 := kc14.size
  replace HK := HK.trans kc14 (by simp)
  replace HK1 := HK1.trans kc14 (by simp)
  replace BP := BP.kept kc14 (by simp)
  replace Bg11 := Bg11.kept kc14 (by simp)
  clear f55 a55 kc14
  refine L.mv f56 fun a57 f57 => ?_
  refine L.va f57 (E.extract f57 rfl rfl) fun a58 f58 => ?_
  refine L.va f58 (E.extract f58 rfl rfl) fun a59 f59 => ?_
  refine L.ag f59 fun a60 f60 => ?_
  refine L.ag f60 fun a61 f61 => ?_
  refine wpList_nil (hK16 _ _ ?_)
  have f62 := f61.sub (sc 5 (sc 21 (sc 24 (sc 25 (sc 26 (sc 100 (sc 101 (sc 102 sn))))))))
  refine C.sk fun K17 hK17 => ?_
  refine L.va f62 (by exact E.loadB f62 U28 rfl wsz28_zb rfl (Bg11) rfl) fun a63 f63 => ?_
  refine L.cl f63 (run_call Tryd.call18 (args1 f63 rfl)) (wputR_any d.1 d.2 _ ((SE d hmem).1.kept HK1) (SE d hmem).2 (hT.old (HK.below (by simp) (Nat.le_refl _)))) ?_
  clear f56 a56 f57 a57 f58 a58 f59 a59 f60 a60 f61 f62 a61
  rintro e w15 ⟨kc15, AF11, cF11, rfl, F11⟩
  have szk := HK.size
  replace F11 := FB.lower F11 szk
  refine ⟨_, rfl, fun a64 f64 => ?_⟩
  have szw15 := kc15.size
  replace HK := HK.trans kc15 (by simp)
  replace HK1 := HK1.trans kc15 (by simp)
  replace BP := BP.kept kc15 (by simp)
  replace Bg11 := Bg11.kept kc15 (by simp)
  replace F10 := F10.kept0 kc15
  clear f63 a63 kc15
  refine L.mv f64 fun a65 f65 => ?_
  refine L.va f65 (E.extract f65 rfl rfl) fun a66 f66 => ?_
  refine L.va f66 (E.extract f66 rfl rfl) fun a67 f67 => ?_
  refine L.ag f67 fun a68 f68 => ?_
  refine L.ag f68 fun a69 f69 => ?_
  refine wpList_nil (hK17 _ _ ?_)
  have f70 := f69.sub (sc 5 (sc 21 (sc 24 (sc 25 (sc 26 (sc 27 (sc 28 (sc 100 (sc 101 (sc 102 sn))))))))))
  refine wp_seq_k fun K18 hK18 => ?_
  refine wp_seq_k fun K19 hK19 => ?_
  replace Bg11 : Blk w15 g11 28 (d.1.cells d.2) := Bg11
  have SF10 := F10.sl
  have SF11 := F11.sl
  have HKd := Kept.refl [] w15
  have hd12 : Kept [] w15 (w15.drewN 1) := (Kept.refl _ _).drewN 1
  refine R.beginT (S := fun W => (Kept [] w W) ∧ (Blk W gp 28 ((seatP k a0_ b c x).cells sP)) ∧ (Blk W g11 28 ((d.1).cells d.2)) ∧ (Kept [] w15 W)) (by kernel_rfl) (by kernel_rfl) ⟨HK.trans hd12 (by simp), BP.kept hd12 (by simp), Bg11.kept hd12 (by simp), HKd.trans hd12 (by simp)⟩ fun ht => ?_
  obtain ⟨w16, hww16⟩ : ∃ W, W = w15.drewN 1 := ⟨_, rfl⟩
  rw [← hww16] at hd12 ⊢
  clear f64 a64 f65 a65 f66 a66 f67 a67 f68 a68 f69 hww16
  have szw16 := hd12.size
  replace HK := HK.trans hd12 (by simp)
  replace HK1 := HK1.trans hd12 (by simp)
  replace BP := BP.kept hd12 (by simp)
  replace Bg11 := Bg11.kept hd12 (by simp)
  replace F10 := F10.kept0 hd12
  replace F11 := F11.kept0 hd12
  replace HKd := HKd.trans hd12 (by simp)
  clear hd12
  refine R.u 0 f70 rfl ht ⟨HK, BP, Bg11, HKd⟩ (fun W hW => (E.move f70 rfl)) fun a71 f71 => ?_
  refine R.u 1 f71 rfl ht ⟨HK, BP, Bg11, HKd⟩ (fun W hW => (E.move f71 rfl)) fun a72 f72 => ?_
  refine R.u 2 f72 rfl ht ⟨HK, BP, Bg11, HKd⟩ (fun W hW => (E.neq f72 rfl rfl)) fun a73 f73 => ?_
  have f74 := f73.as (i := 118) (v' := .bool false) rfl (by simp)
  refine R.u 3 f74 rfl ht ⟨HK, BP, Bg11, HKd⟩ (fun W hW => (E.move f74 rfl)) fun a75 f75 => ?_
  refine R.u 4 f75 rfl ht ⟨HK, BP, Bg11, HKd⟩ (fun W hW => (E.move f75 rfl)) (hw := (f75.yes rfl rfl)) fun a76 f76 => ?_
  refine R.u 5 f76 rfl ht ⟨HK, BP, Bg11, HKd⟩ (fun W hW => (E.toStr f76 rfl U22 U5 U9 ((SF10.kept hW.2.2.2)))) (hw := (f76.yes rfl rfl)) fun a77 f77 => ?_
  refine R.u 6 f77 rfl ht ⟨HK, BP, Bg11, HKd⟩ (fun W hW => (E.move f77 rfl)) (hw := (f77.yes rfl rfl)) fun a78 f78 => ?_
  clear f70 a69 f71 a71 f72 a72 f73 f74 a73 f75 a75 f76 a76 f77 a77
  refine R.u 7 f78 rfl ht ⟨HK, BP, Bg11, HKd⟩ (fun W hW => (E.toStr f78 rfl U22 U5 U9 ((SF11.kept hW.2.2.2)))) (hw := (f78.yes rfl rfl)) fun a79 f79 => ?_
  refine R.u 8 f79 rfl ht ⟨HK, BP, Bg11, HKd⟩ (fun W hW => (E.neqS f79 rfl rfl)) (hw := (f79.yes rfl rfl)) fun a80 f80 => ?_
  have f81 := f80.as (i := 124) (v' := .bool false) rfl (by simp)
  refine R.u 9 f81 rfl ht ⟨HK, BP, Bg11, HKd⟩ (fun W hW => (E.pickF f81 rfl rfl)) fun a82 f82 => ?_
  refine R.u 10 f82 rfl ht ⟨HK, BP, Bg11, HKd⟩ (fun W hW => (E.move f82 rfl)) fun a83 f83 => ?_
  refine R.u 11 f83 rfl ht ⟨HK, BP, Bg11, HKd⟩ (fun W hW => (by exact E.loadB f83 U28 rfl wsz28_zb rfl (hW.2.2.1) rfl)) (hw := (f83.yes rfl rfl)) fun a84 f84 => ?_
  refine R.u 13 f84 rfl ht ⟨HK, BP, Bg11, HKd⟩ (fun W hW => (by exact E.loadB f84 U28 rfl wsz28_zb rfl (hW.2.2.1) rfl)) (hw := (f84.yes rfl rfl)) fun a85 f85 => ?_
  refine R.call 12 f85 rfl rfl (by decide) (by kernel_rfl) (f85.yes rfl rfl) (run_call Tryd.call19 (args1 f85 rfl)) (right_any d.1 d.2 _ ((SE d hmem).1.kept HK1) (SE d hmem).2 (hT.old (HK.below (by simp) (Nat.le_refl _)))) ?_
  clear f78 a78 f79 a79 f80 f81 a80 f82 a82 f83 a83 f84 a84
  rintro e w17 ⟨kc17, rfl⟩
  have szw17 := kc17.size
  replace HK := HK.trans kc17 (by simp)
  replace HK1 := HK1.trans kc17 (by simp)
  replace BP := BP.kept kc17 (by simp)
  replace Bg11 := Bg11.kept kc17 (by simp)
  replace F10 := F10.kept0 kc17
  replace F11 := F11.kept0 kc17
  replace HKd := HKd.trans kc17 (by simp)
  refine ⟨_, rfl, ⟨HK, BP, Bg11, HKd⟩, fun a86 f86 => ?_⟩
  clear f85 a85 kc17
  refine R.call 14 f86 rfl rfl (by decide) (by kernel_rfl) (f86.yes rfl rfl) (run_call Tryd.call20 (args1 f86 rfl)) (rightR_any d.1 d.2 _ ((SE d hmem).1.kept HK1) (SE d hmem).2 (hT.old (HK.below (by simp) (Nat.le_refl _)))) ?_
  rintro e w18 ⟨kc18, rfl⟩
  have szw18 := kc18.size
  replace HK := HK.trans kc18 (by simp)
  replace HK1 := HK1.trans kc18 (by simp)
  replace BP := BP.kept kc18 (by simp)
  replace Bg11 := Bg11.kept kc18 (by simp)
  replace F10 := F10.kept0 kc18
  replace F11 := F11.kept0 kc18
  replace HKd := HKd.trans kc18 (by simp)
  refine ⟨_, rfl, ⟨HK, BP, Bg11, HKd⟩, fun a87 f87 => ?_⟩
  clear f86 a86 kc18
  refine R.u 15 f87 rfl ht ⟨HK, BP, Bg11, HKd⟩ (fun W hW => (E.neqB f87 U4 rfl rfl)) (hw := (f87.yes rfl rfl)) fun a88 f88 => ?_
  have f89 := f88.as (i := 131) (v' := .bool false) rfl (by simp [rightR_is])
  refine R.u 16 f89 rfl ht ⟨HK, BP, Bg11, HKd⟩ (fun W hW => (E.pickF f89 rfl rfl)) fun a90 f90 => ?_
  refine R.u 17 f90 rfl ht ⟨HK, BP, Bg11, HKd⟩ (fun W hW => (E.move f90 rfl)) fun a91 f91 => ?_
  refine R.u 18 f91 rfl ht ⟨HK, BP, Bg11, HKd⟩ (fun W hW => (by exact E.loadB f91 U28 rfl wsz28_zb rfl (hW.2.2.1) rfl)) (hw := (f91.yes rfl rfl)) fun a92 f92 => ?_
  refine R.u 19 f92 rfl ht ⟨HK, BP, Bg11, HKd⟩ (fun W hW => (by exact E.loadB f92 U28 rfl wsz28_zb rfl (hW.2.1) rfl)) (hw := (f92.yes rfl rfl)) fun a93 f93 => ?_
  refine R.u 21 f93 rfl ht ⟨HK, BP, Bg11, HKd⟩ (fun W hW => (by exact E.loadB f93 U28 rfl wsz28_zb rfl (hW.2.2.1) rfl)) (hw := (f93.yes rfl rfl)) fun a94 f94 => ?_
  refine R.u 22 f94 rfl ht ⟨HK, BP, Bg11, HKd⟩ (fun W hW => (by exact E.loadB f94 U28 rfl wsz28_zb rfl (hW.2.1) rfl)) (hw := (f94.yes rfl rfl)) fun a95 f95 => ?_
  clear f87 a87 f88 f89 a88 f90 a90 f91 a91 f92 a92 f93 a93 f94 a94
  refine R.call 20 f95 rfl rfl (by decide) (by kernel_rfl) (f95.yes rfl rfl) (run_call Tryd.call21 (args2 f95 rfl rfl)) (same_any d.1 (seatP k a0_ b c x) d.2 sP _ ((SE d hmem).1.kept HK1) (IP1.kept HK1) (SE d hmem).2.subs (SE d hmem).2.codes) ?_
  rintro e w19 ⟨kc19, rfl⟩
  have szw19 := kc19.size
  replace HK := HK.trans kc19 (by simp)
  replace HK1 := HK1.trans kc19 (by simp)
  replace BP := BP.kept kc19 (by simp)
  replace Bg11 := Bg11.kept kc19 (by simp)
  replace F10 := F10.kept0 kc19
  replace F11 := F11.kept0 kc19
  replace HKd := HKd.trans kc19 (by simp)
  refine ⟨_, rfl, ⟨HK, BP, Bg11, HKd⟩, fun a96 f96 => ?_⟩
  clear f95 a95 kc19
  refine R.call 23 f96 rfl rfl (by decide) (by kernel_rfl) (f96.yes rfl rfl) (run_call Tryd.call22 (args2 f96 rfl rfl)) (sameR_any d.1 (seatP k a0_ b c x) d.2 sP _ ((SE d hmem).1.kept HK1) (IP1.kept HK1) (SE d hmem).2.subs (SE d hmem).2.codes) ?_
  rintro e w20 ⟨kc20, rfl⟩
  have szw20 := kc20.size
  replace HK := HK.trans kc20 (by simp)
  replace HK1 := HK1.trans kc20 (by simp)
  replace BP := BP.kept kc20 (by simp)
  replace Bg11 := Bg11.kept kc20 (by simp)
  replace F10 := F10.kept0 kc20
  replace F11 := F11.kept0 kc20
  replace HKd := HKd.trans kc20 (by simp)
  refine ⟨_, rfl, ⟨HK, BP, Bg11, HKd⟩, fun a97 f97 => ?_⟩
  clear f96 a96 kc20
  refine R.u 24 f97 rfl ht ⟨HK, BP, Bg11, HKd⟩ (fun W hW => (E.neqB f97 U4 rfl rfl)) (hw := (f97.yes rfl rfl)) fun a98 f98 => ?_
  have f99 := f98.as (i := 140) (v' := .bool false) rfl (by simp)
  refine R.u 25 f99 rfl ht ⟨HK, BP, Bg11, HKd⟩ (fun W hW => (E.pickF f99 rfl rfl)) fun a100 f100 => ?_
  refine R.done (by kernel_rfl) (hK19 _ _ ?_)
  have f101 := f100.sub (sc 5 (sc 21 (sc 24 (sc 27 (sc 28 (sc 100 (sc 101 (sc 102 (sc 141 sn)))))))))
  refine C.condF f101 rfl ?_
  refine wp_skip (hK18 _ _ ?_)
  have f102 := f101.sub (sc 5 (sc 21 (sc 24 (sc 27 (sc 28 (sc 100 (sc 101 (sc 102 sn))))))))
  refine wp_seq_k fun K20 hK20 => ?_
  refine C.sk fun K21 hK21 => ?_
  refine L.mv f102 fun a103 f103 => ?_
  refine L.va f103 (E.neq f103 rfl rfl) fun a104 f104 => ?_
  refine wpList_nil (hK21 _ _ ?_)
  have f105 := f104.sub (sc 5 (sc 21 (sc 24 (sc 27 (sc 100 (sc 101 (sc 102 (sc 143 sn))))))))
  clear f97 a97 f98 f99 a98 f100 f101 f102 a100 f103 a103 f104
  refine f105.splitN 143 rfl (fun h4 f106 => ?_) (fun h4 f106 => ?_)
  ·refine C.condT f106 rfl ?_
   refine wp_exit (hK14 _ _ ?_)
   have f107 := f106.sub (sc 5 (sc 21 (sc 100 (sc 101 (sc 102 sn)))))
   refine C.region ?_
   refine L.va f107 (E.add f107 rfl rfl (IntWalk.i64_in _ (by omega))) fun a108 f108 => ?_
   refine L.mv f108 fun a109 f109 => ?_
   clear f105 f106 f107 a104 f108 a108
   refine wpList_nil (hKL11 _ _ (gk12 - 1) ?_ ?_)
   ·omega
   exact ⟨i + 1, by omega, HK, HK1, BP, f109.sub (sub_cons rfl (sub_cons rfl (sub_cons rfl (sub_cons rfl (sub_cons rfl sn)))))⟩
  have hr : rightB d.1 = true := putB_0 (by omega)
  have rD := rightB_iff.1 hr
  have hpe : (putB d.1).1 = encL d.1 := by rw [putB_t hr]
  have hle := enc_le rD
  rw [← hpe] at hle
  refine C.condF f106 rfl ?_
  refine wp_skip (hK20 _ _ ?_)
  have f107 := f106.sub (sc 5 (sc 21 (sc 24 (sc 27 (sc 100 (sc 101 (sc 102 sn)))))))
  refine C.sk fun K22 hK22 => ?_
  refine L.mv f107 fun a108 f108 => ?_
  refine L.append f108 wantedN (by decide) U22 wzib5_zb rfl rfl rfl rfl (Own.nil _ _ _) (F11.sl) (u8_one) (by unfold maxLen; omega) (by omega) fun a109 w21 AM cM AP21 f109 => ?_
  have kap21 : Kept [] w20 w21 := by simpa [Value.ownBlock] using AP21.kept
  have FQ : FB w10 w21 AM cM (putB d.1).1 := by have h := AP21.next (Fresh.nil _ w20 _ _) HK1.size; simpa only [FB, Nat.zero_add, List.nil_append] using h
  simp only [Nat.zero_add] at f109
  have szw21 := kap21.size
  replace HK := HK.trans kap21 (by simp)
  replace HK1 := HK1.trans kap21 (by simp)
  replace BP := BP.kept kap21 (by simp)
  replace Bg11 := Bg11.kept kap21 (by simp)
  clear f105 f106 f107 a104 f108 a108 kap21
  refine L.mv f109 fun a110 f110 => ?_
  refine L.append f110 wantedN (by decide) U22 wzib5_zb rfl rfl rfl rfl FQ.own (SX.kept HK) (u8_one) (by (simp only [List.length_append, maxLen]; omega)) (by omega) fun a111 w22 A22 c22 AP22 f111 => ?_
  have FN22 := AP22.nextB FQ HK1.size (x) (rfl) (rfl)
  have kap22 := AP22.kept
  have szw22 := kap22.size
  replace HK := (FB.lower FQ szb).rel HK kap22
  replace HK1 := FQ.rel HK1 kap22
  replace BP := BP.kept kap22 (own_ne FQ.own BP (by decide))
  replace Bg11 := Bg11.kept kap22 (own_ne FQ.own Bg11 (by decide))
  clear f109 a109 f110 a110 kap22 AP22 FQ
  have f112 := f111.as (i := 148) rfl (sl_lenF FN22 (rfl))
  have hcN := own_cap FN22.own
  have SN := FN22.sl
  have hex : readP ((putB d.1).1 ++ x) = (d.1, ((putB d.1).1.length : Int), 0) := by rw [hpe]; exact read_enc rD x
  have hC := (wread_any ((putB d.1).1 ++ x) A22 c22 w22 SN hcN (by simp only [List.length_append]; omega) (hT.old (HK.below (by simp) (Nat.le_refl _)))).mono (fun _ _ h => readV_of (v := (d.1, ((putB d.1).1.length : Int), 0)) hex h)
  refine L.cl f112 (run_call Tryd.call23 (args1 f112 rfl)) hC ?_
  clear f111
  rintro e w23 ⟨kc23, hplz, sz_, rfl, IZ⟩
  refine ⟨_, rfl, fun a113 f113 => ?_⟩
  have szw23 := kc23.size
  replace HK := HK.trans kc23 (by simp)
  replace HK1 := HK1.trans kc23 (by simp)
  replace BP := BP.kept kc23 (by simp)
  replace Bg11 := Bg11.kept kc23 (by simp)
  clear f112 a111 kc23
  refine L.mv f113 fun a114 f114 => ?_
  refine L.va f114 (E.extract f114 rfl rfl) fun a115 f115 => ?_
  refine L.va f115 (E.extract f115 rfl rfl) fun a116 f116 => ?_
  refine L.va f116 (E.extract f116 rfl rfl) fun a117 f117 => ?_
  refine L.alloc f117 wantedN (by decide) (z := (.agg #[(.int .i64 0), (.bool false), (.bool false), (.int .i64 0), (.int .i64 0), (.string ⟨#[]⟩), (.slice none 0 0), (.int .i64 0), (.string ⟨#[]⟩), (.bool false), (.int .i64 0), (.bool false), (.string ⟨#[]⟩), (.slice none 0 0), (.int .i64 0), (.bool false), (.bool false), (.bool false), (.string ⟨#[]⟩), (.slice none 0 0), (.bool false), (.int .i64 0), (.slice none 0 0), (.slice none 0 0)])) (fun _ => by kernel_rfl) rfl fun a118 w24 g23 N23 f118 => ?_
  have Bg23 := N23.blk
  have kg23 := N23.kept
  have log23 := N23.lo
  have ltg23 := Bg23.lt
  have szw24 := kg23.size
  have frg23 : w.heap.size ≤ g23 := Nat.le_trans HK.size log23
  have frg23_HK1 : w10.heap.size ≤ g23 := Nat.le_trans HK1.size log23
  have negp_g23 : gp ≠ g23 := by have := BP.lt; omega
  have neg11_g23 : g11 ≠ g23 := by have := Bg11.lt; omega
  have FIg23_IZ := IZ.far log23
  replace HK := HK.trans kg23 (by simp)
  replace HK1 := HK1.trans kg23 (by simp)
  replace BP := BP.kept kg23 (by simp)
  replace Bg11 := Bg11.kept kg23 (by simp)
  replace IZ := IZ.kept kg23
  clear f113 a113 f114 a114 f115 a115 f116 a116 N23 kg23
  refine L.storeR f118 wantedN wsz28_zb rfl rfl rfl Bg23 rfl rfl fun a119 w25 f119 NB25 ks25 => ?_
  have szw25 := ks25.size
  replace HK := HK.trans ks25 (ktr (by omega))
  replace HK1 := HK1.trans ks25 (ktr (by omega))
  replace BP := BP.kept ks25 (by simp; omega)
  replace Bg11 := Bg11.kept ks25 (by simp; omega)
  replace IZ := IZ.keptF ks25 FIg23_IZ
  replace Bg23 := NB25
  clear f117 a117 ks25 f118 a118
  refine L.ag f119 fun a120 f120 => ?_
  refine L.ag f120 fun a121 f121 => ?_
  refine wpList_nil (hK22 _ _ ?_)
  have f122 := f121.sub (sc 5 (sc 21 (sc 24 (sc 27 (sc 29 (sc 30 (sc 31 (sc 100 (sc 101 (sc 102 sn))))))))))
  refine C.sk fun K23 hK23 => ?_
  refine L.mv f122 fun a123 f123 => ?_
  refine L.va f123 (E.neq f123 rfl rfl) fun a124 f124 => ?_
  have f125 := f124.as (i := 154) (v' := .bool false) rfl (by simp)
  refine L.mv f125 fun a126 f126 => ?_
  refine L.mv f126 (hw := (f126.yes rfl rfl)) fun a127 f127 => ?_
  clear f119 a119 f120 a120 f121 f122 a121 f123 a123 f124 f125 a124 f126 a126
  refine L.mv f127 (hw := (f127.yes rfl rfl)) fun a128 f128 => ?_
  refine L.va f128 (E.lenL f128 U22 rfl) (hw := (f128.yes rfl rfl)) fun a129 f129 => ?_
  refine L.va f129 (E.neq f129 rfl rfl) (hw := (f129.yes rfl rfl)) fun a130 f130 => ?_
  have f131 := f130.as (i := 159) (v' := .bool false) rfl (by simp)
  refine L.va f131 (E.pickF f131 rfl rfl) fun a132 f132 => ?_
  refine L.mv f132 fun a133 f133 => ?_
  refine L.va f133 (by exact E.loadB f133 U28 rfl wsz28_zb rfl (Bg23) rfl) (hw := (f133.yes rfl rfl)) fun a134 f134 => ?_
  refine L.va f134 (by exact E.loadB f134 U28 rfl wsz28_zb rfl (Bg11) rfl) (hw := (f134.yes rfl rfl)) fun a135 f135 => ?_
  clear f127 a127 f128 a128 f129 a129 f130 f131 a130 f132 a132 f133 a133 f134 a134
  refine L.cl f135 (run_call Tryd.call22 (args2 f135 rfl rfl)) (sameR_any d.1 d.1 sz_ d.2 _ IZ ((SE d hmem).1.kept HK1) hplz.subs hplz.codes) ?_ (hw := (f135.yes rfl rfl))
  rintro e w26 ⟨kc26, rfl⟩
  refine ⟨_, rfl, fun a136 f136 => ?_⟩
  have szw26 := kc26.size
  replace HK := HK.trans kc26 (by simp)
  replace HK1 := HK1.trans kc26 (by simp)
  replace BP := BP.kept kc26 (by simp)
  replace Bg11 := Bg11.kept kc26 (by simp)
  replace IZ := IZ.kept kc26
  replace Bg23 := Bg23.kept kc26 (by simp)
  clear f135 a135 kc26
  refine L.va f136 (E.not f136 rfl) (hw := (f136.yes rfl rfl)) fun a137 f137 => ?_
  have f138 := f137.as (i := 165) (v' := .bool false) rfl (by rw [samePk_iff.2 rfl]; rfl)
  refine L.va f138 (E.pickF f138 rfl rfl) fun a139 f139 => ?_
  refine wpList_nil (hK23 _ _ ?_)
  have f140 := f139.sub (sc 5 (sc 21 (sc 100 (sc 101 (sc 102 (sc 166 sn))))))
  refine C.condF f140 rfl ?_
  refine wp_skip (hK14 _ _ ?_)
  have f141 := f140.sub (sc 5 (sc 21 (sc 100 (sc 101 (sc 102 sn)))))
  refine C.region ?_
  refine L.va f141 (E.add f141 rfl rfl (IntWalk.i64_in _ (by omega))) fun a142 f142 => ?_
  refine L.mv f142 fun a143 f143 => ?_
  clear f136 a136 f137 f138 a137 f139 f140 f141 a139 f142 a142
  refine wpList_nil (hKL11 _ _ (gk12 - 1) ?_ ?_)
  ·omega
  exact ⟨i + 1, by omega, HK, HK1, BP, f143.sub (sub_cons rfl (sub_cons rfl (sub_cons rfl (sub_cons rfl (sub_cons rfl sn)))))⟩
 refine C.condF f48 rfl ?_
 refine wp_exit (hK10 _ _ ?_)
 have f49 := f48.sub sn
 refine C.sk fun K24 hK24 => ?_
 refine L.ag f49 fun a50 f50 => ?_
 refine wpList_nil (hK24 _ _ ?_)
 have f51 := f50.sub (sc 20 sn)
 refine wp_ret ?_
 try simp only [Exit.inBlock, Exit.then]
 refine C.ret (P := Tryd.prog) (fn := Tryd.f3) f51 rfl rfl ?_
 exact ⟨HK, rfl⟩
end Go.Proofs.YtigjafbbnocihaaDoor
namespace Go.Hub
open Go.RowKit Go.ChangeShapes Go.WideShapes Go.Deep
section
variable {H : Type} {enc : TypeId × Value → H} {P : Program} {w : World} {spare : Nat → Bool} {held : Bool}
theorem spot0 {b off : Nat} {s : Option Nat} {v : Value} (h : w.cell? ⟨b, off, s⟩ = some v) : s = none := World.cell?_spot h
theorem open_seq {M : Type} {t e size : Nat} {v : Value} {d : DataW H} {p : List MemPlace} {rel : List Value → M → Prop} (hsz : P.cellsOf e = size) (hpos : 0 < size) (ht : P.underlying t = some (.slice e))
    (hv : ∃ a len cap, v = .slice a len cap) (h : DataW.Trod enc P w 0 spare held t v d p) (hel : ∀ n cs y, DataW.trod enc P w 0 spare held n e cs = some y → ∃ m, rel cs m) :
    ∃ A len cap xs ms, v = .slice A len cap ∧ len ≤ cap ∧ cap ≤ maxLen ∧ ms.length = len ∧ Rds w w.heap.size size A len xs ∧ Seq size rel xs ms := by
  obtain ⟨a, len, cap, rfl⟩ := hv
  obtain ⟨fuel, hf⟩ := h
  rcases open_slice ht hf with ⟨hcs, _⟩ | ⟨a', len', cap', m, n, D, Pl, hcs, _, hl, hm, hmm, _, hi⟩
  · simp [Value.cells] at hcs
    obtain ⟨rfl, rfl, rfl⟩ := hcs
    exact ⟨none, 0, 0, [], [], rfl, Nat.le_refl _, by simp [maxLen], rfl, Rds.nil _ _ _ _, Seq.nil _ _⟩
  · simp [Value.cells] at hcs
    obtain ⟨rfl, rfl, rfl⟩ := hcs
    obtain ⟨b, off, s⟩ := a'
    have hlm : len ≤ m := by rw [hmm]; split <;> omega
    have key : ∀ k, k ≤ len → ∃ xs ms, ms.length = k ∧ Seq size rel xs ms ∧ (0 < k → s = none ∧ b < w.heap.size ∧ ∀ j u, xs[j]? = some u → w.cell? ⟨b, off + j, none⟩ = some u) := by
      intro k
      induction k with
      | zero => exact fun _ => ⟨[], [], rfl, Seq.nil _ _, fun h => absurd h (by omega)⟩
      | succ k ih =>
        intro hk
        obtain ⟨xs, ms, h1, h2, h3⟩ := ih (by omega)
        obtain ⟨cs', hc, htr⟩ := hi k (by omega)
        rw [hsz] at hc
        obtain ⟨_, hcl, hat⟩ := World.cells?_some hc
        obtain ⟨mm, hmm'⟩ := hel _ _ _ htr
        have hs : s = none ∧ b < w.heap.size := by
          rcases Nat.eq_zero_or_pos k with h0 | h0
          · subst h0
            have h00 := hat 0 hpos
            have e0 : cs'[0]? = some (cs'[0]'(by omega)) := List.getElem?_eq_getElem (by omega)
            rw [e0, Nat.zero_mul] at h00
            have h01 : w.cell? ⟨b, off, s⟩ = some (cs'[0]'(by omega)) := by simpa [Addr.add] using h00
            exact ⟨spot0 h01, World.block_lt_of_cell? w _ h01⟩
          · exact ⟨(h3 h0).1, (h3 h0).2.1⟩
        obtain ⟨rfl, hbw⟩ := hs
        refine ⟨xs ++ cs', ms ++ [mm], by simp [h1], h2.append (Seq.one hcl hmm'), fun _ => ⟨rfl, hbw, fun j u hu => ?_⟩⟩
        rcases Nat.lt_or_ge j xs.length with hj | hj
        · rw [List.getElem?_append_left hj] at hu
          have hk0 : 0 < k := by
            rcases Nat.eq_zero_or_pos k with h0 | h0
            · have := h2.1; rw [h1, h0] at this; omega
            · exact h0
          exact (h3 hk0).2.2 j u hu
        · rw [List.getElem?_append_right hj] at hu
          have hlt : j - xs.length < cs'.length := by
            rcases Nat.lt_or_ge (j - xs.length) cs'.length with h | h
            · exact h
            · rw [List.getElem?_eq_none h] at hu; cases hu
          have := hat (j - xs.length) (by omega)
          rw [hu, add_none, add_none] at this
          have e1 := h2.1
          rw [h1] at e1
          rw [show off + k * size + (j - xs.length) = off + j from by omega] at this
          exact this
    obtain ⟨xs, ms, h1, h2, h3⟩ := key len (Nat.le_refl _)
    refine ⟨_, len, cap, xs, ms, rfl, hl, hm, h1, ⟨by rw [h2.1, h1], fun hp => ?_⟩, h2⟩
    obtain ⟨rfl, hb, hc⟩ := h3 hp
    exact ⟨b, off, rfl, hb, hc⟩
theorem open_bytes {t e n : Nat} {cs : List Value} {y : DataW H × List MemPlace} (E : List TypeId) (ht : P.underlying t = some (.slice e)) (he : P.underlying e = some (.int .u8)) (hsz : P.cellsOf e = 1)
    (h : DataW.trod enc P w 0 spare held n t cs = some y) : ∃ A c l, cs = [.slice A l.length c] ∧ l.length ≤ maxLen ∧ Bs E w.heap.size w A l.length l := by
  rcases open_ints ht he hsz h with ⟨rfl, _⟩ | ⟨a, len, cap, zs, rfl, _, hl, hm, hz, _, hc, hw⟩
  · exact ⟨none, 0, [], rfl, by simp [maxLen], Bs.nil _ _ _ _⟩
  · have hzl : len ≤ zs.length := by rw [hz]; split <;> omega
    have hlen : ((zs.take len).map fun z => UInt8.ofNat z.toNat).length = len := by simp; omega
    refine ⟨some a, cap, (zs.take len).map fun z => UInt8.ofNat z.toNat, by rw [hlen], by rw [hlen]; omega, ?_⟩
    rw [hlen]
    refine ⟨hlen, fun hp => ?_⟩
    obtain ⟨b, off, s⟩ := a
    have h0 := hc 0 (by omega)
    have h01 : w.cell? ⟨b, off, s⟩ = some (.int .u8 (zs.getD 0 0)) := by simpa [Addr.add] using h0
    obtain rfl := spot0 h01
    have hbw := World.block_lt_of_cell? w _ h01
    refine ⟨b, off, rfl, hbw, .inl hbw, fun j x hx => ?_⟩
    simp only [List.getElem?_map, Option.map_eq_some_iff] at hx
    obtain ⟨z, hz2, rfl⟩ := hx
    have hj : j < len := by
      rcases Nat.lt_or_ge j len with h | h
      · exact h
      · rw [List.getElem?_take, if_neg (by omega)] at hz2; cases hz2
    rw [List.getElem?_take, if_pos hj] at hz2
    have := hc j (by omega)
    rw [add_none] at this
    rw [this]
    have hzw := bd_u8 (hw z (List.mem_of_getElem? hz2))
    have e1 : zs.getD j 0 = z := by simp [List.getD_eq_getElem?_getD, hz2]
    rw [e1]
    unfold u8
    rw [UInt8.toNat_ofNat']
    congr 2
    omega
theorem arg_bytes {t e b0 : Nat} {r : Reach} {v : Value} {d : DataW H} {p : List MemPlace} (E : List TypeId) (ht : P.underlying t = some (.slice e)) (he : P.underlying e = some (.int .u8)) (hsz : P.cellsOf e = 1)
    (hv : Value.okWide P w r b0 t v) (h : DataW.Trod enc P w 0 spare held t v d p) : ∃ A c l, v = .slice A (l : List UInt8).length c ∧ l.length ≤ maxLen ∧ Bs E w.heap.size w A l.length l := by
  obtain ⟨a, len, cap, rfl⟩ := okWide_slice ht hv
  obtain ⟨fuel, hf⟩ := h
  obtain ⟨A, c, l, hcs, h1, h2⟩ := open_bytes E ht he hsz hf
  have e1 : [Value.slice a len cap] = [Value.slice A l.length c] := by rw [← hcs]; rfl
  injection e1 with e1
  exact ⟨A, c, l, e1, h1, h2⟩
end
end Go.Hub
namespace Go.Proofs.YtigjafbbnocihaaDoor
open Go.RowKit Go.Hub Go.Lib Go.Shelf Go.ChangeShapes Go.WideShapes Go.Deep
def laidU : List (String × DataW Unit) := [("unicode/utf8.acceptRanges", Rows.laid_unicode_utf8_acceptRanges), ("unicode/utf8.first", Rows.laid_unicode_utf8_first)]
def tabRen : Ren := ⟨fun n => n, fun | 119 => 121 | 138 => 123 | 139 => 124 | n => n, fun | 3 => 0 | 4 => 1 | n => n⟩
theorem tabTypes : U8Types Tryd.prog tabRen := { t5 := by kernel_rfl, t119 := by kernel_rfl, t138 := by kernel_rfl, t139 := by kernel_rfl }
theorem tabExtra : U8Extra Tryd.prog tabRen := { n3 := by kernel_rfl, n4 := by kernel_rfl, y3 := by kernel_rfl, y4 := by kernel_rfl, c5 := by kernel_rfl, c119 := by kernel_rfl, c138 := by kernel_rfl }
theorem first_eq : Rows.laid_unicode_utf8_first = firstData := by kernel_rfl
theorem accept_eq : (Rows.laid_unicode_utf8_acceptRanges : DataW Unit) = acceptData := by kernel_rfl
theorem tabs_of {w : World} (h : laidMet Tryd.prog laidU w) : Tabs w := by
  have h1 := laidMet.reads h (n := "unicode/utf8.first") (d := Rows.laid_unicode_utf8_first) (by simp [laidU])
  have h2 := laidMet.reads h (n := "unicode/utf8.acceptRanges") (d := Rows.laid_unicode_utf8_acceptRanges) (by simp [laidU])
  rw [first_eq] at h1
  rw [accept_eq] at h2
  exact utf8Tabs_of_readsT tabTypes tabExtra h1 h2
theorem laid_filter : (laidU.filter fun x => x.2.handleName?.isSome) = [] := by kernel_rfl
theorem met_of {w : World} (h : laidMetH Tryd.prog laidU w) : laidMet Tryd.prog laidU w := by
  unfold laidMetH at h
  rw [laid_filter] at h
  exact h
def layIn (cs : List Value) : Obj → Obj
  | .cells _ t frozen => .cells cs.toArray t frozen
  | o => o
def firstCells : List Value := (List.range 256).map fun c => Value.int .u8 (firstT c : Int)
def acceptCells : List Value := (List.range 32).map fun c => Value.int .u8 (if c % 2 = 0 then (accLo (c / 2) : Int) else (accHi (c / 2) : Int))
noncomputable def laidWorld (os : Os) : World :=
  { World.holding Tryd.prog os ⟨#[], #[], []⟩ with heap := ((World.holding Tryd.prog os ⟨#[], #[], []⟩).heap.modify 0 (layIn firstCells)).modify 1 (layIn acceptCells) }
section
variable {H : Type} {enc : TypeId × Value → H} {w : World} {spare : Nat → Bool} {held : Bool}
def IsBs (w : World) (v : Value) : Prop := ∃ (us : List UInt8) (A : Option Addr) (c : Nat), v = .slice A us.length c ∧ Sl w A us.length 1 (us.map u8) ∧ us.length ≤ c
theorem arg_cap {t e n c : Nat} {A : Option Addr} {d : DataW H} {p : List MemPlace} (ht : Tryd.prog.underlying t = some (.slice e)) (h : DataW.Trod enc Tryd.prog w 0 spare held t (.slice A n c) d p) : n ≤ c := by
  obtain ⟨fuel, hf⟩ := h
  rcases open_slice ht hf with ⟨hcs, _⟩ | ⟨a', len', cap', m, n, D, Pl, hcs, _, hl, hm, hmm, _, hi⟩
  · simp [Value.cells] at hcs
    obtain ⟨rfl, rfl, rfl⟩ := hcs
    exact Nat.le_refl _
  simp [Value.cells] at hcs
  obtain ⟨rfl, rfl, rfl⟩ := hcs
  omega
set_option maxRecDepth 100000 in
theorem arg_us {b0 : Nat} {r : Reach} {v : Value} {d : DataW H} {p : List MemPlace} (hv : Value.okWide Tryd.prog w r b0 22 v) (h : DataW.Trod enc Tryd.prog w 0 spare held 22 v d p) : IsBs w v := by
  obtain ⟨A, c, l, rfl, _, h2⟩ := arg_bytes [5] U22 U5 (show Tryd.prog.cellsOf 5 = 1 by kernel_rfl) hv h
  exact ⟨l, A, c, rfl, h2.toSl, arg_cap U22 h⟩
end
theorem end_of {e : Ending} {w w' : World} (h : Kept [] w w' ∧ e = .returned (.bool true)) : e = .returned (.bool true) ∧ Below w.heap.size w w' := ⟨h.2, h.1.below0⟩
theorem bd8 {k : Int} (h : (Lit.int .u8 k).wf = true) : 0 ≤ k ∧ k < 256 := by have := bd_u8 h; omega
end Go.Proofs.YtigjafbbnocihaaDoor
set_option maxRecDepth 100000
namespace Go.Proofs.YtigjafbbnocihaaDoor
open Go.RowKit Go.Hub Go.ChangeShapes Go.WideShapes Go.Deep
def _root_.Go.Hub.Pk.Fits (p : Pk) : Prop := p.pay.length ≤ maxLen ∧ p.wp.length ≤ maxLen ∧ p.pass.length ≤ maxLen ∧ p.subs.length ≤ maxLen ∧ p.codes.length ≤ maxLen
section
variable {H : Type} {enc : TypeId × Value → H} {w : World} {spare : Nat → Bool} {held : Bool}
theorem open_sub (n : Nat) (cs : List Value) (y : DataW H × List MemPlace) (h : DataW.trod enc Tryd.prog w 0 spare held n 70 cs = some y) : ∃ s : ByteArray × Int, cs = [.string s.1, .int .i64 s.2] := by
  obtain ⟨ys, n', _, _, hcl, hyl, hf⟩ := DataW.trod_struct U70 h
  have hcells : Tryd.prog.cellsOf 70 = 2 := by kernel_rfl
  rw [hcells] at hcl
  match cs, hcl with
  | [v0, v1], _ =>
    have c9 : Tryd.prog.cellsOf 9 = 1 := by kernel_rfl
    have c3 : Tryd.prog.cellsOf 3 = 1 := by kernel_rfl
    have f0 : DataW.trod enc Tryd.prog w 0 spare held n' 9 [v0] = ys[0]? := by have := hf 0 _ rfl; simpa [c9] using this
    have f1 : DataW.trod enc Tryd.prog w 0 spare held n' 3 [v1] = ys[1]? := by have := hf 1 _ rfl; simpa [c3] using this
    have l2 : ys.length = 2 := hyl
    rw [List.getElem?_eq_getElem (by omega)] at f0 f1
    obtain ⟨s, e0, _, _⟩ := DataW.trod_string U9 f0
    obtain ⟨q, e1, _, _⟩ := DataW.trod_int U3 f1
    simp at e0 e1
    subst e0 e1
    exact ⟨(s, q), rfl⟩
theorem open_int1 (n : Nat) (cs : List Value) (y : DataW H × List MemPlace) (h : DataW.trod enc Tryd.prog w 0 spare held n 3 cs = some y) : ∃ q : Int, cs = [.int .i64 q] := by
  obtain ⟨q, e1, _, _⟩ := DataW.trod_int U3 h
  exact ⟨q, e1⟩
theorem seq_subs {xs : List Value} {ms : List (ByteArray × Int)} (h : Seq 2 (fun cs s => cs = [.string s.1, .int .i64 s.2]) xs ms) : xs = subCells ms := by
  induction ms generalizing xs with
  | nil => have := h.1; simp at this; subst this; rfl
  | cons m r ih =>
    have h0 := h.2 0 m rfl
    have hd := ih (h.drop 1)
    simp at h0
    have e : xs = xs.take 2 ++ xs.drop 2 := (List.take_append_drop 2 xs).symm
    rw [e, h0]
    simp at hd
    rw [hd]
    simp [subCells]
theorem seq_codes {xs : List Value} {ms : List Int} (h : Seq 1 (fun cs q => cs = [.int .i64 q]) xs ms) : xs = codeCells ms := by
  induction ms generalizing xs with
  | nil => have := h.1; simp at this; subst this; rfl
  | cons m r ih =>
    have h0 := h.2 0 m rfl
    have hd := ih (h.drop 1)
    simp at h0
    have e : xs = xs.take 1 ++ xs.drop 1 := (List.take_append_drop 1 xs).symm
    rw [e, h0]
    simp at hd
    rw [List.drop_one, hd]
    simp [codeCells]
theorem cs_of_rds {E : List TypeId} {A : Option Addr} {n size : Nat} {xs : List Value} (h : Rds w w.heap.size size A n xs) : Cs E w.heap.size w A n size xs :=
  ⟨h.1, fun hn => by
    obtain ⟨b, off, e, hb, hc⟩ := h.2 hn
    exact ⟨b, off, e, hb, .inl hb, hc⟩⟩
theorem trod_slice1 {t e n : Nat} {v : Value} {y : DataW H × List MemPlace} (hu : Tryd.prog.underlying t = some (.slice e)) (h : DataW.trod enc Tryd.prog w 0 spare held n t [v] = some y) : ∃ a len cap, v = .slice a len cap := by
  rcases open_slice hu h with ⟨hcs, _⟩ | ⟨a', len', cap', m, n, D, Pl, hcs, _⟩
  · simp at hcs; exact ⟨_, _, _, hcs⟩
  simp at hcs; exact ⟨_, _, _, hcs⟩
theorem open_packet (n : Nat) (cs : List Value) (y : DataW H × List MemPlace) (h : DataW.trod enc Tryd.prog w 0 spare held n 28 cs = some y) : ∃ p s, cs = (Pk.cells p s).toList ∧ p.Ok [5, 70, 3] w.heap.size w s ∧ p.Fits := by
  obtain ⟨ys, n', _, _, hcl, hyl, hf⟩ := DataW.trod_struct U28 h
  have hcells : Tryd.prog.cellsOf 28 = 24 := by kernel_rfl
  rw [hcells] at hcl
  match cs, hcl with
  | [v0, v1, v2, v3, v4, v5, v6, v7, v8, v9, v10, v11, v12, v13, v14, v15, v16, v17, v18, v19, v20, v21, v22, v23], _ =>
    have k3 : Tryd.prog.cellsOf 3 = 1 := by kernel_rfl
    have k4 : Tryd.prog.cellsOf 4 = 1 := by kernel_rfl
    have k9 : Tryd.prog.cellsOf 9 = 1 := by kernel_rfl
    have k22 : Tryd.prog.cellsOf 22 = 1 := by kernel_rfl
    have k24 : Tryd.prog.cellsOf 24 = 4 := by kernel_rfl
    have k25 : Tryd.prog.cellsOf 25 = 1 := by kernel_rfl
    have k26 : Tryd.prog.cellsOf 26 = 1 := by kernel_rfl
    have l21 : ys.length = 21 := hyl
    have f0 : DataW.trod enc Tryd.prog w 0 spare held n' 3 [v0] = ys[0]? := by have := hf 0 _ rfl; simpa [k3] using this
    rw [List.getElem?_eq_getElem (by omega)] at f0
    have f1 : DataW.trod enc Tryd.prog w 0 spare held n' 4 [v1] = ys[1]? := by have := hf 1 _ rfl; simpa [k4] using this
    rw [List.getElem?_eq_getElem (by omega)] at f1
    have f2 : DataW.trod enc Tryd.prog w 0 spare held n' 4 [v2] = ys[2]? := by have := hf 2 _ rfl; simpa [k4] using this
    rw [List.getElem?_eq_getElem (by omega)] at f2
    have f3 : DataW.trod enc Tryd.prog w 0 spare held n' 3 [v3] = ys[3]? := by have := hf 3 _ rfl; simpa [k3] using this
    rw [List.getElem?_eq_getElem (by omega)] at f3
    have f4 : DataW.trod enc Tryd.prog w 0 spare held n' 3 [v4] = ys[4]? := by have := hf 4 _ rfl; simpa [k3] using this
    rw [List.getElem?_eq_getElem (by omega)] at f4
    have f5 : DataW.trod enc Tryd.prog w 0 spare held n' 9 [v5] = ys[5]? := by have := hf 5 _ rfl; simpa [k9] using this
    rw [List.getElem?_eq_getElem (by omega)] at f5
    have f6 : DataW.trod enc Tryd.prog w 0 spare held n' 22 [v6] = ys[6]? := by have := hf 6 _ rfl; simpa [k22] using this
    rw [List.getElem?_eq_getElem (by omega)] at f6
    have f7 : DataW.trod enc Tryd.prog w 0 spare held n' 3 [v7] = ys[7]? := by have := hf 7 _ rfl; simpa [k3] using this
    rw [List.getElem?_eq_getElem (by omega)] at f7
    have f8 : DataW.trod enc Tryd.prog w 0 spare held n' 9 [v8] = ys[8]? := by have := hf 8 _ rfl; simpa [k9] using this
    rw [List.getElem?_eq_getElem (by omega)] at f8
    have f9 : DataW.trod enc Tryd.prog w 0 spare held n' 4 [v9] = ys[9]? := by have := hf 9 _ rfl; simpa [k4] using this
    rw [List.getElem?_eq_getElem (by omega)] at f9
    have f10 : DataW.trod enc Tryd.prog w 0 spare held n' 3 [v10] = ys[10]? := by have := hf 10 _ rfl; simpa [k3] using this
    rw [List.getElem?_eq_getElem (by omega)] at f10
    have f11 : DataW.trod enc Tryd.prog w 0 spare held n' 4 [v11] = ys[11]? := by have := hf 11 _ rfl; simpa [k4] using this
    rw [List.getElem?_eq_getElem (by omega)] at f11
    have f12 : DataW.trod enc Tryd.prog w 0 spare held n' 24 [v12, v13, v14, v15] = ys[12]? := by have := hf 12 _ rfl; simpa [k24] using this
    rw [List.getElem?_eq_getElem (by omega)] at f12
    have f13 : DataW.trod enc Tryd.prog w 0 spare held n' 4 [v16] = ys[13]? := by have := hf 13 _ rfl; simpa [k4] using this
    rw [List.getElem?_eq_getElem (by omega)] at f13
    have f14 : DataW.trod enc Tryd.prog w 0 spare held n' 4 [v17] = ys[14]? := by have := hf 14 _ rfl; simpa [k4] using this
    rw [List.getElem?_eq_getElem (by omega)] at f14
    have f15 : DataW.trod enc Tryd.prog w 0 spare held n' 9 [v18] = ys[15]? := by have := hf 15 _ rfl; simpa [k9] using this
    rw [List.getElem?_eq_getElem (by omega)] at f15
    have f16 : DataW.trod enc Tryd.prog w 0 spare held n' 22 [v19] = ys[16]? := by have := hf 16 _ rfl; simpa [k22] using this
    rw [List.getElem?_eq_getElem (by omega)] at f16
    have f17 : DataW.trod enc Tryd.prog w 0 spare held n' 4 [v20] = ys[17]? := by have := hf 17 _ rfl; simpa [k4] using this
    rw [List.getElem?_eq_getElem (by omega)] at f17
    have f18 : DataW.trod enc Tryd.prog w 0 spare held n' 3 [v21] = ys[18]? := by have := hf 18 _ rfl; simpa [k3] using this
    rw [List.getElem?_eq_getElem (by omega)] at f18
    have f19 : DataW.trod enc Tryd.prog w 0 spare held n' 25 [v22] = ys[19]? := by have := hf 19 _ rfl; simpa [k25] using this
    rw [List.getElem?_eq_getElem (by omega)] at f19
    have f20 : DataW.trod enc Tryd.prog w 0 spare held n' 26 [v23] = ys[20]? := by have := hf 20 _ rfl; simpa [k26] using this
    rw [List.getElem?_eq_getElem (by omega)] at f20
    obtain ⟨zs, n2, _, _, _, hzl, hg⟩ := DataW.trod_struct U24 f12
    have l4 : zs.length = 4 := hzl
    have g0 : DataW.trod enc Tryd.prog w 0 spare held n2 9 [v12] = zs[0]? := by have := hg 0 _ rfl; simpa [k9] using this
    have g1 : DataW.trod enc Tryd.prog w 0 spare held n2 22 [v13] = zs[1]? := by have := hg 1 _ rfl; simpa [k22] using this
    have g2 : DataW.trod enc Tryd.prog w 0 spare held n2 3 [v14] = zs[2]? := by have := hg 2 _ rfl; simpa [k3] using this
    have g3 : DataW.trod enc Tryd.prog w 0 spare held n2 4 [v15] = zs[3]? := by have := hg 3 _ rfl; simpa [k4] using this
    rw [List.getElem?_eq_getElem (by omega)] at g0 g1 g2 g3
    obtain ⟨x0, e0, _, _⟩ := DataW.trod_int U3 f0
    obtain ⟨x1, e1, _⟩ := DataW.trod_bool U4 f1
    obtain ⟨x2, e2, _⟩ := DataW.trod_bool U4 f2
    obtain ⟨x3, e3, _, _⟩ := DataW.trod_int U3 f3
    obtain ⟨x4, e4, _, _⟩ := DataW.trod_int U3 f4
    obtain ⟨x5, e5, _, _⟩ := DataW.trod_string U9 f5
    obtain ⟨A6, c6, x6, e6, l6, o6⟩ := open_bytes [5, 70, 3] U22 U5 (by kernel_rfl) f6
    obtain ⟨x7, e7, _, _⟩ := DataW.trod_int U3 f7
    obtain ⟨x8, e8, _, _⟩ := DataW.trod_string U9 f8
    obtain ⟨x9, e9, _⟩ := DataW.trod_bool U4 f9
    obtain ⟨x10, e10, _, _⟩ := DataW.trod_int U3 f10
    obtain ⟨x11, e11, _⟩ := DataW.trod_bool U4 f11
    obtain ⟨x16, e16, _⟩ := DataW.trod_bool U4 f13
    obtain ⟨x17, e17, _⟩ := DataW.trod_bool U4 f14
    obtain ⟨x18, e18, _, _⟩ := DataW.trod_string U9 f15
    obtain ⟨A19, c19, x19, e19, l19, o19⟩ := open_bytes [5, 70, 3] U22 U5 (by kernel_rfl) f16
    obtain ⟨x20, e20, _⟩ := DataW.trod_bool U4 f17
    obtain ⟨x21, e21, _, _⟩ := DataW.trod_int U3 f18
    obtain ⟨a22, l22_, d22, e22⟩ := trod_slice1 U25 f19
    obtain ⟨a23, l23_, d23, e23⟩ := trod_slice1 U26 f20
    obtain ⟨x12, e12, _, _⟩ := DataW.trod_string U9 g0
    obtain ⟨A13, c13, x13, e13, l13, o13⟩ := open_bytes [5, 70, 3] U22 U5 (by kernel_rfl) g1
    obtain ⟨x14, e14, _, _⟩ := DataW.trod_int U3 g2
    obtain ⟨x15, e15, _⟩ := DataW.trod_bool U4 g3
    subst e22 e23
    obtain ⟨A22, m22, c22, xs22, x22, q22, ha22, hb22, hl22, r22, s22⟩ := open_seq (rel := fun cs (s : ByteArray × Int) => cs = [.string s.1, .int .i64 s.2]) (show Tryd.prog.cellsOf 70 = 2 by kernel_rfl) (by omega) U25 ⟨_, _, _, rfl⟩ ⟨_, f19⟩ open_sub
    obtain ⟨A23, m23, c23, xs23, x23, q23, ha23, hb23, hl23, r23, s23⟩ := open_seq (rel := fun cs (q : Int) => cs = [.int .i64 q]) (show Tryd.prog.cellsOf 3 = 1 by kernel_rfl) (by omega) U26 ⟨_, _, _, rfl⟩ ⟨_, f20⟩ open_int1
    rw [q22, q23]
    rw [seq_subs s22] at r22
    rw [seq_codes s23] at r23
    subst hl22 hl23
    simp at e0 e1 e2 e3 e4 e5 e6 e7 e8 e9 e10 e11 e12 e13 e14 e15 e16 e17 e18 e19 e20 e21
    subst e0 e1 e2 e3 e4 e5 e6 e7 e8 e9 e10 e11 e12 e13 e14 e15 e16 e17 e18 e19 e20 e21
    exact ⟨⟨x0, x1, x2, x3, x4, x5, x6, x7, x8, x9, x10, x11, x12, x13, x14, x15, x16, x17, x18, x19, x20, x21, x22, x23⟩, ⟨A6, c6, A13, c13, A19, c19, A22, c22, A23, c23⟩, rfl, ⟨o6, o13, o19, cs_of_rds r22, cs_of_rds r23⟩, l6, l13, l19, Nat.le_trans ha22 hb22, Nat.le_trans ha23 hb23⟩
def IsPacket (w : World) (v : Value) : Prop := ∃ p s, v = .agg (Pk.cells p s) ∧ p.Ok [5, 70, 3] w.heap.size w s ∧ p.Fits
theorem open_pk {r : Reach} {b0 : Nat} {v : Value} {d : DataW H} {p : List MemPlace} (hv : Value.okWide Tryd.prog w r b0 28 v) (h : DataW.Trod enc Tryd.prog w 0 spare held 28 v d p) : IsPacket w v := by
  obtain ⟨fuel, hf⟩ := h
  obtain ⟨p, s, hcs, ho⟩ := open_packet _ _ _ hf
  have hsz : v.cells = Pk.cells p s := by
    apply Array.toList_inj.1
    exact hcs
  cases v with
  | agg cs => exact ⟨p, s, by rw [← hsz]; rfl, ho⟩
  | _ =>
    have := congrArg Array.size hsz
    simp [Value.cells, Pk.cells] at this
end
section
variable {H : Type} {enc : TypeId × Value → H} {w : World} {spare : Nat → Bool} {held : Bool}
theorem size_strZ {n : Nat} {s : ByteArray} {y : DataW H × List MemPlace} (h : DataW.trod enc Tryd.prog w 0 spare held n 9 [.string s] = some y) (hz : ∀ k ∈ y.1.weights Tryd.prog 9, k ≤ reachBytes) : s.size ≤ 140737488355328 := by
  obtain ⟨r, e1, rfl, _⟩ := DataW.trod_string U9 h
  simp at e1
  subst e1
  have := hz s.data.toList.length (by simp [DataW.weights])
  have h2 := reachBytes_lt
  have e : s.data.toList.length = s.size := by simp
  omega
theorem size_bytes {n : Nat} {A : Option Addr} {m c : Nat} {y : DataW H × List MemPlace} (h : DataW.trod enc Tryd.prog w 0 spare held n 22 [.slice A m c] = some y) (hz : ∀ k ∈ y.1.weights Tryd.prog 22, k ≤ reachBytes) : m ≤ 140737488355328 := by
  rcases open_slice U22 h with ⟨hcs, _⟩ | ⟨a, len, cap, q, n2, D, Pl, hcs, _, _, _, _, rfl, _⟩
  · simp at hcs; omega
  simp at hcs
  obtain ⟨_, rfl, _⟩ := hcs
  have hb : Tryd.prog.bytesOf 5 = 1 := by kernel_rfl
  have := hz ((m + (q - m)) * 1) (by simp [DataW.weights, hb])
  have h2 := reachBytes_lt
  omega
theorem eachZ {t : TypeId} {fs : Array Field} {n : Nat} {cs : List Value} {y : DataW H × List MemPlace} (ht : Tryd.prog.underlying t = some (.struct fs)) (h : DataW.trod enc Tryd.prog w 0 spare held n t cs = some y) (hz : ∀ k ∈ y.1.weights Tryd.prog t, k ≤ reachBytes)
    (i : Nat) (f : Field) (hf : fs[i]? = some f) : ∃ n' z, DataW.trod enc Tryd.prog w 0 spare held n' f.type ((cs.drop f.offset).take (Tryd.prog.cellsOf f.type)) = some z ∧ ∀ k ∈ z.1.weights Tryd.prog f.type, k ≤ reachBytes := by
  obtain ⟨ys, n', _, rfl, _, hyl, hg⟩ := DataW.trod_struct ht h
  have hi : i < ys.length := by rw [hyl]; exact (Array.getElem?_eq_some_iff.1 hf).1
  have hy : ys[i]? = some ys[i] := List.getElem?_eq_getElem hi
  refine ⟨n', ys[i], by rw [hg i f hf, hy], fun k hk => hz k ?_⟩
  simp only [DataW.weights, ht]
  exact DataW.weights_mem_each (j := i) (t := f.type) (d := ys[i].1) (by simp [← Array.getElem?_toList] at hf ⊢; exact ⟨f, hf, rfl⟩) (by simp [hy]) k hk
theorem reach_of {n : Nat} {p : Pk} {s : Ad} {y : DataW H × List MemPlace} (h : DataW.trod enc Tryd.prog w 0 spare held n 28 (Pk.cells p s).toList = some y) (hz : ∀ k ∈ y.1.weights Tryd.prog 28, k ≤ reachBytes) : p.Reach := by
  have k9 : Tryd.prog.cellsOf 9 = 1 := by kernel_rfl
  have k22 : Tryd.prog.cellsOf 22 = 1 := by kernel_rfl
  have k24 : Tryd.prog.cellsOf 24 = 4 := by kernel_rfl
  obtain ⟨_, _, a5, b5⟩ := eachZ U28 h hz 5 _ rfl
  obtain ⟨_, _, a6, b6⟩ := eachZ U28 h hz 6 _ rfl
  obtain ⟨_, _, a8, b8⟩ := eachZ U28 h hz 8 _ rfl
  obtain ⟨n12, z12, a12, b12⟩ := eachZ U28 h hz 12 _ rfl
  obtain ⟨_, _, a15, b15⟩ := eachZ U28 h hz 15 _ rfl
  obtain ⟨_, _, a16, b16⟩ := eachZ U28 h hz 16 _ rfl
  have a12' : DataW.trod enc Tryd.prog w 0 spare held n12 24 [.string p.wt, .slice s.wa p.wp.length s.wc, .int .i64 p.wq, .bool p.wr] = some z12 := by simpa [k24, Pk.cells] using a12
  obtain ⟨_, _, c0, d0⟩ := eachZ (y := z12) U24 a12' b12 0 _ rfl
  obtain ⟨_, _, c1, d1⟩ := eachZ (y := z12) U24 a12' b12 1 _ rfl
  exact ⟨size_strZ (s := p.topic) (by simpa [k9, Pk.cells] using a5) b5, size_bytes (A := s.pa) (c := s.pc) (by simpa [k22, Pk.cells] using a6) b6, size_strZ (s := p.client) (by simpa [k9, Pk.cells] using a8) b8, size_strZ (s := p.user) (by simpa [k9, Pk.cells] using a15) b15, size_bytes (A := s.sa) (c := s.sc) (by simpa [k22, Pk.cells] using a16) b16, size_strZ (s := p.wt) (by simpa [k9] using c0) d0, size_bytes (A := s.wa) (c := s.wc) (by simpa [k22] using c1) d1⟩
end
def IsPkR (w : World) (v : Value) : Prop := ∃ p s, v = .agg (Pk.cells p s) ∧ p.In w s ∧ p.Reach
theorem ok_in {p : Pk} {s : Ad} {w : World} (h : p.Ok [5, 70, 3] w.heap.size w s) : p.In w s := ⟨h.pay.toSl, h.wp.toSl, h.pass.toSl, Sl.of_rds h.subs.rds, Sl.of_rds h.codes.rds⟩
theorem open_pkz {H : Type} {enc : TypeId × Value → H} {w : World} {spare : Nat → Bool} {held : Bool} {r : Reach} {b0 : Nat} {v : Value} {d : DataW H} {p : List MemPlace} (hv : Value.okWide Tryd.prog w r b0 28 v) (h : DataW.Trod enc Tryd.prog w 0 spare held 28 v d p) (hz : ∀ k ∈ d.weights Tryd.prog 28, k ≤ reachBytes) : IsPkR w v := by
  obtain ⟨pk, s, e, ho, hf⟩ := open_pk hv h
  subst e
  obtain ⟨fuel, hm⟩ := h
  exact ⟨pk, s, rfl, ok_in ho, reach_of hm hz⟩
theorem tells_row {k a b c what more v : Int} {str : ByteArray} {v0 v5 : Value} {w : World} (hT : Tabs w) (h0 : IsPkR w v0) (w1 : (Lit.int .u8 k).wf = true) (w2 : (Lit.int .u8 a).wf = true) (w3 : (Lit.int .u8 b).wf = true) (w4 : (Lit.int .u8 c).wf = true) (h5 : IsBs w v5) (w6 : (Lit.int .u8 what).wf = true) (w7 : (Lit.int .u8 more).wf = true) : Calls Tryd.prog 3 #[v0, .int .u8 k, .int .u8 a, .int .u8 b, .int .u8 c, v5, .int .u8 what, .int .u8 more, .int .i64 v, .string str] w fun e w' => e = .returned (.bool true) ∧ Below w.heap.size w w' := by
  obtain ⟨p0, s0', rfl, i0, r0⟩ := h0
  obtain ⟨us, A, c', rfl, h, _⟩ := h5
  exact (tells_walk p0 s0' k a b c us A c' what more v str w hT i0 r0 h (bd8 w1) (bd8 w2) (bd8 w3) (bd8 w4) (bd8 w6) (bd8 w7)).mono fun _ _ => end_of
end Go.Proofs.YtigjafbbnocihaaDoor
