/- Merged by program (shrink.py): contracts and plain laws that the claim's statement uses, part 5. -/
import Derived.Test.YtigjafbbnocihaaDoorMe4
set_option linter.all false

namespace Go.Proofs.YtigjafbbnocihaaDoor
open Go.RowKit Go.Hub Go.Lib Go.Vl
theorem wzi9_xf : (Tryd.prog.info? 9).map (fun i => (i.zero, i.size)) = some (some (.string ⟨#[]⟩), 1) := by kernel_rfl
theorem wbs104_10_xf (x0 : ByteArray) (x1 : ByteArray) (x2 : ByteArray) (x3 : ByteArray) (x4 : ByteArray) (x5 : ByteArray) (x6 : ByteArray) (x7 : ByteArray) (x8 : ByteArray) (x9 : ByteArray) : Instr.fill (fun i => some (i * 1, 1)) ((Array.range (10 * 1)).map fun j => (Value.cells (.string ⟨#[]⟩))[j % (Value.cells (.string ⟨#[]⟩)).size]!) [(0, .string x0), (1, .string x1), (2, .string x2), (3, .string x3), (4, .string x4), (5, .string x5), (6, .string x6), (7, .string x7), (8, .string x8), (9, .string x9)] = some #[.string x0, .string x1, .string x2, .string x3, .string x4, .string x5, .string x6, .string x7, .string x8, .string x9] := by kernel_rfl
theorem wsz9_xf : (Tryd.prog.info? 9).map (·.size) = some 1 := by kernel_rfl
theorem wbs104_7_xf (x0 : ByteArray) (x1 : ByteArray) (x2 : ByteArray) (x3 : ByteArray) (x4 : ByteArray) (x5 : ByteArray) (x6 : ByteArray) : Instr.fill (fun i => some (i * 1, 1)) ((Array.range (7 * 1)).map fun j => (Value.cells (.string ⟨#[]⟩))[j % (Value.cells (.string ⟨#[]⟩)).size]!) [(0, .string x0), (1, .string x1), (2, .string x2), (3, .string x3), (4, .string x4), (5, .string x5), (6, .string x6)] = some #[.string x0, .string x1, .string x2, .string x3, .string x4, .string x5, .string x6] := by kernel_rfl
theorem wbs104_5_xf (x0 : ByteArray) (x1 : ByteArray) (x2 : ByteArray) (x3 : ByteArray) (x4 : ByteArray) : Instr.fill (fun i => some (i * 1, 1)) ((Array.range (5 * 1)).map fun j => (Value.cells (.string ⟨#[]⟩))[j % (Value.cells (.string ⟨#[]⟩)).size]!) [(0, .string x0), (1, .string x1), (2, .string x2), (3, .string x3), (4, .string x4)] = some #[.string x0, .string x1, .string x2, .string x3, .string x4] := by kernel_rfl
theorem wsz3_xf : (Tryd.prog.info? 3).map (·.size) = some 1 := by kernel_rfl
theorem wsz4_xf : (Tryd.prog.info? 4).map (·.size) = some 1 := by kernel_rfl
theorem wsz22_xf : (Tryd.prog.info? 22).map (·.size) = some 1 := by kernel_rfl
theorem wsz24_xf : (Tryd.prog.info? 24).map (·.size) = some 4 := by kernel_rfl
theorem wsz28_xf : (Tryd.prog.info? 28).map (·.size) = some 24 := by kernel_rfl
theorem wbl24_0_1_2_3_xf (x0 : ByteArray) (x1 : Option Addr) (y1 z1 : Nat) (x2 : Int) (x3 : Bool) : Tryd.prog.built 24 [(0, .string x0), (1, .slice x1 y1 z1), (2, .int .i64 x2), (3, .bool x3)] = some #[.string x0, .slice x1 y1 z1, .int .i64 x2, .bool x3] := by kernel_rfl
theorem wbl28_0_7_8_9_10_xf (x0 : Int) (x1 : Int) (x2 : ByteArray) (x3 : Bool) (x4 : Int) : Tryd.prog.built 28 [(0, .int .i64 x0), (7, .int .i64 x1), (8, .string x2), (9, .bool x3), (10, .int .i64 x4)] = some #[.int .i64 x0, (.bool false), (.bool false), (.int .i64 0), (.int .i64 0), (.string ⟨#[]⟩), (.slice none 0 0), .int .i64 x1, .string x2, .bool x3, .int .i64 x4, (.bool false), (.string ⟨#[]⟩), (.slice none 0 0), (.int .i64 0), (.bool false), (.bool false), (.bool false), (.string ⟨#[]⟩), (.slice none 0 0), (.bool false), (.int .i64 0), (.slice none 0 0), (.slice none 0 0)] := by kernel_rfl
def p7 : List ByteArray := [⟨#[97]⟩, ⟨#[97, 47, 98]⟩, ⟨#[98, 47, 99]⟩, ⟨#[36, 115, 47, 97]⟩, ⟨#[97, 47, 47, 98]⟩, ⟨#[195, 169, 47, 97]⟩, ⟨#[99]⟩]
def p10 : List ByteArray := [⟨#[97]⟩, ⟨#[35]⟩, ⟨#[97, 47, 43]⟩, ⟨#[43, 47, 98]⟩, ⟨#[97, 47, 35]⟩, ⟨#[98, 47, 99]⟩, ⟨#[36, 115, 47, 35]⟩, ⟨#[43]⟩, ⟨#[43, 47, 43]⟩, ⟨#[195, 169, 47, 35]⟩]
def p5 : List ByteArray := [⟨#[107]⟩, ⟨#[108]⟩, ⟨#[109]⟩, ⟨#[195, 169]⟩, ⟨#[]⟩]
def topicS (k : Int) : ByteArray := p7.getD (k % 7).toNat em
def filterS (k : Int) : ByteArray := p10.getD (k % 10).toNat em
def cliS (k : Int) : ByteArray := p5.getD (k % 5).toNat em
theorem list_at (l : List ByteArray) (i : Nat) (h : i < l.length) : l[i]? = some (l.getD i em) := by rw [List.getD_eq_getElem?_getD, List.getElem?_eq_getElem h]; rfl
theorem ss_blk {w : World} {g t : Nat} {l : List ByteArray} (B : Blk w g t (l.map Value.string).toArray) : Sl w (some ⟨g, 0, none⟩) l.length 1 (l.map Value.string) := by
  have h := B.slN (n := l.length) (size := 1) (by simp)
  simpa using h
theorem ss_cellI {w : World} {A : Option Addr} {b off : Nat} {l : List ByteArray} {x : ByteArray} {i : Int} (h : Sl w A l.length 1 (l.map Value.string)) (hA : A = some ⟨b, off, none⟩) (hx : l[i.toNat]? = some x) : w.cell? ⟨b, off + i.toNat * 1, none⟩ = some (.string x) := by
  have hk := (List.getElem?_eq_some_iff.1 hx).1
  rw [Nat.mul_one]
  exact Sl.cell h (by omega) hA (by simp [hx])
def SeatPost (p : Pk) (w : World) (e : Ending) (w' : World) : Prop := ∃ s, e = .returned (.agg (p.cells s)) ∧ Kept [] w w' ∧ p.In w' s
def con1 (a b c : Int) : Pk := if cliS a = em then { kind := 1, level := 4, client := cliS a, clean := decide (0 < b % 9), keep := c % 5 } else { kind := 1, level := 4, client := cliS a, clean := decide (b % 2 = 0), keep := c % 5 }
def con2 (a b c : Int) (x : List UInt8) (p : Pk) : Pk := if c % 3 = 0 then { p with hasWill := true, wt := topicS c, wp := x, wq := a % 3, wr := decide (b % 3 = 0) } else p
def con3 (a : Int) (p : Pk) : Pk := if a % 8 = 7 then { p with level := 3 } else p
def con4 (b : Int) (x : List UInt8) (p : Pk) : Pk := if b % 10 = 9 then { p with hasUser := true, user := ⟨#[117]⟩, hasPass := true, pass := x } else p
def seatCon (a b c : Int) (x : List UInt8) : Pk := con4 b x (con3 a (con2 a b c x (con1 a b c)))
theorem con1_nil (a b c : Int) : (con1 a b c).pay = [] ∧ (con1 a b c).wp = [] ∧ (con1 a b c).pass = [] ∧ (con1 a b c).subs = [] ∧ (con1 a b c).codes = [] := by
  unfold con1
  split <;> exact ⟨rfl, rfl, rfl, rfl, rfl⟩
def adC (b c : Int) (A : Option Addr) (cx : Nat) : Ad := if b % 10 = 9 then { (if c % 3 = 0 then { s0 with wa := A, wc := cx } else s0 : Ad) with sa := A, sc := cx } else (if c % 3 = 0 then { s0 with wa := A, wc := cx } else s0)
theorem seatcon_in {W : World} {a b c : Int} {x : List UInt8} {A : Option Addr} {cx : Nat} (S : Sl W A x.length 1 (x.map u8)) :
    (seatCon a b c x).In W (adC b c A cx) := by
  unfold adC
  have z : Pk.In W {} s0 := Pk.In.zero W
  obtain ⟨h1, h2, h3, h4, h5⟩ := con1_nil a b c
  unfold seatCon con4 con3 con2
  by_cases hb : b % 10 = 9 <;> by_cases hc : c % 3 = 0 <;> by_cases ha : a % 8 = 7 <;> simp only [hb, hc, ha, if_true, if_false, reduceIte] <;> constructor <;> (first | exact S | (simp only [h1, h2, h3, h4, h5]; exact Sl.nil _ _ _))
set_option maxHeartbeats 1000000 in
theorem filterS_any (k : Int) (w : World) (hk : 0 ≤ k ∧ k < 256) : Calls Tryd.prog 35 #[.int .u8 k] w (fun e w' => Kept [] w w' ∧ e = .returned (.string (filterS k))) := by
 have HK : Kept [] w w := Kept.refl [] w
 refine C.enter Tryd.func35 rfl Tryd.ntmps35 rfl ?_
 intro a0 f0
 have f1 : Fr 8 a0 [(0, .int .u8 k)] := f0
 refine C.sk fun K0 hK0 => ?_
 refine L.ag f1 fun a2 f2 => ?_
 refine wpList_nil (hK0 _ _ ?_)
 have f3 := f2.sub (sc 0 sn)
 refine wp_seq_k fun K1 hK1 => ?_
 have hx : p10[(k % 10).toNat]? = some (filterS k) := list_at p10 _ (by show _ < 10; omega)
 refine C.region ?_
 refine L.buildSlice f3 wantedN (by decide) (parts10 f3 rfl rfl rfl rfl rfl rfl rfl rfl rfl rfl) U104 wzi9_xf rfl rfl (wbs104_10_xf _ _ _ _ _ _ _ _ _ _) fun a4 w1 g0 N0 f4 => ?_
 have SL := ss_blk (l := p10) N0.blk
 have Bg0 := N0.blk
 have kg0 := N0.kept
 have log0 := N0.lo
 have ltg0 := Bg0.lt
 have szw1 := kg0.size
 have frg0 : w.heap.size ≤ g0 := Nat.le_trans HK.size log0
 replace HK := HK.trans kg0 (by simp)
 clear f0 f1 a0 f2 N0 kg0
 refine L.mv f4 fun a5 f5 => ?_
 refine L.va f5 (E.rem f5 rfl rfl (by omega) (Int.tmod_eq_emod_of_nonneg (by omega))) fun a6 f6 => ?_
 refine L.va f6 (E.indexA f6 (by rfl) U104 wsz9_xf rfl rfl (by omega) (by omega)) fun a7 f7 => ?_
 refine L.va f7 (by exact E.load f7 U9 rfl rfl (ss_cellI SL rfl hx)) fun a8 f8 => ?_
 refine L.ag f8 fun a9 f9 => ?_
 refine wpList_nil (hK1 _ _ ?_)
 have f10 := f9.sub (sc 2 sn)
 refine wp_ret ?_
 try simp only [Exit.inBlock, Exit.then]
 refine C.ret (P := Tryd.prog) (fn := Tryd.f35) f10 rfl rfl ?_
 exact ⟨HK, rfl⟩
set_option maxHeartbeats 1000000 in
theorem topicS_any (k : Int) (w : World) (hk : 0 ≤ k ∧ k < 256) : Calls Tryd.prog 34 #[.int .u8 k] w (fun e w' => Kept [] w w' ∧ e = .returned (.string (topicS k))) := by
 have HK : Kept [] w w := Kept.refl [] w
 refine C.enter Tryd.func34 rfl Tryd.ntmps34 rfl ?_
 intro a0 f0
 have f1 : Fr 8 a0 [(0, .int .u8 k)] := f0
 refine C.sk fun K0 hK0 => ?_
 refine L.ag f1 fun a2 f2 => ?_
 refine wpList_nil (hK0 _ _ ?_)
 have f3 := f2.sub (sc 0 sn)
 refine wp_seq_k fun K1 hK1 => ?_
 have hx : p7[(k % 7).toNat]? = some (topicS k) := list_at p7 _ (by show _ < 7; omega)
 refine C.region ?_
 refine L.buildSlice f3 wantedN (by decide) (parts7 f3 rfl rfl rfl rfl rfl rfl rfl) U104 wzi9_xf rfl rfl (wbs104_7_xf _ _ _ _ _ _ _) fun a4 w1 g0 N0 f4 => ?_
 have SL := ss_blk (l := p7) N0.blk
 have Bg0 := N0.blk
 have kg0 := N0.kept
 have log0 := N0.lo
 have ltg0 := Bg0.lt
 have szw1 := kg0.size
 have frg0 : w.heap.size ≤ g0 := Nat.le_trans HK.size log0
 replace HK := HK.trans kg0 (by simp)
 clear f0 f1 a0 f2 N0 kg0
 refine L.mv f4 fun a5 f5 => ?_
 refine L.va f5 (E.rem f5 rfl rfl (by omega) (Int.tmod_eq_emod_of_nonneg (by omega))) fun a6 f6 => ?_
 refine L.va f6 (E.indexA f6 (by rfl) U104 wsz9_xf rfl rfl (by omega) (by omega)) fun a7 f7 => ?_
 refine L.va f7 (by exact E.load f7 U9 rfl rfl (ss_cellI SL rfl hx)) fun a8 f8 => ?_
 refine L.ag f8 fun a9 f9 => ?_
 refine wpList_nil (hK1 _ _ ?_)
 have f10 := f9.sub (sc 2 sn)
 refine wp_ret ?_
 try simp only [Exit.inBlock, Exit.then]
 refine C.ret (P := Tryd.prog) (fn := Tryd.f34) f10 rfl rfl ?_
 exact ⟨HK, rfl⟩
set_option maxHeartbeats 4000000 in
theorem seatcon_any (a0_ b c : Int) (x : List UInt8) (A : Option Addr) (cx : Nat) (w : World) (SX : Sl w A x.length 1 (x.map u8)) (ha : 0 ≤ a0_ ∧ a0_ < 256) (hb : 0 ≤ b ∧ b < 256) (hc : 0 ≤ c ∧ c < 256) : Calls Tryd.prog 36 #[.int .u8 a0_, .int .u8 b, .int .u8 c, .slice A x.length cx] w (fun e w' => Kept [] w w' ∧ e = .returned (.agg ((seatCon a0_ b c x).cells (adC b c A cx)))) := by
 have HK : Kept [] w w := Kept.refl [] w
 refine C.enter Tryd.func36 rfl Tryd.ntmps36 rfl ?_
 intro a0 f0
 have f1 : Fr 57 a0 [(0, .int .u8 a0_), (1, .int .u8 b), (2, .int .u8 c), (3, .slice A x.length cx)] := f0
 refine C.sk fun K0 hK0 => ?_
 refine L.alloc f1 wantedN (by decide) (z := (.agg #[(.int .i64 0), (.bool false), (.bool false), (.int .i64 0), (.int .i64 0), (.string ⟨#[]⟩), (.slice none 0 0), (.int .i64 0), (.string ⟨#[]⟩), (.bool false), (.int .i64 0), (.bool false), (.string ⟨#[]⟩), (.slice none 0 0), (.int .i64 0), (.bool false), (.bool false), (.bool false), (.string ⟨#[]⟩), (.slice none 0 0), (.bool false), (.int .i64 0), (.slice none 0 0), (.slice none 0 0)])) (fun _ => by kernel_rfl) rfl fun a2 w1 g0 N0 f2 => ?_
 have Bg0 := N0.blk
 have kg0 := N0.kept
 have log0 := N0.lo
 have ltg0 := Bg0.lt
 have szw1 := kg0.size
 have frg0 : w.heap.size ≤ g0 := Nat.le_trans HK.size log0
 replace HK := HK.trans kg0 (by simp)
 clear f0 N0 kg0
 refine wpList_nil (hK0 _ _ ?_)
 have f3 := f2.sub (sc 0 (sc 1 (sc 2 (sc 3 (sc 8 sn)))))
 refine wp_seq_k fun K1 hK1 => ?_
 have hx : p5[(a0_ % 5).toNat]? = some (cliS a0_) := list_at p5 _ (by show _ < 5; omega)
 refine C.region ?_
 refine L.buildSlice f3 wantedN (by decide) (parts5 f3 rfl rfl rfl rfl rfl) U104 wzi9_xf rfl rfl (wbs104_5_xf _ _ _ _ _) fun a4 w2 g1 N1 f4 => ?_
 have SL := ss_blk (l := p5) N1.blk
 have Bg1 := N1.blk
 have kg1 := N1.kept
 have log1 := N1.lo
 have ltg1 := Bg1.lt
 have szw2 := kg1.size
 have frg1 : w.heap.size ≤ g1 := Nat.le_trans HK.size log1
 have neg0_g1 : g0 ≠ g1 := by have := Bg0.lt; omega
 replace HK := HK.trans kg1 (by simp)
 replace Bg0 := Bg0.kept kg1 (by simp)
 clear f1 a0 f2 N1 kg1
 refine L.mv f4 fun a5 f5 => ?_
 refine L.va f5 (E.rem f5 rfl rfl (by omega) (Int.tmod_eq_emod_of_nonneg (by omega))) fun a6 f6 => ?_
 refine L.va f6 (E.indexA f6 (by rfl) U104 wsz9_xf rfl rfl (by omega) (by omega)) fun a7 f7 => ?_
 refine L.va f7 (by exact E.load f7 U9 rfl rfl (ss_cellI SL rfl hx)) fun a8 f8 => ?_
 refine L.mv f8 fun a9 f9 => ?_
 refine L.va f9 (E.rem f9 rfl rfl (by omega) (Int.tmod_eq_emod_of_nonneg (by omega))) fun a10 f10 => ?_
 clear f3 a2 f4 a4 f5 a5 f6 a6 f7 a7 f8 a8 f9 a9
 refine L.va f10 (E.eq f10) fun a11 f11 => ?_
 refine L.mv f11 fun a12 f12 => ?_
 refine L.va f12 (E.rem f12 rfl rfl (by omega) (Int.tmod_eq_emod_of_nonneg (by omega))) fun a13 f13 => ?_
 refine L.va f13 (E.conv f13 U5 U3 rfl (IntWalk.i64_in _ (by omega))) fun a14 f14 => ?_
 refine L.va f14 (E.build f14 (parts5 f14 rfl rfl rfl rfl rfl) (wbl28_0_7_8_9_10_xf _ _ _ _ _)) fun a15 f15 => ?_
 refine L.alloc f15 wantedN (by decide) (z := (.agg #[(.int .i64 0), (.bool false), (.bool false), (.int .i64 0), (.int .i64 0), (.string ⟨#[]⟩), (.slice none 0 0), (.int .i64 0), (.string ⟨#[]⟩), (.bool false), (.int .i64 0), (.bool false), (.string ⟨#[]⟩), (.slice none 0 0), (.int .i64 0), (.bool false), (.bool false), (.bool false), (.string ⟨#[]⟩), (.slice none 0 0), (.bool false), (.int .i64 0), (.slice none 0 0), (.slice none 0 0)])) (fun _ => by kernel_rfl) rfl fun a16 w3 g2 N2 f16 => ?_
 have Bg2 := N2.blk
 have kg2 := N2.kept
 have log2 := N2.lo
 have ltg2 := Bg2.lt
 have szw3 := kg2.size
 have frg2 : w.heap.size ≤ g2 := Nat.le_trans HK.size log2
 have neg0_g2 : g0 ≠ g2 := by have := Bg0.lt; omega
 have neg1_g2 : g1 ≠ g2 := by have := Bg1.lt; omega
 replace HK := HK.trans kg2 (by simp)
 replace Bg0 := Bg0.kept kg2 (by simp)
 replace Bg1 := Bg1.kept kg2 (by simp)
 clear f10 a10 f11 a11 f12 a12 f13 a13 f14 a14 N2 kg2
 refine L.storeR f16 wantedN wsz28_xf rfl rfl rfl Bg2 rfl rfl fun a17 w4 f17 NB4 ks4 => ?_
 have szw4 := ks4.size
 replace HK := HK.trans ks4 (ktr (by omega))
 replace Bg0 := Bg0.kept ks4 (by simp; omega)
 replace Bg1 := Bg1.kept ks4 (by simp; omega)
 replace Bg2 := NB4
 clear f15 a15 ks4 f16 a16
 refine wpList_nil (hK1 _ _ ?_)
 have f18 := f17.sub (sc 0 (sc 1 (sc 2 (sc 3 (sc 8 (sc 9 sn))))))
 obtain ⟨J4, hJ4⟩ : ∃ J : Act → World → Prop, J = fun a W => ∃ (gq : Nat) (p : Pk), p = con1 a0_ b c ∧ gq ≠ g0 ∧ w.heap.size ≤ gq ∧ Kept [] w W ∧ Blk W g0 28 zeroPk ∧ Blk W gq 28 (p.cells s0) ∧ Fr 57 a [(0, .int .u8 a0_), (1, .int .u8 b), (2, .int .u8 c), (3, .slice A x.length cx), (8, .pointer (some ⟨g0, 0, none⟩)), (9, .pointer (some ⟨gq, 0, none⟩))] := ⟨_, rfl⟩
 clear f17
 refine C.cut J4 ?_ ?_
 ·skip
  refine C.sk fun K2 hK2 => ?_
  refine L.fa 8 f18 U28 rfl wsz9_xf fun a19 f19 => ?_
  refine L.ld f19 U9 Bg2 fun a20 f20 => ?_
  refine L.va f20 (E.eqlS f20 rfl rfl) fun a21 f21 => ?_
  refine wpList_nil (hK2 _ _ ?_)
  have f22 := f21.sub (sc 0 (sc 1 (sc 2 (sc 3 (sc 8 (sc 9 (sc 24 sn)))))))
  clear f18 a17 f19 a19 f20 a20 f21
  refine f22.splitD 24 rfl (fun h0 f23 => ?_) (fun h0 f23 => ?_)
  ·refine C.condT f23 rfl ?_
   refine C.region ?_
   refine L.mv f23 fun a24 f24 => ?_
   refine L.va f24 (E.rem f24 rfl rfl (by omega) (Int.tmod_eq_emod_of_nonneg (by omega))) fun a25 f25 => ?_
   refine L.va f25 (E.gtr f25 rfl rfl) fun a26 f26 => ?_
   refine L.fa 9 f26 U28 rfl wsz4_xf fun a27 f27 => ?_
   refine L.store f27 wantedN wsz4_xf rfl rfl rfl Bg2 (by (simp [Value.cells]; done)) fun a28 w5 f28 NB5 ks5 => ?_
   have szw5 := ks5.size
   replace HK := HK.trans ks5 (ktr (by omega))
   replace Bg0 := Bg0.kept ks5 (by simp; omega)
   replace Bg1 := Bg1.kept ks5 (by simp; omega)
   replace Bg2 := NB5
   simp only [Value.cells, z1, z2, z3, Nat.reduceAdd, Nat.zero_add] at Bg2
   clear f22 f23 a21 f24 a24 f25 a25 f26 a26 ks5 f27 a27
   exact wpList_nil (then_of (J := J4) (Q := fun _ _ _ => True) (by rw [hJ4]; exact ⟨g2, { kind := 1, level := 4, client := cliS a0_, clean := decide (0 < b % 9), keep := c % 5 }, by unfold con1; rw [if_pos (by assumption)], by omega, by omega, HK, Bg0, Bg2, f28.sub (sub_cons rfl (sub_cons rfl (sub_cons rfl (sub_cons rfl (sub_cons rfl (sub_cons rfl sn))))))⟩))
  refine C.condF f23 rfl ?_
  exact wp_skip (then_of (J := J4) (Q := fun _ _ _ => True) (by rw [hJ4]; exact ⟨g2, { kind := 1, level := 4, client := cliS a0_, clean := decide (b % 2 = 0), keep := c % 5 }, by unfold con1; rw [if_neg (by assumption)], by omega, by omega, HK, Bg0, Bg2, f23.sub (sub_cons rfl (sub_cons rfl (sub_cons rfl (sub_cons rfl (sub_cons rfl (sub_cons rfl sn))))))⟩))
 intro a19 w5 hj
 rw [hJ4] at hj
 clear hJ4 J4
 obtain ⟨gq, p, hp, hne, hgq, HK, Bg0, BQ, f19⟩ := hj
 try clear f18
 replace BQ : Blk w5 gq 28 #[.int .i64 p.kind, .bool p.dup, .bool p.retain, .int .i64 p.qos, .int .i64 p.id, .string p.topic, .slice s0.pa p.pay.length s0.pc, .int .i64 p.level, .string p.client, .bool p.clean, .int .i64 p.keep, .bool p.hasWill, .string p.wt, .slice s0.wa p.wp.length s0.wc, .int .i64 p.wq, .bool p.wr, .bool p.hasUser, .bool p.hasPass, .string p.user, .slice s0.sa p.pass.length s0.sc, .bool p.present, .int .i64 p.code, .slice s0.ua p.subs.length s0.uc, .slice s0.ca p.codes.length s0.cc] := BQ
 have hne2 : g0 ≠ gq := fun e => hne e.symm
 obtain ⟨J6, hJ6⟩ : ∃ J : Act → World → Prop, J = fun a W => ∃ (p1 : Pk) (s1 : Ad), p1 = con2 a0_ b c x p ∧ s1 = (if c % 3 = 0 then { s0 with wa := A, wc := cx } else s0) ∧ Kept [] w W ∧ Blk W g0 28 zeroPk ∧ Blk W gq 28 (p1.cells s1) ∧ Fr 57 a [(0, .int .u8 a0_), (1, .int .u8 b), (3, .slice A x.length cx), (8, .pointer (some ⟨g0, 0, none⟩)), (9, .pointer (some ⟨gq, 0, none⟩))] := ⟨_, rfl⟩
 refine C.cut J6 ?_ ?_
 ·skip
  refine C.sk fun K3 hK3 => ?_
  refine L.mv f19 fun a20 f20 => ?_
  refine L.va f20 (E.rem f20 rfl rfl (by omega) (Int.tmod_eq_emod_of_nonneg (by omega))) fun a21 f21 => ?_
  refine L.va f21 (E.eq f21) fun a22 f22 => ?_
  refine wpList_nil (hK3 _ _ ?_)
  have f23 := f22.sub (sc 0 (sc 1 (sc 2 (sc 3 (sc 8 (sc 9 (sc 31 sn)))))))
  clear f19 a19 f20 a20 f21 a21 f22
  refine f23.splitD 31 rfl (fun h1 f24 => ?_) (fun h1 f24 => ?_)
  ·refine C.condT f24 rfl ?_
   refine C.region ?_
   refine L.mv f24 fun a25 f25 => ?_
   refine L.cl f25 (run_call Tryd.call34 (args1 f25 rfl)) (topicS_any c _ hc) ?_
   clear f23 f24 a22
   rintro e w6 ⟨kc6, rfl⟩
   refine ⟨_, rfl, fun a26 f26 => ?_⟩
   have szw6 := kc6.size
   replace HK := HK.trans kc6 (by simp)
   replace Bg0 := Bg0.kept kc6 (by simp)
   replace BQ := BQ.kept kc6 (by simp)
   clear f25 a25 kc6
   refine L.mv f26 fun a27 f27 => ?_
   refine L.mv f27 fun a28 f28 => ?_
   refine L.va f28 (E.rem f28 rfl rfl (by omega) (Int.tmod_eq_emod_of_nonneg (by omega))) fun a29 f29 => ?_
   refine L.va f29 (E.conv f29 U5 U3 rfl (IntWalk.i64_in _ (by omega))) fun a30 f30 => ?_
   refine L.mv f30 fun a31 f31 => ?_
   refine L.va f31 (E.rem f31 rfl rfl (by omega) (Int.tmod_eq_emod_of_nonneg (by omega))) fun a32 f32 => ?_
   refine L.va f32 (E.eq f32) fun a33 f33 => ?_
   clear f26 a26 f27 a27 f28 a28 f29 a29 f30 a30 f31 a31 f32 a32
   refine L.va f33 (E.build f33 (parts4 f33 rfl rfl rfl rfl) (wbl24_0_1_2_3_xf _ _ _ _ _ _)) fun a34 f34 => ?_
   refine L.fa 11 f34 U28 rfl wsz4_xf fun a35 f35 => ?_
   refine L.store f35 wantedN wsz4_xf rfl rfl rfl BQ (by (simp [Value.cells]; done)) fun a36 w7 f36 NB7 ks7 => ?_
   have szw7 := ks7.size
   replace HK := HK.trans ks7 (ktr (by omega))
   replace Bg0 := Bg0.kept ks7 (by simp; omega)
   replace BQ := NB7
   simp only [Value.cells, z1, z2, z3, Nat.reduceAdd, Nat.zero_add] at BQ
   clear f33 a33 f34 a34 ks7 f35 a35
   refine L.fa 12 f36 U28 rfl wsz24_xf fun a37 f37 => ?_
   refine L.storeSeg f37 wantedN wsz24_xf rfl rfl rfl BQ (Nat.le_of_ble_eq_true rfl) rfl fun a38 w8 f38 NB8 ks8 => ?_
   have szw8 := ks8.size
   replace HK := HK.trans ks8 (ktr (by omega))
   replace Bg0 := Bg0.kept ks8 (by simp; omega)
   replace BQ := NB8
   simp only [setSeg, List.set_cons_zero, List.set_cons_succ, Nat.reduceAdd, Nat.zero_add] at BQ
   clear f36 a36 ks8 f37 a37
   exact wpList_nil (then_of (J := J6) (Q := fun _ _ _ => True) (by rw [hJ6]; exact ⟨{ p with hasWill := true, wt := topicS c, wp := x, wq := a0_ % 3, wr := decide (b % 3 = 0) }, { s0 with wa := A, wc := cx }, by unfold con2; rw [if_pos (by assumption)], by rw [if_pos (by assumption)], HK, Bg0, BQ, f38.sub (sub_cons rfl (sub_cons rfl (sub_cons rfl (sub_cons rfl (sub_cons rfl sn)))))⟩))
  refine C.condF f24 rfl ?_
  exact wp_skip (then_of (J := J6) (Q := fun _ _ _ => True) (by rw [hJ6]; exact ⟨p, s0, by unfold con2; rw [if_neg (by assumption)], by rw [if_neg (by assumption)], HK, Bg0, BQ, f24.sub (sub_cons rfl (sub_cons rfl (sub_cons rfl (sub_cons rfl (sub_cons rfl sn)))))⟩))
 intro a20 w6 hj
 rw [hJ6] at hj
 clear hJ6 J6
 obtain ⟨p1, s1, hp1, hs1, HK, Bg0, BQ, f20⟩ := hj
 try clear f19
 replace BQ : Blk w6 gq 28 #[.int .i64 p1.kind, .bool p1.dup, .bool p1.retain, .int .i64 p1.qos, .int .i64 p1.id, .string p1.topic, .slice s1.pa p1.pay.length s1.pc, .int .i64 p1.level, .string p1.client, .bool p1.clean, .int .i64 p1.keep, .bool p1.hasWill, .string p1.wt, .slice s1.wa p1.wp.length s1.wc, .int .i64 p1.wq, .bool p1.wr, .bool p1.hasUser, .bool p1.hasPass, .string p1.user, .slice s1.sa p1.pass.length s1.sc, .bool p1.present, .int .i64 p1.code, .slice s1.ua p1.subs.length s1.uc, .slice s1.ca p1.codes.length s1.cc] := BQ
 obtain ⟨J8, hJ8⟩ : ∃ J : Act → World → Prop, J = fun a W => ∃ (p2 : Pk), p2 = con3 a0_ p1 ∧ Kept [] w W ∧ Blk W g0 28 zeroPk ∧ Blk W gq 28 (p2.cells s1) ∧ Fr 57 a [(1, .int .u8 b), (3, .slice A x.length cx), (8, .pointer (some ⟨g0, 0, none⟩)), (9, .pointer (some ⟨gq, 0, none⟩))] := ⟨_, rfl⟩
 refine C.cut J8 ?_ ?_
 ·skip
  refine C.sk fun K4 hK4 => ?_
  refine L.mv f20 fun a21 f21 => ?_
  refine L.va f21 (E.rem f21 rfl rfl (by omega) (Int.tmod_eq_emod_of_nonneg (by omega))) fun a22 f22 => ?_
  refine L.va f22 (E.eq f22) fun a23 f23 => ?_
  refine wpList_nil (hK4 _ _ ?_)
  have f24 := f23.sub (sc 1 (sc 3 (sc 8 (sc 9 (sc 46 sn)))))
  clear f20 a20 f21 a21 f22 a22 f23
  refine f24.splitD 46 rfl (fun h2 f25 => ?_) (fun h2 f25 => ?_)
  ·refine C.condT f25 rfl ?_
   refine C.region ?_
   refine L.fa 7 f25 U28 rfl wsz3_xf fun a26 f26 => ?_
   refine L.store f26 wantedN wsz3_xf rfl rfl rfl BQ (by (simp [Value.cells]; done)) fun a27 w7 f27 NB7 ks7 => ?_
   have szw7 := ks7.size
   replace HK := HK.trans ks7 (ktr (by omega))
   replace Bg0 := Bg0.kept ks7 (by simp; omega)
   replace BQ := NB7
   simp only [Value.cells, z1, z2, z3, Nat.reduceAdd, Nat.zero_add] at BQ
   clear f24 f25 a23 ks7 f26 a26
   exact wpList_nil (then_of (J := J8) (Q := fun _ _ _ => True) (by rw [hJ8]; exact ⟨{ p1 with level := 3 }, by unfold con3; rw [if_pos (by assumption)], HK, Bg0, BQ, f27.sub (sub_cons rfl (sub_cons rfl (sub_cons rfl (sub_cons rfl sn))))⟩))
  refine C.condF f25 rfl ?_
  exact wp_skip (then_of (J := J8) (Q := fun _ _ _ => True) (by rw [hJ8]; exact ⟨p1, by unfold con3; rw [if_neg (by assumption)], HK, Bg0, BQ, f25.sub (sub_cons rfl (sub_cons rfl (sub_cons rfl (sub_cons rfl sn))))⟩))
 intro a21 w7 hj
 rw [hJ8] at hj
 clear hJ8 J8
 obtain ⟨p2, hp2, HK, Bg0, BQ, f21⟩ := hj
 try clear f20
 replace BQ : Blk w7 gq 28 #[.int .i64 p2.kind, .bool p2.dup, .bool p2.retain, .int .i64 p2.qos, .int .i64 p2.id, .string p2.topic, .slice s1.pa p2.pay.length s1.pc, .int .i64 p2.level, .string p2.client, .bool p2.clean, .int .i64 p2.keep, .bool p2.hasWill, .string p2.wt, .slice s1.wa p2.wp.length s1.wc, .int .i64 p2.wq, .bool p2.wr, .bool p2.hasUser, .bool p2.hasPass, .string p2.user, .slice s1.sa p2.pass.length s1.sc, .bool p2.present, .int .i64 p2.code, .slice s1.ua p2.subs.length s1.uc, .slice s1.ca p2.codes.length s1.cc] := BQ
 obtain ⟨J10, hJ10⟩ : ∃ J : Act → World → Prop, J = fun a W => ∃ (p3 : Pk) (s3 : Ad), p3 = con4 b x p2 ∧ s3 = (if b % 10 = 9 then { s1 with sa := A, sc := cx } else s1) ∧ Kept [] w W ∧ Blk W g0 28 zeroPk ∧ Blk W gq 28 (p3.cells s3) ∧ Fr 57 a [(8, .pointer (some ⟨g0, 0, none⟩)), (9, .pointer (some ⟨gq, 0, none⟩))] := ⟨_, rfl⟩
 refine C.cut J10 ?_ ?_
 ·skip
  refine C.sk fun K5 hK5 => ?_
  refine L.mv f21 fun a22 f22 => ?_
  refine L.va f22 (E.rem f22 rfl rfl (by omega) (Int.tmod_eq_emod_of_nonneg (by omega))) fun a23 f23 => ?_
  refine L.va f23 (E.eq f23) fun a24 f24 => ?_
  refine wpList_nil (hK5 _ _ ?_)
  have f25 := f24.sub (sc 3 (sc 8 (sc 9 (sc 50 sn))))
  clear f21 a21 f22 a22 f23 a23 f24
  refine f25.splitD 50 rfl (fun h3 f26 => ?_) (fun h3 f26 => ?_)
  ·refine C.condT f26 rfl ?_
   refine C.region ?_
   refine L.mv f26 fun a27 f27 => ?_
   refine L.fa 16 f27 U28 rfl wsz4_xf fun a28 f28 => ?_
   refine L.store f28 wantedN wsz4_xf rfl rfl rfl BQ (by (simp [Value.cells]; done)) fun a29 w8 f29 NB8 ks8 => ?_
   have szw8 := ks8.size
   replace HK := HK.trans ks8 (ktr (by omega))
   replace Bg0 := Bg0.kept ks8 (by simp; omega)
   replace BQ := NB8
   simp only [Value.cells, z1, z2, z3, Nat.reduceAdd, Nat.zero_add] at BQ
   clear f25 f26 a24 f27 a27 ks8 f28 a28
   refine L.fa 18 f29 U28 rfl wsz9_xf fun a30 f30 => ?_
   refine L.store f30 wantedN wsz9_xf rfl rfl rfl BQ (by (simp [Value.cells]; done)) fun a31 w9 f31 NB9 ks9 => ?_
   have szw9 := ks9.size
   replace HK := HK.trans ks9 (ktr (by omega))
   replace Bg0 := Bg0.kept ks9 (by simp; omega)
   replace BQ := NB9
   simp only [Value.cells, z1, z2, z3, Nat.reduceAdd, Nat.zero_add] at BQ
   clear f29 a29 ks9 f30 a30
   refine L.fa 17 f31 U28 rfl wsz4_xf fun a32 f32 => ?_
   refine L.store f32 wantedN wsz4_xf rfl rfl rfl BQ (by (simp [Value.cells]; done)) fun a33 w10 f33 NB10 ks10 => ?_
   have szw10 := ks10.size
   replace HK := HK.trans ks10 (ktr (by omega))
   replace Bg0 := Bg0.kept ks10 (by simp; omega)
   replace BQ := NB10
   simp only [Value.cells, z1, z2, z3, Nat.reduceAdd, Nat.zero_add] at BQ
   clear f31 a31 ks10 f32 a32
   refine L.fa 19 f33 U28 rfl wsz22_xf fun a34 f34 => ?_
   refine L.store f34 wantedN wsz22_xf rfl rfl rfl BQ (by (simp [Value.cells]; done)) fun a35 w11 f35 NB11 ks11 => ?_
   have szw11 := ks11.size
   replace HK := HK.trans ks11 (ktr (by omega))
   replace Bg0 := Bg0.kept ks11 (by simp; omega)
   replace BQ := NB11
   simp only [Value.cells, z1, z2, z3, Nat.reduceAdd, Nat.zero_add] at BQ
   clear f33 a33 ks11 f34 a34
   exact wpList_nil (then_of (J := J10) (Q := fun _ _ _ => True) (by rw [hJ10]; exact ⟨{ p2 with hasUser := true, user := ⟨#[117]⟩, hasPass := true, pass := x }, { s1 with sa := A, sc := cx }, by unfold con4; rw [if_pos (by assumption)], by rw [if_pos (by assumption)], HK, Bg0, BQ, f35.sub (sub_cons rfl (sub_cons rfl sn))⟩))
  refine C.condF f26 rfl ?_
  exact wp_skip (then_of (J := J10) (Q := fun _ _ _ => True) (by rw [hJ10]; exact ⟨p2, s1, by unfold con4; rw [if_neg (by assumption)], by rw [if_neg (by assumption)], HK, Bg0, BQ, f26.sub (sub_cons rfl (sub_cons rfl sn))⟩))
 intro a22 w8 hj
 rw [hJ10] at hj
 clear hJ10 J10
 obtain ⟨p3, s3, hp3, hs3, HK, Bg0, BQ, f22⟩ := hj
 try clear f21
 refine C.sk fun K6 hK6 => ?_
 refine L.va f22 (by exact E.loadB f22 U28 rfl wsz28_xf rfl (BQ) rfl) fun a23 f23 => ?_
 refine L.storeR f23 wantedN wsz28_xf rfl rfl rfl Bg0 rfl rfl fun a24 w9 f24 NB9 ks9 => ?_
 have szw9 := ks9.size
 replace HK := HK.trans ks9 (ktr (by omega))
 replace BQ := BQ.kept ks9 (by simp; omega)
 replace Bg0 := NB9
 clear f22 a22 ks9 f23 a23
 refine wpList_nil (hK6 _ _ ?_)
 have f25 := f24.sub (sc 8 sn)
 refine wp_ret ?_
 try simp only [Exit.inBlock, Exit.then]
 refine C.retC (P := Tryd.prog) (fn := Tryd.f36) f25 rfl rfl Bg0 U28 rfl wsz28_xf ?_
 have he : p3 = seatCon a0_ b c x := by rw [hp3, hp2, hp1, hp]; rfl
 have hs : s3 = adC b c A cx := by rw [hs3, hs1]; rfl
 exact ⟨HK, by rw [← he, ← hs]⟩
end Go.Proofs.YtigjafbbnocihaaDoor
namespace Go.Proofs.YtigjafbbnocihaaDoor
open Go.RowKit Go.Hub Go.Lib Go.Vl
theorem wzib70_xg : (Tryd.prog.info? 70).map (fun i => (i.zero, i.size, i.bytes)) = some (some (.agg #[(.string ⟨#[]⟩), (.int .i64 0)]), 2, 24) := by kernel_rfl
theorem wzi70_xg : (Tryd.prog.info? 70).map (fun i => (i.zero, i.size)) = some (some (.agg #[(.string ⟨#[]⟩), (.int .i64 0)]), 2) := by kernel_rfl
theorem wbs25_1_xg (x0_0 x0_1 : Value) : Instr.fill (fun i => some (i * 2, 2)) ((Array.range (1 * 2)).map fun j => (Value.cells (.agg #[(.string ⟨#[]⟩), (.int .i64 0)]))[j % (Value.cells (.agg #[(.string ⟨#[]⟩), (.int .i64 0)])).size]!) [(0, .agg #[x0_0, x0_1])] = some #[x0_0, x0_1] := by kernel_rfl
theorem wbs25_2_xg (x0_0 x0_1 : Value) (x1_0 x1_1 : Value) : Instr.fill (fun i => some (i * 2, 2)) ((Array.range (2 * 2)).map fun j => (Value.cells (.agg #[(.string ⟨#[]⟩), (.int .i64 0)]))[j % (Value.cells (.agg #[(.string ⟨#[]⟩), (.int .i64 0)])).size]!) [(0, .agg #[x0_0, x0_1]), (1, .agg #[x1_0, x1_1])] = some #[x0_0, x0_1, x1_0, x1_1] := by kernel_rfl
theorem wsz3_xg : (Tryd.prog.info? 3).map (·.size) = some 1 := by kernel_rfl
theorem wsz4_xg : (Tryd.prog.info? 4).map (·.size) = some 1 := by kernel_rfl
theorem wsz25_xg : (Tryd.prog.info? 25).map (·.size) = some 1 := by kernel_rfl
theorem wsz28_xg : (Tryd.prog.info? 28).map (·.size) = some 24 := by kernel_rfl
theorem wsz70_xg : (Tryd.prog.info? 70).map (·.size) = some 2 := by kernel_rfl
theorem wbl28_0_xg (x0 : Int) : Tryd.prog.built 28 [(0, .int .i64 x0)] = some #[.int .i64 x0, (.bool false), (.bool false), (.int .i64 0), (.int .i64 0), (.string ⟨#[]⟩), (.slice none 0 0), (.int .i64 0), (.string ⟨#[]⟩), (.bool false), (.int .i64 0), (.bool false), (.string ⟨#[]⟩), (.slice none 0 0), (.int .i64 0), (.bool false), (.bool false), (.bool false), (.string ⟨#[]⟩), (.slice none 0 0), (.bool false), (.int .i64 0), (.slice none 0 0), (.slice none 0 0)] := by kernel_rfl
theorem wbl28_0_4_xg (x0 : Int) (x1 : Int) : Tryd.prog.built 28 [(0, .int .i64 x0), (4, .int .i64 x1)] = some #[.int .i64 x0, (.bool false), (.bool false), (.int .i64 0), .int .i64 x1, (.string ⟨#[]⟩), (.slice none 0 0), (.int .i64 0), (.string ⟨#[]⟩), (.bool false), (.int .i64 0), (.bool false), (.string ⟨#[]⟩), (.slice none 0 0), (.int .i64 0), (.bool false), (.bool false), (.bool false), (.string ⟨#[]⟩), (.slice none 0 0), (.bool false), (.int .i64 0), (.slice none 0 0), (.slice none 0 0)] := by kernel_rfl
theorem wbl28_0_4_19_xg (x0 : Int) (x1 : Int) (x2 : Option Addr) (y2 z2 : Nat) : Tryd.prog.built 28 [(0, .int .i64 x0), (4, .int .i64 x1), (19, .slice x2 y2 z2)] = some #[.int .i64 x0, (.bool false), (.bool false), (.int .i64 0), .int .i64 x1, (.string ⟨#[]⟩), (.slice none 0 0), (.int .i64 0), (.string ⟨#[]⟩), (.bool false), (.int .i64 0), (.bool false), (.string ⟨#[]⟩), (.slice none 0 0), (.int .i64 0), (.bool false), (.bool false), (.bool false), (.string ⟨#[]⟩), (.slice none 0 0), (.bool false), (.int .i64 0), .slice x2 y2 z2, (.slice none 0 0)] := by kernel_rfl
theorem wbl28_0_5_6_3_2_xg (x0 : Int) (x1 : ByteArray) (x2 : Option Addr) (y2 z2 : Nat) (x3 : Int) (x4 : Bool) : Tryd.prog.built 28 [(0, .int .i64 x0), (5, .string x1), (6, .slice x2 y2 z2), (3, .int .i64 x3), (2, .bool x4)] = some #[.int .i64 x0, (.bool false), .bool x4, .int .i64 x3, (.int .i64 0), .string x1, .slice x2 y2 z2, (.int .i64 0), (.string ⟨#[]⟩), (.bool false), (.int .i64 0), (.bool false), (.string ⟨#[]⟩), (.slice none 0 0), (.int .i64 0), (.bool false), (.bool false), (.bool false), (.string ⟨#[]⟩), (.slice none 0 0), (.bool false), (.int .i64 0), (.slice none 0 0), (.slice none 0 0)] := by kernel_rfl
theorem wbl70_0_xg (x0 : ByteArray) : Tryd.prog.built 70 [(0, .string x0)] = some #[.string x0, (.int .i64 0)] := by kernel_rfl
theorem wbl70_0_1_xg (x0 : ByteArray) (x1 : Int) : Tryd.prog.built 70 [(0, .string x0), (1, .int .i64 x1)] = some #[.string x0, .int .i64 x1] := by kernel_rfl
def seatPub (a b c : Int) (x : List UInt8) : Pk := if 0 < b % 3 then { kind := 3, topic := topicS a, pay := x, qos := b % 3, retain := decide (c % 2 = 0), id := c % 5 + 1, dup := decide (c % 7 = 0) } else { kind := 3, topic := topicS a, pay := x, qos := b % 3, retain := decide (c % 2 = 0) }
def sub2 (c : Int) (l : List (ByteArray × Int)) : List (ByteArray × Int) := if c % 3 = 0 then l ++ [(filterS c, c % 2)] else l
def sub3 (c : Int) (l : List (ByteArray × Int)) : List (ByteArray × Int) := if c % 11 = 0 then l ++ [(⟨#[97, 35]⟩, 1)] else l
def unsL (a c : Int) : List (ByteArray × Int) := if c % 2 = 0 then [(filterS a, 0)] else [(filterS a, 0), (filterS c, 0)]
def seatP (k a b c : Int) (x : List UInt8) : Pk :=
  if k % 15 ≤ 3 then seatPub a b c x
  else if k % 15 ≤ 6 then { kind := 8, id := b % 7 + 1, subs := sub3 c (sub2 c [(filterS a, b % 3)]) }
  else if k % 15 = 7 then { kind := 10, id := b % 7 + 1, subs := unsL a c }
  else if k % 15 = 8 then { kind := 4, id := b % 7 + 1 }
  else if k % 15 = 9 then { kind := 5, id := b % 7 + 1 }
  else if k % 15 = 10 then { kind := 7, id := b % 7 + 1 }
  else if k % 15 = 11 then { kind := 6, id := c % 5 + 1 }
  else if k % 15 = 12 then { kind := 12 }
  else if k % 15 = 13 then seatCon a b c x
  else { kind := 14 }
section
variable {k a b c : Int} {x : List UInt8}
theorem seat_pub (h : k % 15 ≤ 3) : seatP k a b c x = if 0 < b % 3 then { kind := 3, topic := topicS a, pay := x, qos := b % 3, retain := decide (c % 2 = 0), id := c % 5 + 1, dup := decide (c % 7 = 0) } else { kind := 3, topic := topicS a, pay := x, qos := b % 3, retain := decide (c % 2 = 0) } := by unfold seatP; rw [if_pos h]; rfl
theorem seat_sub (h : 4 ≤ k % 15 ∧ k % 15 ≤ 6) : seatP k a b c x = { kind := 8, id := b % 7 + 1, subs := sub3 c (sub2 c [(filterS a, b % 3)]) } := by unfold seatP; rw [if_neg (by omega), if_pos h.2]
theorem seat_uns (h : k % 15 = 7) : seatP k a b c x = { kind := 10, id := b % 7 + 1, subs := unsL a c } := by unfold seatP; rw [if_neg (by omega), if_neg (by omega), if_pos h]
theorem seat_a (h : k % 15 = 8) : seatP k a b c x = { kind := 4, id := b % 7 + 1 } := by unfold seatP; rw [if_neg (by omega), if_neg (by omega), if_neg (by omega), if_pos h]
theorem seat_r (h : k % 15 = 9) : seatP k a b c x = { kind := 5, id := b % 7 + 1 } := by unfold seatP; rw [if_neg (by omega), if_neg (by omega), if_neg (by omega), if_neg (by omega), if_pos h]
theorem seat_p (h : k % 15 = 10) : seatP k a b c x = { kind := 7, id := b % 7 + 1 } := by unfold seatP; rw [if_neg (by omega), if_neg (by omega), if_neg (by omega), if_neg (by omega), if_neg (by omega), if_pos h]
theorem seat_l (h : k % 15 = 11) : seatP k a b c x = { kind := 6, id := c % 5 + 1 } := by unfold seatP; rw [if_neg (by omega), if_neg (by omega), if_neg (by omega), if_neg (by omega), if_neg (by omega), if_neg (by omega), if_pos h]
theorem seat_q (h : k % 15 = 12) : seatP k a b c x = { kind := 12 } := by unfold seatP; rw [if_neg (by omega), if_neg (by omega), if_neg (by omega), if_neg (by omega), if_neg (by omega), if_neg (by omega), if_neg (by omega), if_pos h]
theorem seat_con (h : k % 15 = 13) : seatP k a b c x = seatCon a b c x := by unfold seatP; rw [if_neg (by omega), if_neg (by omega), if_neg (by omega), if_neg (by omega), if_neg (by omega), if_neg (by omega), if_neg (by omega), if_neg (by omega), if_pos h]
theorem seat_d (h : 14 ≤ k % 15) : seatP k a b c x = { kind := 14 } := by unfold seatP; rw [if_neg (by omega), if_neg (by omega), if_neg (by omega), if_neg (by omega), if_neg (by omega), if_neg (by omega), if_neg (by omega), if_neg (by omega), if_neg (by omega)]
end
theorem uns_len (a c : Int) : (unsL a c).length = (1 + c % 2).toNat := by
  unfold unsL
  rcases (by omega : c % 2 = 0 ∨ c % 2 = 1) with h | h
  · rw [if_pos h, h]; rfl
  rw [if_neg (by omega), h]; rfl
theorem uns_sl {w : World} {g : Nat} {a c : Int} (B : Blk w g 70 #[.string (filterS a), .int .i64 0, .string (filterS c), .int .i64 0]) : Sl w (some ⟨g, 0, none⟩) (unsL a c).length 2 (subCells (unsL a c)) := by
  unfold unsL
  split
  · exact ⟨rfl, fun _ => ⟨g, 0, rfl, B.lt, fun j u hu => by
      rw [Nat.zero_add]
      refine B.cl ?_
      match j, hu with
      | 0, hu => exact hu
      | 1, hu => exact hu
      | n + 2, hu => simp [subCells] at hu⟩⟩
  exact B.slN (n := 2) (size := 2) rfl
theorem sub_cells (l : List (ByteArray × Int)) (x : ByteArray × Int) : subCells (l ++ [x]) = subCells l ++ [.string x.1, .int .i64 x.2] := by simp [subCells]
theorem su_one {w w1 w2 : World} {g : Nat} {s : ByteArray} {i : Int} (hs : w.heap.size ≤ w1.heap.size) (N : Newb w1 w2 g 70 #[.string s, .int .i64 i]) : Fresh w w2 70 2 (some ⟨g, 0, none⟩) ([(s, i)] : List (ByteArray × Int)).length 1 (subCells [(s, i)]) :=
  ⟨N.own (k := 1) (size := 2) rfl (by decide), fun b hb => by
    simp at hb
    subst hb
    exact Nat.le_trans hs N.lo⟩
set_option maxRecDepth 100000 in
set_option maxHeartbeats 8000000 in
theorem seat_any (k a0_ b c : Int) (x : List UInt8) (A : Option Addr) (cx : Nat) (w : World) (SX : Sl w A x.length 1 (x.map u8)) (hk : 0 ≤ k ∧ k < 256) (ha0_ : 0 ≤ a0_ ∧ a0_ < 256) (hb : 0 ≤ b ∧ b < 256) (hc : 0 ≤ c ∧ c < 256) : Calls Tryd.prog 15 #[.int .u8 k, .int .u8 a0_, .int .u8 b, .int .u8 c, .slice A x.length cx] w (SeatPost (seatP k a0_ b c x) w) := by
 have HK : Kept [] w w := Kept.refl [] w
 refine C.enter Tryd.func15 rfl Tryd.ntmps15 rfl ?_
 intro a0 f0
 have f1 : Fr 130 a0 [(0, .int .u8 k), (1, .int .u8 a0_), (2, .int .u8 b), (3, .int .u8 c), (4, .slice A x.length cx)] := f0
 refine C.sk fun K0 hK0 => ?_
 refine L.alloc f1 wantedN (by decide) (z := (.agg #[(.int .i64 0), (.bool false), (.bool false), (.int .i64 0), (.int .i64 0), (.string ⟨#[]⟩), (.slice none 0 0), (.int .i64 0), (.string ⟨#[]⟩), (.bool false), (.int .i64 0), (.bool false), (.string ⟨#[]⟩), (.slice none 0 0), (.int .i64 0), (.bool false), (.bool false), (.bool false), (.string ⟨#[]⟩), (.slice none 0 0), (.bool false), (.int .i64 0), (.slice none 0 0), (.slice none 0 0)])) (fun _ => by kernel_rfl) rfl fun a2 w1 g0 N0 f2 => ?_
 have Bg0 := N0.blk
 have kg0 := N0.kept
 have log0 := N0.lo
 have ltg0 := Bg0.lt
 have szw1 := kg0.size
 have frg0 : w.heap.size ≤ g0 := Nat.le_trans HK.size log0
 replace HK := HK.trans kg0 (by simp)
 clear f0 N0 kg0
 refine wpList_nil (hK0 _ _ ?_)
 have f3 := f2.sub (sc 0 (sc 1 (sc 2 (sc 3 (sc 4 (sc 10 sn))))))
 refine C.sk fun K1 hK1 => ?_
 refine L.mv f3 fun a4 f4 => ?_
 refine L.va f4 (E.rem f4 rfl rfl (by omega) (Int.tmod_eq_emod_of_nonneg (by omega))) fun a5 f5 => ?_
 refine L.va f5 (E.conv f5 U5 U3 rfl (IntWalk.i64_in _ (by omega))) fun a6 f6 => ?_
 refine L.va f6 (E.add f6 rfl rfl (IntWalk.i64_in _ (by omega))) fun a7 f7 => ?_
 refine L.ag f7 fun a8 f8 => ?_
 refine wpList_nil (hK1 _ _ ?_)
 have f9 := f8.sub (sc 0 (sc 1 (sc 2 (sc 3 (sc 4 (sc 10 (sc 11 sn)))))))
 clear f1 a0 f2 f3 a2 f4 a4 f5 a5 f6 a6 f7 a7 f8
 refine wp_seq_k fun K2 hK2 => ?_
 refine C.sk fun K3 hK3 => ?_
 refine L.mv f9 fun a10 f10 => ?_
 refine L.va f10 (E.rem f10 rfl rfl (by omega) (Int.tmod_eq_emod_of_nonneg (by omega))) fun a11 f11 => ?_
 refine wpList_nil (hK3 _ _ ?_)
 have f12 := f11.sub (sc 1 (sc 2 (sc 3 (sc 4 (sc 10 (sc 11 (sc 19 sn)))))))
 refine wp_block ?_
 obtain ⟨J7, hJ7⟩ : ∃ J : Act → World → Prop, J = fun a W => Kept [] w W ∧ Blk W g0 28 zeroPk ∧ Fr 130 a [(1, .int .u8 a0_), (2, .int .u8 b), (3, .int .u8 c), (4, .slice A x.length cx), (10, .pointer (some ⟨g0, 0, none⟩)), (11, .int .i64 (b % 7 + 1)), (19, .int .u8 (k % 15)), (20, .bool (decide (k % 15 ≤ 3)))] := ⟨_, rfl⟩
 clear f9 a8 f10 a10 f11
 refine C.cut J7 ?_ ?_
 ·skip
  refine C.sk fun K4 hK4 => ?_
  refine L.va f12 (E.eq f12) fun a13 f13 => ?_
  refine L.ag f13 fun a14 f14 => ?_
  refine wpList_nil (hK4 _ _ ?_)
  have f15 := f14.sub (sc 1 (sc 2 (sc 3 (sc 4 (sc 10 (sc 11 (sc 19 (sc 20 sn))))))))
  clear f12 a11 f13 a13 f14
  refine f15.splitD 20 rfl (fun h0 f16 => ?_) (fun h0 f16 => ?_)
  ·have hm := h0
   refine C.condT f16 rfl ?_
   exact wp_skip (then_of (J := J7) (Q := fun _ _ _ => True) (by rw [hJ7]; exact ⟨HK, Bg0, f16.sub (sub_cons rfl (sub_cons rfl (sub_cons rfl (sub_cons rfl (sub_cons rfl (sub_cons rfl (sub_cons rfl (sub_cons (by exact congrArg (fun t => some (Value.bool t)) (decide_eq_true (by omega : k % 15 ≤ 3)).symm) sn))))))))⟩))
  refine C.condF f16 rfl ?_
  refine C.sk fun K5 hK5 => ?_
  refine L.va f16 (E.eq f16) fun a17 f17 => ?_
  refine L.ag f17 fun a18 f18 => ?_
  refine wpList_nil (hK5 _ _ ?_)
  have f19 := f18.sub (sc 1 (sc 2 (sc 3 (sc 4 (sc 10 (sc 11 (sc 19 (sc 20 sn))))))))
  clear f15 f16 a14 f17 a17 f18
  refine f19.splitD 20 rfl (fun h1 f20 => ?_) (fun h1 f20 => ?_)
  ·have hm := h1
   refine C.condT f20 rfl ?_
   exact wp_skip (then_of (J := J7) (Q := fun _ _ _ => True) (by rw [hJ7]; exact ⟨HK, Bg0, f20.sub (sub_cons rfl (sub_cons rfl (sub_cons rfl (sub_cons rfl (sub_cons rfl (sub_cons rfl (sub_cons rfl (sub_cons (by exact congrArg (fun t => some (Value.bool t)) (decide_eq_true (by omega : k % 15 ≤ 3)).symm) sn))))))))⟩))
  refine C.condF f20 rfl ?_
  refine C.sk fun K6 hK6 => ?_
  refine L.va f20 (E.eq f20) fun a21 f21 => ?_
  refine L.ag f21 fun a22 f22 => ?_
  refine wpList_nil (hK6 _ _ ?_)
  have f23 := f22.sub (sc 1 (sc 2 (sc 3 (sc 4 (sc 10 (sc 11 (sc 19 (sc 20 sn))))))))
  clear f19 f20 a18 f21 a21 f22
  refine f23.splitD 20 rfl (fun h2 f24 => ?_) (fun h2 f24 => ?_)
  ·have hm := h2
   refine C.condT f24 rfl ?_
   exact wp_skip (then_of (J := J7) (Q := fun _ _ _ => True) (by rw [hJ7]; exact ⟨HK, Bg0, f24.sub (sub_cons rfl (sub_cons rfl (sub_cons rfl (sub_cons rfl (sub_cons rfl (sub_cons rfl (sub_cons rfl (sub_cons (by exact congrArg (fun t => some (Value.bool t)) (decide_eq_true (by omega : k % 15 ≤ 3)).symm) sn))))))))⟩))
  refine C.condF f24 rfl ?_
  refine C.region ?_
  refine L.va f24 (E.eq f24) fun a25 f25 => ?_
  refine L.ag f25 fun a26 f26 => ?_
  exact wpList_nil (then_of (J := J7) (Q := fun _ _ _ => True) (by rw [hJ7]; exact ⟨HK, Bg0, f26.sub (sub_cons rfl (sub_cons rfl (sub_cons rfl (sub_cons rfl (sub_cons rfl (sub_cons rfl (sub_cons rfl (sub_cons (by exact congrArg (fun t => some (Value.bool t)) (decide_eq_decide.2 (by omega))) sn))))))))⟩))
 intro a13 w2 hj
 rw [hJ7] at hj
 clear hJ7 J7
 obtain ⟨HK, Bg0, f13⟩ := hj
 try clear f12
 refine f13.splitD 20 rfl (fun h3 f14 => ?_) (fun h3 f14 => ?_)
 ·have hm := h3
  refine C.condT f14 rfl ?_
  refine C.sk fun K7 hK7 => ?_
  refine L.mv f14 fun a15 f15 => ?_
  refine L.cl f15 (run_call Tryd.call34 (args1 f15 rfl)) (topicS_any a0_ _ ha0_) ?_
  clear f13 f14 a13
  rintro e w3 ⟨kc3, rfl⟩
  refine ⟨_, rfl, fun a16 f16 => ?_⟩
  have szw3 := kc3.size
  replace HK := HK.trans kc3 (by simp)
  replace Bg0 := Bg0.kept kc3 (by simp)
  clear f15 a15 kc3
  refine L.mv f16 fun a17 f17 => ?_
  refine L.mv f17 fun a18 f18 => ?_
  refine L.va f18 (E.rem f18 rfl rfl (by omega) (Int.tmod_eq_emod_of_nonneg (by omega))) fun a19 f19 => ?_
  refine L.va f19 (E.conv f19 U5 U3 rfl (IntWalk.i64_in _ (by omega))) fun a20 f20 => ?_
  refine L.mv f20 fun a21 f21 => ?_
  refine L.va f21 (E.rem f21 rfl rfl (by omega) (Int.tmod_eq_emod_of_nonneg (by omega))) fun a22 f22 => ?_
  refine L.va f22 (E.eq f22) fun a23 f23 => ?_
  clear f16 a16 f17 a17 f18 a18 f19 a19 f20 a20 f21 a21 f22 a22
  refine L.va f23 (E.build f23 (parts5 f23 rfl rfl rfl rfl rfl) (wbl28_0_5_6_3_2_xg _ _ _ _ _ _ _)) fun a24 f24 => ?_
  refine L.alloc f24 wantedN (by decide) (z := (.agg #[(.int .i64 0), (.bool false), (.bool false), (.int .i64 0), (.int .i64 0), (.string ⟨#[]⟩), (.slice none 0 0), (.int .i64 0), (.string ⟨#[]⟩), (.bool false), (.int .i64 0), (.bool false), (.string ⟨#[]⟩), (.slice none 0 0), (.int .i64 0), (.bool false), (.bool false), (.bool false), (.string ⟨#[]⟩), (.slice none 0 0), (.bool false), (.int .i64 0), (.slice none 0 0), (.slice none 0 0)])) (fun _ => by kernel_rfl) rfl fun a25 w4 g3 N3 f25 => ?_
  have Bg3 := N3.blk
  have kg3 := N3.kept
  have log3 := N3.lo
  have ltg3 := Bg3.lt
  have szw4 := kg3.size
  have frg3 : w.heap.size ≤ g3 := Nat.le_trans HK.size log3
  have neg0_g3 : g0 ≠ g3 := by have := Bg0.lt; omega
  replace HK := HK.trans kg3 (by simp)
  replace Bg0 := Bg0.kept kg3 (by simp)
  clear f23 a23 N3 kg3
  refine L.storeR f25 wantedN wsz28_xg rfl rfl rfl Bg3 rfl rfl fun a26 w5 f26 NB5 ks5 => ?_
  have szw5 := ks5.size
  replace HK := HK.trans ks5 (ktr (by omega))
  replace Bg0 := Bg0.kept ks5 (by simp; omega)
  replace Bg3 := NB5
  clear f24 a24 ks5 f25 a25
  refine wpList_nil (hK7 _ _ ?_)
  have f27 := f26.sub (sc 3 (sc 10 (sc 12 sn)))
  refine wp_seq_k fun K8 hK8 => ?_
  refine C.sk fun K9 hK9 => ?_
  refine L.fa 3 f27 U28 rfl wsz3_xg fun a28 f28 => ?_
  refine L.ld f28 U3 Bg3 fun a29 f29 => ?_
  refine L.va f29 (E.gtr f29 rfl rfl) fun a30 f30 => ?_
  refine wpList_nil (hK9 _ _ ?_)
  have f31 := f30.sub (sc 3 (sc 10 (sc 12 (sc 37 sn))))
  clear f26 f27 a26 f28 a28 f29 a29 f30
  refine f31.splitD 37 rfl (fun h4 f32 => ?_) (fun h4 f32 => ?_)
  ·refine C.condT f32 rfl ?_
   refine C.region ?_
   refine L.mv f32 fun a33 f33 => ?_
   refine L.va f33 (E.rem f33 rfl rfl (by omega) (Int.tmod_eq_emod_of_nonneg (by omega))) fun a34 f34 => ?_
   refine L.va f34 (E.conv f34 U5 U3 rfl (IntWalk.i64_in _ (by omega))) fun a35 f35 => ?_
   refine L.va f35 (E.add f35 rfl rfl (IntWalk.i64_in _ (by omega))) fun a36 f36 => ?_
   refine L.mv f36 fun a37 f37 => ?_
   refine L.va f37 (E.rem f37 rfl rfl (by omega) (Int.tmod_eq_emod_of_nonneg (by omega))) fun a38 f38 => ?_
   refine L.va f38 (E.eq f38) fun a39 f39 => ?_
   clear f31 f32 a30 f33 a33 f34 a34 f35 a35 f36 a36 f37 a37 f38 a38
   refine L.fa 4 f39 U28 rfl wsz3_xg fun a40 f40 => ?_
   refine L.store f40 wantedN wsz3_xg rfl rfl rfl Bg3 (by (simp [Value.cells]; done)) fun a41 w6 f41 NB6 ks6 => ?_
   have szw6 := ks6.size
   replace HK := HK.trans ks6 (ktr (by omega))
   replace Bg0 := Bg0.kept ks6 (by simp; omega)
   replace Bg3 := NB6
   simp only [Value.cells, z1, z2, z3, Nat.reduceAdd, Nat.zero_add] at Bg3
   clear f39 a39 ks6 f40 a40
   refine L.fa 1 f41 U28 rfl wsz4_xg fun a42 f42 => ?_
   refine L.store f42 wantedN wsz4_xg rfl rfl rfl Bg3 (by (simp [Value.cells]; done)) fun a43 w7 f43 NB7 ks7 => ?_
   have szw7 := ks7.size
   replace HK := HK.trans ks7 (ktr (by omega))
   replace Bg0 := Bg0.kept ks7 (by simp; omega)
   replace Bg3 := NB7
   simp only [Value.cells, z1, z2, z3, Nat.reduceAdd, Nat.zero_add] at Bg3
   clear f41 a41 ks7 f42 a42
   refine wpList_nil (hK8 _ _ ?_)
   have f44 := f43.sub (sc 10 (sc 12 sn))
   refine C.sk fun K10 hK10 => ?_
   refine L.va f44 (by exact E.loadB f44 U28 rfl wsz28_xg rfl (Bg3) rfl) fun a45 f45 => ?_
   refine L.storeR f45 wantedN wsz28_xg rfl rfl rfl Bg0 rfl rfl fun a46 w8 f46 NB8 ks8 => ?_
   have szw8 := ks8.size
   replace HK := HK.trans ks8 (ktr (by omega))
   replace Bg3 := Bg3.kept ks8 (by simp; omega)
   replace Bg0 := NB8
   clear f43 f44 a43 ks8 f45 a45
   refine wpList_nil (hK10 _ _ ?_)
   have f47 := f46.sub (sc 10 sn)
   refine wp_ret ?_
   try simp only [Exit.inBlock, Exit.then]
   refine C.retC (P := Tryd.prog) (fn := Tryd.f15) f47 rfl rfl Bg0 U28 rfl wsz28_xg ?_
   exact ⟨{ s0 with pa := A, pc := cx }, by rw [seat_pub hm, if_pos (by assumption)]; rfl, HK, by rw [seat_pub hm, if_pos (by assumption)]; exact ⟨SX.kept HK, Sl.nil _ _ _, Sl.nil _ _ _, Sl.nil _ _ _, Sl.nil _ _ _⟩⟩
  refine C.condF f32 rfl ?_
  refine wp_skip (hK8 _ _ ?_)
  have f33 := f32.sub (sc 10 (sc 12 sn))
  refine C.sk fun K11 hK11 => ?_
  refine L.va f33 (by exact E.loadB f33 U28 rfl wsz28_xg rfl (Bg3) rfl) fun a34 f34 => ?_
  refine L.storeR f34 wantedN wsz28_xg rfl rfl rfl Bg0 rfl rfl fun a35 w6 f35 NB6 ks6 => ?_
  have szw6 := ks6.size
  replace HK := HK.trans ks6 (ktr (by omega))
  replace Bg3 := Bg3.kept ks6 (by simp; omega)
  replace Bg0 := NB6
  clear f31 f32 f33 a30 ks6 f34 a34
  refine wpList_nil (hK11 _ _ ?_)
  have f36 := f35.sub (sc 10 sn)
  refine wp_ret ?_
  try simp only [Exit.inBlock, Exit.then]
  refine C.retC (P := Tryd.prog) (fn := Tryd.f15) f36 rfl rfl Bg0 U28 rfl wsz28_xg ?_
  exact ⟨{ s0 with pa := A, pc := cx }, by rw [seat_pub hm, if_neg (by assumption)]; rfl, HK, by rw [seat_pub hm, if_neg (by assumption)]; exact ⟨SX.kept HK, Sl.nil _ _ _, Sl.nil _ _ _, Sl.nil _ _ _, Sl.nil _ _ _⟩⟩
 refine C.condF f14 rfl ?_
 obtain ⟨J14, hJ14⟩ : ∃ J : Act → World → Prop, J = fun a W => Kept [] w W ∧ Blk W g0 28 zeroPk ∧ Fr 130 a [(1, .int .u8 a0_), (2, .int .u8 b), (3, .int .u8 c), (4, .slice A x.length cx), (10, .pointer (some ⟨g0, 0, none⟩)), (11, .int .i64 (b % 7 + 1)), (19, .int .u8 (k % 15)), (48, .bool (decide (k % 15 ≤ 6)))] := ⟨_, rfl⟩
 clear f13
 refine C.cut J14 ?_ ?_
 ·skip
  refine C.sk fun K12 hK12 => ?_
  refine L.va f14 (E.eq f14) fun a15 f15 => ?_
  refine L.ag f15 fun a16 f16 => ?_
  refine wpList_nil (hK12 _ _ ?_)
  have f17 := f16.sub (sc 1 (sc 2 (sc 3 (sc 4 (sc 10 (sc 11 (sc 19 (sc 48 sn))))))))
  clear f14 a13 f15 a15 f16
  refine f17.splitD 48 rfl (fun h5 f18 => ?_) (fun h5 f18 => ?_)
  ·have hm : 4 ≤ k % 15 ∧ k % 15 ≤ 6 := by omega
   refine C.condT f18 rfl ?_
   exact wp_skip (then_of (J := J14) (Q := fun _ _ _ => True) (by rw [hJ14]; exact ⟨HK, Bg0, f18.sub (sub_cons rfl (sub_cons rfl (sub_cons rfl (sub_cons rfl (sub_cons rfl (sub_cons rfl (sub_cons rfl (sub_cons (by exact congrArg (fun t => some (Value.bool t)) (decide_eq_true (by omega : k % 15 ≤ 6)).symm) sn))))))))⟩))
  refine C.condF f18 rfl ?_
  refine C.sk fun K13 hK13 => ?_
  refine L.va f18 (E.eq f18) fun a19 f19 => ?_
  refine L.ag f19 fun a20 f20 => ?_
  refine wpList_nil (hK13 _ _ ?_)
  have f21 := f20.sub (sc 1 (sc 2 (sc 3 (sc 4 (sc 10 (sc 11 (sc 19 (sc 48 sn))))))))
  clear f17 f18 a16 f19 a19 f20
  refine f21.splitD 48 rfl (fun h6 f22 => ?_) (fun h6 f22 => ?_)
  ·have hm : 4 ≤ k % 15 ∧ k % 15 ≤ 6 := by omega
   refine C.condT f22 rfl ?_
   exact wp_skip (then_of (J := J14) (Q := fun _ _ _ => True) (by rw [hJ14]; exact ⟨HK, Bg0, f22.sub (sub_cons rfl (sub_cons rfl (sub_cons rfl (sub_cons rfl (sub_cons rfl (sub_cons rfl (sub_cons rfl (sub_cons (by exact congrArg (fun t => some (Value.bool t)) (decide_eq_true (by omega : k % 15 ≤ 6)).symm) sn))))))))⟩))
  refine C.condF f22 rfl ?_
  refine C.region ?_
  refine L.va f22 (E.eq f22) fun a23 f23 => ?_
  refine L.ag f23 fun a24 f24 => ?_
  exact wpList_nil (then_of (J := J14) (Q := fun _ _ _ => True) (by rw [hJ14]; exact ⟨HK, Bg0, f24.sub (sub_cons rfl (sub_cons rfl (sub_cons rfl (sub_cons rfl (sub_cons rfl (sub_cons rfl (sub_cons rfl (sub_cons (by exact congrArg (fun t => some (Value.bool t)) (decide_eq_decide.2 (by omega))) sn))))))))⟩))
 intro a15 w3 hj
 rw [hJ14] at hj
 clear hJ14 J14
 obtain ⟨HK, Bg0, f15⟩ := hj
 try clear f14
 refine f15.splitD 48 rfl (fun h7 f16 => ?_) (fun h7 f16 => ?_)
 ·have hm : 4 ≤ k % 15 ∧ k % 15 ≤ 6 := by omega
  refine C.condT f16 rfl ?_
  obtain ⟨J15, hJ15⟩ : ∃ J : Act → World → Prop, J = fun a W => ∃ (gq : Nat) (l : List (ByteArray × Int)) (Aq : Option Addr) (cq : Nat), l = [(filterS a0_, b % 3)] ∧ gq ≠ g0 ∧ w.heap.size ≤ gq ∧ Kept [] w W ∧ Blk W g0 28 zeroPk ∧ Blk W gq 28 (({ kind := 8, id := b % 7 + 1, subs := l } : Pk).cells { s0 with ua := Aq, uc := cq }) ∧ Fresh w W 70 2 Aq l.length cq (subCells l) ∧ Fr 130 a [(3, .int .u8 c), (10, .pointer (some ⟨g0, 0, none⟩)), (13, .pointer (some ⟨gq, 0, none⟩))] := ⟨_, rfl⟩
  clear f15
  refine C.cut J15 ?_ ?_
  ·skip
   refine C.region ?_
   refine L.mv f16 fun a17 f17 => ?_
   refine L.mv f17 fun a18 f18 => ?_
   refine L.cl f18 (run_call Tryd.call35 (args1 f18 rfl)) (filterS_any a0_ _ ha0_) ?_
   clear f16 a15 f17 a17
   rintro e w4 ⟨kc4, rfl⟩
   refine ⟨_, rfl, fun a19 f19 => ?_⟩
   have szw4 := kc4.size
   replace HK := HK.trans kc4 (by simp)
   replace Bg0 := Bg0.kept kc4 (by simp)
   clear f18 a18 kc4
   refine L.mv f19 fun a20 f20 => ?_
   refine L.va f20 (E.rem f20 rfl rfl (by omega) (Int.tmod_eq_emod_of_nonneg (by omega))) fun a21 f21 => ?_
   refine L.va f21 (E.conv f21 U5 U3 rfl (IntWalk.i64_in _ (by omega))) fun a22 f22 => ?_
   refine L.va f22 (E.build f22 (parts2 f22 rfl rfl) (wbl70_0_1_xg _ _)) fun a23 f23 => ?_
   refine L.buildSlice f23 wantedN (by decide) (parts1 f23 rfl) U25 wzi70_xg rfl rfl (wbs25_1_xg _ _) fun a24 w5 g4 N4 f24 => ?_
   have SU := su_one HK.size N4
   have Bg4 := N4.blk
   have kg4 := N4.kept
   have log4 := N4.lo
   have ltg4 := Bg4.lt
   have szw5 := kg4.size
   have frg4 : w.heap.size ≤ g4 := Nat.le_trans HK.size log4
   have neg0_g4 : g0 ≠ g4 := by have := Bg0.lt; omega
   replace HK := HK.trans kg4 (by simp)
   replace Bg0 := Bg0.kept kg4 (by simp)
   clear f19 a19 f20 a20 f21 a21 f22 a22 N4 kg4
   refine L.va f24 (E.build f24 (parts3 f24 rfl rfl rfl) (wbl28_0_4_19_xg _ _ _ _ _)) fun a25 f25 => ?_
   refine L.alloc f25 wantedN (by decide) (z := (.agg #[(.int .i64 0), (.bool false), (.bool false), (.int .i64 0), (.int .i64 0), (.string ⟨#[]⟩), (.slice none 0 0), (.int .i64 0), (.string ⟨#[]⟩), (.bool false), (.int .i64 0), (.bool false), (.string ⟨#[]⟩), (.slice none 0 0), (.int .i64 0), (.bool false), (.bool false), (.bool false), (.string ⟨#[]⟩), (.slice none 0 0), (.bool false), (.int .i64 0), (.slice none 0 0), (.slice none 0 0)])) (fun _ => by kernel_rfl) rfl fun a26 w6 g5 N5 f26 => ?_
   have Bg5 := N5.blk
   have kg5 := N5.kept
   have log5 := N5.lo
   have ltg5 := Bg5.lt
   have szw6 := kg5.size
   have frg5 : w.heap.size ≤ g5 := Nat.le_trans HK.size log5
   have neg0_g5 : g0 ≠ g5 := by have := Bg0.lt; omega
   have neg4_g5 : g4 ≠ g5 := by have := Bg4.lt; omega
   replace HK := HK.trans kg5 (by simp)
   replace Bg0 := Bg0.kept kg5 (by simp)
   replace Bg4 := Bg4.kept kg5 (by simp)
   replace SU := SU.kept0 kg5
   clear f23 a23 f24 a24 N5 kg5
   refine L.storeR f26 wantedN wsz28_xg rfl rfl rfl Bg5 rfl rfl fun a27 w7 f27 NB7 ks7 => ?_
   have szw7 := ks7.size
   replace HK := HK.trans ks7 (ktr (by omega))
   replace Bg0 := Bg0.kept ks7 (by simp; omega)
   replace Bg4 := Bg4.kept ks7 (by simp; omega)
   replace SU := fresh_blk SU ks7 Bg5 (by decide)
   replace Bg5 := NB7
   clear f25 a25 ks7 f26 a26
   exact wpList_nil (then_of (J := J15) (Q := fun _ _ _ => True) (by rw [hJ15]; exact ⟨g5, [(filterS a0_, b % 3)], some ⟨g4, 0, none⟩, 1, rfl, by omega, by omega, HK, Bg0, Bg5, SU, f27.sub (sub_cons rfl (sub_cons rfl (sub_cons rfl sn)))⟩))
  intro a17 w4 hj
  rw [hJ15] at hj
  clear hJ15 J15
  obtain ⟨gq, l, Aq, cq, hl, hne, hgq, HK, Bg0, BQ, SU, f17⟩ := hj
  try clear f16
  replace BQ : Blk w4 gq 28 #[.int .i64 8, .bool false, .bool false, .int .i64 0, .int .i64 (b % 7 + 1), .string em, .slice none 0 0, .int .i64 0, .string em, .bool false, .int .i64 0, .bool false, .string em, .slice none 0 0, .int .i64 0, .bool false, .bool false, .bool false, .string em, .slice none 0 0, .bool false, .int .i64 0, .slice Aq l.length cq, .slice none 0 0] := BQ
  have hne2 : g0 ≠ gq := fun e => hne e.symm
  have hll : l.length = 1 := by rw [hl]; rfl
  obtain ⟨J17, hJ17⟩ : ∃ J : Act → World → Prop, J = fun a W => ∃ (l2 : List (ByteArray × Int)) (A2 : Option Addr) (c2 : Nat), l2 = sub2 c l ∧ Kept [] w W ∧ Blk W g0 28 zeroPk ∧ Blk W gq 28 (({ kind := 8, id := b % 7 + 1, subs := l2 } : Pk).cells { s0 with ua := A2, uc := c2 }) ∧ Fresh w W 70 2 A2 l2.length c2 (subCells l2) ∧ Fr 130 a [(3, .int .u8 c), (10, .pointer (some ⟨g0, 0, none⟩)), (13, .pointer (some ⟨gq, 0, none⟩))] := ⟨_, rfl⟩
  refine C.cut J17 ?_ ?_
  ·skip
   refine C.sk fun K14 hK14 => ?_
   refine L.mv f17 fun a18 f18 => ?_
   refine L.va f18 (E.rem f18 rfl rfl (by omega) (Int.tmod_eq_emod_of_nonneg (by omega))) fun a19 f19 => ?_
   refine L.va f19 (E.eq f19) fun a20 f20 => ?_
   refine wpList_nil (hK14 _ _ ?_)
   have f21 := f20.sub (sc 3 (sc 10 (sc 13 (sc 63 sn))))
   clear f17 a17 f18 a18 f19 a19 f20
   refine f21.splitD 63 rfl (fun h8 f22 => ?_) (fun h8 f22 => ?_)
   ·refine C.condT f22 rfl ?_
    have hd16 : Kept [] w4 (w4.drewN 1) := (Kept.refl _ _).drewN 1
    refine R.beginT (S := fun _ => True) (by kernel_rfl) (by kernel_rfl) trivial fun ht => ?_
    obtain ⟨w5, hww5⟩ : ∃ W, W = w4.drewN 1 := ⟨_, rfl⟩
    rw [← hww5] at hd16 ⊢
    clear f21 hww5
    have szw5 := hd16.size
    replace HK := HK.trans hd16 (by simp)
    replace Bg0 := Bg0.kept hd16 (by simp)
    replace BQ := BQ.kept hd16 (by simp)
    replace SU := SU.kept0 hd16
    clear hd16
    refine R.u 0 f22 rfl ht trivial (fun W hW => (E.fa 22 f22 U28 rfl wsz25_xg)) fun a23 f23 => ?_
    refine R.u 2 f23 rfl ht trivial (fun W hW => (E.move f23 rfl)) fun a24 f24 => ?_
    refine R.u 4 f24 rfl ht trivial (fun W hW => (E.move f24 rfl)) fun a25 f25 => ?_
    refine R.u 5 f25 rfl ht trivial (fun W hW => (E.rem f25 rfl rfl (by omega) (Int.tmod_eq_emod_of_nonneg (by omega)))) fun a26 f26 => ?_
    refine R.u 6 f26 rfl ht trivial (fun W hW => (E.conv f26 U5 U3 rfl (IntWalk.i64_in _ (by omega)))) fun a27 f27 => ?_
    clear f22 a20 f23 a23 f24 a24 f25 a25 f26 a26
    refine R.two 1 3 (by kernel_rfl) ?_ ?_
    ·skip
     refine O.val f27 rfl rfl (by decide) wantedN (by exact E.ld f27 U25 (BQ)) trivial fun a28 f28 => ?_
     refine R.one 3 (by kernel_rfl) ?_
     refine O.call f28 rfl rfl (by decide) wantedN (run_call Tryd.call35 (args1 f28 rfl)) (filterS_any c _ hc) ?_
     clear f27 a27
     rintro e w6 ⟨kc6, rfl⟩
     refine ⟨_, rfl, trivial, fun a29 f29 => ?_⟩
     have szw6 := kc6.size
     replace HK := HK.trans kc6 (by simp)
     replace Bg0 := Bg0.kept kc6 (by simp)
     replace BQ := BQ.kept kc6 (by simp)
     replace SU := SU.kept0 kc6
     clear f28 a28 kc6
     refine R.u 7 f29 rfl ht trivial (fun W hW => (E.build f29 (parts2 f29 rfl rfl) (wbl70_0_1_xg _ _))) fun a30 f30 => ?_
     refine R.one 8 (by kernel_rfl) ?_
     refine O.buildSlice f30 rfl wantedN (by decide) (parts1 f30 rfl) U25 wzi70_xg rfl rfl (wbs25_1_xg _ _) (fun _ _ => trivial) fun a31 w7 g6 N6 hSn f31 => ?_
     clear f29 a29 hSn
     have Bg6 := N6.blk
     have kg6 := N6.kept
     have log6 := N6.lo
     have ltg6 := Bg6.lt
     have szw7 := kg6.size
     have frg6 : w.heap.size ≤ g6 := Nat.le_trans HK.size log6
     have neg0_g6 : g0 ≠ g6 := by have := Bg0.lt; omega
     have negq_g6 : gq ≠ g6 := by have := BQ.lt; omega
     replace HK := HK.trans kg6 (by simp)
     replace Bg0 := Bg0.kept kg6 (by simp)
     replace BQ := BQ.kept kg6 (by simp)
     replace SU := SU.kept0 kg6
     clear N6 kg6
     refine R.one 9 (by kernel_rfl) ?_
     refine O.append f31 rfl wantedN (by decide) U25 wzib70_xg rfl rfl rfl rfl SU.own (Bg6.slN (size := 2) rfl) (by intro u hu; simp at hu; rcases hu with rfl | rfl <;> rfl) (by unfold maxLen; omega) (by omega) fun a32 w8 A8 c8 AP => ?_
     have szw8 := AP.kept.size
     have HKn := AP.grow SU HK
     have BQn := BQ.kept AP.kept (own_ne SU.own BQ (by decide))
     have Bg0n := Bg0.kept AP.kept (own_ne SU.own Bg0 (by decide))
     have SUn := AP.next SU HK.size
     refine ⟨trivial, fun f32 => ?_⟩
     clear f30 a30 f31 Bg6 HK SU BQ Bg0
     have HK := HKn
     have SU := SUn
     have BQ := BQn
     have Bg0 := Bg0n
     clear HKn SUn BQn Bg0n AP
     refine R.u 10 f32 rfl ht trivial (fun W hW => (E.fa 22 f32 U28 rfl wsz25_xg)) fun a33 f33 => ?_
     refine R.one 11 (by kernel_rfl) ?_
     refine OT.store f33 rfl wantedN wsz25_xg rfl rfl rfl BQ (by (simp [Value.cells]; done)) fun a34 w9 f34 NB9 ks9 => ?_
     have szw9 := ks9.size
     replace HK := HK.trans ks9 (ktr (by omega))
     replace Bg0 := Bg0.kept ks9 (by simp; omega)
     replace SU := fresh_blk SU ks9 BQ (by decide)
     replace BQ := NB9
     simp only [Value.cells, z1, z2, z3, Nat.reduceAdd, Nat.zero_add] at BQ
     clear f32 a32 ks9 f33 a33
     exact R.done (by kernel_rfl) (then_of (J := J17) (Q := fun _ _ _ => True) (by rw [hJ17]; exact ⟨l ++ [(filterS c, c % 2)], A8, c8, by unfold sub2; rw [if_pos (by assumption)], HK, Bg0, by rw [Pk.cells, List.length_append]; exact BQ, by rw [sub_cells, List.length_append]; exact SU, f34.sub (sub_cons rfl (sub_cons rfl (sub_cons rfl sn)))⟩))
    skip
    refine O.call f27 rfl rfl (by decide) wantedN (run_call Tryd.call35 (args1 f27 rfl)) (filterS_any c _ hc) ?_
    rintro e w6 ⟨kc6, rfl⟩
    refine ⟨_, rfl, trivial, fun a28 f28 => ?_⟩
    have szw6 := kc6.size
    replace HK := HK.trans kc6 (by simp)
    replace Bg0 := Bg0.kept kc6 (by simp)
    replace BQ := BQ.kept kc6 (by simp)
    replace SU := SU.kept0 kc6
    clear f27 a27 kc6
    refine R.u 7 f28 rfl ht trivial (fun W hW => (E.build f28 (parts2 f28 rfl rfl) (wbl70_0_1_xg _ _))) fun a29 f29 => ?_
    clear f28 a28
    refine R.two 1 8 (by kernel_rfl) ?_ ?_
    ·skip
     refine O.val f29 rfl rfl (by decide) wantedN (by exact E.ld f29 U25 (BQ)) trivial fun a30 f30 => ?_
     refine R.one 8 (by kernel_rfl) ?_
     refine O.buildSlice f30 rfl wantedN (by decide) (parts1 f30 rfl) U25 wzi70_xg rfl rfl (wbs25_1_xg _ _) (fun _ _ => trivial) fun a31 w7 g6 N6 hSn f31 => ?_
     clear f29 a29 hSn
     have Bg6 := N6.blk
     have kg6 := N6.kept
     have log6 := N6.lo
     have ltg6 := Bg6.lt
     have szw7 := kg6.size
     have frg6 : w.heap.size ≤ g6 := Nat.le_trans HK.size log6
     have neg0_g6 : g0 ≠ g6 := by have := Bg0.lt; omega
     have negq_g6 : gq ≠ g6 := by have := BQ.lt; omega
     replace HK := HK.trans kg6 (by simp)
     replace Bg0 := Bg0.kept kg6 (by simp)
     replace BQ := BQ.kept kg6 (by simp)
     replace SU := SU.kept0 kg6
     clear N6 kg6
     refine R.one 9 (by kernel_rfl) ?_
     refine O.append f31 rfl wantedN (by decide) U25 wzib70_xg rfl rfl rfl rfl SU.own (Bg6.slN (size := 2) rfl) (by intro u hu; simp at hu; rcases hu with rfl | rfl <;> rfl) (by unfold maxLen; omega) (by omega) fun a32 w8 A8 c8 AP => ?_
     have szw8 := AP.kept.size
     have HKn := AP.grow SU HK
     have BQn := BQ.kept AP.kept (own_ne SU.own BQ (by decide))
     have Bg0n := Bg0.kept AP.kept (own_ne SU.own Bg0 (by decide))
     have SUn := AP.next SU HK.size
     refine ⟨trivial, fun f32 => ?_⟩
     clear f30 a30 f31 Bg6 HK SU BQ Bg0
     have HK := HKn
     have SU := SUn
     have BQ := BQn
     have Bg0 := Bg0n
     clear HKn SUn BQn Bg0n AP
     refine R.u 10 f32 rfl ht trivial (fun W hW => (E.fa 22 f32 U28 rfl wsz25_xg)) fun a33 f33 => ?_
     refine R.one 11 (by kernel_rfl) ?_
     refine OT.store f33 rfl wantedN wsz25_xg rfl rfl rfl BQ (by (simp [Value.cells]; done)) fun a34 w9 f34 NB9 ks9 => ?_
     have szw9 := ks9.size
     replace HK := HK.trans ks9 (ktr (by omega))
     replace Bg0 := Bg0.kept ks9 (by simp; omega)
     replace SU := fresh_blk SU ks9 BQ (by decide)
     replace BQ := NB9
     simp only [Value.cells, z1, z2, z3, Nat.reduceAdd, Nat.zero_add] at BQ
     clear f32 a32 ks9 f33 a33
     exact R.done (by kernel_rfl) (then_of (J := J17) (Q := fun _ _ _ => True) (by rw [hJ17]; exact ⟨l ++ [(filterS c, c % 2)], A8, c8, by unfold sub2; rw [if_pos (by assumption)], HK, Bg0, by rw [Pk.cells, List.length_append]; exact BQ, by rw [sub_cells, List.length_append]; exact SU, f34.sub (sub_cons rfl (sub_cons rfl (sub_cons rfl sn)))⟩))
    skip
    refine O.buildSlice f29 rfl wantedN (by decide) (parts1 f29 rfl) U25 wzi70_xg rfl rfl (wbs25_1_xg _ _) (fun _ _ => trivial) fun a30 w7 g6 N6 hSn f30 => ?_
    clear hSn
    have Bg6 := N6.blk
    have kg6 := N6.kept
    have log6 := N6.lo
    have ltg6 := Bg6.lt
    have szw7 := kg6.size
    have frg6 : w.heap.size ≤ g6 := Nat.le_trans HK.size log6
    have neg0_g6 : g0 ≠ g6 := by have := Bg0.lt; omega
    have negq_g6 : gq ≠ g6 := by have := BQ.lt; omega
    replace HK := HK.trans kg6 (by simp)
    replace Bg0 := Bg0.kept kg6 (by simp)
    replace BQ := BQ.kept kg6 (by simp)
    replace SU := SU.kept0 kg6
    clear N6 kg6
    refine R.one 1 (by kernel_rfl) ?_
    refine O.val f30 rfl rfl (by decide) wantedN (by exact E.ld f30 U25 (BQ)) trivial fun a31 f31 => ?_
    refine R.one 9 (by kernel_rfl) ?_
    refine O.append f31 rfl wantedN (by decide) U25 wzib70_xg rfl rfl rfl rfl SU.own (Bg6.slN (size := 2) rfl) (by intro u hu; simp at hu; rcases hu with rfl | rfl <;> rfl) (by unfold maxLen; omega) (by omega) fun a32 w8 A8 c8 AP => ?_
    have szw8 := AP.kept.size
    have HKn := AP.grow SU HK
    have BQn := BQ.kept AP.kept (own_ne SU.own BQ (by decide))
    have Bg0n := Bg0.kept AP.kept (own_ne SU.own Bg0 (by decide))
    have SUn := AP.next SU HK.size
    refine ⟨trivial, fun f32 => ?_⟩
    clear f29 a29 f30 a30 f31 Bg6 HK SU BQ Bg0
    have HK := HKn
    have SU := SUn
    have BQ := BQn
    have Bg0 := Bg0n
    clear HKn SUn BQn Bg0n AP
    refine R.u 10 f32 rfl ht trivial (fun W hW => (E.fa 22 f32 U28 rfl wsz25_xg)) fun a33 f33 => ?_
    refine R.one 11 (by kernel_rfl) ?_
    refine OT.store f33 rfl wantedN wsz25_xg rfl rfl rfl BQ (by (simp [Value.cells]; done)) fun a34 w9 f34 NB9 ks9 => ?_
    have szw9 := ks9.size
    replace HK := HK.trans ks9 (ktr (by omega))
    replace Bg0 := Bg0.kept ks9 (by simp; omega)
    replace SU := fresh_blk SU ks9 BQ (by decide)
    replace BQ := NB9
    simp only [Value.cells, z1, z2, z3, Nat.reduceAdd, Nat.zero_add] at BQ
    clear f32 a32 ks9 f33 a33
    exact R.done (by kernel_rfl) (then_of (J := J17) (Q := fun _ _ _ => True) (by rw [hJ17]; exact ⟨l ++ [(filterS c, c % 2)], A8, c8, by unfold sub2; rw [if_pos (by assumption)], HK, Bg0, by rw [Pk.cells, List.length_append]; exact BQ, by rw [sub_cells, List.length_append]; exact SU, f34.sub (sub_cons rfl (sub_cons rfl (sub_cons rfl sn)))⟩))
   refine C.condF f22 rfl ?_
   exact wp_skip (then_of (J := J17) (Q := fun _ _ _ => True) (by rw [hJ17]; exact ⟨l, Aq, cq, by unfold sub2; rw [if_neg (by assumption)], HK, Bg0, BQ, SU, f22.sub (sub_cons rfl (sub_cons rfl (sub_cons rfl sn)))⟩))
  intro a18 w5 hj
  rw [hJ17] at hj
  clear hJ17 J17
  obtain ⟨l2, A2, c2, hl2, HK, Bg0, BQ, SU, f18⟩ := hj
  try clear f17
  replace BQ : Blk w5 gq 28 #[.int .i64 8, .bool false, .bool false, .int .i64 0, .int .i64 (b % 7 + 1), .string em, .slice none 0 0, .int .i64 0, .string em, .bool false, .int .i64 0, .bool false, .string em, .slice none 0 0, .int .i64 0, .bool false, .bool false, .bool false, .string em, .slice none 0 0, .bool false, .int .i64 0, .slice A2 l2.length c2, .slice none 0 0] := BQ
  have hll2 : l2.length ≤ 2 := by rw [hl2]; unfold sub2; split <;> simp [hll]
  obtain ⟨J19, hJ19⟩ : ∃ J : Act → World → Prop, J = fun a W => ∃ (l3 : List (ByteArray × Int)) (A3 : Option Addr) (c3 : Nat), l3 = sub3 c l2 ∧ Kept [] w W ∧ Blk W g0 28 zeroPk ∧ Blk W gq 28 (({ kind := 8, id := b % 7 + 1, subs := l3 } : Pk).cells { s0 with ua := A3, uc := c3 }) ∧ Fresh w W 70 2 A3 l3.length c3 (subCells l3) ∧ Fr 130 a [(10, .pointer (some ⟨g0, 0, none⟩)), (13, .pointer (some ⟨gq, 0, none⟩))] := ⟨_, rfl⟩
  refine C.cut J19 ?_ ?_
  ·skip
   refine C.sk fun K15 hK15 => ?_
   refine L.mv f18 fun a19 f19 => ?_
   refine L.va f19 (E.rem f19 rfl rfl (by omega) (Int.tmod_eq_emod_of_nonneg (by omega))) fun a20 f20 => ?_
   refine L.va f20 (E.eq f20) fun a21 f21 => ?_
   refine wpList_nil (hK15 _ _ ?_)
   have f22 := f21.sub (sc 10 (sc 13 (sc 77 sn)))
   clear f18 a18 f19 a19 f20 a20 f21
   refine f22.splitD 77 rfl (fun h9 f23 => ?_) (fun h9 f23 => ?_)
   ·refine C.condT f23 rfl ?_
    refine C.region ?_
    refine L.fa 22 f23 U28 rfl wsz25_xg fun a24 f24 => ?_
    refine L.ld f24 U25 BQ fun a25 f25 => ?_
    refine L.va f25 (E.build f25 (parts2 f25 rfl rfl) (wbl70_0_1_xg _ _)) fun a26 f26 => ?_
    refine L.buildSlice f26 wantedN (by decide) (parts1 f26 rfl) U25 wzi70_xg rfl rfl (wbs25_1_xg _ _) fun a27 w6 g5 N5 f27 => ?_
    have Bg5 := N5.blk
    have kg5 := N5.kept
    have log5 := N5.lo
    have ltg5 := Bg5.lt
    have szw6 := kg5.size
    have frg5 : w.heap.size ≤ g5 := Nat.le_trans HK.size log5
    have neg0_g5 : g0 ≠ g5 := by have := Bg0.lt; omega
    have negq_g5 : gq ≠ g5 := by have := BQ.lt; omega
    replace HK := HK.trans kg5 (by simp)
    replace Bg0 := Bg0.kept kg5 (by simp)
    replace BQ := BQ.kept kg5 (by simp)
    replace SU := SU.kept0 kg5
    clear f22 f23 a21 f24 a24 f25 a25 N5 kg5
    refine L.append f27 wantedN (by decide) U25 wzib70_xg rfl rfl rfl rfl SU.own (Bg5.slN (size := 2) rfl) (by intro u hu; simp at hu; rcases hu with rfl | rfl <;> rfl) (by unfold maxLen; omega) (by omega) fun a28 w7 A7 c7 AP f28 => ?_
    have szw7 := AP.kept.size
    have HKn := AP.grow SU HK
    have BQn := BQ.kept AP.kept (own_ne SU.own BQ (by decide))
    have Bg0n := Bg0.kept AP.kept (own_ne SU.own Bg0 (by decide))
    have SUn := AP.next SU HK.size
    clear f26 a26 f27 Bg5 HK SU BQ Bg0
    have HK := HKn
    have SU := SUn
    have BQ := BQn
    have Bg0 := Bg0n
    clear HKn SUn BQn Bg0n AP
    refine L.fa 22 f28 U28 rfl wsz25_xg fun a29 f29 => ?_
    refine L.store f29 wantedN wsz25_xg rfl rfl rfl BQ (by (simp [Value.cells]; done)) fun a30 w8 f30 NB8 ks8 => ?_
    have szw8 := ks8.size
    replace HK := HK.trans ks8 (ktr (by omega))
    replace Bg0 := Bg0.kept ks8 (by simp; omega)
    replace SU := fresh_blk SU ks8 BQ (by decide)
    replace BQ := NB8
    simp only [Value.cells, z1, z2, z3, Nat.reduceAdd, Nat.zero_add] at BQ
    clear f28 a28 ks8 f29 a29
    exact wpList_nil (then_of (J := J19) (Q := fun _ _ _ => True) (by rw [hJ19]; exact ⟨l2 ++ [(⟨#[97, 35]⟩, 1)], A7, c7, by unfold sub3; rw [if_pos (by assumption)], HK, Bg0, by rw [Pk.cells, List.length_append]; exact BQ, by rw [sub_cells, List.length_append]; exact SU, f30.sub (sub_cons rfl (sub_cons rfl sn))⟩))
   refine C.condF f23 rfl ?_
   exact wp_skip (then_of (J := J19) (Q := fun _ _ _ => True) (by rw [hJ19]; exact ⟨l2, A2, c2, by unfold sub3; rw [if_neg (by assumption)], HK, Bg0, BQ, SU, f23.sub (sub_cons rfl (sub_cons rfl sn))⟩))
  intro a19 w6 hj
  rw [hJ19] at hj
  clear hJ19 J19
  obtain ⟨l3, A3, c3, hl3, HK, Bg0, BQ, SU, f19⟩ := hj
  try clear f18
  refine C.sk fun K16 hK16 => ?_
  refine L.va f19 (by exact E.loadB f19 U28 rfl wsz28_xg rfl (BQ) rfl) fun a20 f20 => ?_
  refine L.storeR f20 wantedN wsz28_xg rfl rfl rfl Bg0 rfl rfl fun a21 w7 f21 NB7 ks7 => ?_
  have szw7 := ks7.size
  replace HK := HK.trans ks7 (ktr (by omega))
  replace BQ := BQ.kept ks7 (by simp; omega)
  replace SU := fresh_blk SU ks7 Bg0 (by decide)
  replace Bg0 := NB7
  clear f19 a19 ks7 f20 a20
  refine wpList_nil (hK16 _ _ ?_)
  have f22 := f21.sub (sc 10 sn)
  refine wp_ret ?_
  try simp only [Exit.inBlock, Exit.then]
  refine C.retC (P := Tryd.prog) (fn := Tryd.f15) f22 rfl rfl Bg0 U28 rfl wsz28_xg ?_
  exact ⟨{ s0 with ua := A3, uc := c3 }, by rw [seat_sub hm, ← hl, ← hl2, ← hl3], HK, by rw [seat_sub hm, ← hl, ← hl2, ← hl3]; exact ⟨Sl.nil _ _ _, Sl.nil _ _ _, Sl.nil _ _ _, SU.sl, Sl.nil _ _ _⟩⟩
 refine C.condF f16 rfl ?_
 refine C.sk fun K17 hK17 => ?_
 refine L.va f16 (E.eq f16) fun a17 f17 => ?_
 refine L.ag f17 fun a18 f18 => ?_
 refine wpList_nil (hK17 _ _ ?_)
 have f19 := f18.sub (sc 1 (sc 2 (sc 3 (sc 4 (sc 10 (sc 11 (sc 19 (sc 85 sn))))))))
 clear f15 f16 a15 f17 a17 f18
 refine f19.splitD 85 rfl (fun h10 f20 => ?_) (fun h10 f20 => ?_)
 ·refine C.condT f20 rfl ?_
  refine C.sk fun K18 hK18 => ?_
  refine L.mv f20 fun a21 f21 => ?_
  refine L.mv f21 fun a22 f22 => ?_
  refine L.cl f22 (run_call Tryd.call35 (args1 f22 rfl)) (filterS_any a0_ _ ha0_) ?_
  clear f19 f20 a18 f21 a21
  rintro e w4 ⟨kc4, rfl⟩
  refine ⟨_, rfl, fun a23 f23 => ?_⟩
  have szw4 := kc4.size
  replace HK := HK.trans kc4 (by simp)
  replace Bg0 := Bg0.kept kc4 (by simp)
  clear f22 a22 kc4
  refine L.va f23 (E.build f23 (parts1 f23 rfl) (wbl70_0_xg _)) fun a24 f24 => ?_
  refine L.mv f24 fun a25 f25 => ?_
  refine L.cl f25 (run_call Tryd.call35 (args1 f25 rfl)) (filterS_any c _ hc) ?_
  clear f23 a23 f24 a24
  rintro e w5 ⟨kc5, rfl⟩
  refine ⟨_, rfl, fun a26 f26 => ?_⟩
  have szw5 := kc5.size
  replace HK := HK.trans kc5 (by simp)
  replace Bg0 := Bg0.kept kc5 (by simp)
  clear f25 a25 kc5
  refine L.va f26 (E.build f26 (parts1 f26 rfl) (wbl70_0_xg _)) fun a27 f27 => ?_
  refine L.buildSlice f27 wantedN (by decide) (parts2 f27 rfl rfl) U25 wzi70_xg rfl rfl (wbs25_2_xg _ _ _ _) fun a28 w6 g5 N5 f28 => ?_
  have Bg5 := N5.blk
  have kg5 := N5.kept
  have log5 := N5.lo
  have ltg5 := Bg5.lt
  have szw6 := kg5.size
  have frg5 : w.heap.size ≤ g5 := Nat.le_trans HK.size log5
  have neg0_g5 : g0 ≠ g5 := by have := Bg0.lt; omega
  replace HK := HK.trans kg5 (by simp)
  replace Bg0 := Bg0.kept kg5 (by simp)
  clear f26 a26 N5 kg5
  refine L.mv f28 fun a29 f29 => ?_
  refine L.va f29 (E.rem f29 rfl rfl (by omega) (Int.tmod_eq_emod_of_nonneg (by omega))) fun a30 f30 => ?_
  refine L.va f30 (E.add f30 rfl rfl (IntWalk.u8_in _ (by omega))) fun a31 f31 => ?_
  refine L.va f31 (E.slLhi f31 U25 wsz70_xg rfl rfl (by omega) (by omega) ) fun a32 f32 => ?_
  refine L.va f32 (E.build f32 (parts3 f32 rfl rfl rfl) (wbl28_0_4_19_xg _ _ _ _ _)) fun a33 f33 => ?_
  refine L.storeR f33 wantedN wsz28_xg rfl rfl rfl Bg0 rfl rfl fun a34 w7 f34 NB7 ks7 => ?_
  have szw7 := ks7.size
  replace HK := HK.trans ks7 (ktr (by omega))
  replace Bg5 := Bg5.kept ks7 (by simp; omega)
  replace Bg0 := NB7
  clear f27 a27 f28 a28 f29 a29 f30 a30 f31 a31 f32 a32 ks7 f33 a33
  refine wpList_nil (hK18 _ _ ?_)
  have f35 := f34.sub (sc 10 sn)
  refine wp_ret ?_
  try simp only [Exit.inBlock, Exit.then]
  refine C.retC (P := Tryd.prog) (fn := Tryd.f15) f35 rfl rfl Bg0 U28 rfl wsz28_xg ?_
  clear f34
  refine ⟨{ s0 with ua := some ⟨g5, 0, none⟩, uc := 2 }, ?_, HK, ?_⟩
  ·rw [seat_uns (by assumption)]; unfold Pk.cells; simp only [uns_len]; rfl
  rw [seat_uns (by assumption)]; exact ⟨Sl.nil _ _ _, Sl.nil _ _ _, Sl.nil _ _ _, uns_sl Bg5, Sl.nil _ _ _⟩
 refine C.condF f20 rfl ?_
 refine C.sk fun K19 hK19 => ?_
 refine L.va f20 (E.eq f20) fun a21 f21 => ?_
 refine L.ag f21 fun a22 f22 => ?_
 refine wpList_nil (hK19 _ _ ?_)
 have f23 := f22.sub (sc 1 (sc 2 (sc 3 (sc 4 (sc 10 (sc 11 (sc 19 (sc 100 sn))))))))
 clear f19 f20 a18 f21 a21 f22
 refine f23.splitD 100 rfl (fun h11 f24 => ?_) (fun h11 f24 => ?_)
 ·refine C.condT f24 rfl ?_
  refine C.sk fun K20 hK20 => ?_
  refine L.mv f24 fun a25 f25 => ?_
  refine L.va f25 (E.build f25 (parts2 f25 rfl rfl) (wbl28_0_4_xg _ _)) fun a26 f26 => ?_
  refine L.storeR f26 wantedN wsz28_xg rfl rfl rfl Bg0 rfl rfl fun a27 w4 f27 NB4 ks4 => ?_
  have szw4 := ks4.size
  replace HK := HK.trans ks4 (ktr (by omega))
  replace Bg0 := NB4
  clear f23 f24 a22 f25 a25 ks4 f26 a26
  refine wpList_nil (hK20 _ _ ?_)
  have f28 := f27.sub (sc 10 sn)
  refine wp_ret ?_
  try simp only [Exit.inBlock, Exit.then]
  refine C.retC (P := Tryd.prog) (fn := Tryd.f15) f28 rfl rfl Bg0 U28 rfl wsz28_xg ?_
  exact ⟨s0, by rw [seat_a (by assumption)]; rfl, HK, by rw [seat_a (by assumption)]; exact ⟨Sl.nil _ _ _, Sl.nil _ _ _, Sl.nil _ _ _, Sl.nil _ _ _, Sl.nil _ _ _⟩⟩
 refine C.condF f24 rfl ?_
 refine C.sk fun K21 hK21 => ?_
 refine L.va f24 (E.eq f24) fun a25 f25 => ?_
 refine L.ag f25 fun a26 f26 => ?_
 refine wpList_nil (hK21 _ _ ?_)
 have f27 := f26.sub (sc 1 (sc 2 (sc 3 (sc 4 (sc 10 (sc 11 (sc 19 (sc 104 sn))))))))
 clear f23 f24 a22 f25 a25 f26
 refine f27.splitD 104 rfl (fun h12 f28 => ?_) (fun h12 f28 => ?_)
 ·refine C.condT f28 rfl ?_
  refine C.sk fun K22 hK22 => ?_
  refine L.mv f28 fun a29 f29 => ?_
  refine L.va f29 (E.build f29 (parts2 f29 rfl rfl) (wbl28_0_4_xg _ _)) fun a30 f30 => ?_
  refine L.storeR f30 wantedN wsz28_xg rfl rfl rfl Bg0 rfl rfl fun a31 w4 f31 NB4 ks4 => ?_
  have szw4 := ks4.size
  replace HK := HK.trans ks4 (ktr (by omega))
  replace Bg0 := NB4
  clear f27 f28 a26 f29 a29 ks4 f30 a30
  refine wpList_nil (hK22 _ _ ?_)
  have f32 := f31.sub (sc 10 sn)
  refine wp_ret ?_
  try simp only [Exit.inBlock, Exit.then]
  refine C.retC (P := Tryd.prog) (fn := Tryd.f15) f32 rfl rfl Bg0 U28 rfl wsz28_xg ?_
  exact ⟨s0, by rw [seat_r (by assumption)]; rfl, HK, by rw [seat_r (by assumption)]; exact ⟨Sl.nil _ _ _, Sl.nil _ _ _, Sl.nil _ _ _, Sl.nil _ _ _, Sl.nil _ _ _⟩⟩
 refine C.condF f28 rfl ?_
 refine C.sk fun K23 hK23 => ?_
 refine L.va f28 (E.eq f28) fun a29 f29 => ?_
 refine L.ag f29 fun a30 f30 => ?_
 refine wpList_nil (hK23 _ _ ?_)
 have f31 := f30.sub (sc 1 (sc 2 (sc 3 (sc 4 (sc 10 (sc 11 (sc 19 (sc 108 sn))))))))
 clear f27 f28 a26 f29 a29 f30
 refine f31.splitD 108 rfl (fun h13 f32 => ?_) (fun h13 f32 => ?_)
 ·refine C.condT f32 rfl ?_
  refine C.sk fun K24 hK24 => ?_
  refine L.mv f32 fun a33 f33 => ?_
  refine L.va f33 (E.build f33 (parts2 f33 rfl rfl) (wbl28_0_4_xg _ _)) fun a34 f34 => ?_
  refine L.storeR f34 wantedN wsz28_xg rfl rfl rfl Bg0 rfl rfl fun a35 w4 f35 NB4 ks4 => ?_
  have szw4 := ks4.size
  replace HK := HK.trans ks4 (ktr (by omega))
  replace Bg0 := NB4
  clear f31 f32 a30 f33 a33 ks4 f34 a34
  refine wpList_nil (hK24 _ _ ?_)
  have f36 := f35.sub (sc 10 sn)
  refine wp_ret ?_
  try simp only [Exit.inBlock, Exit.then]
  refine C.retC (P := Tryd.prog) (fn := Tryd.f15) f36 rfl rfl Bg0 U28 rfl wsz28_xg ?_
  exact ⟨s0, by rw [seat_p (by assumption)]; rfl, HK, by rw [seat_p (by assumption)]; exact ⟨Sl.nil _ _ _, Sl.nil _ _ _, Sl.nil _ _ _, Sl.nil _ _ _, Sl.nil _ _ _⟩⟩
 refine C.condF f32 rfl ?_
 refine C.sk fun K25 hK25 => ?_
 refine L.va f32 (E.eq f32) fun a33 f33 => ?_
 refine L.ag f33 fun a34 f34 => ?_
 refine wpList_nil (hK25 _ _ ?_)
 have f35 := f34.sub (sc 1 (sc 2 (sc 3 (sc 4 (sc 10 (sc 19 (sc 112 sn)))))))
 clear f31 f32 a30 f33 a33 f34
 refine f35.splitD 112 rfl (fun h14 f36 => ?_) (fun h14 f36 => ?_)
 ·refine C.condT f36 rfl ?_
  refine C.sk fun K26 hK26 => ?_
  refine L.mv f36 fun a37 f37 => ?_
  refine L.va f37 (E.rem f37 rfl rfl (by omega) (Int.tmod_eq_emod_of_nonneg (by omega))) fun a38 f38 => ?_
  refine L.va f38 (E.conv f38 U5 U3 rfl (IntWalk.i64_in _ (by omega))) fun a39 f39 => ?_
  refine L.va f39 (E.add f39 rfl rfl (IntWalk.i64_in _ (by omega))) fun a40 f40 => ?_
  refine L.va f40 (E.build f40 (parts2 f40 rfl rfl) (wbl28_0_4_xg _ _)) fun a41 f41 => ?_
  refine L.storeR f41 wantedN wsz28_xg rfl rfl rfl Bg0 rfl rfl fun a42 w4 f42 NB4 ks4 => ?_
  have szw4 := ks4.size
  replace HK := HK.trans ks4 (ktr (by omega))
  replace Bg0 := NB4
  clear f35 f36 a34 f37 a37 f38 a38 f39 a39 f40 a40 ks4 f41 a41
  refine wpList_nil (hK26 _ _ ?_)
  have f43 := f42.sub (sc 10 sn)
  refine wp_ret ?_
  try simp only [Exit.inBlock, Exit.then]
  refine C.retC (P := Tryd.prog) (fn := Tryd.f15) f43 rfl rfl Bg0 U28 rfl wsz28_xg ?_
  exact ⟨s0, by rw [seat_l (by assumption)]; rfl, HK, by rw [seat_l (by assumption)]; exact ⟨Sl.nil _ _ _, Sl.nil _ _ _, Sl.nil _ _ _, Sl.nil _ _ _, Sl.nil _ _ _⟩⟩
 refine C.condF f36 rfl ?_
 refine C.sk fun K27 hK27 => ?_
 refine L.va f36 (E.eq f36) fun a37 f37 => ?_
 refine L.ag f37 fun a38 f38 => ?_
 refine wpList_nil (hK27 _ _ ?_)
 have f39 := f38.sub (sc 1 (sc 2 (sc 3 (sc 4 (sc 10 (sc 19 (sc 119 sn)))))))
 clear f35 f36 a34 f37 a37 f38
 refine f39.splitD 119 rfl (fun h15 f40 => ?_) (fun h15 f40 => ?_)
 ·refine C.condT f40 rfl ?_
  refine C.sk fun K28 hK28 => ?_
  refine L.va f40 (E.build f40 (parts1 f40 rfl) (wbl28_0_xg _)) fun a41 f41 => ?_
  refine L.storeR f41 wantedN wsz28_xg rfl rfl rfl Bg0 rfl rfl fun a42 w4 f42 NB4 ks4 => ?_
  have szw4 := ks4.size
  replace HK := HK.trans ks4 (ktr (by omega))
  replace Bg0 := NB4
  clear f39 f40 a38 ks4 f41 a41
  refine wpList_nil (hK28 _ _ ?_)
  have f43 := f42.sub (sc 10 sn)
  refine wp_ret ?_
  try simp only [Exit.inBlock, Exit.then]
  refine C.retC (P := Tryd.prog) (fn := Tryd.f15) f43 rfl rfl Bg0 U28 rfl wsz28_xg ?_
  exact ⟨s0, by rw [seat_q (by assumption)]; rfl, HK, by rw [seat_q (by assumption)]; exact ⟨Sl.nil _ _ _, Sl.nil _ _ _, Sl.nil _ _ _, Sl.nil _ _ _, Sl.nil _ _ _⟩⟩
 refine C.condF f40 rfl ?_
 refine C.sk fun K29 hK29 => ?_
 refine L.va f40 (E.eq f40) fun a41 f41 => ?_
 refine L.ag f41 fun a42 f42 => ?_
 refine wpList_nil (hK29 _ _ ?_)
 have f43 := f42.sub (sc 1 (sc 2 (sc 3 (sc 4 (sc 10 (sc 122 sn))))))
 clear f39 f40 a38 f41 a41 f42
 refine f43.splitD 122 rfl (fun h16 f44 => ?_) (fun h16 f44 => ?_)
 ·refine C.condT f44 rfl ?_
  refine C.sk fun K30 hK30 => ?_
  refine L.mv f44 fun a45 f45 => ?_
  refine L.mv f45 fun a46 f46 => ?_
  refine L.mv f46 fun a47 f47 => ?_
  refine L.mv f47 fun a48 f48 => ?_
  refine L.cl f48 (run_call Tryd.call36 (args4 f48 rfl rfl rfl rfl)) (seatcon_any a0_ b c x A cx _ (SX.kept HK) ha0_ hb hc) ?_
  clear f43 f44 a42 f45 a45 f46 a46 f47 a47
  rintro e w4 ⟨kc4, rfl⟩
  refine ⟨_, rfl, fun a49 f49 => ?_⟩
  have szw4 := kc4.size
  replace HK := HK.trans kc4 (by simp)
  replace Bg0 := Bg0.kept kc4 (by simp)
  clear f48 a48 kc4
  refine L.storeR f49 wantedN wsz28_xg rfl rfl rfl Bg0 rfl rfl fun a50 w5 f50 NB5 ks5 => ?_
  have szw5 := ks5.size
  replace HK := HK.trans ks5 (ktr (by omega))
  replace Bg0 := NB5
  clear ks5 f49 a49
  refine wpList_nil (hK30 _ _ ?_)
  have f51 := f50.sub (sc 10 sn)
  refine wp_ret ?_
  try simp only [Exit.inBlock, Exit.then]
  refine C.retC (P := Tryd.prog) (fn := Tryd.f15) f51 rfl rfl Bg0 U28 rfl wsz28_xg ?_
  exact ⟨adC b c A cx, by rw [seat_con (by assumption)], HK, by rw [seat_con (by assumption)]; exact seatcon_in (SX.kept HK)⟩
 refine C.condF f44 rfl ?_
 refine wp_skip (hK2 _ _ ?_)
 have f45 := f44.sub (sc 10 sn)
 refine C.sk fun K31 hK31 => ?_
 refine L.va f45 (E.build f45 (parts1 f45 rfl) (wbl28_0_xg _)) fun a46 f46 => ?_
 refine L.storeR f46 wantedN wsz28_xg rfl rfl rfl Bg0 rfl rfl fun a47 w4 f47 NB4 ks4 => ?_
 have szw4 := ks4.size
 replace HK := HK.trans ks4 (ktr (by omega))
 replace Bg0 := NB4
 clear f43 f44 f45 a42 ks4 f46 a46
 refine wpList_nil (hK31 _ _ ?_)
 have f48 := f47.sub (sc 10 sn)
 refine wp_ret ?_
 try simp only [Exit.inBlock, Exit.then]
 refine C.retC (P := Tryd.prog) (fn := Tryd.f15) f48 rfl rfl Bg0 U28 rfl wsz28_xg ?_
 have hd : 14 ≤ k % 15 := by omega
 exact ⟨s0, by rw [seat_d hd]; rfl, HK, by rw [seat_d hd]; exact ⟨Sl.nil _ _ _, Sl.nil _ _ _, Sl.nil _ _ _, Sl.nil _ _ _, Sl.nil _ _ _⟩⟩
end Go.Proofs.YtigjafbbnocihaaDoor
namespace Go.Proofs.YtigjafbbnocihaaDoor
open Go.RowKit Go.Hub Go.Lib Go.Vl
theorem p7_tx : p7.all txB = true := by kernel_rfl
theorem p10_tx : p10.all txB = true := by kernel_rfl
theorem p5_tx : p5.all txB = true := by kernel_rfl
theorem getD_mem (l : List ByteArray) (i : Nat) (h : i < l.length) : l.getD i em ∈ l := List.mem_of_getElem? (list_at l i h)
theorem topic_mem (k : Int) : topicS k ∈ p7 := getD_mem p7 _ (by show _ < 7; omega)
theorem filter_mem (k : Int) : filterS k ∈ p10 := getD_mem p10 _ (by show _ < 10; omega)
theorem cli_mem (k : Int) : cliS k ∈ p5 := getD_mem p5 _ (by show _ < 5; omega)
theorem topic_tx (k : Int) : txB (topicS k) = true := List.all_eq_true.1 p7_tx _ (topic_mem k)
theorem filter_tx (k : Int) : txB (filterS k) = true := List.all_eq_true.1 p10_tx _ (filter_mem k)
theorem cli_tx (k : Int) : txB (cliS k) = true := List.all_eq_true.1 p5_tx _ (cli_mem k)
theorem p7_sz : ∀ s ∈ p7, s.size ≤ 10 := by decide
theorem p10_sz : ∀ s ∈ p10, s.size ≤ 10 := by decide
theorem p5_sz : ∀ s ∈ p5, s.size ≤ 10 := by decide
theorem topic_sz (k : Int) : (topicS k).size ≤ 10 := p7_sz _ (topic_mem k)
theorem filter_sz (k : Int) : (filterS k).size ≤ 10 := p10_sz _ (filter_mem k)
theorem cli_sz (k : Int) : (cliS k).size ≤ 10 := p5_sz _ (cli_mem k)
theorem tx_ah : txB ⟨#[97, 35]⟩ = true := by kernel_rfl
theorem tx_u : txB ⟨#[117]⟩ = true := by kernel_rfl
section
variable {k a b c : Int} {x : List UInt8}
theorem pub_right (hx : x.length ≤ 1000) (hb : 0 ≤ b) (hc : 0 ≤ c) : RightP (seatPub a b c x) := by
  have ht := topic_tx a
  have hz := topic_sz a
  unfold seatPub
  split
  · rename_i h
    refine ⟨by simp [inB], by simp [bareP, h], ?_, ?_⟩
    · simp [valB, numB, inB, ht, h]; omega
    simp [behindL, numB, h, lumpL_len, twoL_len, bytes_len]; omega
  rename_i h
  refine ⟨by simp [inB], by simp [bareP, h], ?_, ?_⟩
  · simp [valB, numB, inB, ht, h]; omega
  simp [behindL, numB, h, lumpL_len, twoL_len, bytes_len]; omega
theorem pub_len (hx : x.length ≤ 1000) : (seatPub a b c x).Len := by
  have hz := topic_sz a
  unfold seatPub
  split <;> exact ⟨by show x.length ≤ _; omega, by simp, by simp, by simp, by simp, by show (topicS a).size ≤ _; omega, em_le, em_le, em_le, by simp⟩
def subOk (l : List (ByteArray × Int)) : Prop := ∀ y ∈ l, txB y.1 = true ∧ (0 ≤ y.2 ∧ y.2 ≤ 2) ∧ y.1.size ≤ 10
theorem sub_ok : subOk (sub3 c (sub2 c [(filterS a, b % 3)])) := by
  have h1 : subOk [(filterS a, b % 3)] := fun y hy => by
    obtain rfl := List.mem_singleton.1 hy
    exact ⟨filter_tx a, by simp only; omega, filter_sz a⟩
  have h2 : subOk (sub2 c [(filterS a, b % 3)]) := by
    unfold sub2
    split
    · intro y hy
      rcases List.mem_append.1 hy with hy | hy
      · exact h1 y hy
      obtain rfl := List.mem_singleton.1 hy
      exact ⟨filter_tx c, by simp only; omega, filter_sz c⟩
    exact h1
  unfold sub3
  split
  · intro y hy
    rcases List.mem_append.1 hy with hy | hy
    · exact h2 y hy
    obtain rfl := List.mem_singleton.1 hy
    exact ⟨tx_ah, by decide, by decide⟩
  exact h2
theorem sub_num : 0 < (sub3 c (sub2 c [(filterS a, b % 3)])).length ∧ (sub3 c (sub2 c [(filterS a, b % 3)])).length ≤ 3 := by
  unfold sub3 sub2
  repeat' split
  all_goals simp
theorem flatS_le (kd : Int) (l : List (ByteArray × Int)) (h : subOk l) : (l.flatMap (subL kd)).length ≤ 13 * l.length := by
  induction l with
  | nil => simp
  | cons y r ih =>
    have h1 := ih fun z hz => h z (List.mem_cons_of_mem _ hz)
    have h2 := (h y (List.mem_cons_self ..)).2.2
    have h3 : (subL kd y).length ≤ 13 := by
      unfold subL
      rw [List.length_append, lumpL_len, bytes_len]
      split <;> simp <;> omega
    rw [List.flatMap_cons, List.length_append, List.length_cons]
    omega
theorem subB_of (m : Int) (l : List (ByteArray × Int)) (h : ∀ y ∈ l, txB y.1 = true ∧ 0 ≤ y.2 ∧ y.2 ≤ m) : subB m l = true := by
  unfold subB
  rw [List.all_eq_true]
  intro y hy
  obtain ⟨h1, h2, h3⟩ := h y hy
  rw [h1, Bool.true_and]
  exact inB_iff.2 ⟨h2, h3⟩
theorem num_8 (k : Int) (h : 4 ≤ k ∧ k ≤ 11) (i : Int) (l : List (ByteArray × Int)) : numB { kind := k, id := i, subs := l } = true := by
  unfold numB
  simp only
  rw [if_neg (by omega)]
  exact inB_iff.2 h
theorem subs_right (kd : Int) (hk : kd = 8 ∨ kd = 10) (i : Int) (hi : 1 ≤ i ∧ i ≤ 65535) (l : List (ByteArray × Int)) (h : subOk l) (h0 : kd = 10 → ∀ y ∈ l, y.2 = 0) (hn : 0 < l.length ∧ l.length ≤ 3) : RightP { kind := kd, id := i, subs := l } := by
  have hnum := num_8 kd (by omega) i l
  refine ⟨inB_iff.2 (by constructor <;> (show _ ≤ _) <;> simp only <;> omega), ?_, ?_, ?_⟩
  · unfold bareP
    simp only
    rw [if_neg (by omega), if_neg (by omega), if_neg (by omega), if_pos hk]
  · unfold valB
    rw [hnum]
    simp only [Bool.not_true, Bool.false_or]
    rw [inB_iff.2 hi, Bool.true_and]
    rcases hk with rfl | rfl
    · rw [if_neg (by decide), if_neg (by decide), if_neg (by decide), if_pos rfl, subB_of 2 l fun y hy => ⟨(h y hy).1, (h y hy).2.1⟩, Bool.true_and]
      exact decide_eq_true hn.1
    rw [if_neg (by decide), if_neg (by decide), if_neg (by decide), if_neg (by decide), if_pos rfl, subB_of 0 l fun y hy => ⟨(h y hy).1, by rw [h0 rfl y hy]; decide⟩, Bool.true_and]
    exact decide_eq_true hn.1
  unfold behindL
  rw [hnum]
  simp only
  rw [if_neg (by omega), if_neg (by omega), if_neg (by omega)]
  have := flatS_le kd l h
  simp only [if_true, reduceIte, List.nil_append, List.length_append, twoL_len, List.map_nil, List.length_nil]
  omega
theorem uns_ok : subOk (unsL a c) ∧ (∀ y ∈ unsL a c, y.2 = 0) ∧ 0 < (unsL a c).length ∧ (unsL a c).length ≤ 3 := by
  unfold unsL
  split
  · refine ⟨fun y hy => ?_, fun y hy => ?_, by simp, by simp⟩
    · obtain rfl := List.mem_singleton.1 hy
      exact ⟨filter_tx a, by simp only; omega, filter_sz a⟩
    obtain rfl := List.mem_singleton.1 hy
    rfl
  refine ⟨fun y hy => ?_, fun y hy => ?_, by simp, by simp⟩
  · simp only [List.mem_cons, List.not_mem_nil, or_false] at hy
    rcases hy with rfl | rfl
    · exact ⟨filter_tx a, by simp only; omega, filter_sz a⟩
    exact ⟨filter_tx c, by simp only; omega, filter_sz c⟩
  simp only [List.mem_cons, List.not_mem_nil, or_false] at hy
  rcases hy with rfl | rfl <;> rfl
theorem id_right (kd : Int) (hk : 4 ≤ kd ∧ kd ≤ 7) (i : Int) (hi : 1 ≤ i ∧ i ≤ 65535) : RightP { kind := kd, id := i } := by
  have hnum := num_8 kd (by omega) i []
  refine ⟨inB_iff.2 (by constructor <;> (show _ ≤ _) <;> simp only <;> omega), ?_, ?_, ?_⟩
  · unfold bareP
    rw [hnum]
    simp only
    rw [if_neg (by omega), if_neg (by omega), if_neg (by omega), if_neg (by omega), if_neg (by omega)]
    rfl
  · unfold valB
    rw [hnum]
    simp only [Bool.not_true, Bool.false_or]
    rw [inB_iff.2 hi, Bool.true_and, if_neg (by omega), if_neg (by omega), if_neg (by omega), if_neg (by omega), if_neg (by omega), if_neg (by omega)]
  unfold behindL
  rw [hnum]
  simp only
  rw [if_neg (by omega), if_neg (by omega), if_neg (by omega)]
  simp [twoL_len]
theorem id_len (kd i : Int) : Pk.Len { kind := kd, id := i } := ⟨by simp, by simp, by simp, by simp, by simp, em_le, em_le, em_le, em_le, by simp⟩
theorem subs_len (kd i : Int) (l : List (ByteArray × Int)) (h : subOk l) (hn : l.length ≤ 3) : Pk.Len { kind := kd, id := i, subs := l } := ⟨by simp, by simp, by simp, by show l.length ≤ _; omega, by simp, em_le, em_le, em_le, em_le, fun y hy => by have := (h y hy).2.2; omega⟩
theorem seatcon_right (hx : x.length ≤ 1000) (ha : 0 ≤ a) (hc : 0 ≤ c) : RightP (seatCon a b c x) := by
  have t1 := topic_tx c
  have z1 := topic_sz c
  have t2 := cli_tx a
  have z2 := cli_sz a
  have t3 := tx_u
  have t4 := txB_em
  have e1 : con1 a b c = { kind := 1, level := 4, client := cliS a, clean := (if cliS a = em then decide (0 < b % 9) else decide (b % 2 = 0)), keep := c % 5 } := by unfold con1; split <;> rfl
  obtain ⟨cl, hcl⟩ : ∃ cl : Bool, cl = (if cliS a = em then decide (0 < b % 9) else decide (b % 2 = 0)) := ⟨_, rfl⟩
  rw [← hcl] at e1
  unfold seatCon
  rw [e1]
  unfold con4 con3 con2
  have hk5 : 0 ≤ c % 5 ∧ c % 5 ≤ 65535 := by omega
  have hw3 : 0 ≤ a % 3 ∧ a % 3 ≤ 2 := by omega
  by_cases h1 : c % 3 = 0 <;> by_cases h2 : a % 8 = 7 <;> by_cases h3 : b % 10 = 9 <;> simp only [h1, h2, h3, if_true, if_false, reduceIte] <;>
    refine ⟨by simp [inB], by simp [bareP], ?_, ?_⟩ <;>
    (first | (simp [valB, numB, inB, t1, t2, t3, t4, hk5, hw3]; done) | (simp [valB, numB, inB, t1, t2, t3, t4, hk5, hw3]; omega) | (simp [behindL, connL, numB, lumpL_len, twoL_len, bytes_len]; omega))
theorem seatcon_len (hx : x.length ≤ 1000) : (seatCon a b c x).Len := by
  have z1 := topic_sz c
  have z2 := cli_sz a
  have hu : (⟨#[117]⟩ : ByteArray).size ≤ 1000000 := by decide
  have h0 : (con1 a b c).Len := by
    unfold con1
    split <;> exact ⟨by simp, by simp, by simp, by simp, by simp, em_le, by show (cliS a).size ≤ _; omega, em_le, em_le, by simp⟩
  have h1 : (con2 a b c x (con1 a b c)).Len := by
    unfold con2
    split
    · exact ⟨h0.pay, by show x.length ≤ _; omega, h0.pass, h0.subs, h0.codes, h0.topic, h0.client, by show (topicS c).size ≤ _; omega, h0.user, h0.each⟩
    exact h0
  have h2 : (con3 a (con2 a b c x (con1 a b c))).Len := by
    unfold con3
    split
    · exact ⟨h1.pay, h1.wp, h1.pass, h1.subs, h1.codes, h1.topic, h1.client, h1.wt, h1.user, h1.each⟩
    exact h1
  unfold seatCon con4
  split
  · exact ⟨h2.pay, h2.wp, by show x.length ≤ _; omega, h2.subs, h2.codes, h2.topic, h2.client, h2.wt, hu, h2.each⟩
  exact h2
theorem seat_right (hk : 0 ≤ k) (ha : 0 ≤ a) (hb : 0 ≤ b) (hc : 0 ≤ c) (hx : x.length ≤ 1000) : RightP (seatP k a b c x) ∧ (seatP k a b c x).Len := by
  obtain ⟨u1, u2, u3, u4⟩ := uns_ok (a := a) (c := c)
  have s1 := sub_num (a := a) (b := b) (c := c)
  unfold seatP
  repeat' split
  · exact ⟨pub_right hx hb hc, pub_len hx⟩
  · exact ⟨subs_right 8 (.inl rfl) _ (by omega) _ sub_ok (fun h => by omega) s1, subs_len _ _ _ sub_ok s1.2⟩
  · exact ⟨subs_right 10 (.inr rfl) _ (by omega) _ u1 (fun _ => u2) ⟨u3, u4⟩, subs_len _ _ _ u1 u4⟩
  · exact ⟨id_right 4 (by decide) _ (by omega), id_len _ _⟩
  · exact ⟨id_right 5 (by decide) _ (by omega), id_len _ _⟩
  · exact ⟨id_right 7 (by decide) _ (by omega), id_len _ _⟩
  · exact ⟨id_right 6 (by decide) _ (by omega), id_len _ _⟩
  · exact ⟨rightK 12 (by decide), kindLen 12⟩
  · exact ⟨seatcon_right hx ha hc, seatcon_len hx⟩
  exact ⟨rightK 14 (by decide), kindLen 14⟩
end
end Go.Proofs.YtigjafbbnocihaaDoor
namespace Go.Proofs.YtigjafbbnocihaaDoor
open Go.RowKit Go.Hub Go.Lib Go.Vl
theorem wsz28_xk : (Tryd.prog.info? 28).map (·.size) = some 24 := by kernel_rfl
set_option maxHeartbeats 1000000 in
theorem sbytes_any (p : Pk) (s : Ad) (w : World) (IP : p.In w s) (hL : p.Len) (hT : Tabs w) : Calls Tryd.prog 24 #[.agg (p.cells s)] w (fun e w' => Kept [] w w' ∧ ∃ A c, e = .returned (.slice A (putB p).1.length c) ∧ FB w w' A c (putB p).1) := by
 have HK : Kept [] w w := Kept.refl [] w
 refine C.enter Tryd.func24 rfl Tryd.ntmps24 rfl ?_
 intro a0 f0
 have f1 : Fr 11 a0 [(0, .agg (p.cells s))] := f0
 refine C.sk fun K0 hK0 => ?_
 refine L.box f1 wantedN (by decide) rfl rfl fun a2 w1 g0 N0 f2 => ?_
 have Bg0 := N0.blk
 have kg0 := N0.kept
 have log0 := N0.lo
 have ltg0 := Bg0.lt
 have szw1 := kg0.size
 have frg0 : w.heap.size ≤ g0 := Nat.le_trans HK.size log0
 replace HK := HK.trans kg0 (by simp)
 clear f0 N0 kg0
 refine L.ag f2 fun a3 f3 => ?_
 refine wpList_nil (hK0 _ _ ?_)
 have f4 := f3.sub (sc 1 sn)
 refine C.sk fun K1 hK1 => ?_
 refine L.va f4 (by exact E.loadB f4 U28 rfl wsz28_xk rfl (Bg0) rfl) fun a5 f5 => ?_
 refine L.cl f5 (run_call Tryd.call18 (args1 f5 rfl)) (wputR_any p s _ (IP.kept HK) hL (hT.old (HK.below (by simp) (Nat.le_refl _)))) ?_
 clear f1 a0 f2 a2 f3 f4 a3
 rintro e w2 ⟨kc2, A2, c2, rfl, F2⟩
 have szk := HK.size
 replace F2 := FB.lower F2 szk
 refine ⟨_, rfl, fun a6 f6 => ?_⟩
 have szw2 := kc2.size
 replace HK := HK.trans kc2 (by simp)
 replace Bg0 := Bg0.kept kc2 (by simp)
 clear f5 a5 kc2
 refine L.mv f6 fun a7 f7 => ?_
 refine L.va f7 (E.extract f7 rfl rfl) fun a8 f8 => ?_
 refine L.va f8 (E.extract f8 rfl rfl) fun a9 f9 => ?_
 refine L.ag f9 fun a10 f10 => ?_
 refine L.ag f10 fun a11 f11 => ?_
 refine wpList_nil (hK1 _ _ ?_)
 have f12 := f11.sub (sc 3 sn)
 refine C.sk fun K2 hK2 => ?_
 refine L.mv f12 fun a13 f13 => ?_
 refine L.ag f13 fun a14 f14 => ?_
 clear f6 a6 f7 a7 f8 a8 f9 a9 f10 a10 f11 f12 a11 f13 a13
 refine wpList_nil (hK2 _ _ ?_)
 have f15 := f14.sub (sc 2 sn)
 refine wp_ret ?_
 try simp only [Exit.inBlock, Exit.then]
 refine C.ret (P := Tryd.prog) (fn := Tryd.f24) f15 rfl rfl ?_
 exact ⟨HK, _, _, rfl, F2⟩
end Go.Proofs.YtigjafbbnocihaaDoor
namespace Go.Proofs.YtigjafbbnocihaaDoor
open Go.RowKit Go.Hub Go.Lib Go.Vl
theorem wbl102__yd  : Tryd.prog.built 102 [] = some #[(.slice none 0 0), (.int .i64 0)] := by kernel_rfl
theorem wsz22_yd : (Tryd.prog.info? 22).map (·.size) = some 1 := by kernel_rfl
theorem wsz34_yd : (Tryd.prog.info? 34).map (·.size) = some 1 := by kernel_rfl
theorem wsz28_yd : (Tryd.prog.info? 28).map (·.size) = some 24 := by kernel_rfl
theorem wzib5_yd : (Tryd.prog.info? 5).map (fun i => (i.zero, i.size, i.bytes)) = some (some (.int .u8 0), 1, 1) := by kernel_rfl
theorem wzib28_yd : (Tryd.prog.info? 28).map (fun i => (i.zero, i.size, i.bytes)) = some (some (.agg #[(.int .i64 0), (.bool false), (.bool false), (.int .i64 0), (.int .i64 0), (.string ⟨#[]⟩), (.slice none 0 0), (.int .i64 0), (.string ⟨#[]⟩), (.bool false), (.int .i64 0), (.bool false), (.string ⟨#[]⟩), (.slice none 0 0), (.int .i64 0), (.bool false), (.bool false), (.bool false), (.string ⟨#[]⟩), (.slice none 0 0), (.bool false), (.int .i64 0), (.slice none 0 0), (.slice none 0 0)]), 24, 288) := by kernel_rfl
theorem wzi28_yd : (Tryd.prog.info? 28).map (fun i => (i.zero, i.size)) = some (some (.agg #[(.int .i64 0), (.bool false), (.bool false), (.int .i64 0), (.int .i64 0), (.string ⟨#[]⟩), (.slice none 0 0), (.int .i64 0), (.string ⟨#[]⟩), (.bool false), (.int .i64 0), (.bool false), (.string ⟨#[]⟩), (.slice none 0 0), (.int .i64 0), (.bool false), (.bool false), (.bool false), (.string ⟨#[]⟩), (.slice none 0 0), (.bool false), (.int .i64 0), (.slice none 0 0), (.slice none 0 0)]), 24) := by kernel_rfl
theorem wbs33_1_yd (x0_0 x0_1 x0_2 x0_3 x0_4 x0_5 x0_6 x0_7 x0_8 x0_9 x0_10 x0_11 x0_12 x0_13 x0_14 x0_15 x0_16 x0_17 x0_18 x0_19 x0_20 x0_21 x0_22 x0_23 : Value) : Instr.fill (fun i => some (i * 24, 24)) ((Array.range (1 * 24)).map fun j => (Value.cells (.agg #[(.int .i64 0), (.bool false), (.bool false), (.int .i64 0), (.int .i64 0), (.string ⟨#[]⟩), (.slice none 0 0), (.int .i64 0), (.string ⟨#[]⟩), (.bool false), (.int .i64 0), (.bool false), (.string ⟨#[]⟩), (.slice none 0 0), (.int .i64 0), (.bool false), (.bool false), (.bool false), (.string ⟨#[]⟩), (.slice none 0 0), (.bool false), (.int .i64 0), (.slice none 0 0), (.slice none 0 0)]))[j % (Value.cells (.agg #[(.int .i64 0), (.bool false), (.bool false), (.int .i64 0), (.int .i64 0), (.string ⟨#[]⟩), (.slice none 0 0), (.int .i64 0), (.string ⟨#[]⟩), (.bool false), (.int .i64 0), (.bool false), (.string ⟨#[]⟩), (.slice none 0 0), (.int .i64 0), (.bool false), (.bool false), (.bool false), (.string ⟨#[]⟩), (.slice none 0 0), (.bool false), (.int .i64 0), (.slice none 0 0), (.slice none 0 0)])).size]!) [(0, .agg #[x0_0, x0_1, x0_2, x0_3, x0_4, x0_5, x0_6, x0_7, x0_8, x0_9, x0_10, x0_11, x0_12, x0_13, x0_14, x0_15, x0_16, x0_17, x0_18, x0_19, x0_20, x0_21, x0_22, x0_23])] = some #[x0_0, x0_1, x0_2, x0_3, x0_4, x0_5, x0_6, x0_7, x0_8, x0_9, x0_10, x0_11, x0_12, x0_13, x0_14, x0_15, x0_16, x0_17, x0_18, x0_19, x0_20, x0_21, x0_22, x0_23] := by kernel_rfl
theorem wsz5_yd : (Tryd.prog.info? 5).map (·.size) = some 1 := by kernel_rfl
def pkRow (l : List (Pk × Ad)) : List Value := l.flatMap fun x => (x.1.cells x.2).toList
theorem pkRow_app (l r : List (Pk × Ad)) : pkRow (l ++ r) = pkRow l ++ pkRow r := List.flatMap_append
theorem pkRow_one (x : Pk × Ad) : pkRow [x] = (x.1.cells x.2).toList := by simp [pkRow]
theorem pkRow_oneCell (l : List (Pk × Ad)) : ∀ u ∈ pkRow l, u.oneCell' = true := fun u hu => by
  obtain ⟨x, _, h⟩ := List.mem_flatMap.1 hu
  have := Pk.cells_one x.1 x.2
  rw [← Array.all_toList] at this
  exact List.all_eq_true.1 this u h
def PksO (w : World) (l : List (Pk × Ad)) : Prop := ∀ x ∈ l, PkO 0 w x.1 x.2 ∧ x.1.Len
def STR (w : World) (g : Nat) (t : TypeId) (rest : List UInt8) (er : Int) : Prop := ∃ A c, Blk w g t #[.slice A rest.length c, .int .i64 er] ∧ Bs [5] 0 w A rest.length rest ∧ rest.length ≤ c
section
variable {w W : World} {g x : Nat} {t t' : TypeId} {rest : List UInt8} {er : Int} {cs : Array Value} {l r : List (Pk × Ad)}
theorem PksO.nil (w : World) : PksO w [] := fun _ h => absurd h (by simp)
theorem PksO.kept0 (h : PksO w l) (hk : Kept [] w W) : PksO W l := fun x hx => ⟨(h x hx).1.kept0 hk, (h x hx).2⟩
theorem PksO.kept1 (h : PksO w l) (hk : Kept [x] w W) (b : Blk w x t cs) (ht : t ∉ [5, 70, 3]) : PksO W l := fun y hy => ⟨(h y hy).1.kept1 hk b ht (Nat.zero_le _), (h y hy).2⟩
theorem PksO.keptO {A : Option Addr} {n c : Nat} {xs : List Value} (h : PksO w l) (hk : Kept (Value.slice A n c).ownBlock.toList w W) (o : Own w 28 24 (.slice A n c) n xs) : PksO W l := by
  cases hb : (Value.slice A n c).ownBlock with
  | none => rw [hb] at hk; exact h.kept0 hk
  | some k =>
    rw [hb] at hk
    obtain ⟨hlt, cs, e⟩ := o.blk k hb
    exact h.kept1 (x := k) (t := 28) (cs := cs) hk e (by decide)
theorem PksO.app (h : PksO w l) (h' : PksO w r) : PksO w (l ++ r) := fun x hx => by
  rcases List.mem_append.1 hx with hx | hx
  · exact h x hx
  exact h' x hx
theorem PksO.one {p : Pk} {s : Ad} (h : PkO 0 w p s) (hl : p.Len) : PksO w [(p, s)] := fun x hx => by
  obtain rfl := List.mem_singleton.1 hx
  exact ⟨h, hl⟩
theorem STR.kept0 (h : STR w g t rest er) (hk : Kept [] w W) : STR W g t rest er := by
  obtain ⟨A, c, b, s, hc⟩ := h
  exact ⟨A, c, b.kept hk (by simp), s.kept0 hk, hc⟩
theorem STR.kept1 (h : STR w g t rest er) (hk : Kept [x] w W) (b : Blk w x t' cs) (ht : t' ∉ [5]) (hne : g ∉ [x]) : STR W g t rest er := by
  obtain ⟨A, c, b0, s, hc⟩ := h
  exact ⟨A, c, b0.kept hk hne, s.kept1 hk b ht (Nat.zero_le _), hc⟩
theorem STR.lt (h : STR w g t rest er) : g < w.heap.size := by
  obtain ⟨A, c, b, _⟩ := h
  exact b.lt
end
theorem own_notin {A : Option Addr} {n c g : Nat} (h : ∀ a, A = some a → a.block ≠ g) : g ∉ (Value.slice A n c).ownBlock.toList := by
  cases A with
  | none => simp [Value.ownBlock]
  | some a =>
    have := h a rfl
    simp [Value.ownBlock]
    exact fun e => this e.symm
theorem pk_row {w : World} {A : Option Addr} {l : List (Pk × Ad)} (h : Sl w A l.length 24 (pkRow l)) {b off i : Nat} {x : Pk × Ad} (hA : A = some ⟨b, off, none⟩) (hx : l[i]? = some x) : w.rangeAt b (off + i * 24) (x.1.cells x.2).toList := by
  have hi : i < l.length := (List.getElem?_eq_some_iff.1 hx).1
  exact h.row (by omega) hA fun j u hj => flat_at (fun x : Pk × Ad => (x.1.cells x.2).toList) 24 (fun _ => rfl) l i x hx j u hj
theorem bs_keptO {w W : World} {A B : Option Addr} {n k c : Nat} {l : List UInt8} {xs : List Value} (h : Bs [5] 0 w A n l) (hk : Kept (Value.slice B k c).ownBlock.toList w W) (o : Own w 28 24 (.slice B k c) k xs) : Bs [5] 0 W A n l := by
  cases hb : (Value.slice B k c).ownBlock with
  | none => rw [hb] at hk; exact h.kept0 hk
  | some x =>
    rw [hb] at hk
    obtain ⟨hlt, cs, e⟩ := o.blk x hb
    exact h.kept1 (t := 28) (cs := cs) hk e (by decide) (Nat.zero_le _)
theorem pko_keptO {w W : World} {p : Pk} {s : Ad} {B : Option Addr} {k c : Nat} {xs : List Value} (h : PkO 0 w p s) (hk : Kept (Value.slice B k c).ownBlock.toList w W) (o : Own w 28 24 (.slice B k c) k xs) : PkO 0 W p s := by
  cases hb : (Value.slice B k c).ownBlock with
  | none => rw [hb] at hk; exact h.kept0 hk
  | some x =>
    rw [hb] at hk
    obtain ⟨hlt, cs, e⟩ := o.blk x hb
    exact h.kept1 (t := 28) (cs := cs) hk e (by decide) (Nat.zero_le _)
theorem readB_of {l : List UInt8} {v : Pk × Int × Int} {B : Nat} {w w' : World} {e : Ending} (hv : readP l = v) (h : ReadB B (readP l) w e w') : ReadB B v w e w' := by subst hv; exact h
theorem _root_.Go.Hub.Bs.cut_lo {w : World} {A : Option Addr} {c : Nat} {n : Int} {l : List UInt8} {E : List TypeId} {B : Nat} (h : Bs E B w A l.length l) (hc : l.length ≤ c) (hn : n ≤ l.length) : Bs E B w (if c = n.toNat then A else A.map (·.add (n.toNat * 1))) (l.drop n.toNat).length (l.drop n.toNat) := by
  rw [List.length_drop]
  exact h.cut (k := n.toNat) (c := c) (by omega) hc
theorem Sl1 {w : World} {g : Nat} {t : TypeId} (p : Pk) (s : Ad) (B : Blk w g t (p.cells s)) : Sl w (some ⟨g, 0, none⟩) 1 24 (p.cells s).toList := B.slN (n := 1) (size := 24) rfl
theorem Pk.one1 (p : Pk) (s : Ad) : ∀ u ∈ (p.cells s).toList, u.oneCell' = true := fun u hu => by
  have := Pk.cells_one p s
  rw [← Array.all_toList] at this
  exact List.all_eq_true.1 this u hu
def FeedPost (g : Nat) (t : TypeId) (v : List Pk × List UInt8 × Int) (w : World) (e : Ending) (w' : World) : Prop :=
  ∃ (ps : List (Pk × Ad)) (A : Option Addr) (c : Nat), ps.map (·.1) = v.1 ∧ e = .returned (.tuple #[.slice A ps.length c, .int .i64 v.2.2]) ∧ Fresh w w' 28 24 A ps.length c (pkRow ps) ∧ PksO w' ps ∧ STR w' g t v.2.1 v.2.2 ∧ Kept [g] w w'
section
variable {w W : World} {g c : Nat} {t : TypeId} {rest b l l' : List UInt8} {er e' : Int} {ps : List (Pk × Ad)} {A : Option Addr}
theorem FeedPost.dead (h : ¬ er = 0) (S : STR W g t rest er) (HK : Kept [g] w W) : FeedPost g t (feedS (rest, er) b) w (.returned (.tuple #[.slice none 0 0, .int .i64 er])) W := by
  have e : feedS (rest, er) b = ([], rest, er) := by unfold feedS; rw [if_neg h]
  rw [e]
  exact ⟨[], none, 0, rfl, rfl, Fresh.nil _ _ _ _, PksO.nil _, S, HK⟩
theorem FeedPost.done (hq : ((ps.map (·.1)) ++ (feedL l).1, (feedL l).2) = feedL (rest ++ b)) (hf : feedL l = ([], l', e')) (F : Fresh w W 28 24 A ps.length c (pkRow ps)) (P : PksO W ps) (S : STR W g t l' e') (HK : Kept [g] w W) : FeedPost g t (feedS (rest, 0) b) w (.returned (.tuple #[.slice A ps.length c, .int .i64 e'])) W := by
  have e : feedS (rest, 0) b = (ps.map (·.1), l', e') := by
    show feedL (rest ++ b) = _
    rw [← hq, hf, List.append_nil]
  rw [e]
  exact ⟨ps, A, c, rfl, rfl, F, P, S, HK⟩
end
set_option maxHeartbeats 1000000 in
theorem new_any (w : World) : Calls Tryd.prog 28 #[] w (fun e w' => Kept [] w w' ∧ ∃ g, e = .returned (.pointer (some ⟨g, 0, none⟩)) ∧ w.heap.size ≤ g ∧ STR w' g 102 [] 0) := by
 have HK : Kept [] w w := Kept.refl [] w
 refine C.enter Tryd.func28 rfl Tryd.ntmps28 rfl ?_
 intro a0 f0
 have f1 : Fr 3 a0 [] := f0
 refine C.sk fun K0 hK0 => ?_
 refine L.ag f1 fun a2 f2 => ?_
 refine wpList_nil (hK0 _ _ ?_)
 have f3 := f2.sub sn
 refine C.sk fun K1 hK1 => ?_
 refine L.va f3 (E.build f3 (parts0 f3) (wbl102__yd)) fun a4 f4 => ?_
 refine L.box f4 wantedN (by decide) rfl rfl fun a5 w1 g0 N0 f5 => ?_
 have Bg0 := N0.blk
 have kg0 := N0.kept
 have log0 := N0.lo
 have ltg0 := Bg0.lt
 have szw1 := kg0.size
 have frg0 : w.heap.size ≤ g0 := Nat.le_trans HK.size log0
 replace HK := HK.trans kg0 (by simp)
 clear f0 f1 a0 f2 f3 a2 N0 kg0
 refine L.ag f5 fun a6 f6 => ?_
 refine wpList_nil (hK1 _ _ ?_)
 have f7 := f6.sub (sc 0 sn)
 refine wp_ret ?_
 try simp only [Exit.inBlock, Exit.then]
 refine C.ret (P := Tryd.prog) (fn := Tryd.f28) f7 rfl rfl ?_
 exact ⟨HK, _, rfl, by omega, ⟨none, 0, Bg0, Bs.nil _ _ _ _, Nat.le_refl _⟩⟩
set_option maxHeartbeats 1000000 in
theorem left_any (g : Nat) (rest : List UInt8) (er : Int) (w : World) (ST : STR w g 102 rest er) : Calls Tryd.prog 32 #[.pointer (some ⟨g, 0, none⟩)] w (fun e w' => Kept [] w w' ∧ e = .returned (.int .i64 rest.length)) := by
 have HK : Kept [] w w := Kept.refl [] w
 obtain ⟨A0, c0, BS, SR, hc0⟩ := ST
 refine C.enter Tryd.func32 rfl Tryd.ntmps32 rfl ?_
 intro a0 f0
 have f1 : Fr 8 a0 [(0, .pointer (some ⟨g, 0, none⟩))] := f0
 refine C.sk fun K0 hK0 => ?_
 refine L.ag f1 fun a2 f2 => ?_
 refine wpList_nil (hK0 _ _ ?_)
 have f3 := f2.sub (sc 0 sn)
 refine C.sk fun K1 hK1 => ?_
 refine L.mv f3 fun a4 f4 => ?_
 refine L.va f4 (E.nilCheck f4 rfl) fun a5 f5 => ?_
 refine L.fa 0 f5 U102 rfl wsz22_yd fun a6 f6 => ?_
 refine L.ld f6 U22 BS fun a7 f7 => ?_
 refine L.va f7 (E.lenL f7 U22 rfl) fun a8 f8 => ?_
 clear f0 f1 a0 f2 f3 a2 f4 a4 f5 a5 f6 a6 f7 a7
 refine L.ag f8 fun a9 f9 => ?_
 refine wpList_nil (hK1 _ _ ?_)
 have f10 := f9.sub (sc 2 sn)
 refine wp_ret ?_
 try simp only [Exit.inBlock, Exit.then]
 refine C.ret (P := Tryd.prog) (fn := Tryd.f32) f10 rfl rfl ?_
 exact ⟨HK, rfl⟩
set_option maxHeartbeats 1000000 in
theorem dead_any (g : Nat) (rest : List UInt8) (er : Int) (w : World) (ST : STR w g 102 rest er) : Calls Tryd.prog 33 #[.pointer (some ⟨g, 0, none⟩)] w (fun e w' => Kept [] w w' ∧ e = .returned (.bool (!decide (er = 0)))) := by
 have HK : Kept [] w w := Kept.refl [] w
 obtain ⟨A0, c0, BS, SR, hc0⟩ := ST
 refine C.enter Tryd.func33 rfl Tryd.ntmps33 rfl ?_
 intro a0 f0
 have f1 : Fr 8 a0 [(0, .pointer (some ⟨g, 0, none⟩))] := f0
 refine C.sk fun K0 hK0 => ?_
 refine L.ag f1 fun a2 f2 => ?_
 refine wpList_nil (hK0 _ _ ?_)
 have f3 := f2.sub (sc 0 sn)
 refine C.sk fun K1 hK1 => ?_
 refine L.mv f3 fun a4 f4 => ?_
 refine L.va f4 (E.nilCheck f4 rfl) fun a5 f5 => ?_
 refine L.fa 1 f5 U102 rfl wsz34_yd fun a6 f6 => ?_
 refine L.va f6 (by exact E.ld f6 Tryd.underlying34 (BS)) fun a7 f7 => ?_
 refine L.va f7 (E.neq f7 rfl rfl) fun a8 f8 => ?_
 clear f0 f1 a0 f2 f3 a2 f4 a4 f5 a5 f6 a6 f7 a7
 refine L.ag f8 fun a9 f9 => ?_
 refine wpList_nil (hK1 _ _ ?_)
 have f10 := f9.sub (sc 2 sn)
 refine wp_ret ?_
 try simp only [Exit.inBlock, Exit.then]
 refine C.ret (P := Tryd.prog) (fn := Tryd.f33) f10 rfl rfl ?_
 exact ⟨HK, by simp⟩
set_option maxHeartbeats 1000000 in
theorem packets_any (l r : List (Pk × Ad)) (A A' : Option Addr) (c c' : Nat) (w : World) (SL : Sl w A l.length 24 (pkRow l)) (SR : Sl w A' r.length 24 (pkRow r)) (PL : PksO w l) (PR : PksO w r) (hq : l.map (·.1) = r.map (·.1)) (hm : l.length ≤ 1000000000000) : Calls Tryd.prog 31 #[.slice A l.length c, .slice A' r.length c'] w (fun e w' => Kept [] w w' ∧ e = .returned (.bool true)) := by
 have HK : Kept [] w w := Kept.refl [] w
 have hlen : l.length = r.length := by simpa using congrArg List.length hq
 refine C.enter Tryd.func31 rfl Tryd.ntmps31 rfl ?_
 intro a0 f0
 have f1 : Fr 27 a0 [(0, .slice A l.length c), (1, .slice A' r.length c')] := f0
 refine C.sk fun K0 hK0 => ?_
 refine L.ag f1 fun a2 f2 => ?_
 refine wpList_nil (hK0 _ _ ?_)
 have f3 := f2.sub (sc 0 (sc 1 sn))
 refine wp_seq_k fun K1 hK1 => ?_
 refine C.sk fun K2 hK2 => ?_
 refine L.mv f3 fun a4 f4 => ?_
 refine L.va f4 (E.lenL f4 U33 rfl) fun a5 f5 => ?_
 refine L.mv f5 fun a6 f6 => ?_
 refine L.va f6 (E.lenL f6 U33 rfl) fun a7 f7 => ?_
 refine L.va f7 (E.neq f7 rfl rfl) fun a8 f8 => ?_
 clear f0 f1 a0 f2 f3 a2 f4 a4 f5 a5 f6 a6 f7 a7
 refine wpList_nil (hK2 _ _ ?_)
 have f9 := f8.sub (sc 0 (sc 1 (sc 10 sn)))
 clear f8
 refine f9.splitN 10 rfl (fun h0 f10 => ?_) (fun h0 f10 => ?_)
 ·clear f9
  exfalso
  omega
 refine C.condF f10 rfl ?_
 refine wp_skip (hK1 _ _ ?_)
 have f11 := f10.sub (sc 0 (sc 1 sn))
 refine wp_seq_k fun K3 hK3 => ?_
 refine C.sk fun K4 hK4 => ?_
 refine L.ag f11 fun a12 f12 => ?_
 refine wpList_nil (hK4 _ _ ?_)
 have f13 := f12.sub (sc 0 (sc 1 (sc 5 sn)))
 refine wp_block ?_
 clear f9 f10 f11 a8 f12
 refine C.loop (fun gk a W => ∃ k : Nat, k + gk = l.length ∧ Kept [] w W ∧ Fr 27 a [(0, .slice A l.length c), (1, .slice A' r.length c'), (5, .int .i64 k)]) (l.length) ?_ ?_
 ·exact ⟨0, by omega, HK, f13.sub (sub_cons rfl (sub_cons rfl (sub_cons rfl sn)))⟩
 intro gk6 a14 w1 hI KL5 hKL5
 obtain ⟨k, hk, HK, f14⟩ := hI
 try clear f13
 refine wp_seq_k fun K6 hK6 => ?_
 refine C.sk fun K7 hK7 => ?_
 refine L.mv f14 fun a15 f15 => ?_
 refine L.mv f15 fun a16 f16 => ?_
 refine L.va f16 (E.lenL f16 U33 rfl) fun a17 f17 => ?_
 refine L.va f17 (E.lss f17 rfl rfl) fun a18 f18 => ?_
 refine wpList_nil (hK7 _ _ ?_)
 have f19 := f18.sub (sc 0 (sc 1 (sc 5 (sc 14 sn))))
 clear f14 a14 f15 a15 f16 a16 f17 a17 f18
 refine f19.splitD 14 rfl (fun h1 f20 => ?_) (fun h1 f20 => ?_)
 ·obtain ⟨d, hd⟩ := some_at l k (by omega)
  obtain ⟨bk, off, hA⟩ := SL.addr (by omega)
  obtain ⟨d', hd'⟩ := some_at r k (by omega)
  obtain ⟨bk', off', hA'⟩ := SR.addr (by omega)
  have hdd : d.1 = d'.1 := by have h1 := congrArg (fun q => q[k]?) hq; simpa [hd, hd'] using h1
  refine C.condT f20 rfl ?_
  refine wp_skip (hK6 _ _ ?_)
  have f21 := f20.sub (sc 0 (sc 1 (sc 5 sn)))
  refine wp_seq_k fun K8 hK8 => ?_
  refine wp_block ?_
  refine wp_seq_k fun K9 hK9 => ?_
  have hd6 : Kept [] w1 (w1.drewN 1) := (Kept.refl _ _).drewN 1
  refine R.beginT (S := fun W => (Kept [] w W)) (by kernel_rfl) (by kernel_rfl) (HK.trans hd6 (by simp)) fun ht => ?_
  obtain ⟨w2, hww2⟩ : ∃ W, W = w1.drewN 1 := ⟨_, rfl⟩
  rw [← hww2] at hd6 ⊢
  clear f19 f20 hww2
  have szw2 := hd6.size
  replace HK := HK.trans hd6 (by simp)
  clear hd6
  refine R.u 0 f21 rfl ht HK (fun W hW => (E.move f21 rfl)) fun a22 f22 => ?_
  refine R.u 1 f22 rfl ht HK (fun W hW => (E.move f22 rfl)) fun a23 f23 => ?_
  refine R.u 2 f23 rfl ht HK (fun W hW => (E.indexA f23 (by assumption) U33 wsz28_yd rfl rfl (by omega) (by omega))) fun a24 f24 => ?_
  refine R.u 3 f24 rfl ht HK (fun W hW => (by exact E.loadA f24 U28 rfl wsz28_yd rfl (pk_row (SL.kept hW) hA hd) rfl)) fun a25 f25 => ?_
  refine R.u 4 f25 rfl ht HK (fun W hW => (E.move f25 rfl)) fun a26 f26 => ?_
  refine R.u 5 f26 rfl ht HK (fun W hW => (E.move f26 rfl)) fun a27 f27 => ?_
  refine R.u 6 f27 rfl ht HK (fun W hW => (E.indexA f27 (by assumption) U33 wsz28_yd rfl rfl (by omega) (by omega))) fun a28 f28 => ?_
  clear f21 a18 f22 a22 f23 a23 f24 a24 f25 a25 f26 a26 f27 a27
  refine R.u 7 f28 rfl ht HK (fun W hW => (by exact E.loadA f28 U28 rfl wsz28_yd rfl (pk_row (SR.kept hW) hA' hd') rfl)) fun a29 f29 => ?_
  refine R.call 8 f29 rfl rfl (by decide) (by kernel_rfl) wantedN (run_call Tryd.call22 (args2 f29 rfl rfl)) (sameR_any d.1 d'.1 d.2 d'.2 _ ((PL d (List.mem_of_getElem? hd)).1.toIn.kept HK) ((PR d' (List.mem_of_getElem? hd')).1.toIn.kept HK) (PL d (List.mem_of_getElem? hd)).2.subs (PL d (List.mem_of_getElem? hd)).2.codes) ?_
  clear f28 a28
  rintro e w3 ⟨kc3, rfl⟩
  have szw3 := kc3.size
  replace HK := HK.trans kc3 (by simp)
  refine ⟨_, rfl, HK, fun a30 f30 => ?_⟩
  clear f29 a29 kc3
  refine R.u 9 f30 rfl ht HK (fun W hW => (E.not f30 rfl)) fun a31 f31 => ?_
  have f32 := f31.as (i := 26) (v' := .bool false) rfl (by rw [hdd, samePk_iff.2 rfl]; rfl)
  refine R.done (by kernel_rfl) (hK9 _ _ ?_)
  have f33 := f32.sub (sc 0 (sc 1 (sc 5 (sc 26 sn))))
  refine C.condF f33 rfl ?_
  refine wp_skip (hK8 _ _ ?_)
  have f34 := f33.sub (sc 0 (sc 1 (sc 5 sn)))
  refine C.region ?_
  refine L.mv f34 fun a35 f35 => ?_
  refine L.va f35 (E.add f35 rfl rfl (IntWalk.i64_in _ (by omega))) fun a36 f36 => ?_
  refine L.ag f36 fun a37 f37 => ?_
  clear f30 a30 f31 f32 f33 f34 a31 f35 a35 f36 a36
  refine wpList_nil (hKL5 _ _ (gk6 - 1) ?_ ?_)
  ·omega
  exact ⟨k + 1, by omega, HK, f37.sub (sub_cons rfl (sub_cons rfl (sub_cons rfl sn)))⟩
 refine C.condF f20 rfl ?_
 refine wp_exit (hK3 _ _ ?_)
 have f21 := f20.sub sn
 refine C.sk fun K10 hK10 => ?_
 refine L.ag f21 fun a22 f22 => ?_
 refine wpList_nil (hK10 _ _ ?_)
 have f23 := f22.sub (sc 4 sn)
 refine wp_ret ?_
 try simp only [Exit.inBlock, Exit.then]
 refine C.ret (P := Tryd.prog) (fn := Tryd.f31) f23 rfl rfl ?_
 exact ⟨HK, rfl⟩
set_option maxHeartbeats 2000000 in
theorem feed_any (g : Nat) (rest : List UInt8) (er : Int) (b : List UInt8) (Ab : Option Addr) (cb : Nat) (w : World) (ST : STR w g 102 rest er) (SB : Sl w Ab b.length 1 (b.map u8)) (hl : rest.length + b.length ≤ 1000000) (hT : Tabs w) (hg : 2 ≤ g) : Calls Tryd.prog 29 #[.pointer (some ⟨g, 0, none⟩), .slice Ab b.length cb] w (FeedPost g 102 (feedS (rest, er) b) w) := by
 have HK : Kept [] w w := Kept.refl [] w
 obtain ⟨A0, c0, BS, SR, hc0⟩ := ST
 refine C.enter Tryd.func29 rfl Tryd.ntmps29 rfl ?_
 intro a0 f0
 have f1 : Fr 59 a0 [(0, .pointer (some ⟨g, 0, none⟩)), (1, .slice Ab b.length cb)] := f0
 refine C.sk fun K0 hK0 => ?_
 refine L.ag f1 fun a2 f2 => ?_
 refine L.ag f2 fun a3 f3 => ?_
 refine wpList_nil (hK0 _ _ ?_)
 have f4 := f3.sub (sc 0 (sc 1 sn))
 refine wp_seq_k fun K1 hK1 => ?_
 refine C.sk fun K2 hK2 => ?_
 refine L.mv f4 fun a5 f5 => ?_
 refine L.va f5 (E.nilCheck f5 rfl) fun a6 f6 => ?_
 refine L.fa 1 f6 U102 rfl wsz34_yd fun a7 f7 => ?_
 refine L.va f7 (by exact E.ld f7 Tryd.underlying34 (BS)) fun a8 f8 => ?_
 clear f0 f1 a0 f2 a2 f3 f4 a3 f5 a5 f6 a6 f7 a7
 refine L.va f8 (E.neq f8 rfl rfl) fun a9 f9 => ?_
 refine wpList_nil (hK2 _ _ ?_)
 have f10 := f9.sub (sc 0 (sc 1 (sc 15 sn)))
 clear f8 a8 f9
 refine f10.splitN 15 rfl (fun h0 f11 => ?_) (fun h0 f11 => ?_)
 ·have hdead := h0
  refine C.condT f11 rfl ?_
  refine wp_seq_k fun K3 hK3 => ?_
  have hd2 : Kept [] w (w.drewN 1) := (Kept.refl _ _).drewN 1
  refine R.beginT (S := fun W => (Kept [] w W) ∧ (Blk W g 102 #[.slice A0 rest.length c0, .int .i64 er])) (by kernel_rfl) (by kernel_rfl) ⟨HK.trans hd2 (by simp), BS.kept hd2 (by simp)⟩ fun ht => ?_
  obtain ⟨w1, hww1⟩ : ∃ W, W = w.drewN 1 := ⟨_, rfl⟩
  rw [← hww1] at hd2 ⊢
  clear f10 hww1
  have szw1 := hd2.size
  replace HK := HK.trans hd2 (by simp)
  replace BS := BS.kept hd2 (by simp)
  replace SR := SR.kept0 hd2
  clear hd2
  refine R.u 0 f11 rfl ht ⟨HK, BS⟩ (fun W hW => (E.move f11 rfl)) fun a12 f12 => ?_
  refine R.u 1 f12 rfl ht ⟨HK, BS⟩ (fun W hW => (E.nilCheck f12 rfl)) fun a13 f13 => ?_
  refine R.u 2 f13 rfl ht ⟨HK, BS⟩ (fun W hW => (E.fa 1 f13 U102 rfl wsz34_yd)) fun a14 f14 => ?_
  refine R.u 3 f14 rfl ht ⟨HK, BS⟩ (fun W hW => (by exact E.ld f14 Tryd.underlying34 (hW.2))) fun a15 f15 => ?_
  refine R.u 4 f15 rfl ht ⟨HK, BS⟩ (fun W hW => (E.assign f15 rfl)) fun a16 f16 => ?_
  refine R.u 5 f16 rfl ht ⟨HK, BS⟩ (fun W hW => (E.assign f16 rfl)) fun a17 f17 => ?_
  refine R.done (by kernel_rfl) (hK3 _ _ ?_)
  have f18 := f17.sub (sc 4 (sc 5 sn))
  refine wp_ret ?_
  try simp only [Exit.inBlock, Exit.then]
  refine C.ret2 (P := Tryd.prog) (fn := Tryd.f29) f18 rfl rfl rfl ?_
  exact FeedPost.dead hdead ⟨A0, c0, BS, SR, hc0⟩ (HK.mono (by simp))
 have her : er = 0 := by exact h0
 clear f10
 subst her
 refine C.condF f11 rfl ?_
 refine wp_skip (hK1 _ _ ?_)
 have f12 := f11.sub (sc 0 (sc 1 sn))
 refine C.sk fun K4 hK4 => ?_
 refine L.mv f12 fun a13 f13 => ?_
 refine L.va f13 (E.nilCheck f13 rfl) fun a14 f14 => ?_
 refine L.fa 0 f14 U102 rfl wsz22_yd fun a15 f15 => ?_
 refine L.ld f15 U22 BS fun a16 f16 => ?_
 refine L.cl f16 (run_call Tryd.call63 (args1 f16 rfl)) (clone_any rest A0 c0 _ (SR.toSl.kept HK) (by omega)) ?_
 clear f11 f12 a9 f13 a13 f14 a14 f15 a15
 rintro e w1 ⟨kc1, A3, c3, rfl, F3⟩
 have szk := HK.size
 replace F3 := FB.lower F3 szk
 refine ⟨_, rfl, fun a17 f17 => ?_⟩
 have szw1 := kc1.size
 replace HK := HK.trans kc1 (by simp)
 replace BS := BS.kept kc1 (by simp)
 replace SR := SR.kept0 kc1
 clear f16 a16 kc1
 refine L.mv f17 fun a18 f18 => ?_
 refine L.append f18 wantedN (by decide) U22 wzib5_yd rfl rfl rfl rfl F3.own (SB.kept HK) (u8_one) (by (simp only [List.length_append, maxLen]; omega)) (by (simp [maxLen]; omega)) fun a19 w2 A2 c2 AP2 f19 => ?_
 have FN2 := AP2.nextB F3 HK.size (b) (rfl) (rfl)
 have kap2 := AP2.kept
 have szw2 := kap2.size
 replace HK := F3.rel HK kap2
 replace BS := BS.kept kap2 (own_ne F3.own BS (by decide))
 clear f17 a17 f18 a18 kap2 AP2 F3
 have f20 := f19.as (i := 26) rfl (sl_lenF FN2 (rfl))
 refine L.ag f20 fun a21 f21 => ?_
 refine wpList_nil (hK4 _ _ ?_)
 have f22 := f21.sub (sc 0 (sc 6 sn))
 refine C.sk fun K5 hK5 => ?_
 refine L.ag f22 fun a23 f23 => ?_
 refine wpList_nil (hK5 _ _ ?_)
 have f24 := f23.sub (sc 0 (sc 6 (sc 7 sn)))
 refine wp_block ?_
 clear f19 f20 a19 f21 f22 a21 f23
 refine C.loop (fun gk a W => ∃ (l : List UInt8) (Al : Option Addr) (cl : Nat) (ps : List (Pk × Ad)) (Ao : Option Addr) (co : Nat), l.length = gk ∧ (ps.map (·.1) ++ (feedL l).1, (feedL l).2) = feedL (rest ++ b) ∧ l.length + ps.length ≤ 1000000 ∧ Kept [] w W ∧ Blk W g 102 #[.slice A0 rest.length c0, .int .i64 0] ∧ Bs [5] 0 W Al l.length l ∧ l.length ≤ cl ∧ Fresh w W 28 24 Ao ps.length co (pkRow ps) ∧ PksO W ps ∧ Fr 59 a [(0, .pointer (some ⟨g, 0, none⟩)), (6, .slice Al l.length cl), (7, .slice Ao ps.length co)]) ((rest ++ b).length) ?_ ?_
 ·exact ⟨rest ++ b, _, _, [], none, 0, rfl, rfl, by simp; omega, HK, BS, Bs.of_own FN2.own (by simp), own_cap FN2.own, Fresh.nil _ _ _ _, PksO.nil _, f24.sub (sub_cons rfl (sub_cons rfl (sub_cons rfl sn)))⟩
 intro gk7 a25 w3 hI KL6 hKL6
 obtain ⟨l, Al, cl, ps, Ao, co, hgk, hq, hlp, HK, BS, SL, hcl, FO, PS, f25⟩ := hI
 try clear f24
 refine wp_block ?_
 refine C.sk fun K7 hK7 => ?_
 refine L.mv f25 fun a26 f26 => ?_
 obtain ⟨p, n, e2, hv⟩ : ∃ p n e2, readP l = (p, n, e2) := ⟨_, _, _, rfl⟩
 have hC := (wreadB_any l Al cl w3 0 (Nat.zero_le _) SL hcl (by omega) (hT.old (HK.below (by simp) (Nat.le_refl _)))).mono (fun _ _ h => readB_of (v := (p, n, e2)) hv h)
 refine L.cl f26 (run_call Tryd.call23 (args1 f26 rfl)) hC ?_
 clear f25 a25
 rintro e w4 ⟨kc4, hpl, ss, rfl, PN⟩
 dsimp only at hpl PN ⊢
 have hn : e2 = 0 → 1 ≤ n ∧ n ≤ l.length := fun h => by have h1 := readP_len (l := l) (by rw [hv]; exact h); rw [hv] at h1; exact h1
 refine ⟨_, rfl, fun a27 f27 => ?_⟩
 have szw4 := kc4.size
 replace HK := HK.trans kc4 (by simp)
 replace BS := BS.kept kc4 (by simp)
 replace SL := SL.kept0 kc4
 replace FO := Fresh.kept0 FO kc4
 replace PS := PksO.kept0 PS kc4
 clear f26 a26 kc4
 refine L.mv f27 fun a28 f28 => ?_
 refine L.va f28 (E.extract f28 rfl rfl) fun a29 f29 => ?_
 refine L.va f29 (E.extract f29 rfl rfl) fun a30 f30 => ?_
 refine L.va f30 (E.extract f30 rfl rfl) fun a31 f31 => ?_
 refine L.alloc f31 wantedN (by decide) (z := (.agg #[(.int .i64 0), (.bool false), (.bool false), (.int .i64 0), (.int .i64 0), (.string ⟨#[]⟩), (.slice none 0 0), (.int .i64 0), (.string ⟨#[]⟩), (.bool false), (.int .i64 0), (.bool false), (.string ⟨#[]⟩), (.slice none 0 0), (.int .i64 0), (.bool false), (.bool false), (.bool false), (.string ⟨#[]⟩), (.slice none 0 0), (.bool false), (.int .i64 0), (.slice none 0 0), (.slice none 0 0)])) (fun _ => by kernel_rfl) rfl fun a32 w5 g4 N4 f32 => ?_
 have Bg4 := N4.blk
 have kg4 := N4.kept
 have log4 := N4.lo
 have ltg4 := Bg4.lt
 have szw5 := kg4.size
 have frg4 : w.heap.size ≤ g4 := Nat.le_trans HK.size log4
 have neg_g4 : g ≠ g4 := by have := BS.lt; omega
 have FXg4_FO := own_far FO.own log4
 replace HK := HK.trans kg4 (by simp)
 replace BS := BS.kept kg4 (by simp)
 replace SL := SL.kept0 kg4
 replace FO := Fresh.kept0 FO kg4
 replace PS := PksO.kept0 PS kg4
 replace PN := PN.kept0 kg4
 clear f27 a27 f28 a28 f29 a29 f30 a30 N4 kg4
 refine L.storeR f32 wantedN wsz28_yd rfl rfl rfl Bg4 rfl rfl fun a33 w6 f33 NB6 ks6 => ?_
 have szw6 := ks6.size
 replace HK := HK.trans ks6 (ktr (by omega))
 replace BS := BS.kept ks6 (by simp; omega)
 replace SL := SL.kept1 ks6 Bg4 (by decide) (Nat.zero_le _)
 replace FO := fresh_keptF FO ks6 FXg4_FO
 replace PS := PksO.kept1 PS ks6 Bg4 (by decide)
 replace PN := PN.kept1 ks6 Bg4 (by decide) (Nat.zero_le _)
 replace Bg4 := NB6
 clear f31 a31 ks6 f32 a32
 refine L.ag f33 fun a34 f34 => ?_
 refine L.ag f34 fun a35 f35 => ?_
 refine wpList_nil (hK7 _ _ ?_)
 have f36 := f35.sub (sc 0 (sc 6 (sc 7 (sc 8 (sc 9 (sc 10 sn))))))
 refine wp_seq_k fun K8 hK8 => ?_
 refine C.sk fun K9 hK9 => ?_
 refine L.mv f36 fun a37 f37 => ?_
 refine wpList_nil (hK9 _ _ ?_)
 have f38 := f37.sub (sc 0 (sc 6 (sc 7 (sc 8 (sc 9 (sc 10 (sc 33 sn)))))))
 refine wp_block ?_
 refine C.sk fun K10 hK10 => ?_
 refine L.va f38 (E.eq f38) fun a39 f39 => ?_
 refine L.ag f39 fun a40 f40 => ?_
 refine wpList_nil (hK10 _ _ ?_)
 have f41 := f40.sub (sc 0 (sc 6 (sc 7 (sc 8 (sc 9 (sc 10 (sc 33 (sc 34 sn))))))))
 clear f33 a33 f34 a34 f35 f36 a35 f37 f38 a37 f39 a39 f40
 refine f41.splitD 34 rfl (fun h1 f42 => ?_) (fun h1 f42 => ?_)
 ·have he : e2 = 0 := h1
  have hnn := hn he
  clear f41
  subst he
  refine C.condT f42 rfl ?_
  refine wp_seq_k fun K11 hK11 => ?_
  replace Bg4 : Blk w6 g4 28 (p.cells ss) := Bg4
  have hd8 : Kept [] w6 (w6.drewN 1) := (Kept.refl _ _).drewN 1
  refine R.beginT (S := fun W => (Kept [] w W) ∧ (Blk W g 102 #[.slice A0 rest.length c0, .int .i64 0]) ∧ (Blk W g4 28 (p.cells ss))) (by kernel_rfl) (by kernel_rfl) ⟨HK.trans hd8 (by simp), BS.kept hd8 (by simp), Bg4.kept hd8 (by simp)⟩ fun ht => ?_
  obtain ⟨w7, hww7⟩ : ∃ W, W = w6.drewN 1 := ⟨_, rfl⟩
  rw [← hww7] at hd8 ⊢
  clear hww7
  have szw7 := hd8.size
  replace HK := HK.trans hd8 (by simp)
  replace BS := BS.kept hd8 (by simp)
  replace SL := SL.kept0 hd8
  replace FO := Fresh.kept0 FO hd8
  replace PS := PksO.kept0 PS hd8
  replace PN := PN.kept0 hd8
  replace Bg4 := Bg4.kept hd8 (by simp)
  clear hd8
  refine R.u 0 f42 rfl ht ⟨HK, BS, Bg4⟩ (fun W hW => (E.move f42 rfl)) fun a43 f43 => ?_
  refine R.u 1 f43 rfl ht ⟨HK, BS, Bg4⟩ (fun W hW => (by exact E.loadB f43 U28 rfl wsz28_yd rfl (hW.2.2) rfl)) fun a44 f44 => ?_
  refine R.u 4 f44 rfl ht ⟨HK, BS, Bg4⟩ (fun W hW => (E.move f44 rfl)) fun a45 f45 => ?_
  refine R.u 5 f45 rfl ht ⟨HK, BS, Bg4⟩ (fun W hW => (E.move f45 rfl)) fun a46 f46 => ?_
  refine R.u 6 f46 rfl ht ⟨HK, BS, Bg4⟩ (fun W hW => (E.slLlo f46 U22 wsz5_yd rfl rfl (by omega) (by omega) )) fun a47 f47 => ?_
  refine R.one 2 (by kernel_rfl) ?_
  refine O.buildSlice f47 rfl wantedN (by decide) (parts1 f47 rfl) U33 wzi28_yd rfl rfl (wbs33_1_yd _ _ _ _ _ _ _ _ _ _ _ _ _ _ _ _ _ _ _ _ _ _ _ _) (fun _ hk => ⟨HK.trans hk (by simp), BS.kept hk (by simp), Bg4.kept hk (by simp)⟩) fun a48 w8 g7 N7 hSn f48 => ?_
  clear f42 a40 f43 a43 f44 a44 f45 a45 f46 a46 hSn
  have Bg7 := N7.blk
  have kg7 := N7.kept
  have log7 := N7.lo
  have ltg7 := Bg7.lt
  have szw8 := kg7.size
  have frg7 : w.heap.size ≤ g7 := Nat.le_trans HK.size log7
  have neg_g7 : g ≠ g7 := by have := BS.lt; omega
  have neg4_g7 : g4 ≠ g7 := by have := Bg4.lt; omega
  have FXg7_FO := own_far FO.own log7
  replace HK := HK.trans kg7 (by simp)
  replace BS := BS.kept kg7 (by simp)
  replace SL := SL.kept0 kg7
  replace FO := Fresh.kept0 FO kg7
  replace PS := PksO.kept0 PS kg7
  replace PN := PN.kept0 kg7
  replace Bg4 := Bg4.kept kg7 (by simp)
  clear N7 kg7
  refine R.one 3 (by kernel_rfl) ?_
  refine O.append f48 rfl wantedN (by decide) U33 wzib28_yd rfl rfl rfl rfl FO.own (Sl1 p ss Bg7) (Pk.one1 p ss) (by unfold maxLen; omega) (by omega) fun a49 w9 A9 c9 AP => ?_
  have szw9 := AP.kept.size
  have HKn := AP.grow FO HK
  have BSn := BS.kept AP.kept (own_ne FO.own BS (by decide))
  have SLn := bs_keptO SL AP.kept FO.own
  have PSn := (PS.keptO AP.kept FO.own).app (PksO.one (pko_keptO PN AP.kept FO.own) hpl)
  have FOn : Fresh w w9 28 24 A9 (ps ++ [(p, ss)]).length c9 (pkRow (ps ++ [(p, ss)])) := by rw [pkRow_app, pkRow_one, List.length_append]; exact AP.next FO HK.size
  have B8n := Bg4.kept AP.kept (own_notin FXg4_FO)
  refine ⟨⟨HKn, BSn, B8n⟩, fun f49 => ?_⟩
  clear f47 a47 f48 HK BS SL PS PN FO Bg7 AP
  have HK := HKn
  have BS := BSn
  have SL := SLn
  have PS := PSn
  have FO := FOn
  clear HKn BSn SLn PSn FOn
  refine R.u 7 f49 rfl ht ⟨HK, BS, B8n⟩ (fun W hW => (E.assign f49 rfl)) fun a50 f50 => ?_
  refine R.u 8 f50 rfl ht ⟨HK, BS, B8n⟩ (fun W hW => (E.assign f50 rfl)) fun a51 f51 => ?_
  refine R.done (by kernel_rfl) (hK11 _ _ ?_)
  have f52 := f51.sub (sc 0 (sc 6 (sc 7 sn)))
  clear f49 a49 f50 a50 f51
  refine wp_exit (hKL6 _ _ ((l.drop n.toNat).length) ?_ ?_)
  ·rw [List.length_drop]; omega
  exact ⟨l.drop n.toNat, (if cl = n.toNat then Al else Al.map (·.add (n.toNat * 1))), cl - n.toNat, ps ++ [(p, ss)], A9, c9, rfl, by rw [← hq, feedL_ok hv]; simp, by rw [List.length_drop, List.length_append, List.length_singleton]; omega, HK, BS, SL.cut_lo hcl hnn.2, by rw [List.length_drop]; omega, FO, PS, f52.sub (sub_cons rfl (sub_cons (by rw [List.length_drop]; rfl) (sub_cons (by rw [List.length_append]; rfl) sn)))⟩
 have he0 : ¬ e2 = 0 := h1
 refine C.condF f42 rfl ?_
 refine C.sk fun K12 hK12 => ?_
 refine L.va f42 (E.eq f42) fun a43 f43 => ?_
 refine L.ag f43 fun a44 f44 => ?_
 refine wpList_nil (hK12 _ _ ?_)
 have f45 := f44.sub (sc 0 (sc 6 (sc 7 (sc 10 (sc 43 sn)))))
 clear f41 f42 a40 f43 a43 f44
 refine f45.splitD 43 rfl (fun h2 f46 => ?_) (fun h2 f46 => ?_)
 ·have hsh : e2 = 20 := h2
  refine C.condT f46 rfl ?_
  refine wp_seq_k fun K13 hK13 => ?_
  replace HK : Kept [g] w w6 := HK.mono (by simp)
  refine C.region ?_
  refine L.mv f46 fun a47 f47 => ?_
  refine L.mv f47 fun a48 f48 => ?_
  refine L.va f48 (E.nilCheck f48 rfl) fun a49 f49 => ?_
  refine L.fa 0 f49 U102 rfl wsz22_yd fun a50 f50 => ?_
  refine L.store f50 wantedN wsz22_yd rfl rfl rfl BS (by (simp [Value.cells]; done)) fun a51 w7 f51 NB7 ks7 => ?_
  have szw7 := ks7.size
  replace HK := HK.trans ks7 (ktr (by simp))
  replace SL := SL.kept1 ks7 BS (by decide) (Nat.zero_le _)
  replace FO := fresh_blk FO ks7 BS (by decide)
  replace PS := PksO.kept1 PS ks7 BS (by decide)
  replace PN := PN.kept1 ks7 BS (by decide) (Nat.zero_le _)
  replace Bg4 := Bg4.kept ks7 (by simp; omega)
  replace BS := NB7
  simp only [Value.cells, z1, z2, z3, Nat.reduceAdd, Nat.zero_add] at BS
  clear f45 f46 a44 f47 a47 f48 a48 f49 a49 ks7 f50 a50
  refine wpList_nil (hK13 _ _ ?_)
  have f52 := f51.sub (sc 7 sn)
  refine C.sk fun K14 hK14 => ?_
  refine L.mv f52 fun a53 f53 => ?_
  refine L.ag f53 fun a54 f54 => ?_
  refine L.ag f54 fun a55 f55 => ?_
  refine wpList_nil (hK14 _ _ ?_)
  have f56 := f55.sub (sc 4 (sc 5 sn))
  refine wp_ret ?_
  try simp only [Exit.inBlock, Exit.then]
  refine C.ret2 (P := Tryd.prog) (fn := Tryd.f29) f56 rfl rfl rfl ?_
  exact FeedPost.done hq (feedL_short (by rw [hv]; exact hsh)) FO PS ⟨_, _, BS, SL, hcl⟩ HK
 have he20 : ¬ e2 = 20 := h2
 refine C.condF f46 rfl ?_
 refine wp_skip (hK8 _ _ ?_)
 have f47 := f46.sub (sc 0 (sc 7 (sc 10 sn)))
 refine wp_seq_k fun K15 hK15 => ?_
 replace HK : Kept [g] w w6 := HK.mono (by simp)
 refine C.region ?_
 refine L.mv f47 fun a48 f48 => ?_
 refine L.mv f48 fun a49 f49 => ?_
 refine L.mv f49 fun a50 f50 => ?_
 refine L.va f50 (E.nilCheck f50 rfl) fun a51 f51 => ?_
 refine L.fa 0 f51 U102 rfl wsz22_yd fun a52 f52 => ?_
 refine L.store f52 wantedN wsz22_yd rfl rfl rfl BS (by (simp [Value.cells]; done)) fun a53 w7 f53 NB7 ks7 => ?_
 have szw7 := ks7.size
 replace HK := HK.trans ks7 (ktr (by simp))
 replace SL := SL.kept1 ks7 BS (by decide) (Nat.zero_le _)
 replace FO := fresh_blk FO ks7 BS (by decide)
 replace PS := PksO.kept1 PS ks7 BS (by decide)
 replace PN := PN.kept1 ks7 BS (by decide) (Nat.zero_le _)
 replace Bg4 := Bg4.kept ks7 (by simp; omega)
 replace BS := NB7
 simp only [Value.cells, z1, z2, z3, Nat.reduceAdd, Nat.zero_add] at BS
 clear f45 f46 f47 a44 f48 a48 f49 a49 f50 a50 f51 a51 ks7 f52 a52
 refine L.va f53 (E.nilCheck f53 rfl) fun a54 f54 => ?_
 refine L.fa 1 f54 U102 rfl wsz34_yd fun a55 f55 => ?_
 refine L.store f55 wantedN wsz34_yd rfl rfl rfl BS (by decide) fun a56 w8 f56 NB8 ks8 => ?_
 have szw8 := ks8.size
 replace HK := HK.trans ks8 (ktr (by simp))
 replace SL := SL.kept1 ks8 BS (by decide) (Nat.zero_le _)
 replace FO := fresh_blk FO ks8 BS (by decide)
 replace PS := PksO.kept1 PS ks8 BS (by decide)
 replace PN := PN.kept1 ks8 BS (by decide) (Nat.zero_le _)
 replace Bg4 := Bg4.kept ks8 (by simp; omega)
 replace BS := NB8
 simp only [Value.cells, z1, z2, z3, Nat.reduceAdd, Nat.zero_add] at BS
 clear f53 a53 f54 a54 ks8 f55 a55
 refine wpList_nil (hK15 _ _ ?_)
 have f57 := f56.sub (sc 7 (sc 10 sn))
 refine C.sk fun K16 hK16 => ?_
 refine L.mv f57 fun a58 f58 => ?_
 refine L.mv f58 fun a59 f59 => ?_
 refine L.ag f59 fun a60 f60 => ?_
 refine L.ag f60 fun a61 f61 => ?_
 refine wpList_nil (hK16 _ _ ?_)
 have f62 := f61.sub (sc 4 (sc 5 sn))
 refine wp_ret ?_
 try simp only [Exit.inBlock, Exit.then]
 refine C.ret2 (P := Tryd.prog) (fn := Tryd.f29) f62 rfl rfl rfl ?_
 exact FeedPost.done hq (by have h := feedL_err (l := l) (by rw [hv]; exact he0) (by rw [hv]; exact he20); rw [hv] at h; exact h) FO PS ⟨_, _, BS, Bs.nil _ _ _ _, Nat.le_refl _⟩ HK
end Go.Proofs.YtigjafbbnocihaaDoor
namespace Go.Proofs.YtigjafbbnocihaaDoor
open Go.RowKit Go.Hub Go.Lib Go.Vl
theorem enc_le {p : Pk} (h : RightP p) : (encL p).length ≤ 8200 := by
  have h1 := h.len
  have h2 := szN_le ((behindL p).length : Int)
  unfold encL
  rw [List.length_append, List.length_cons, putL_len]
  omega
end Go.Proofs.YtigjafbbnocihaaDoor
namespace Go.Proofs.YtigjafbbnocihaaDoor
open Go.RowKit Go.Hub Go.Lib Go.Vl
theorem wzib5_ye : (Tryd.prog.info? 5).map (fun i => (i.zero, i.size, i.bytes)) = some (some (.int .u8 0), 1, 1) := by kernel_rfl
theorem wsz5_ye : (Tryd.prog.info? 5).map (·.size) = some 1 := by kernel_rfl
theorem wzi5_ye : (Tryd.prog.info? 5).map (fun i => (i.zero, i.size)) = some (some (.int .u8 0), 1) := by kernel_rfl
theorem wbs22_1_ye (x0 : Int) : Instr.fill (fun i => some (i * 1, 1)) ((Array.range (1 * 1)).map fun j => (Value.cells (.int .u8 0))[j % (Value.cells (.int .u8 0)).size]!) [(0, .int .u8 x0)] = some #[.int .u8 x0] := by kernel_rfl
theorem wbs22_2_ye (x0 : Int) (x1 : Int) : Instr.fill (fun i => some (i * 1, 1)) ((Array.range (2 * 1)).map fun j => (Value.cells (.int .u8 0))[j % (Value.cells (.int .u8 0)).size]!) [(0, .int .u8 x0), (1, .int .u8 x1)] = some #[.int .u8 x0, .int .u8 x1] := by kernel_rfl
theorem wbs22_4_ye (x0 : Int) (x1 : Int) (x2 : Int) (x3 : Int) : Instr.fill (fun i => some (i * 1, 1)) ((Array.range (4 * 1)).map fun j => (Value.cells (.int .u8 0))[j % (Value.cells (.int .u8 0)).size]!) [(0, .int .u8 x0), (1, .int .u8 x1), (2, .int .u8 x2), (3, .int .u8 x3)] = some #[.int .u8 x0, .int .u8 x1, .int .u8 x2, .int .u8 x3] := by kernel_rfl
def pkN (ks raw : List UInt8) (i : Nat) : Pk := seatP ((ks.getD i 0).toNat : Nat) (((ks.getD i 0).toNat : Nat) / 3) i (((ks.getD i 0).toNat : Nat) / 5) raw
def someN (ks raw : List UInt8) (at_ : Int) : Nat → List UInt8
  | 0 => []
  | i + 1 => (someN ks raw at_ i ++ if (i : Int) = at_ % 8 then raw else []) ++ encL (pkN ks raw i)
theorem someN_succ (ks raw : List UInt8) (at_ : Int) (i : Nat) : someN ks raw at_ (i + 1) = (someN ks raw at_ i ++ if (i : Int) = at_ % 8 then raw else []) ++ encL (pkN ks raw i) := rfl
theorem pkN_right (ks raw : List UInt8) (i : Nat) (hr : raw.length ≤ 40) : RightP (pkN ks raw i) := (seat_right (by omega) (by omega) (by omega) (by omega) (by omega)).1
theorem someN_len (ks raw : List UInt8) (at_ : Int) : ∀ i : Nat, i ≤ 20 → raw.length ≤ 40 → (someN ks raw at_ i).length ≤ i * 8240
  | 0, _, _ => by simp [someN]
  | i + 1, hi, hr => by
    have h1 := someN_len ks raw at_ i (by omega) hr
    have h2 := enc_le (pkN_right ks raw i hr)
    rw [someN_succ, List.length_append, List.length_append]
    have h3 : (if (i : Int) = at_ % 8 then raw else []).length ≤ 40 := by split <;> first | omega | simp
    omega
theorem someN_flat (ks : List UInt8) (at_ : Int) : ∀ i : Nat, someN ks [] at_ i = ((List.range i).map (pkN ks [])).flatMap encL
  | 0 => rfl
  | i + 1 => by rw [someN_succ, someN_flat ks at_ i, List.range_succ, List.map_append, List.flatMap_append]; simp
theorem ks_cell {w : World} {b off i : Nat} {A : Option Addr} {l : List UInt8} {x : UInt8} (S : Sl w A l.length 1 (l.map u8)) (hA : A = some ⟨b, off, none⟩) (hx : l[i]? = some x) : w.cell? ⟨b, off + (i : Int).toNat * 1, none⟩ = some (.int .u8 (x.toNat : Nat)) := by
  rw [Int.toNat_natCast, Nat.mul_one]
  exact byte_cell S hA hx
theorem feed_of {g : Nat} {t : TypeId} {v v' : List Pk × List UInt8 × Int} {w w' : World} {e : Ending} (hv : v = v') (h : FeedPost g t v w e w') : FeedPost g t v' w e w' := hv ▸ h
theorem feed1 : feedS ([], 0) [192] = ([], [192], 0) := by
  have h : feedS ([], 0) [192] = feedL [192] := rfl
  rw [h]
  exact feedL_short (by kernel_rfl)
theorem feed2 : feedS ([192], 0) [0, 208, 0, 224] = ([{ kind := 12 }, { kind := 13 }], [224], 0) := by
  have h := feed_encs [{ kind := 12 }, { kind := 13 }] [224] (by
    intro p hp
    simp at hp
    rcases hp with rfl | rfl
    · exact rightK 12 (by decide)
    exact rightK 13 (by decide))
  have e : ([{ kind := 12 }, { kind := 13 }] : List Pk).flatMap encL ++ [224] = [192, 0, 208, 0, 224] := by
    simp only [List.flatMap_cons, List.flatMap_nil]
    unfold encL
    rw [behindK 12 (by decide), behindK 13 (by decide)]
    rfl
  have e2 : feedL [224] = ([], [224], 0) := feedL_short (by kernel_rfl)
  rw [e, e2] at h
  exact h
theorem feed3 : feedS ([224], 0) [1, 9] = ([], [], 21) := by
  have h : readP [224, 1, 9] = ({}, 0, 21) := by kernel_rfl
  have h2 := feedL_err (l := [224, 1, 9]) (by rw [h]; decide) (by rw [h]; decide)
  rw [h] at h2
  exact h2
set_option maxHeartbeats 4000000 in
theorem some_any (ks raw : List UInt8) (at_ : Int) (Ak A : Option Addr) (ck c0_ : Nat) (w : World) (hT : Tabs w) (SK : Sl w Ak ks.length 1 (ks.map u8)) (SX : Sl w A raw.length 1 (raw.map u8)) (hk : ks.length ≤ 20) (hr : raw.length ≤ 40) (hat : 0 ≤ at_ ∧ at_ < 256) : Calls Tryd.prog 27 #[.slice Ak ks.length ck, .slice A raw.length c0_, .int .u8 at_] w (fun e w' => Kept [] w w' ∧ ∃ A c, e = .returned (.slice A (someN ks raw at_ ks.length).length c) ∧ FB w w' A c (someN ks raw at_ ks.length)) := by
 have HK : Kept [] w w := Kept.refl [] w
 refine C.enter Tryd.func27 rfl Tryd.ntmps27 rfl ?_
 intro a0 f0
 have f1 : Fr 45 a0 [(0, .slice Ak ks.length ck), (1, .slice A raw.length c0_), (2, .int .u8 at_)] := f0
 refine C.sk fun K0 hK0 => ?_
 refine L.ag f1 fun a2 f2 => ?_
 refine wpList_nil (hK0 _ _ ?_)
 have f3 := f2.sub (sc 0 (sc 1 (sc 2 sn)))
 refine C.sk fun K1 hK1 => ?_
 refine L.ag f3 fun a4 f4 => ?_
 refine wpList_nil (hK1 _ _ ?_)
 have f5 := f4.sub (sc 0 (sc 1 (sc 2 (sc 7 sn))))
 refine wp_seq_k fun K2 hK2 => ?_
 refine C.sk fun K3 hK3 => ?_
 refine L.ag f5 fun a6 f6 => ?_
 refine wpList_nil (hK3 _ _ ?_)
 have f7 := f6.sub (sc 0 (sc 1 (sc 2 (sc 7 (sc 8 sn)))))
 refine wp_block ?_
 clear f0 f1 a0 f2 f3 a2 f4 f5 a4 f6
 refine C.loop (fun gk a W => ∃ (i : Nat) (A1 : Option Addr) (c1 : Nat), i + gk = ks.length ∧ Kept [] w W ∧ FB w W A1 c1 (someN ks raw at_ i) ∧ Fr 45 a [(0, .slice Ak ks.length ck), (1, .slice A raw.length c0_), (2, .int .u8 at_), (7, .slice A1 (someN ks raw at_ i).length c1), (8, .int .i64 i)]) (ks.length) ?_ ?_
 ·exact ⟨0, none, 0, by omega, HK, FB.nil _ _, f7.sub (sub_cons rfl (sub_cons rfl (sub_cons rfl (sub_cons rfl (sub_cons rfl sn)))))⟩
 intro gk5 a8 w1 hI KL4 hKL4
 obtain ⟨i, A1, c1, hi, HK, FL, f8⟩ := hI
 try clear f7
 refine wp_seq_k fun K5 hK5 => ?_
 refine C.sk fun K6 hK6 => ?_
 refine L.mv f8 fun a9 f9 => ?_
 refine L.mv f9 fun a10 f10 => ?_
 refine L.va f10 (E.lenL f10 U22 rfl) fun a11 f11 => ?_
 refine L.va f11 (E.lss f11 rfl rfl) fun a12 f12 => ?_
 refine wpList_nil (hK6 _ _ ?_)
 have f13 := f12.sub (sc 0 (sc 1 (sc 2 (sc 7 (sc 8 (sc 12 sn))))))
 clear f8 a8 f9 a9 f10 a10 f11 a11 f12
 refine f13.splitD 12 rfl (fun h0 f14 => ?_) (fun h0 f14 => ?_)
 ·obtain ⟨x, hd⟩ := some_at ks i (by omega)
  obtain ⟨bk, off, hA⟩ := SK.addr (by omega)
  have hxb : x.toNat < 256 := UInt8.toNat_lt _
  have hx3 : (0 : Int) ≤ (x.toNat : Nat) ∧ ((x.toNat : Nat) : Int) < 256 := by omega
  have hx4 : (0 : Int) ≤ (x.toNat : Nat) / 3 ∧ ((x.toNat : Nat) : Int) / 3 < 256 := by omega
  have hx5 : (0 : Int) ≤ (x.toNat : Nat) / 5 ∧ ((x.toNat : Nat) : Int) / 5 < 256 := by omega
  have hi3 : (0 : Int) ≤ (i : Int) ∧ (i : Int) < 256 := by omega
  have hpk : pkN ks raw i = seatP (x.toNat : Nat) ((x.toNat : Nat) / 3) i ((x.toNat : Nat) / 5) raw := by unfold pkN; rw [List.getD_eq_getElem?_getD, hd]; rfl
  obtain ⟨rP, lP⟩ := seat_right (k := (x.toNat : Nat)) (a := (x.toNat : Nat) / 3) (b := i) (c := (x.toNat : Nat) / 5) (x := raw) hx3.1 hx4.1 hi3.1 hx5.1 (by omega)
  have eP := enc_le rP
  have hsl := someN_len ks raw at_ i (by omega) hr
  refine C.condT f14 rfl ?_
  refine wp_skip (hK5 _ _ ?_)
  have f15 := f14.sub (sc 0 (sc 1 (sc 2 (sc 7 (sc 8 sn)))))
  refine wp_seq_k fun K7 hK7 => ?_
  refine wp_block ?_
  obtain ⟨J7, hJ7⟩ : ∃ J : Act → World → Prop, J = fun a W => ∃ (A2 : Option Addr) (c2 : Nat), Kept [] w W ∧ FB w W A2 c2 (someN ks raw at_ i ++ if (i : Int) = at_ % 8 then raw else []) ∧ Fr 45 a [(0, .slice Ak ks.length ck), (1, .slice A raw.length c0_), (2, .int .u8 at_), (7, .slice A2 (someN ks raw at_ i ++ if (i : Int) = at_ % 8 then raw else []).length c2), (8, .int .i64 i)] := ⟨_, rfl⟩
  clear f13 f14
  refine C.cut J7 ?_ ?_
  ·skip
   refine C.sk fun K8 hK8 => ?_
   refine L.mv f15 fun a16 f16 => ?_
   refine L.mv f16 fun a17 f17 => ?_
   refine L.va f17 (E.rem f17 rfl rfl (by omega) (Int.tmod_eq_emod_of_nonneg (by omega))) fun a18 f18 => ?_
   refine L.va f18 (E.conv f18 U5 U3 rfl (IntWalk.i64_in _ (by omega))) fun a19 f19 => ?_
   refine L.va f19 (E.eq f19) fun a20 f20 => ?_
   refine wpList_nil (hK8 _ _ ?_)
   have f21 := f20.sub (sc 0 (sc 1 (sc 2 (sc 7 (sc 8 (sc 19 sn))))))
   clear f15 a12 f16 a16 f17 a17 f18 a18 f19 a19 f20
   refine f21.splitD 19 rfl (fun h1 f22 => ?_) (fun h1 f22 => ?_)
   ·have h19 := h1
    refine C.condT f22 rfl ?_
    refine C.region ?_
    refine L.mv f22 fun a23 f23 => ?_
    refine L.mv f23 fun a24 f24 => ?_
    refine L.append f24 wantedN (by decide) U22 wzib5_ye rfl rfl rfl rfl FL.own (SX.kept HK) (u8_one) (by (simp only [List.length_append, maxLen]; omega)) (by (simp [maxLen]; omega)) fun a25 w2 A2 c2 AP2 f25 => ?_
    have FN2 := AP2.nextB FL HK.size (raw) (rfl) (rfl)
    have kap2 := AP2.kept
    have szw2 := kap2.size
    replace HK := FL.rel HK kap2
    clear f21 f22 a20 f23 a23 f24 a24 kap2 AP2 FL
    have f26 := f25.as (i := 22) rfl (sl_lenF FN2 (rfl))
    refine L.ag f26 fun a27 f27 => ?_
    exact wpList_nil (then_of (J := J7) (Q := fun _ _ _ => True) (by rw [hJ7]; exact ⟨_, _, HK, by rw [if_pos h19]; exact FN2, f27.sub (sub_cons rfl (sub_cons rfl (sub_cons rfl (sub_cons (by rw [if_pos h19]; rfl) (sub_cons rfl sn)))))⟩))
   have h19 := h1
   refine C.condF f22 rfl ?_
   exact wp_skip (then_of (J := J7) (Q := fun _ _ _ => True) (by rw [hJ7]; exact ⟨_, _, HK, by rw [if_neg h19, List.append_nil]; exact FL, f22.sub (sub_cons rfl (sub_cons rfl (sub_cons rfl (sub_cons (by rw [if_neg h19, List.append_nil]; rfl) (sub_cons rfl sn)))))⟩))
  intro a16 w2 hj
  rw [hJ7] at hj
  clear hJ7 J7
  obtain ⟨A2, c2, HK, FM, f16⟩ := hj
  try clear f15
  have hml : (someN ks raw at_ i ++ if (i : Int) = at_ % 8 then raw else []).length ≤ 200000 := by have h3 : (if (i : Int) = at_ % 8 then raw else []).length ≤ 40 := (by split <;> first | omega | simp); rw [List.length_append]; omega
  have hd7 : Kept [] w2 (w2.drewN 1) := (Kept.refl _ _).drewN 1
  refine R.beginT (S := fun W => (Kept [] w W)) (by kernel_rfl) (by kernel_rfl) (HK.trans hd7 (by simp)) fun ht => ?_
  obtain ⟨w3, hww3⟩ : ∃ W, W = w2.drewN 1 := ⟨_, rfl⟩
  rw [← hww3] at hd7 ⊢
  clear hww3
  have szw3 := hd7.size
  replace HK := HK.trans hd7 (by simp)
  replace FM := FM.kept0 hd7
  clear hd7
  refine R.u 0 f16 rfl ht HK (fun W hW => (E.move f16 rfl)) fun a17 f17 => ?_
  refine R.u 1 f17 rfl ht HK (fun W hW => (E.move f17 rfl)) fun a18 f18 => ?_
  refine R.u 2 f18 rfl ht HK (fun W hW => (E.move f18 rfl)) fun a19 f19 => ?_
  refine R.u 3 f19 rfl ht HK (fun W hW => (E.indexA f19 (by assumption) U22 wsz5_ye rfl rfl (by omega) (by omega))) fun a20 f20 => ?_
  refine R.u 4 f20 rfl ht HK (fun W hW => (by exact E.load f20 U5 rfl rfl (ks_cell (SK.kept hW) hA hd))) fun a21 f21 => ?_
  refine R.u 5 f21 rfl ht HK (fun W hW => (E.move f21 rfl)) fun a22 f22 => ?_
  refine R.u 6 f22 rfl ht HK (fun W hW => (E.move f22 rfl)) fun a23 f23 => ?_
  clear f16 a16 f17 a17 f18 a18 f19 a19 f20 a20 f21 a21 f22 a22
  refine R.u 7 f23 rfl ht HK (fun W hW => (E.indexA f23 (by assumption) U22 wsz5_ye rfl rfl (by omega) (by omega))) fun a24 f24 => ?_
  refine R.u 8 f24 rfl ht HK (fun W hW => (by exact E.load f24 U5 rfl rfl (ks_cell (SK.kept hW) hA hd))) fun a25 f25 => ?_
  refine R.u 9 f25 rfl ht HK (fun W hW => (E.quo f25 rfl rfl (by omega) (IntWalk.u8_quo _ _ ⟨by omega, by omega, by omega⟩))) fun a26 f26 => ?_
  refine R.u 10 f26 rfl ht HK (fun W hW => (E.move f26 rfl)) fun a27 f27 => ?_
  refine R.u 11 f27 rfl ht HK (fun W hW => (E.conv f27 U3 U5 rfl (IntWalk.u8_in _ (by omega)))) fun a28 f28 => ?_
  refine R.u 12 f28 rfl ht HK (fun W hW => (E.move f28 rfl)) fun a29 f29 => ?_
  refine R.u 13 f29 rfl ht HK (fun W hW => (E.move f29 rfl)) fun a30 f30 => ?_
  clear f23 a23 f24 a24 f25 a25 f26 a26 f27 a27 f28 a28 f29 a29
  refine R.u 14 f30 rfl ht HK (fun W hW => (E.indexA f30 (by assumption) U22 wsz5_ye rfl rfl (by omega) (by omega))) fun a31 f31 => ?_
  refine R.u 15 f31 rfl ht HK (fun W hW => (by exact E.load f31 U5 rfl rfl (ks_cell (SK.kept hW) hA hd))) fun a32 f32 => ?_
  refine R.u 16 f32 rfl ht HK (fun W hW => (E.quo f32 rfl rfl (by omega) (IntWalk.u8_quo _ _ ⟨by omega, by omega, by omega⟩))) fun a33 f33 => ?_
  refine R.u 17 f33 rfl ht HK (fun W hW => (E.move f33 rfl)) fun a34 f34 => ?_
  refine R.call 18 f34 rfl rfl (by decide) (by kernel_rfl) wantedN (run_call Tryd.call15 (args5 f34 rfl rfl rfl rfl rfl)) (seat_any (x.toNat : Nat) ((x.toNat : Nat) / 3) i ((x.toNat : Nat) / 5) raw A c0_ _ (SX.kept HK) hx3 hx4 hi3 hx5) ?_
  clear f30 a30 f31 a31 f32 a32 f33 a33
  rintro e w4 ⟨ss, rfl, kc4, IP⟩
  have szw4 := kc4.size
  replace HK := HK.trans kc4 (by simp)
  replace FM := FM.kept0 kc4
  refine ⟨_, rfl, HK, fun a35 f35 => ?_⟩
  clear f34 a34 kc4
  have hC := sbytes_any (seatP (x.toNat : Nat) ((x.toNat : Nat) / 3) i ((x.toNat : Nat) / 5) raw) ss w4 IP lP (hT.old (HK.below (by simp) (Nat.le_refl _)))
  rw [putB_t (rightB_iff.2 rP)] at hC
  dsimp only at hC
  refine R.call 19 f35 rfl rfl (by decide) (by kernel_rfl) wantedN (run_call Tryd.call24 (args1 f35 rfl)) hC ?_
  rintro e w5 ⟨kc5, AF5, cF5, rfl, F5⟩
  have szk := HK.size
  replace F5 := FB.lower F5 szk
  have szw5 := kc5.size
  replace HK := HK.trans kc5 (by simp)
  replace FM := FM.kept0 kc5
  replace IP := IP.kept kc5
  refine ⟨_, rfl, HK, fun a36 f36 => ?_⟩
  clear f35 a35 kc5
  refine R.one 20 (by kernel_rfl) ?_
  refine O.append f36 rfl wantedN (by decide) U22 wzib5_ye rfl rfl rfl rfl FM.own (F5.sl) (u8_one) (by (unfold maxLen; omega)) (by omega) fun a37 w6 A6 c6 AP6 => ?_
  have FN6 := AP6.nextB FM HK.size (encL (seatP (x.toNat : Nat) ((x.toNat : Nat) / 3) i ((x.toNat : Nat) / 5) raw)) (rfl) (rfl)
  have kap6 := AP6.kept
  have szw6 := kap6.size
  replace HK := FM.rel HK kap6
  refine ⟨HK, fun f37 => ?_⟩
  clear f36 a36 kap6 AP6 FM
  have f38 := f37.as (i := 43) rfl (sl_lenF FN6 (rfl))
  refine R.u 21 f38 rfl ht HK (fun W hW => (E.assign f38 rfl)) fun a39 f39 => ?_
  refine R.done (by kernel_rfl) (hK7 _ _ ?_)
  have f40 := f39.sub (sc 0 (sc 1 (sc 2 (sc 7 (sc 8 sn)))))
  refine C.region ?_
  refine L.mv f40 fun a41 f41 => ?_
  refine L.va f41 (E.add f41 rfl rfl (IntWalk.i64_in _ (by omega))) fun a42 f42 => ?_
  refine L.ag f42 fun a43 f43 => ?_
  clear f37 f38 a37 f39 f40 a39 f41 a41 f42 a42
  refine wpList_nil (hKL4 _ _ (gk5 - 1) ?_ ?_)
  ·omega
  exact ⟨i + 1, _, _, by omega, HK, by rw [someN_succ, hpk]; exact FN6, f43.sub (sub_cons rfl (sub_cons rfl (sub_cons rfl (sub_cons (by rw [someN_succ, hpk]; rfl) (sub_cons rfl sn)))))⟩
 refine C.condF f14 rfl ?_
 refine wp_exit (hK2 _ _ ?_)
 have f15 := f14.sub (sc 7 sn)
 refine C.sk fun K9 hK9 => ?_
 refine L.mv f15 fun a16 f16 => ?_
 refine L.ag f16 fun a17 f17 => ?_
 refine wpList_nil (hK9 _ _ ?_)
 have f18 := f17.sub (sc 6 sn)
 refine wp_ret ?_
 try simp only [Exit.inBlock, Exit.then]
 refine C.ret (P := Tryd.prog) (fn := Tryd.f27) f18 rfl rfl ?_
 have hi0 : i = ks.length := by omega
 clear f13 f14 f15 a12 f16 a16 f17
 subst hi0
 exact ⟨HK, _, _, rfl, FL⟩
set_option maxHeartbeats 2000000 in
theorem known5_any (w : World) (hT : Tabs w) : Calls Tryd.prog 26 #[] w (fun e w' => Kept [] w w' ∧ e = .returned (.bool true)) := by
 have HK : Kept [] w w := Kept.refl [] w
 have hT2 := hT.size
 refine C.enter Tryd.func26 rfl Tryd.ntmps26 rfl ?_
 intro a0 f0
 have f1 : Fr 63 a0 [] := f0
 refine C.sk fun K0 hK0 => ?_
 refine L.ag f1 fun a2 f2 => ?_
 refine wpList_nil (hK0 _ _ ?_)
 have f3 := f2.sub sn
 refine C.sk fun K1 hK1 => ?_
 refine L.cl f3 (run_call Tryd.call28 (args0 f3)) (new_any _) ?_
 clear f0 f1 a0 f2
 rintro e w1 ⟨kc1, gs, rfl, logs, SS⟩
 have szk := HK.size
 have frgs : w.heap.size ≤ gs := by omega
 refine ⟨_, rfl, fun a4 f4 => ?_⟩
 have szw1 := kc1.size
 replace HK := HK.trans kc1 (by simp)
 clear f3 a2 kc1
 refine L.ag f4 fun a5 f5 => ?_
 refine wpList_nil (hK1 _ _ ?_)
 have f6 := f5.sub (sc 1 sn)
 refine wp_seq_k fun K2 hK2 => ?_
 refine C.sk fun K3 hK3 => ?_
 refine L.mv f6 fun a7 f7 => ?_
 refine L.va f7 (E.eqlP f7 Tryd.underlying54 rfl rfl) fun a8 f8 => ?_
 have f9 := f8.as (i := 10) (v' := .bool false) rfl (by rfl)
 refine wpList_nil (hK3 _ _ ?_)
 have f10 := f9.sub (sc 1 (sc 10 sn))
 refine C.condF f10 rfl ?_
 refine wp_skip (hK2 _ _ ?_)
 have f11 := f10.sub (sc 1 sn)
 refine C.sk fun K4 hK4 => ?_
 refine L.mv f11 fun a12 f12 => ?_
 refine L.buildSlice f12 wantedN (by decide) (parts1 f12 rfl) U22 wzi5_ye rfl rfl (wbs22_1_ye _) fun a13 w2 g1 N1 f13 => ?_
 have Bg1 := N1.blk
 have kg1 := N1.kept
 have log1 := N1.lo
 have ltg1 := Bg1.lt
 have szw2 := kg1.size
 have frg1 : w.heap.size ≤ g1 := Nat.le_trans HK.size log1
 have nesg1_gs : g1 ≠ gs := by have := SS.lt; omega
 replace HK := HK.trans kg1 (by simp)
 replace SS := SS.kept0 kg1
 clear f4 a4 f5 f6 a5 f7 a7 f8 f9 f10 f11 a8 N1 kg1
 have SS0 := SS
 obtain ⟨AX2, cX2, BX2, -, -⟩ := SS0
 have hC := (feed_any gs _ _ ([192]) _ ([192] : List UInt8).length w2 SS (sl_lit Bg1 [192] rfl) (by simp) (hT.old (HK.below (by simp) (Nat.le_refl _))) (by omega)).mono (fun _ _ h => feed_of (v' := ([], [192], 0)) feed1 h)
 refine L.cl f13 (run_call Tryd.call29 (args2 f13 rfl rfl)) hC ?_
 clear f12 a12
 rintro e w3 ⟨p1, Ap1, cp1, mp1, rfl, Fp1, Pp1, Sp1, kc3⟩
 have lp1 : p1.length = (([], [192], 0) : List Pk × List UInt8 × Int).1.length := by simpa using congrArg List.length mp1
 clear Fp1 Pp1 mp1
 refine ⟨_, rfl, fun a14 f14 => ?_⟩
 have szw3 := kc3.size
 replace HK := HK.trans kc3 (ktr (by omega))
 replace Bg1 := Bg1.kept kc3 (by simp; omega)
 clear f13 a13 kc3
 have SSn := Sp1
 clear SS Sp1
 have SS := SSn
 clear SSn
 refine L.mv f14 fun a15 f15 => ?_
 refine L.va f15 (E.extract f15 rfl rfl) fun a16 f16 => ?_
 refine L.va f16 (E.extract f16 rfl rfl) fun a17 f17 => ?_
 refine L.ag f17 fun a18 f18 => ?_
 refine L.ag f18 fun a19 f19 => ?_
 refine wpList_nil (hK4 _ _ ?_)
 have f20 := f19.sub (sc 1 (sc 2 (sc 3 sn)))
 refine C.sk fun K5 hK5 => ?_
 refine L.mv f20 fun a21 f21 => ?_
 refine L.buildSlice f21 wantedN (by decide) (parts4 f21 rfl rfl rfl rfl) U22 wzi5_ye rfl rfl (wbs22_4_ye _ _ _ _) fun a22 w4 g3 N3 f22 => ?_
 have Bg3 := N3.blk
 have kg3 := N3.kept
 have log3 := N3.lo
 have ltg3 := Bg3.lt
 have szw4 := kg3.size
 have frg3 : w.heap.size ≤ g3 := Nat.le_trans HK.size log3
 have neg1_g3 : g1 ≠ g3 := by have := Bg1.lt; omega
 have nesg3_gs : g3 ≠ gs := by have := SS.lt; omega
 replace HK := HK.trans kg3 (by simp)
 replace Bg1 := Bg1.kept kg3 (by simp)
 replace SS := SS.kept0 kg3
 clear f14 a14 f15 a15 f16 a16 f17 a17 f18 a18 f19 f20 a19 N3 kg3
 have SS0 := SS
 obtain ⟨AX4, cX4, BX4, -, -⟩ := SS0
 have hC := (feed_any gs _ _ ([0, 208, 0, 224]) _ ([0, 208, 0, 224] : List UInt8).length w4 SS (sl_lit Bg3 [0, 208, 0, 224] rfl) (by simp) (hT.old (HK.below (by simp) (Nat.le_refl _))) (by omega)).mono (fun _ _ h => feed_of (v' := ([{ kind := 12 }, { kind := 13 }], [224], 0)) feed2 h)
 refine L.cl f22 (run_call Tryd.call29 (args2 f22 rfl rfl)) hC ?_
 clear f21 a21
 rintro e w5 ⟨p2, Ap2, cp2, mp2, rfl, Fp2, Pp2, Sp2, kc5⟩
 have lp2 : p2.length = (([{ kind := 12 }, { kind := 13 }], [224], 0) : List Pk × List UInt8 × Int).1.length := by simpa using congrArg List.length mp2
 clear Fp2 Pp2 mp2
 refine ⟨_, rfl, fun a23 f23 => ?_⟩
 have szw5 := kc5.size
 replace HK := HK.trans kc5 (ktr (by omega))
 replace Bg1 := Bg1.kept kc5 (by simp; omega)
 replace Bg3 := Bg3.kept kc5 (by simp; omega)
 clear f22 a22 kc5
 have SSn := Sp2
 clear SS Sp2
 have SS := SSn
 clear SSn
 refine L.mv f23 fun a24 f24 => ?_
 refine L.va f24 (E.extract f24 rfl rfl) fun a25 f25 => ?_
 refine L.va f25 (E.extract f25 rfl rfl) fun a26 f26 => ?_
 refine L.ag f26 fun a27 f27 => ?_
 refine L.ag f27 fun a28 f28 => ?_
 refine wpList_nil (hK5 _ _ ?_)
 have f29 := f28.sub (sc 1 (sc 2 (sc 3 (sc 4 (sc 5 sn)))))
 refine C.sk fun K6 hK6 => ?_
 refine L.mv f29 fun a30 f30 => ?_
 refine L.buildSlice f30 wantedN (by decide) (parts2 f30 rfl rfl) U22 wzi5_ye rfl rfl (wbs22_2_ye _ _) fun a31 w6 g5 N5 f31 => ?_
 have Bg5 := N5.blk
 have kg5 := N5.kept
 have log5 := N5.lo
 have ltg5 := Bg5.lt
 have szw6 := kg5.size
 have frg5 : w.heap.size ≤ g5 := Nat.le_trans HK.size log5
 have neg1_g5 : g1 ≠ g5 := by have := Bg1.lt; omega
 have neg3_g5 : g3 ≠ g5 := by have := Bg3.lt; omega
 have nesg5_gs : g5 ≠ gs := by have := SS.lt; omega
 replace HK := HK.trans kg5 (by simp)
 replace Bg1 := Bg1.kept kg5 (by simp)
 replace Bg3 := Bg3.kept kg5 (by simp)
 replace SS := SS.kept0 kg5
 clear f23 a23 f24 a24 f25 a25 f26 a26 f27 a27 f28 f29 a28 N5 kg5
 have SS0 := SS
 obtain ⟨AX6, cX6, BX6, -, -⟩ := SS0
 have hC := (feed_any gs _ _ ([1, 9]) _ ([1, 9] : List UInt8).length w6 SS (sl_lit Bg5 [1, 9] rfl) (by simp) (hT.old (HK.below (by simp) (Nat.le_refl _))) (by omega)).mono (fun _ _ h => feed_of (v' := ([], [], 21)) feed3 h)
 refine L.cl f31 (run_call Tryd.call29 (args2 f31 rfl rfl)) hC ?_
 clear f30 a30
 rintro e w7 ⟨p3, Ap3, cp3, mp3, rfl, Fp3, Pp3, Sp3, kc7⟩
 have lp3 : p3.length = (([], [], 21) : List Pk × List UInt8 × Int).1.length := by simpa using congrArg List.length mp3
 clear Fp3 Pp3 mp3
 refine ⟨_, rfl, fun a32 f32 => ?_⟩
 have szw7 := kc7.size
 replace HK := HK.trans kc7 (ktr (by omega))
 replace Bg1 := Bg1.kept kc7 (by simp; omega)
 replace Bg3 := Bg3.kept kc7 (by simp; omega)
 replace Bg5 := Bg5.kept kc7 (by simp; omega)
 clear f31 a31 kc7
 have SSn := Sp3
 clear SS Sp3
 have SS := SSn
 clear SSn
 refine L.mv f32 fun a33 f33 => ?_
 refine L.va f33 (E.extract f33 rfl rfl) fun a34 f34 => ?_
 refine L.va f34 (E.extract f34 rfl rfl) fun a35 f35 => ?_
 refine L.ag f35 fun a36 f36 => ?_
 refine L.ag f36 fun a37 f37 => ?_
 refine wpList_nil (hK6 _ _ ?_)
 have f38 := f37.sub (sc 1 (sc 2 (sc 3 (sc 4 (sc 5 (sc 6 (sc 7 sn)))))))
 refine C.sk fun K7 hK7 => ?_
 refine L.mv f38 fun a39 f39 => ?_
 refine L.va f39 (E.lenL f39 U33 rfl) fun a40 f40 => ?_
 clear f32 a32 f33 a33 f34 a34 f35 a35 f36 a36 f37 f38 a37 f39 a39
 refine L.va f40 (E.eq f40) fun a41 f41 => ?_
 have f42 := f41.as (i := 31) (v' := .bool true) rfl (by simp [lp1])
 refine L.mv f42 fun a43 f43 => ?_
 refine L.mv f43 (hw := (f43.yes rfl rfl)) fun a44 f44 => ?_
 refine L.va f44 (E.eq f44) (hw := (f44.yes rfl rfl)) fun a45 f45 => ?_
 have f46 := f45.as (i := 34) (v' := .bool true) rfl (by rfl)
 refine L.va f46 (E.pickT f46 rfl rfl) fun a47 f47 => ?_
 refine L.mv f47 fun a48 f48 => ?_
 clear f40 a40 f41 f42 a41 f43 a43 f44 a44 f45 f46 a45 f47 a47
 refine L.mv f48 (hw := (f48.yes rfl rfl)) fun a49 f49 => ?_
 refine L.va f49 (E.lenL f49 U33 rfl) (hw := (f49.yes rfl rfl)) fun a50 f50 => ?_
 refine L.va f50 (E.eq f50) (hw := (f50.yes rfl rfl)) fun a51 f51 => ?_
 have f52 := f51.as (i := 39) (v' := .bool true) rfl (by simp [lp2])
 refine L.va f52 (E.pickT f52 rfl rfl) fun a53 f53 => ?_
 refine L.mv f53 fun a54 f54 => ?_
 refine L.mv f54 (hw := (f54.yes rfl rfl)) fun a55 f55 => ?_
 refine L.va f55 (E.eq f55) (hw := (f55.yes rfl rfl)) fun a56 f56 => ?_
 clear f48 a48 f49 a49 f50 a50 f51 f52 a51 f53 a53 f54 a54 f55 a55
 have f57 := f56.as (i := 43) (v' := .bool true) rfl (by rfl)
 refine L.va f57 (E.pickT f57 rfl rfl) fun a58 f58 => ?_
 refine L.mv f58 fun a59 f59 => ?_
 refine L.mv f59 (hw := (f59.yes rfl rfl)) fun a60 f60 => ?_
 refine L.va f60 (E.lenL f60 U33 rfl) (hw := (f60.yes rfl rfl)) fun a61 f61 => ?_
 refine L.va f61 (E.eq f61) (hw := (f61.yes rfl rfl)) fun a62 f62 => ?_
 have f63 := f62.as (i := 48) (v' := .bool true) rfl (by simp [lp3])
 refine L.va f63 (E.pickT f63 rfl rfl) fun a64 f64 => ?_
 clear f56 f57 a56 f58 a58 f59 a59 f60 a60 f61 a61 f62 f63 a62
 refine L.mv f64 fun a65 f65 => ?_
 refine L.mv f65 (hw := (f65.yes rfl rfl)) fun a66 f66 => ?_
 refine L.va f66 (E.eq f66) (hw := (f66.yes rfl rfl)) fun a67 f67 => ?_
 have f68 := f67.as (i := 52) (v' := .bool true) rfl (by rfl)
 refine L.va f68 (E.pickT f68 rfl rfl) fun a69 f69 => ?_
 refine L.mv f69 fun a70 f70 => ?_
 refine L.mv f70 (hw := (f70.yes rfl rfl)) fun a71 f71 => ?_
 refine L.cl f71 (run_call Tryd.call33 (args1 f71 rfl)) (dead_any gs _ _ _ SS) ?_ (hw := (f71.yes rfl rfl))
 clear f64 a64 f65 a65 f66 a66 f67 f68 a67 f69 a69 f70 a70
 rintro e w8 ⟨kc8, rfl⟩
 refine ⟨_, rfl, fun a72 f72 => ?_⟩
 have szw8 := kc8.size
 replace HK := HK.trans kc8 (by simp)
 replace Bg1 := Bg1.kept kc8 (by simp)
 replace Bg3 := Bg3.kept kc8 (by simp)
 replace Bg5 := Bg5.kept kc8 (by simp)
 replace SS := SS.kept0 kc8
 clear f71 a71 kc8
 have f73 := f72.as (i := 56) (v' := .bool true) rfl (by rfl)
 refine L.va f73 (E.pickT f73 rfl rfl) fun a74 f74 => ?_
 refine L.mv f74 fun a75 f75 => ?_
 refine L.mv f75 (hw := (f75.yes rfl rfl)) fun a76 f76 => ?_
 refine L.cl f76 (run_call Tryd.call32 (args1 f76 rfl)) (left_any gs _ _ _ SS) ?_ (hw := (f76.yes rfl rfl))
 clear f72 f73 a72 f74 a74 f75 a75
 rintro e w9 ⟨kc9, rfl⟩
 refine ⟨_, rfl, fun a77 f77 => ?_⟩
 have szw9 := kc9.size
 replace HK := HK.trans kc9 (by simp)
 replace Bg1 := Bg1.kept kc9 (by simp)
 replace Bg3 := Bg3.kept kc9 (by simp)
 replace Bg5 := Bg5.kept kc9 (by simp)
 replace SS := SS.kept0 kc9
 clear f76 a76 kc9
 refine L.va f77 (E.eq f77) (hw := (f77.yes rfl rfl)) fun a78 f78 => ?_
 have f79 := f78.as (i := 61) (v' := .bool true) rfl (by rfl)
 refine L.va f79 (E.pickT f79 rfl rfl) fun a80 f80 => ?_
 refine L.ag f80 fun a81 f81 => ?_
 refine wpList_nil (hK7 _ _ ?_)
 have f82 := f81.sub (sc 0 sn)
 refine wp_ret ?_
 try simp only [Exit.inBlock, Exit.then]
 refine C.ret (P := Tryd.prog) (fn := Tryd.f26) f82 rfl rfl ?_
 exact ⟨HK, rfl⟩
end Go.Proofs.YtigjafbbnocihaaDoor
namespace Go.Proofs.YtigjafbbnocihaaDoor
open Go.RowKit Go.Hub Go.Lib Go.Vl
theorem rem_nat {n d : Int} (hn : 0 ≤ n) (hd : 0 < d) : ∃ i : Nat, n % d = i ∧ (i : Int) < d := ⟨(n % d).toNat, by rw [Int.toNat_of_nonneg (Int.emod_nonneg _ (by omega))], by rw [Int.toNat_of_nonneg (Int.emod_nonneg _ (by omega))]; exact Int.emod_lt_of_pos _ hd⟩
theorem enc_ge {p : Pk} : 1 ≤ (encL p).length := by unfold encL; simp
end Go.Proofs.YtigjafbbnocihaaDoor
namespace Go.Proofs.YtigjafbbnocihaaDoor
open Go.RowKit Go.Hub Go.Lib Go.Vl
theorem wsz5_yf : (Tryd.prog.info? 5).map (·.size) = some 1 := by kernel_rfl
theorem wsz28_yf : (Tryd.prog.info? 28).map (·.size) = some 24 := by kernel_rfl
theorem cutB_lo {W : World} {A : Option Addr} {c B k : Nat} {l : List UInt8} {lo : Int} (SB : Bs [5] B W A l.length l) (hcap : l.length ≤ c) (hh : lo = (k : Nat)) (hle : k ≤ l.length) :
    ∃ A1 c1, (Value.slice (if c = lo.toNat then A else A.map (·.add (lo.toNat * 1))) (l.length - lo.toNat) (c - lo.toNat)) = .slice A1 (l.drop k).length c1 ∧ Bs [5] B W A1 (l.drop k).length (l.drop k) ∧ (l.drop k).length ≤ c1 := by
  subst hh
  have h := SB.cut_lo (n := (k : Int)) hcap (by omega)
  rw [Int.toNat_natCast] at h
  rw [Int.toNat_natCast]
  refine ⟨_, c - k, by rw [List.length_drop], h, by rw [List.length_drop]; omega⟩
theorem feed_rest {p : Pk} (R : RightP p) {ix : Nat} : feedS ((encL p).take ix, 0) ((encL p).drop ix) = ([p], [], 0) := by
  show feedL _ = _
  rw [List.take_append_drop]
  exact feed_one R
set_option maxRecDepth 100000 in
set_option maxHeartbeats 4000000 in
theorem left_walk (k a0_ b c : Int) (x : List UInt8) (A : Option Addr) (cx : Nat) (cut : Int) (w : World) (hT : Tabs w) (SX : Sl w A x.length 1 (x.map u8)) (hk : 0 ≤ k ∧ k < 256) (ha0_ : 0 ≤ a0_ ∧ a0_ < 256) (hb : 0 ≤ b ∧ b < 256) (hc : 0 ≤ c ∧ c < 256) (hcut : 0 ≤ cut ∧ cut < 65536) : Calls Tryd.prog 12 #[.int .u8 k, .int .u8 a0_, .int .u8 b, .int .u8 c, .slice A x.length cx, .int .u16 cut] w (fun e w' => Kept [] w w' ∧ e = .returned (.bool true)) := by
 have HK : Kept [] w w := Kept.refl [] w
 have hT2 := hT.size
 refine C.enter Tryd.func12 rfl Tryd.ntmps12 rfl ?_
 intro a0 f0
 have f1 : Fr 97 a0 [(0, .int .u8 k), (1, .int .u8 a0_), (2, .int .u8 b), (3, .int .u8 c), (4, .slice A x.length cx), (5, .int .u16 cut)] := f0
 refine C.sk fun K0 hK0 => ?_
 refine L.ag f1 fun a2 f2 => ?_
 refine wpList_nil (hK0 _ _ ?_)
 have f3 := f2.sub (sc 0 (sc 1 (sc 2 (sc 3 (sc 4 (sc 5 sn))))))
 refine wp_seq_k fun K1 hK1 => ?_
 refine C.sk fun K2 hK2 => ?_
 refine L.cl f3 (run_call Tryd.call26 (args0 f3)) (known5_any _ (hT.old (HK.below (by simp) (Nat.le_refl _)))) ?_
 clear f0 f1 a0 f2
 rintro e w1 ⟨kc1, rfl⟩
 refine ⟨_, rfl, fun a4 f4 => ?_⟩
 have szw1 := kc1.size
 replace HK := HK.trans kc1 (by simp)
 clear f3 a2 kc1
 refine L.va f4 (E.not f4 rfl) fun a5 f5 => ?_
 refine wpList_nil (hK2 _ _ ?_)
 have f6 := f5.sub (sc 0 (sc 1 (sc 2 (sc 3 (sc 4 (sc 5 (sc 23 sn)))))))
 refine C.condF f6 rfl ?_
 refine wp_skip (hK1 _ _ ?_)
 have f7 := f6.sub (sc 0 (sc 1 (sc 2 (sc 3 (sc 4 (sc 5 sn))))))
 refine wp_seq_k fun K3 hK3 => ?_
 refine C.sk fun K4 hK4 => ?_
 refine L.mv f7 fun a8 f8 => ?_
 refine L.va f8 (E.lenL f8 U22 rfl) fun a9 f9 => ?_
 refine L.va f9 (E.gtr f9 rfl rfl) fun a10 f10 => ?_
 refine wpList_nil (hK4 _ _ ?_)
 have f11 := f10.sub (sc 0 (sc 1 (sc 2 (sc 3 (sc 4 (sc 5 (sc 26 sn)))))))
 clear f4 a4 f5 f6 f7 a5 f8 a8 f9 a9 f10
 refine f11.splitD 26 rfl (fun h0 f12 => ?_) (fun h0 f12 => ?_)
 ·refine C.condT f12 rfl ?_
  refine C.sk fun K5 hK5 => ?_
  refine L.ag f12 fun a13 f13 => ?_
  refine wpList_nil (hK5 _ _ ?_)
  have f14 := f13.sub (sc 12 sn)
  refine wp_ret ?_
  try simp only [Exit.inBlock, Exit.then]
  refine C.ret (P := Tryd.prog) (fn := Tryd.f12) f14 rfl rfl ?_
  exact ⟨HK, rfl⟩
 obtain ⟨rP, lP⟩ := seat_right (k := k) (a := a0_) (b := b) (c := c) (x := x) hk.1 ha0_.1 hb.1 hc.1 (by omega)
 have eP := enc_le rP
 have e2 := enc_ge (p := seatP k a0_ b c x)
 refine C.condF f12 rfl ?_
 refine wp_skip (hK3 _ _ ?_)
 have f13 := f12.sub (sc 0 (sc 1 (sc 2 (sc 3 (sc 4 (sc 5 sn))))))
 refine C.sk fun K6 hK6 => ?_
 refine L.mv f13 fun a14 f14 => ?_
 refine L.mv f14 fun a15 f15 => ?_
 refine L.mv f15 fun a16 f16 => ?_
 refine L.mv f16 fun a17 f17 => ?_
 refine L.mv f17 fun a18 f18 => ?_
 refine L.cl f18 (run_call Tryd.call15 (args5 f18 rfl rfl rfl rfl rfl)) (seat_any k a0_ b c x A cx _ (SX.kept HK) hk ha0_ hb hc) ?_
 clear f11 f12 f13 a10 f14 a14 f15 a15 f16 a16 f17 a17
 rintro e w2 ⟨sP, rfl, kc2, IP⟩
 refine ⟨_, rfl, fun a19 f19 => ?_⟩
 have szw2 := kc2.size
 replace HK := HK.trans kc2 (by simp)
 clear f18 a18 kc2
 refine L.alloc f19 wantedN (by decide) (z := (.agg #[(.int .i64 0), (.bool false), (.bool false), (.int .i64 0), (.int .i64 0), (.string ⟨#[]⟩), (.slice none 0 0), (.int .i64 0), (.string ⟨#[]⟩), (.bool false), (.int .i64 0), (.bool false), (.string ⟨#[]⟩), (.slice none 0 0), (.int .i64 0), (.bool false), (.bool false), (.bool false), (.string ⟨#[]⟩), (.slice none 0 0), (.bool false), (.int .i64 0), (.slice none 0 0), (.slice none 0 0)])) (fun _ => by kernel_rfl) rfl fun a20 w3 g2 N2 f20 => ?_
 have Bg2 := N2.blk
 have kg2 := N2.kept
 have log2 := N2.lo
 have ltg2 := Bg2.lt
 have szw3 := kg2.size
 have frg2 : w.heap.size ≤ g2 := Nat.le_trans HK.size log2
 have FIg2_IP := IP.far log2
 replace HK := HK.trans kg2 (by simp)
 replace IP := IP.kept kg2
 clear N2 kg2
 refine L.storeR f20 wantedN wsz28_yf rfl rfl rfl Bg2 rfl rfl fun a21 w4 f21 NB4 ks4 => ?_
 have szw4 := ks4.size
 replace HK := HK.trans ks4 (ktr (by omega))
 replace IP := IP.keptF ks4 FIg2_IP
 replace Bg2 := NB4
 clear f19 a19 ks4 f20 a20
 refine wpList_nil (hK6 _ _ ?_)
 have f22 := f21.sub (sc 5 (sc 13 sn))
 refine C.sk fun K7 hK7 => ?_
 refine L.va f22 (by exact E.loadB f22 U28 rfl wsz28_yf rfl (Bg2) rfl) fun a23 f23 => ?_
 have hC := sbytes_any (seatP k a0_ b c x) sP w4 IP lP (hT.old (HK.below (by simp) (Nat.le_refl _)))
 rw [putB_t (rightB_iff.2 rP)] at hC
 clear f21 f22 a21
 dsimp only at hC
 refine L.cl f23 (run_call Tryd.call24 (args1 f23 rfl)) hC ?_
 rintro e w5 ⟨kc5, A6, c6, rfl, F6⟩
 have szk := HK.size
 replace F6 := FB.lower F6 szk
 have SB6 : Bs [5] 0 w5 A6 (encL (seatP k a0_ b c x)).length (encL (seatP k a0_ b c x)) := Bs.of_own F6.own (by simp)
 have hc6 := own_cap F6.own
 refine ⟨_, rfl, fun a24 f24 => ?_⟩
 have szw5 := kc5.size
 replace HK := HK.trans kc5 (by simp)
 replace IP := IP.kept kc5
 replace Bg2 := Bg2.kept kc5 (by simp)
 clear f23 a23 kc5
 refine L.ag f24 fun a25 f25 => ?_
 refine wpList_nil (hK7 _ _ ?_)
 have f26 := f25.sub (sc 5 (sc 13 (sc 14 sn)))
 refine C.sk fun K8 hK8 => ?_
 refine L.mv f26 fun a27 f27 => ?_
 refine L.va f27 (E.conv f27 U43 U3 rfl (IntWalk.i64_in _ (by omega))) fun a28 f28 => ?_
 refine L.mv f28 fun a29 f29 => ?_
 refine L.va f29 (E.lenL f29 U22 rfl) fun a30 f30 => ?_
 refine L.va f30 (E.rem f30 rfl rfl (by omega) (Int.tmod_eq_emod_of_nonneg (by omega))) fun a31 f31 => ?_
 obtain ⟨ix, hix, hixl⟩ := rem_nat (n := cut) (d := ((encL (seatP k a0_ b c x)).length : Int)) (by omega) (by omega)
 have f32 := f31.as (i := 39) (v' := .int .i64 (ix : Int)) rfl (by rw [hix])
 clear f24 a24 f25 f26 a25 f27 a27 f28 a28 f29 a29 f30 a30 f31
 refine L.ag f32 fun a33 f33 => ?_
 refine wpList_nil (hK8 _ _ ?_)
 have f34 := f33.sub (sc 13 (sc 14 (sc 15 sn)))
 refine C.sk fun K9 hK9 => ?_
 refine L.cl f34 (run_call Tryd.call28 (args0 f34)) (new_any _) ?_
 clear f32 a31 f33
 rintro e w6 ⟨kc6, gs, rfl, logs, SS⟩
 have szk := HK.size
 have frgs : w.heap.size ≤ gs := by omega
 have neg2_gs : g2 ≠ gs := by have := Bg2.lt; omega
 have FIgs_IP := IP.far logs
 refine ⟨_, rfl, fun a35 f35 => ?_⟩
 have szw6 := kc6.size
 replace HK := HK.trans kc6 (by simp)
 replace IP := IP.kept kc6
 replace Bg2 := Bg2.kept kc6 (by simp)
 replace SB6 := SB6.kept0 kc6
 clear f34 a33 kc6
 refine L.ag f35 fun a36 f36 => ?_
 refine wpList_nil (hK9 _ _ ?_)
 have f37 := f36.sub (sc 13 (sc 14 (sc 15 (sc 16 sn))))
 refine C.sk fun K10 hK10 => ?_
 refine L.mv f37 fun a38 f38 => ?_
 refine L.mv f38 fun a39 f39 => ?_
 refine L.mv f39 fun a40 f40 => ?_
 refine L.va f40 (E.slLhi f40 U22 wsz5_yf rfl rfl (by omega) (by omega)) fun a41 f41 => ?_
 obtain ⟨A2, c2, hv_, SA2, hcA2⟩ := cutB_hi (k := ix) (hi := (ix : Int)) SB6 hc6 rfl (by omega)
 have f42 := f41.as (i := 45) (v' := .slice A2 ((encL (seatP k a0_ b c x)).take ix).length c2) rfl hv_
 clear f35 a35 f36 f37 a36 f38 a38 f39 a39 f40 a40 f41 hv_
 have h1 := List.length_take_le ix (encL (seatP k a0_ b c x))
 have SS0 := SS
 obtain ⟨AX6, cX6, BX6, -, -⟩ := SS0
 have hC := (feed_any gs [] 0 ((encL (seatP k a0_ b c x)).take ix) _ c2 w6 SS SA2.toSl (by simp; omega) (hT.old (HK.below (by simp) (Nat.le_refl _))) (by omega)).mono (fun _ _ h => feed_of (v' := ([], (encL (seatP k a0_ b c x)).take ix, 0)) (feed_part rP (by omega)) h)
 refine L.cl f42 (run_call Tryd.call29 (args2 f42 rfl rfl)) hC ?_
 rintro e w7 ⟨p1, Ap1, cp1, mp1, rfl, Fp1, Pp1, SSn, kc7⟩
 refine ⟨_, rfl, fun a43 f43 => ?_⟩
 have szw7 := kc7.size
 replace HK := HK.trans kc7 (ktr (by omega))
 replace IP := IP.keptF kc7 FIgs_IP
 replace Bg2 := Bg2.kept kc7 (by simp; omega)
 replace SB6 := SB6.kept1 kc7 BX6 (by decide) (Nat.zero_le _)
 replace SA2 := SA2.kept1 kc7 BX6 (by decide) (by omega)
 clear f42 a41 kc7
 clear SS
 have SS := SSn
 clear SSn
 clear Fp1 Pp1
 refine L.mv f43 fun a44 f44 => ?_
 refine L.va f44 (E.extract f44 rfl rfl) fun a45 f45 => ?_
 refine L.va f45 (E.extract f45 rfl rfl) fun a46 f46 => ?_
 refine L.ag f46 fun a47 f47 => ?_
 refine L.ag f47 fun a48 f48 => ?_
 refine wpList_nil (hK10 _ _ ?_)
 have f49 := f48.sub (sc 13 (sc 14 (sc 15 (sc 16 (sc 17 (sc 18 sn))))))
 refine C.sk fun K11 hK11 => ?_
 refine L.mv f49 fun a50 f50 => ?_
 refine L.cl f50 (run_call Tryd.call32 (args1 f50 rfl)) (left_any gs _ _ _ SS) ?_
 clear f43 a43 f44 a44 f45 a45 f46 a46 f47 a47 f48 f49 a48
 rintro e w8 ⟨kc8, rfl⟩
 refine ⟨_, rfl, fun a51 f51 => ?_⟩
 have szw8 := kc8.size
 replace HK := HK.trans kc8 (by simp)
 replace IP := IP.kept kc8
 replace Bg2 := Bg2.kept kc8 (by simp)
 replace SB6 := SB6.kept0 kc8
 replace SA2 := SA2.kept0 kc8
 replace SS := SS.kept0 kc8
 clear f50 a50 kc8
 refine L.ag f51 fun a52 f52 => ?_
 refine wpList_nil (hK11 _ _ ?_)
 have f53 := f52.sub (sc 13 (sc 14 (sc 15 (sc 16 (sc 17 (sc 18 (sc 19 sn)))))))
 refine C.sk fun K12 hK12 => ?_
 refine L.mv f53 fun a54 f54 => ?_
 refine L.mv f54 fun a55 f55 => ?_
 refine L.mv f55 fun a56 f56 => ?_
 refine L.va f56 (E.slLlo f56 U22 wsz5_yf rfl rfl (by omega) (by omega)) fun a57 f57 => ?_
 obtain ⟨A3, c3, hv_, SA3, hcA3⟩ := cutB_lo (k := ix) (lo := (ix : Int)) SB6 hc6 rfl (by omega)
 have f58 := f57.as (i := 55) (v' := .slice A3 ((encL (seatP k a0_ b c x)).drop ix).length c3) rfl hv_
 clear f51 a51 f52 f53 a52 f54 a54 f55 a55 f56 a56 f57 hv_
 have SS0 := SS
 obtain ⟨AX8, cX8, BX8, -, -⟩ := SS0
 have hC := (feed_any gs _ _ ((encL (seatP k a0_ b c x)).drop ix) _ c3 w8 SS SA3.toSl (by simp; omega) (hT.old (HK.below (by simp) (Nat.le_refl _))) (by omega)).mono (fun _ _ h => feed_of (v' := ([seatP k a0_ b c x], [], 0)) (feed_rest rP) h)
 refine L.cl f58 (run_call Tryd.call29 (args2 f58 rfl rfl)) hC ?_
 rintro e w9 ⟨p2, Ap2, cp2, mp2, rfl, Fp2, Pp2, SSn, kc9⟩
 refine ⟨_, rfl, fun a59 f59 => ?_⟩
 have szw9 := kc9.size
 replace HK := HK.trans kc9 (ktr (by omega))
 replace IP := IP.keptF kc9 FIgs_IP
 replace Bg2 := Bg2.kept kc9 (by simp; omega)
 replace SB6 := SB6.kept1 kc9 BX8 (by decide) (Nat.zero_le _)
 replace SA2 := SA2.kept1 kc9 BX8 (by decide) (by omega)
 replace SA3 := SA3.kept1 kc9 BX8 (by decide) (by omega)
 clear f58 a57 kc9
 clear SS
 have SS := SSn
 clear SSn
 refine L.mv f59 fun a60 f60 => ?_
 refine L.va f60 (E.extract f60 rfl rfl) fun a61 f61 => ?_
 refine L.va f61 (E.extract f61 rfl rfl) fun a62 f62 => ?_
 refine L.ag f62 fun a63 f63 => ?_
 refine L.ag f63 fun a64 f64 => ?_
 refine wpList_nil (hK12 _ _ ?_)
 have f65 := f64.sub (sc 13 (sc 15 (sc 16 (sc 17 (sc 18 (sc 19 (sc 20 (sc 21 sn))))))))
 refine wp_seq_k fun K13 hK13 => ?_
 replace Bg2 : Blk w9 g2 28 ((seatP k a0_ b c x).cells sP) := Bg2
 have lp1 : p1.length = 0 := by simpa using congrArg List.length mp1
 have lp2 : p2.length = 1 := by simpa using congrArg List.length mp2
 obtain ⟨d, hd⟩ := some_at p2 0 (by omega)
 have hd1 : d.1 = seatP k a0_ b c x := by have h1 := congrArg (fun q => q[0]?) mp2; simpa [hd] using h1
 have hP2 := Pp2 d (List.mem_of_getElem? hd)
 obtain ⟨bk, off, hA⟩ := Fp2.sl.addr (by omega)
 have SLp2 := Fp2.sl
 have HKd := Kept.refl [] w9
 have PT : PkO 0 w9 d.1 d.2 := hP2.1
 have hd12 : Kept [] w9 (w9.drewN 1) := (Kept.refl _ _).drewN 1
 refine R.beginT (S := fun W => (Kept [] w W) ∧ (Blk W g2 28 ((seatP k a0_ b c x).cells sP)) ∧ (Kept [] w9 W)) (by kernel_rfl) (by kernel_rfl) ⟨HK.trans hd12 (by simp), Bg2.kept hd12 (by simp), HKd.trans hd12 (by simp)⟩ fun ht => ?_
 obtain ⟨w10, hww10⟩ : ∃ W, W = w9.drewN 1 := ⟨_, rfl⟩
 rw [← hww10] at hd12 ⊢
 clear f59 a59 f60 a60 f61 a61 f62 a62 f63 a63 f64 hww10
 have szw10 := hd12.size
 replace HK := HK.trans hd12 (by simp)
 replace IP := IP.kept hd12
 replace Bg2 := Bg2.kept hd12 (by simp)
 replace SB6 := SB6.kept0 hd12
 replace SA2 := SA2.kept0 hd12
 replace SA3 := SA3.kept0 hd12
 replace SS := SS.kept0 hd12
 replace Fp2 := Fresh.kept0 Fp2 hd12
 replace Pp2 := PksO.kept0 Pp2 hd12
 replace HKd := HKd.trans hd12 (by simp)
 clear hd12
 refine R.u 0 f65 rfl ht ⟨HK, Bg2, HKd⟩ (fun W hW => (E.move f65 rfl)) fun a66 f66 => ?_
 refine R.u 1 f66 rfl ht ⟨HK, Bg2, HKd⟩ (fun W hW => (E.lenL f66 U33 rfl)) fun a67 f67 => ?_
 refine R.u 2 f67 rfl ht ⟨HK, Bg2, HKd⟩ (fun W hW => (E.eq f67)) fun a68 f68 => ?_
 have f69 := f68.as (i := 61) (v' := .bool true) rfl (by simp [lp1])
 refine R.u 3 f69 rfl ht ⟨HK, Bg2, HKd⟩ (fun W hW => (E.move f69 rfl)) fun a70 f70 => ?_
 refine R.u 4 f70 rfl ht ⟨HK, Bg2, HKd⟩ (fun W hW => (E.move f70 rfl)) (hw := (f70.yes rfl rfl)) fun a71 f71 => ?_
 refine R.u 5 f71 rfl ht ⟨HK, Bg2, HKd⟩ (fun W hW => (E.eq f71)) (hw := (f71.yes rfl rfl)) fun a72 f72 => ?_
 have f73 := f72.as (i := 64) (v' := .bool true) rfl (by rfl)
 clear f65 a64 f66 a66 f67 a67 f68 f69 a68 f70 a70 f71 a71 f72
 refine R.u 6 f73 rfl ht ⟨HK, Bg2, HKd⟩ (fun W hW => (E.pickT f73 rfl rfl)) fun a74 f74 => ?_
 refine R.u 7 f74 rfl ht ⟨HK, Bg2, HKd⟩ (fun W hW => (E.move f74 rfl)) fun a75 f75 => ?_
 refine R.u 8 f75 rfl ht ⟨HK, Bg2, HKd⟩ (fun W hW => (E.move f75 rfl)) (hw := (f75.yes rfl rfl)) fun a76 f76 => ?_
 refine R.u 9 f76 rfl ht ⟨HK, Bg2, HKd⟩ (fun W hW => (E.move f76 rfl)) (hw := (f76.yes rfl rfl)) fun a77 f77 => ?_
 refine R.u 10 f77 rfl ht ⟨HK, Bg2, HKd⟩ (fun W hW => (E.eq f77)) (hw := (f77.yes rfl rfl)) fun a78 f78 => ?_
 have f79 := f78.as (i := 69) (v' := .bool true) rfl (by simp; omega)
 refine R.u 11 f79 rfl ht ⟨HK, Bg2, HKd⟩ (fun W hW => (E.pickT f79 rfl rfl)) fun a80 f80 => ?_
 refine R.u 12 f80 rfl ht ⟨HK, Bg2, HKd⟩ (fun W hW => (E.move f80 rfl)) fun a81 f81 => ?_
 clear f73 a72 f74 a74 f75 a75 f76 a76 f77 a77 f78 f79 a78 f80 a80
 refine R.u 13 f81 rfl ht ⟨HK, Bg2, HKd⟩ (fun W hW => (E.move f81 rfl)) (hw := (f81.yes rfl rfl)) fun a82 f82 => ?_
 refine R.u 14 f82 rfl ht ⟨HK, Bg2, HKd⟩ (fun W hW => (E.lenL f82 U33 rfl)) (hw := (f82.yes rfl rfl)) fun a83 f83 => ?_
 refine R.u 15 f83 rfl ht ⟨HK, Bg2, HKd⟩ (fun W hW => (E.eq f83)) (hw := (f83.yes rfl rfl)) fun a84 f84 => ?_
 have f85 := f84.as (i := 74) (v' := .bool true) rfl (by simp [lp2])
 refine R.u 16 f85 rfl ht ⟨HK, Bg2, HKd⟩ (fun W hW => (E.pickT f85 rfl rfl)) fun a86 f86 => ?_
 refine R.u 17 f86 rfl ht ⟨HK, Bg2, HKd⟩ (fun W hW => (E.move f86 rfl)) fun a87 f87 => ?_
 refine R.u 18 f87 rfl ht ⟨HK, Bg2, HKd⟩ (fun W hW => (E.move f87 rfl)) (hw := (f87.yes rfl rfl)) fun a88 f88 => ?_
 refine R.u 19 f88 rfl ht ⟨HK, Bg2, HKd⟩ (fun W hW => (E.eq f88)) (hw := (f88.yes rfl rfl)) fun a89 f89 => ?_
 clear f81 a81 f82 a82 f83 a83 f84 f85 a84 f86 a86 f87 a87 f88 a88
 have f90 := f89.as (i := 78) (v' := .bool true) rfl (by rfl)
 refine R.u 20 f90 rfl ht ⟨HK, Bg2, HKd⟩ (fun W hW => (E.pickT f90 rfl rfl)) fun a91 f91 => ?_
 refine R.u 21 f91 rfl ht ⟨HK, Bg2, HKd⟩ (fun W hW => (E.move f91 rfl)) fun a92 f92 => ?_
 refine R.u 22 f92 rfl ht ⟨HK, Bg2, HKd⟩ (fun W hW => (E.move f92 rfl)) (hw := (f92.yes rfl rfl)) fun a93 f93 => ?_
 refine R.u 23 f93 rfl ht ⟨HK, Bg2, HKd⟩ (fun W hW => (E.indexA f93 (by assumption) U33 wsz28_yf rfl rfl (by omega) (by omega))) (hw := (f93.yes rfl rfl)) fun a94 f94 => ?_
 refine R.u 24 f94 rfl ht ⟨HK, Bg2, HKd⟩ (fun W hW => (by exact E.loadA f94 U28 rfl wsz28_yf rfl (pk_row (SLp2.kept hW.2.2) hA hd) rfl)) (hw := (f94.yes rfl rfl)) fun a95 f95 => ?_
 refine R.u 25 f95 rfl ht ⟨HK, Bg2, HKd⟩ (fun W hW => (by exact E.loadB f95 U28 rfl wsz28_yf rfl (hW.2.1) rfl)) (hw := (f95.yes rfl rfl)) fun a96 f96 => ?_
 refine R.call 26 f96 rfl rfl (by decide) (by kernel_rfl) (f96.yes rfl rfl) (run_call Tryd.call22 (args2 f96 rfl rfl)) (sameR_any d.1 (seatP k a0_ b c x) d.2 sP _ (hP2.1.toIn.kept HKd) IP hP2.2.subs hP2.2.codes) ?_
 clear f89 f90 a89 f91 a91 f92 a92 f93 a93 f94 a94 f95 a95
 rintro e w11 ⟨kc11, rfl⟩
 have szw11 := kc11.size
 replace HK := HK.trans kc11 (by simp)
 replace IP := IP.kept kc11
 replace Bg2 := Bg2.kept kc11 (by simp)
 replace SB6 := SB6.kept0 kc11
 replace SA2 := SA2.kept0 kc11
 replace SA3 := SA3.kept0 kc11
 replace SS := SS.kept0 kc11
 replace Fp2 := Fresh.kept0 Fp2 kc11
 replace Pp2 := PksO.kept0 Pp2 kc11
 replace HKd := HKd.trans kc11 (by simp)
 refine ⟨_, rfl, ⟨HK, Bg2, HKd⟩, fun a97 f97 => ?_⟩
 clear f96 a96 kc11
 have f98 := f97.as (i := 85) (v' := .bool true) rfl (by rw [hd1, samePk_iff.2 rfl])
 refine R.u 27 f98 rfl ht ⟨HK, Bg2, HKd⟩ (fun W hW => (E.pickT f98 rfl rfl)) fun a99 f99 => ?_
 refine R.u 28 f99 rfl ht ⟨HK, Bg2, HKd⟩ (fun W hW => (E.move f99 rfl)) fun a100 f100 => ?_
 refine R.u 29 f100 rfl ht ⟨HK, Bg2, HKd⟩ (fun W hW => (E.move f100 rfl)) (hw := (f100.yes rfl rfl)) fun a101 f101 => ?_
 refine R.call 30 f101 rfl rfl (by decide) (by kernel_rfl) (f101.yes rfl rfl) (run_call Tryd.call32 (args1 f101 rfl)) (left_any gs _ _ _ SS) ?_
 clear f97 f98 a97 f99 a99 f100 a100
 rintro e w12 ⟨kc12, rfl⟩
 have szw12 := kc12.size
 replace HK := HK.trans kc12 (by simp)
 replace IP := IP.kept kc12
 replace Bg2 := Bg2.kept kc12 (by simp)
 replace SB6 := SB6.kept0 kc12
 replace SA2 := SA2.kept0 kc12
 replace SA3 := SA3.kept0 kc12
 replace SS := SS.kept0 kc12
 replace Fp2 := Fresh.kept0 Fp2 kc12
 replace Pp2 := PksO.kept0 Pp2 kc12
 replace HKd := HKd.trans kc12 (by simp)
 refine ⟨_, rfl, ⟨HK, Bg2, HKd⟩, fun a102 f102 => ?_⟩
 clear f101 a101 kc12
 refine R.u 31 f102 rfl ht ⟨HK, Bg2, HKd⟩ (fun W hW => (E.eq f102)) (hw := (f102.yes rfl rfl)) fun a103 f103 => ?_
 have f104 := f103.as (i := 90) (v' := .bool true) rfl (by rfl)
 refine R.u 32 f104 rfl ht ⟨HK, Bg2, HKd⟩ (fun W hW => (E.pickT f104 rfl rfl)) fun a105 f105 => ?_
 refine R.u 33 f105 rfl ht ⟨HK, Bg2, HKd⟩ (fun W hW => (E.move f105 rfl)) fun a106 f106 => ?_
 refine R.u 34 f106 rfl ht ⟨HK, Bg2, HKd⟩ (fun W hW => (E.move f106 rfl)) (hw := (f106.yes rfl rfl)) fun a107 f107 => ?_
 refine R.call 35 f107 rfl rfl (by decide) (by kernel_rfl) (f107.yes rfl rfl) (run_call Tryd.call33 (args1 f107 rfl)) (dead_any gs _ _ _ SS) ?_
 clear f102 a102 f103 f104 a103 f105 a105 f106 a106
 rintro e w13 ⟨kc13, rfl⟩
 have szw13 := kc13.size
 replace HK := HK.trans kc13 (by simp)
 replace IP := IP.kept kc13
 replace Bg2 := Bg2.kept kc13 (by simp)
 replace SB6 := SB6.kept0 kc13
 replace SA2 := SA2.kept0 kc13
 replace SA3 := SA3.kept0 kc13
 replace SS := SS.kept0 kc13
 replace Fp2 := Fresh.kept0 Fp2 kc13
 replace Pp2 := PksO.kept0 Pp2 kc13
 replace HKd := HKd.trans kc13 (by simp)
 refine ⟨_, rfl, ⟨HK, Bg2, HKd⟩, fun a108 f108 => ?_⟩
 clear f107 a107 kc13
 refine R.u 36 f108 rfl ht ⟨HK, Bg2, HKd⟩ (fun W hW => (E.not f108 rfl)) (hw := (f108.yes rfl rfl)) fun a109 f109 => ?_
 have f110 := f109.as (i := 95) (v' := .bool true) rfl (by rfl)
 refine R.u 37 f110 rfl ht ⟨HK, Bg2, HKd⟩ (fun W hW => (E.pickT f110 rfl rfl)) fun a111 f111 => ?_
 refine R.u 38 f111 rfl ht ⟨HK, Bg2, HKd⟩ (fun W hW => (E.assign f111 rfl)) fun a112 f112 => ?_
 refine R.done (by kernel_rfl) (hK13 _ _ ?_)
 have f113 := f112.sub (sc 12 sn)
 refine wp_ret ?_
 try simp only [Exit.inBlock, Exit.then]
 refine C.ret (P := Tryd.prog) (fn := Tryd.f12) f113 rfl rfl ?_
 exact ⟨HK, rfl⟩
end Go.Proofs.YtigjafbbnocihaaDoor
namespace Go.Proofs.YtigjafbbnocihaaDoor
open Go.RowKit Go.Hub Go.Lib Go.Vl
theorem wzib28_yg : (Tryd.prog.info? 28).map (fun i => (i.zero, i.size, i.bytes)) = some (some (.agg #[(.int .i64 0), (.bool false), (.bool false), (.int .i64 0), (.int .i64 0), (.string ⟨#[]⟩), (.slice none 0 0), (.int .i64 0), (.string ⟨#[]⟩), (.bool false), (.int .i64 0), (.bool false), (.string ⟨#[]⟩), (.slice none 0 0), (.int .i64 0), (.bool false), (.bool false), (.bool false), (.string ⟨#[]⟩), (.slice none 0 0), (.bool false), (.int .i64 0), (.slice none 0 0), (.slice none 0 0)]), 24, 288) := by kernel_rfl
theorem wsz5_yg : (Tryd.prog.info? 5).map (·.size) = some 1 := by kernel_rfl
theorem feedS0 (b : List UInt8) : feedS ([], 0) b = feedL b := rfl
theorem feedS_cnt (st : List UInt8 × Int) (b : List UInt8) : (feedS st b).1.length ≤ st.1.length + b.length := by
  unfold feedS
  split
  · have := feedL_le (st.1 ++ b)
    rw [List.length_append] at this
    omega
  simp
theorem feed_next {b : List UInt8} {i : Nat} {x : UInt8} {ps q : List (Pk × Ad)} {rt rq : List UInt8} {et eq1 : Int} {vq : List Pk} (hd : b[i]? = some x) (h : feedL (b.take i) = (ps.map (·.1), rt, et)) (hq : feedS (rt, et) [x] = (vq, rq, eq1)) (m : q.map (·.1) = vq) : feedL (b.take (i + 1)) = ((ps ++ q).map (·.1), rq, eq1) := by
  have e : b.take (i + 1) = b.take i ++ [x] := by rw [List.take_add_one, hd]; rfl
  rw [e, feed_bytes (l := b.take i) (b := [x]) (q := vq) (st := (rq, eq1)) (by rw [h]; exact hq), h, List.map_append, m]
theorem cutB_at {W : World} {A : Option Addr} {c B i : Nat} {l : List UInt8} {x : UInt8} {lo hi : Int} (hx : l[i]? = some x) (SB : Bs [5] B W A l.length l) (hcap : l.length ≤ c) (hlo : lo = (i : Nat)) (hh : hi = (i : Int) + 1) :
    ∃ A1 c1, (Value.slice (if c = lo.toNat then A else A.map (·.add (lo.toNat * 1))) (hi.toNat - lo.toNat) (c - lo.toNat)) = .slice A1 [x].length c1 ∧ Bs [5] B W A1 [x].length [x] ∧ [x].length ≤ c1 := by
  have hi' : i < l.length := (List.getElem?_eq_some_iff.1 hx).1
  subst hlo hh
  have h := (SB.cut (k := i) (c := c) (by omega) hcap).head (k := 1) (by omega)
  have e : (l.drop i).take 1 = [x] := by
    rw [List.take_one, List.head?_drop, hx]
    rfl
  rw [e] at h
  refine ⟨_, c - i, ?_, h, by simp; omega⟩
  rw [Int.toNat_natCast, show ((i : Int) + 1).toNat - i = [x].length by have h1 : [x].length = 1 := rfl; omega]
theorem STR.keptO {w W : World} {g k c : Nat} {t : TypeId} {rest : List UInt8} {er : Int} {A : Option Addr} {xs : List Value} (h : STR w g t rest er) (hk : Kept (Value.slice A k c).ownBlock.toList w W) (o : Own w 28 24 (.slice A k c) k xs) (ht : t ≠ 28 := by decide) : STR W g t rest er := by
  obtain ⟨A0, c0, b, s, hc⟩ := h
  exact ⟨A0, c0, b.kept hk (own_ne o b ht), bs_keptO s hk o, hc⟩
theorem some_b (ks raw : List UInt8) (at_ : Int) (Ak A : Option Addr) (ck c0_ : Nat) (w : World) (hT : Tabs w) (SK : Sl w Ak ks.length 1 (ks.map u8)) (SX : Sl w A raw.length 1 (raw.map u8)) (hk : ks.length ≤ 20) (hr : raw.length ≤ 40) (hat : 0 ≤ at_ ∧ at_ < 256) :
    Calls Tryd.prog 27 #[.slice Ak ks.length ck, .slice A raw.length c0_, .int .u8 at_] w fun e w' => Kept [] w w' ∧ ∃ b A c, b.length ≤ 170000 ∧ e = .returned (.slice A b.length c) ∧ FB w w' A c b :=
  (some_any ks raw at_ Ak A ck c0_ w hT SK SX hk hr hat).mono fun e w' h => by
    obtain ⟨h1, A, c, h2, h3⟩ := h
    have := someN_len ks raw at_ ks.length hk hr
    exact ⟨h1, _, A, c, by omega, h2, h3⟩
set_option maxRecDepth 100000 in
set_option maxHeartbeats 4000000 in
theorem parts_walk (ks raw : List UInt8) (at_ : Int) (Ak A : Option Addr) (ck c0_ : Nat) (w : World) (hT : Tabs w) (SK : Sl w Ak ks.length 1 (ks.map u8)) (SX : Sl w A raw.length 1 (raw.map u8)) (hat : 0 ≤ at_ ∧ at_ < 256) : Calls Tryd.prog 10 #[.slice Ak ks.length ck, .slice A raw.length c0_, .int .u8 at_] w (fun e w' => Kept [] w w' ∧ e = .returned (.bool true)) := by
 have HK : Kept [] w w := Kept.refl [] w
 have hT2 := hT.size
 refine C.enter Tryd.func10 rfl Tryd.ntmps10 rfl ?_
 intro a0 f0
 have f1 : Fr 86 a0 [(0, .slice Ak ks.length ck), (1, .slice A raw.length c0_), (2, .int .u8 at_)] := f0
 refine C.sk fun K0 hK0 => ?_
 refine L.ag f1 fun a2 f2 => ?_
 refine wpList_nil (hK0 _ _ ?_)
 have f3 := f2.sub (sc 0 (sc 1 (sc 2 sn)))
 refine wp_seq_k fun K1 hK1 => ?_
 refine C.sk fun K2 hK2 => ?_
 refine L.cl f3 (run_call Tryd.call26 (args0 f3)) (known5_any _ (hT.old (HK.below (by simp) (Nat.le_refl _)))) ?_
 clear f0 f1 a0 f2
 rintro e w1 ⟨kc1, rfl⟩
 refine ⟨_, rfl, fun a4 f4 => ?_⟩
 have szw1 := kc1.size
 replace HK := HK.trans kc1 (by simp)
 clear f3 a2 kc1
 refine L.va f4 (E.not f4 rfl) fun a5 f5 => ?_
 refine wpList_nil (hK2 _ _ ?_)
 have f6 := f5.sub (sc 0 (sc 1 (sc 2 (sc 18 sn))))
 refine C.condF f6 rfl ?_
 refine wp_skip (hK1 _ _ ?_)
 have f7 := f6.sub (sc 0 (sc 1 (sc 2 sn)))
 refine wp_seq_k fun K3 hK3 => ?_
 refine C.sk fun K4 hK4 => ?_
 refine L.mv f7 fun a8 f8 => ?_
 refine L.va f8 (E.lenL f8 U22 rfl) fun a9 f9 => ?_
 refine L.va f9 (E.gtr f9 rfl rfl) fun a10 f10 => ?_
 refine L.mv f10 fun a11 f11 => ?_
 clear f4 a4 f5 f6 f7 a5 f8 a8 f9 a9 f10 a10
 refine f11.splitD 22 rfl (fun h0 f12 => ?_) (fun h0 f12 => ?_)
 ·refine L.run f12 (rest' := []) (by kernel_rfl) fun a13 f13 => ?_
  clear f11
  skip
  refine wpList_nil (hK4 _ _ ?_)
  have f14 := f13.sub (sub_cons (i := 0) (Fr.kept f13 (by kernel_rfl) rfl) (sub_cons (i := 1) (Fr.kept f13 (by kernel_rfl) rfl) (sub_cons (i := 2) (Fr.kept f13 (by kernel_rfl) rfl) (sub_cons (i := 26) (v := .bool true) (by kernel_rfl) sn))))
  refine C.condT f14 rfl ?_
  refine C.sk fun K5 hK5 => ?_
  refine L.ag f14 fun a15 f15 => ?_
  refine wpList_nil (hK5 _ _ ?_)
  have f16 := f15.sub (sc 6 sn)
  refine wp_ret ?_
  try simp only [Exit.inBlock, Exit.then]
  refine C.ret (P := Tryd.prog) (fn := Tryd.f10) f16 rfl rfl ?_
  exact ⟨HK, rfl⟩
 refine L.mv f12 (hw := (f12.yes rfl rfl)) fun a13 f13 => ?_
 refine L.va f13 (E.lenL f13 U22 rfl) (hw := (f13.yes rfl rfl)) fun a14 f14 => ?_
 refine L.va f14 (E.gtr f14 rfl rfl) (hw := (f14.yes rfl rfl)) fun a15 f15 => ?_
 refine L.va f15 (E.pickF f15 rfl rfl) fun a16 f16 => ?_
 refine wpList_nil (hK4 _ _ ?_)
 have f17 := f16.sub (sc 0 (sc 1 (sc 2 (sc 26 sn))))
 clear f11 f12 a11 f13 a13 f14 a14 f15 a15 f16
 refine f17.splitD 26 rfl (fun h1 f18 => ?_) (fun h1 f18 => ?_)
 ·refine C.condT f18 rfl ?_
  refine C.sk fun K6 hK6 => ?_
  refine L.ag f18 fun a19 f19 => ?_
  refine wpList_nil (hK6 _ _ ?_)
  have f20 := f19.sub (sc 6 sn)
  refine wp_ret ?_
  try simp only [Exit.inBlock, Exit.then]
  refine C.ret (P := Tryd.prog) (fn := Tryd.f10) f20 rfl rfl ?_
  exact ⟨HK, rfl⟩
 refine C.condF f18 rfl ?_
 refine wp_skip (hK3 _ _ ?_)
 have f19 := f18.sub (sc 0 (sc 1 (sc 2 sn)))
 refine C.sk fun K7 hK7 => ?_
 refine L.mv f19 fun a20 f20 => ?_
 refine L.mv f20 fun a21 f21 => ?_
 refine L.mv f21 fun a22 f22 => ?_
 refine L.cl f22 (run_call Tryd.call27 (args3 f22 rfl rfl rfl)) (some_b ks raw at_ Ak A ck c0_ _ (hT.old (HK.below (by simp) (Nat.le_refl _))) (SK.kept HK) (SX.kept HK) (by omega) (by omega) hat) ?_
 clear f17 f18 f19 a16 f20 a20 f21 a21
 rintro e w2 ⟨kc2, b, Ab, cb, hbl, rfl, FB0⟩
 have SBb : Bs [5] 0 w2 Ab b.length b := Bs.of_own FB0.own (by simp)
 have hcb := own_cap FB0.own
 clear FB0
 refine ⟨_, rfl, fun a23 f23 => ?_⟩
 have szw2 := kc2.size
 replace HK := HK.trans kc2 (by simp)
 clear f22 a22 kc2
 refine L.ag f23 fun a24 f24 => ?_
 refine wpList_nil (hK7 _ _ ?_)
 have f25 := f24.sub (sc 7 sn)
 refine C.sk fun K8 hK8 => ?_
 refine L.cl f25 (run_call Tryd.call28 (args0 f25)) (new_any _) ?_
 clear f23 a23 f24
 rintro e w3 ⟨kc3, gs, rfl, logs, SS⟩
 have szk := HK.size
 have frgs : w.heap.size ≤ gs := by omega
 refine ⟨_, rfl, fun a26 f26 => ?_⟩
 have szw3 := kc3.size
 replace HK := HK.trans kc3 (by simp)
 replace SBb := SBb.kept0 kc3
 clear f25 a24 kc3
 refine L.cl f26 (run_call Tryd.call28 (args0 f26)) (new_any _) ?_
 rintro e w4 ⟨kc4, gt, rfl, logt, TT⟩
 have szk := HK.size
 have frgt : w.heap.size ≤ gt := by omega
 have negst : gs ≠ gt := by have := SS.lt; omega
 refine ⟨_, rfl, fun a27 f27 => ?_⟩
 have szw4 := kc4.size
 replace HK := HK.trans kc4 (by simp)
 replace SBb := SBb.kept0 kc4
 replace SS := SS.kept0 kc4
 clear f26 a26 kc4
 refine L.ag f27 fun a28 f28 => ?_
 refine L.ag f28 fun a29 f29 => ?_
 refine wpList_nil (hK8 _ _ ?_)
 have f30 := f29.sub (sc 7 (sc 8 (sc 9 sn)))
 refine C.sk fun K9 hK9 => ?_
 refine L.mv f30 fun a31 f31 => ?_
 refine L.mv f31 fun a32 f32 => ?_
 obtain ⟨va, ra, ea, hva⟩ : ∃ va ra ea, feedL b = (va, ra, ea) := ⟨_, _, _, rfl⟩
 have SS0 := SS
 obtain ⟨AX4, cX4, BX4, -, -⟩ := SS0
 have hC := (feed_any gs [] 0 (b) _ cb w4 SS SBb.toSl (by simp; omega) (hT.old (HK.below (by simp) (Nat.le_refl _))) (by omega)).mono (fun _ _ h => feed_of (v' := (va, ra, ea)) ((feedS0 b).trans hva) h)
 refine L.cl f32 (run_call Tryd.call29 (args2 f32 rfl rfl)) hC ?_
 clear f27 a27 f28 a28 f29 f30 a29 f31 a31
 rintro e w5 ⟨p1, Ap1, cp1, mp1, rfl, Fp1, Pp1, SSn, kc5⟩
 dsimp only at mp1
 refine ⟨_, rfl, fun a33 f33 => ?_⟩
 have szw5 := kc5.size
 replace HK := HK.trans kc5 (ktr (by omega))
 replace SBb := SBb.kept1 kc5 BX4 (by decide) (Nat.zero_le _)
 replace TT := TT.kept1 kc5 BX4 (by decide) (by simp; omega)
 clear f32 a32 kc5
 clear SS
 have SS := SSn
 clear SSn
 refine L.mv f33 fun a34 f34 => ?_
 refine L.va f34 (E.extract f34 rfl rfl) fun a35 f35 => ?_
 refine L.va f35 (E.extract f35 rfl rfl) fun a36 f36 => ?_
 refine L.ag f36 fun a37 f37 => ?_
 refine L.ag f37 fun a38 f38 => ?_
 refine wpList_nil (hK9 _ _ ?_)
 have f39 := f38.sub (sc 7 (sc 8 (sc 9 (sc 10 (sc 11 sn)))))
 refine C.sk fun K10 hK10 => ?_
 refine L.ag f39 fun a40 f40 => ?_
 refine wpList_nil (hK10 _ _ ?_)
 have f41 := f40.sub (sc 7 (sc 8 (sc 9 (sc 10 (sc 11 (sc 12 sn))))))
 clear f33 a33 f34 a34 f35 a35 f36 a36 f37 a37 f38 f39 a38 f40
 refine C.sk fun K11 hK11 => ?_
 refine L.ag f41 fun a42 f42 => ?_
 refine wpList_nil (hK11 _ _ ?_)
 have f43 := f42.sub (sc 7 (sc 8 (sc 9 (sc 10 (sc 11 (sc 12 (sc 13 sn)))))))
 refine wp_seq_k fun K12 hK12 => ?_
 refine C.sk fun K13 hK13 => ?_
 refine L.ag f43 fun a44 f44 => ?_
 refine wpList_nil (hK13 _ _ ?_)
 have f45 := f44.sub (sc 7 (sc 8 (sc 9 (sc 10 (sc 11 (sc 12 (sc 13 (sc 14 sn))))))))
 refine wp_block ?_
 obtain ⟨W7, hW7⟩ : ∃ W7, W7 = w5 := ⟨_, rfl⟩
 rw [← hW7] at HK SS TT SBb Fp1 Pp1 ⊢
 clear f41 a40 f42 f43 a42 f44 hW7
 have HKb : Kept [gt] W7 W7 := Kept.refl _ _
 have TT0 := TT
 obtain ⟨AT7, cT7, BT7, -, -⟩ := TT0
 have szb := HK.size
 refine C.loop (fun gk a W => ∃ (i : Nat) (Al : Option Addr) (cl : Nat) (ps : List (Pk × Ad)) (rt : List UInt8) (et la : Int), i + gk = b.length ∧ feedL (b.take i) = (ps.map (·.1), rt, et) ∧ (i = 0 ∨ la = et) ∧ Kept [] w W ∧ Kept [gt] W7 W ∧ STR W gt 102 rt et ∧ Bs [5] 0 W Ab b.length b ∧ Fresh W7 W 28 24 Al ps.length cl (pkRow ps) ∧ PksO W ps ∧ Fr 86 a [(7, .slice Ab b.length cb), (8, .pointer (some ⟨gs, 0, none⟩)), (9, .pointer (some ⟨gt, 0, none⟩)), (10, .slice Ap1 p1.length cp1), (11, .int .i64 ea), (12, .slice Al ps.length cl), (13, .int .i64 la), (14, .int .i64 i)]) (b.length) ?_ ?_
 ·exact ⟨0, none, 0, [], [], 0, 0, by omega, rfl, .inl rfl, HK, HKb, TT, SBb, Fresh.nil _ _ _ _, PksO.nil _, f45.sub (sub_cons rfl (sub_cons rfl (sub_cons rfl (sub_cons rfl (sub_cons rfl (sub_cons rfl (sub_cons rfl (sub_cons rfl sn))))))))⟩
 intro gk15 a46 w6 hI KL14 hKL14
 obtain ⟨i, Al, cl, ps, rt, et, la, hi, hfe, hla, HK, HKb, TT, SBb, FL, PL, f46⟩ := hI
 try clear f45
 have hle := feedL_le (b.take i)
 rw [hfe] at hle
 simp only [List.length_map] at hle
 have htk := List.length_take_le i b
 refine wp_seq_k fun K15 hK15 => ?_
 refine C.sk fun K16 hK16 => ?_
 refine L.mv f46 fun a47 f47 => ?_
 refine L.mv f47 fun a48 f48 => ?_
 refine L.va f48 (E.lenL f48 U22 rfl) fun a49 f49 => ?_
 refine L.va f49 (E.lss f49 rfl rfl) fun a50 f50 => ?_
 refine wpList_nil (hK16 _ _ ?_)
 have f51 := f50.sub (sc 7 (sc 8 (sc 9 (sc 10 (sc 11 (sc 12 (sc 13 (sc 14 (sc 42 sn)))))))))
 clear f46 a46 f47 a47 f48 a48 f49 a49 f50
 refine f51.splitD 42 rfl (fun h2 f52 => ?_) (fun h2 f52 => ?_)
 ·obtain ⟨x, hd⟩ := some_at b i (by omega)
  refine C.condT f52 rfl ?_
  refine wp_skip (hK15 _ _ ?_)
  have f53 := f52.sub (sc 7 (sc 8 (sc 9 (sc 10 (sc 11 (sc 12 (sc 14 sn)))))))
  refine wp_seq_k fun K17 hK17 => ?_
  refine wp_block ?_
  refine C.sk fun K18 hK18 => ?_
  refine L.mv f53 fun a54 f54 => ?_
  refine L.mv f54 fun a55 f55 => ?_
  refine L.mv f55 fun a56 f56 => ?_
  refine L.mv f56 fun a57 f57 => ?_
  refine L.va f57 (E.add f57 rfl rfl (IntWalk.i64_in _ (by omega))) fun a58 f58 => ?_
  refine L.va f58 (E.slL f58 U22 wsz5_yg rfl rfl rfl (by omega) (by omega) (by omega)) fun a59 f59 => ?_
  clear f51 f52 f53 a50 f54 a54 f55 a55 f56 a56 f57 a57 f58 a58
  obtain ⟨A2, c2, hv_, SA2, hcA2⟩ := cutB_at hd SBb hcb (lo := (i : Int)) (hi := (i : Int) + 1) rfl rfl
  have f60 := f59.as (i := 51) (v' := .slice A2 ([x]).length c2) rfl hv_
  clear f59 hv_
  obtain ⟨vq, rq, eq1, hvq⟩ : ∃ vq rq eq1, feedS (rt, et) [x] = (vq, rq, eq1) := ⟨_, _, _, rfl⟩
  have TT0 := TT
  obtain ⟨AX6, cX6, BX6, -, -⟩ := TT0
  have hC := (feed_any gt rt et ([x]) _ c2 w6 TT SA2.toSl (by simp; omega) (hT.old (HK.below (by simp) (Nat.le_refl _))) (by omega)).mono (fun _ _ h => feed_of (v' := (vq, rq, eq1)) hvq h)
  refine L.cl f60 (run_call Tryd.call29 (args2 f60 rfl rfl)) hC ?_
  rintro e w7 ⟨q1, Aq1, cq1, mq1, rfl, Fq1, Pq1, TTn, kc7⟩
  dsimp only at mq1
  have hq1 : q1.length ≤ 1000000 := by have h1 := feedS_cnt (rt, et) [x]; have h2 := congrArg List.length mq1; rw [hvq] at h1; simp at h1 h2; omega
  refine ⟨_, rfl, fun a61 f61 => ?_⟩
  have szw7 := kc7.size
  replace HK := HK.trans kc7 (ktr (by omega))
  replace HKb := HKb.trans kc7 (ktr (by simp))
  replace SBb := SBb.kept1 kc7 BX6 (by decide) (Nat.zero_le _)
  replace FL := fresh_blk FL kc7 BX6 (by decide)
  replace PL := PksO.kept1 PL kc7 BX6 (by decide)
  replace SA2 := SA2.kept1 kc7 BX6 (by decide) (by omega)
  clear f60 a59 kc7
  clear TT
  have TT := TTn
  clear TTn
  refine L.mv f61 fun a62 f62 => ?_
  refine L.va f62 (E.extract f62 rfl rfl) fun a63 f63 => ?_
  refine L.va f63 (E.extract f63 rfl rfl) fun a64 f64 => ?_
  refine L.ag f64 fun a65 f65 => ?_
  refine L.ag f65 fun a66 f66 => ?_
  refine wpList_nil (hK18 _ _ ?_)
  have f67 := f66.sub (sc 7 (sc 8 (sc 9 (sc 10 (sc 11 (sc 12 (sc 14 (sc 15 (sc 16 sn)))))))))
  refine C.sk fun K19 hK19 => ?_
  refine L.mv f67 fun a68 f68 => ?_
  refine L.mv f68 fun a69 f69 => ?_
  clear f61 a61 f62 a62 f63 a63 f64 a64 f65 a65 f66 f67 a66 f68 a68
  refine L.append f69 wantedN (by decide) U33 wzib28_yg rfl rfl rfl rfl FL.own Fq1.sl (pkRow_oneCell _) (by unfold maxLen; omega) (by omega) fun a70 w8 A8 c8 AP f70 => ?_
  have szw8 := AP.kept.size
  have HKn := AP.grow (FL.lower szb) HK
  have HKbn := AP.grow FL HKb
  have TTn := TT.keptO AP.kept FL.own
  have SBbn := bs_keptO SBb AP.kept FL.own
  have PLn := (PL.keptO AP.kept FL.own).app (Pq1.keptO AP.kept FL.own)
  have FLn := AP.next FL HKb.size
  clear f69 HK HKb TT SBb PL FL Fq1 Pq1 AP
  have HK := HKn
  have HKb := HKbn
  have TT := TTn
  have SBb := SBbn
  have PL := PLn
  have FL := FLn
  clear HKn HKbn TTn SBbn PLn FLn
  refine L.ag f70 fun a71 f71 => ?_
  refine wpList_nil (hK19 _ _ ?_)
  have f72 := f71.sub (sc 7 (sc 8 (sc 9 (sc 10 (sc 11 (sc 12 (sc 14 (sc 16 sn))))))))
  refine C.region ?_
  refine L.mv f72 fun a73 f73 => ?_
  refine L.ag f73 fun a74 f74 => ?_
  refine wpList_nil (hK17 _ _ ?_)
  have f75 := f74.sub (sc 7 (sc 8 (sc 9 (sc 10 (sc 11 (sc 12 (sc 13 (sc 14 sn))))))))
  refine C.region ?_
  refine L.mv f75 fun a76 f76 => ?_
  refine L.va f76 (E.add f76 rfl rfl (IntWalk.i64_in _ (by omega))) fun a77 f77 => ?_
  refine L.ag f77 fun a78 f78 => ?_
  clear f70 a70 f71 f72 a71 f73 a73 f74 f75 a74 f76 a76 f77 a77
  refine wpList_nil (hKL14 _ _ (gk15 - 1) ?_ ?_)
  ·omega
  exact ⟨i + 1, _, _, ps ++ q1, rq, eq1, eq1, by omega, feed_next hd hfe hvq mq1, .inr rfl, HK, HKb, TT, SBb, by rw [pkRow_app, List.length_append]; exact FL, PL, f78.sub (sub_cons rfl (sub_cons rfl (sub_cons rfl (sub_cons rfl (sub_cons rfl (sub_cons (by rw [List.length_append]; rfl) (sub_cons rfl (sub_cons rfl sn))))))))⟩
 refine C.condF f52 rfl ?_
 refine wp_exit (hK12 _ _ ?_)
 have f53 := f52.sub (sc 7 (sc 8 (sc 9 (sc 10 (sc 11 (sc 12 (sc 13 sn)))))))
 refine wp_seq_k fun K20 hK20 => ?_
 have hib : i = b.length := by omega
 rw [hib, List.take_length, hva] at hfe
 simp only [Prod.mk.injEq] at hfe
 obtain ⟨hm, hr, he⟩ := hfe
 have SS := SS.kept1 HKb BT7 (by decide) (by simp; omega)
 have Fp := fresh_blk Fp1 HKb BT7 (by decide)
 have Pp := Pp1.kept1 HKb BT7 (by decide)
 have hpl : p1.length ≤ 1000000 := by have h1 := feedL_le b; have h2 := congrArg List.length mp1; rw [hva] at h1; simp at h1 h2; omega
 refine C.region ?_
 refine L.mv f53 fun a54 f54 => ?_
 refine L.mv f54 fun a55 f55 => ?_
 refine L.cl f55 (run_call Tryd.call31 (args2 f55 rfl rfl)) (packets_any p1 ps _ _ _ _ _ Fp.sl FL.sl Pp PL (mp1.trans hm) (by omega)) ?_
 clear f51 f52 f53 a50 f54 a54
 rintro e w7 ⟨kc7, rfl⟩
 refine ⟨_, rfl, fun a56 f56 => ?_⟩
 have szw7 := kc7.size
 replace HK := HK.trans kc7 (by simp)
 replace TT := TT.kept0 kc7
 replace SS := SS.kept0 kc7
 replace Fp := Fresh.kept0 Fp kc7
 replace Pp := PksO.kept0 Pp kc7
 replace FL := Fresh.kept0 FL kc7
 replace PL := PksO.kept0 PL kc7
 clear f55 a55 kc7
 refine L.mv f56 fun a57 f57 => ?_
 refine L.mv f57 (hw := (f57.yes rfl rfl)) fun a58 f58 => ?_
 refine L.va f58 (E.lenL f58 U22 rfl) (hw := (f58.yes rfl rfl)) fun a59 f59 => ?_
 refine L.va f59 (E.eq f59) (hw := (f59.yes rfl rfl)) fun a60 f60 => ?_
 refine L.mv f60 (hw := (f60.yes rfl rfl)) fun a61 f61 => ?_
 clear f56 a56 f57 a57 f58 a58 f59 a59 f60 a60
 refine f61.splitD 66 rfl (fun h3 f62 => ?_) (fun h3 f62 => ?_)
 ·refine L.sk f62 (f62.noF rfl rfl) fun a63 f63 => ?_
  refine L.sk f63 (f63.noF rfl rfl) fun a64 f64 => ?_
  refine L.sk f64 (f64.noF rfl rfl) fun a65 f65 => ?_
  refine L.va f65 (E.pickT f65 rfl rfl) (hw := (f65.yes rfl rfl)) fun a66 f66 => ?_
  refine L.va f66 (E.pickT f66 rfl rfl) fun a67 f67 => ?_
  refine L.mv f67 fun a68 f68 => ?_
  refine L.mv f68 (hw := (f68.yes rfl rfl)) fun a69 f69 => ?_
  clear f61 f62 a61 f63 a63 f64 a64 f65 a65 f66 a66 f67 a67 f68 a68
  refine L.cl f69 (run_call Tryd.call32 (args1 f69 rfl)) (left_any gs _ _ _ SS) ?_ (hw := (f69.yes rfl rfl))
  rintro e w8 ⟨kc8, rfl⟩
  refine ⟨_, rfl, fun a70 f70 => ?_⟩
  have szw8 := kc8.size
  replace HK := HK.trans kc8 (by simp)
  replace TT := TT.kept0 kc8
  replace SS := SS.kept0 kc8
  replace Fp := Fresh.kept0 Fp kc8
  replace Pp := PksO.kept0 Pp kc8
  replace FL := Fresh.kept0 FL kc8
  replace PL := PksO.kept0 PL kc8
  clear f69 a69 kc8
  refine L.mv f70 (hw := (f70.yes rfl rfl)) fun a71 f71 => ?_
  refine L.cl f71 (run_call Tryd.call32 (args1 f71 rfl)) (left_any gt _ _ _ TT) ?_ (hw := (f71.yes rfl rfl))
  clear f70 a70
  rintro e w9 ⟨kc9, rfl⟩
  refine ⟨_, rfl, fun a72 f72 => ?_⟩
  have szw9 := kc9.size
  replace HK := HK.trans kc9 (by simp)
  replace TT := TT.kept0 kc9
  replace SS := SS.kept0 kc9
  replace Fp := Fresh.kept0 Fp kc9
  replace Pp := PksO.kept0 Pp kc9
  replace FL := Fresh.kept0 FL kc9
  replace PL := PksO.kept0 PL kc9
  clear f71 a71 kc9
  refine L.va f72 (E.eq f72) (hw := (f72.yes rfl rfl)) fun a73 f73 => ?_
  have f74 := f73.as (i := 77) (v' := .bool true) rfl (by simp [hr])
  refine L.va f74 (E.pickT f74 rfl rfl) fun a75 f75 => ?_
  refine L.mv f75 fun a76 f76 => ?_
  refine L.mv f76 (hw := (f76.yes rfl rfl)) fun a77 f77 => ?_
  refine L.cl f77 (run_call Tryd.call33 (args1 f77 rfl)) (dead_any gs _ _ _ SS) ?_ (hw := (f77.yes rfl rfl))
  clear f72 a72 f73 f74 a73 f75 a75 f76 a76
  rintro e w10 ⟨kc10, rfl⟩
  refine ⟨_, rfl, fun a78 f78 => ?_⟩
  have szw10 := kc10.size
  replace HK := HK.trans kc10 (by simp)
  replace TT := TT.kept0 kc10
  replace SS := SS.kept0 kc10
  replace Fp := Fresh.kept0 Fp kc10
  replace Pp := PksO.kept0 Pp kc10
  replace FL := Fresh.kept0 FL kc10
  replace PL := PksO.kept0 PL kc10
  clear f77 a77 kc10
  refine L.mv f78 (hw := (f78.yes rfl rfl)) fun a79 f79 => ?_
  refine L.cl f79 (run_call Tryd.call33 (args1 f79 rfl)) (dead_any gt _ _ _ TT) ?_ (hw := (f79.yes rfl rfl))
  clear f78 a78
  rintro e w11 ⟨kc11, rfl⟩
  refine ⟨_, rfl, fun a80 f80 => ?_⟩
  have szw11 := kc11.size
  replace HK := HK.trans kc11 (by simp)
  replace TT := TT.kept0 kc11
  replace SS := SS.kept0 kc11
  replace Fp := Fresh.kept0 Fp kc11
  replace Pp := PksO.kept0 Pp kc11
  replace FL := Fresh.kept0 FL kc11
  replace PL := PksO.kept0 PL kc11
  clear f79 a79 kc11
  refine L.va f80 (E.eqlB f80 U4 rfl rfl) (hw := (f80.yes rfl rfl)) fun a81 f81 => ?_
  have f82 := f81.as (i := 84) (v' := .bool true) rfl (by simp [he])
  refine L.va f82 (E.pickT f82 rfl rfl) fun a83 f83 => ?_
  refine L.ag f83 fun a84 f84 => ?_
  refine wpList_nil (hK20 _ _ ?_)
  have f85 := f84.sub (sc 6 sn)
  refine wp_ret ?_
  try simp only [Exit.inBlock, Exit.then]
  refine C.ret (P := Tryd.prog) (fn := Tryd.f10) f85 rfl rfl ?_
  exact ⟨HK, rfl⟩
 refine L.mv f62 (hw := (f62.yes rfl rfl)) fun a63 f63 => ?_
 refine L.mv f63 (hw := (f63.yes rfl rfl)) fun a64 f64 => ?_
 refine L.va f64 (E.eq f64) (hw := (f64.yes rfl rfl)) fun a65 f65 => ?_
 have f66 := f65.as (i := 69) (v' := .bool true) rfl (by simp; omega)
 refine L.va f66 (E.pickF f66 rfl rfl) (hw := (f66.yes rfl rfl)) fun a67 f67 => ?_
 refine L.va f67 (E.pickT f67 rfl rfl) fun a68 f68 => ?_
 refine L.mv f68 fun a69 f69 => ?_
 clear f61 f62 a61 f63 a63 f64 a64 f65 f66 a65 f67 a67 f68 a68
 refine L.mv f69 (hw := (f69.yes rfl rfl)) fun a70 f70 => ?_
 refine L.cl f70 (run_call Tryd.call32 (args1 f70 rfl)) (left_any gs _ _ _ SS) ?_ (hw := (f70.yes rfl rfl))
 clear f69 a69
 rintro e w8 ⟨kc8, rfl⟩
 refine ⟨_, rfl, fun a71 f71 => ?_⟩
 have szw8 := kc8.size
 replace HK := HK.trans kc8 (by simp)
 replace TT := TT.kept0 kc8
 replace SS := SS.kept0 kc8
 replace Fp := Fresh.kept0 Fp kc8
 replace Pp := PksO.kept0 Pp kc8
 replace FL := Fresh.kept0 FL kc8
 replace PL := PksO.kept0 PL kc8
 clear f70 a70 kc8
 refine L.mv f71 (hw := (f71.yes rfl rfl)) fun a72 f72 => ?_
 refine L.cl f72 (run_call Tryd.call32 (args1 f72 rfl)) (left_any gt _ _ _ TT) ?_ (hw := (f72.yes rfl rfl))
 clear f71 a71
 rintro e w9 ⟨kc9, rfl⟩
 refine ⟨_, rfl, fun a73 f73 => ?_⟩
 have szw9 := kc9.size
 replace HK := HK.trans kc9 (by simp)
 replace TT := TT.kept0 kc9
 replace SS := SS.kept0 kc9
 replace Fp := Fresh.kept0 Fp kc9
 replace Pp := PksO.kept0 Pp kc9
 replace FL := Fresh.kept0 FL kc9
 replace PL := PksO.kept0 PL kc9
 clear f72 a72 kc9
 refine L.va f73 (E.eq f73) (hw := (f73.yes rfl rfl)) fun a74 f74 => ?_
 have f75 := f74.as (i := 77) (v' := .bool true) rfl (by simp [hr])
 refine L.va f75 (E.pickT f75 rfl rfl) fun a76 f76 => ?_
 refine L.mv f76 fun a77 f77 => ?_
 refine L.mv f77 (hw := (f77.yes rfl rfl)) fun a78 f78 => ?_
 refine L.cl f78 (run_call Tryd.call33 (args1 f78 rfl)) (dead_any gs _ _ _ SS) ?_ (hw := (f78.yes rfl rfl))
 clear f73 a73 f74 f75 a74 f76 a76 f77 a77
 rintro e w10 ⟨kc10, rfl⟩
 refine ⟨_, rfl, fun a79 f79 => ?_⟩
 have szw10 := kc10.size
 replace HK := HK.trans kc10 (by simp)
 replace TT := TT.kept0 kc10
 replace SS := SS.kept0 kc10
 replace Fp := Fresh.kept0 Fp kc10
 replace Pp := PksO.kept0 Pp kc10
 replace FL := Fresh.kept0 FL kc10
 replace PL := PksO.kept0 PL kc10
 clear f78 a78 kc10
 refine L.mv f79 (hw := (f79.yes rfl rfl)) fun a80 f80 => ?_
 refine L.cl f80 (run_call Tryd.call33 (args1 f80 rfl)) (dead_any gt _ _ _ TT) ?_ (hw := (f80.yes rfl rfl))
 clear f79 a79
 rintro e w11 ⟨kc11, rfl⟩
 refine ⟨_, rfl, fun a81 f81 => ?_⟩
 have szw11 := kc11.size
 replace HK := HK.trans kc11 (by simp)
 replace TT := TT.kept0 kc11
 replace SS := SS.kept0 kc11
 replace Fp := Fresh.kept0 Fp kc11
 replace Pp := PksO.kept0 Pp kc11
 replace FL := Fresh.kept0 FL kc11
 replace PL := PksO.kept0 PL kc11
 clear f80 a80 kc11
 refine L.va f81 (E.eqlB f81 U4 rfl rfl) (hw := (f81.yes rfl rfl)) fun a82 f82 => ?_
 have f83 := f82.as (i := 84) (v' := .bool true) rfl (by simp [he])
 refine L.va f83 (E.pickT f83 rfl rfl) fun a84 f84 => ?_
 refine L.ag f84 fun a85 f85 => ?_
 refine wpList_nil (hK20 _ _ ?_)
 have f86 := f85.sub (sc 6 sn)
 refine wp_ret ?_
 try simp only [Exit.inBlock, Exit.then]
 refine C.ret (P := Tryd.prog) (fn := Tryd.f10) f86 rfl rfl ?_
 exact ⟨HK, rfl⟩
end Go.Proofs.YtigjafbbnocihaaDoor
namespace Go.Proofs.YtigjafbbnocihaaDoor
open Go.RowKit Go.Hub Go.Lib Go.Shelf Go.ChangeShapes Go.WideShapes Go.Deep
theorem bd16s {k : Int} (h : (Lit.int .u16 k).wf = true) : 0 ≤ k ∧ k < 65536 := by have := bd_u16 h; omega
theorem left_row {k a b c cut : Int} {v : Value} {w : World} (hT : Tabs w) (w0 : (Lit.int .u8 k).wf = true) (w1 : (Lit.int .u8 a).wf = true) (w2 : (Lit.int .u8 b).wf = true) (w3 : (Lit.int .u8 c).wf = true) (h : IsBs w v) (w5 : (Lit.int .u16 cut).wf = true) : Calls Tryd.prog 12 #[.int .u8 k, .int .u8 a, .int .u8 b, .int .u8 c, v, .int .u16 cut] w fun e w' => e = .returned (.bool true) ∧ Below w.heap.size w w' := by
  obtain ⟨us, A, c', rfl, h, _⟩ := h
  exact (left_walk k a b c us A c' cut w hT h (bd8 w0) (bd8 w1) (bd8 w2) (bd8 w3) (bd16s w5)).mono fun _ _ => end_of
theorem parts_row {at_ : Int} {v0 v1 : Value} {w : World} (hT : Tabs w) (h0 : IsBs w v0) (h1 : IsBs w v1) (w2 : (Lit.int .u8 at_).wf = true) : Calls Tryd.prog 10 #[v0, v1, .int .u8 at_] w fun e w' => e = .returned (.bool true) ∧ Below w.heap.size w w' := by
  obtain ⟨ks, Ak, ck, rfl, h0, _⟩ := h0
  obtain ⟨us, A, c', rfl, h1, _⟩ := h1
  exact (parts_walk ks us at_ Ak A ck c' w hT h0 h1 (bd8 w2)).mono fun _ _ => end_of
end Go.Proofs.YtigjafbbnocihaaDoor
namespace Go.Hub
open Go.RowKit
theorem Fr.any {n : Nat} {a : Act} {l : FL} (f : Fr n a l) (d : Nat) (hd : d < n) : ∃ v, Fr n a ((d, v) :: l) := by
  have h : d < a.tmps.size := by rw [f.size]; exact hd
  refine ⟨a.tmps[d], f.defers, f.size, fun i u hi => ?_⟩
  unfold look at hi
  by_cases e : d = i
  · subst e
    simp at hi
    subst hi
    simp [h]
  have e2 : (d == i) = false := by simpa using e
  rw [e2] at hi
  exact f.slot i u hi
namespace Gp
def lst (L0 : Array Bool) (m : Nat) : Array Bool := ((List.range L0.size).map fun j => L0.getD j true || m.testBit j).toArray
def subs : List Nat → List Nat
  | [] => [0]
  | i :: r => subs r ++ (subs r).map (· ||| 2 ^ i)
def cnt (G : List Nat) (m : Nat) : Nat := (G.filter fun i => !m.testBit i).length
def closed (md : Region.Mode) (ops : Array Oper) (L0 : Array Bool) (G : List Nat) (m : Nat) : Bool :=
  G.all fun i => !m.testBit i || ((ops[i]?).map (·.after.all fun e => !Region.binds md e || (lst L0 m).getD e.on false)).getD false
def stepOk (md : Region.Mode) (ops : Array Oper) (L0 : Array Bool) (G : List Nat) (m i : Nat) : Bool :=
  G.contains i && closed md ops L0 G (m ||| 2 ^ i) && cnt G m == cnt G (m ||| 2 ^ i) + 1 && (subs G).contains (m ||| 2 ^ i) && (lst L0 m).setIfInBounds i true == lst L0 (m ||| 2 ^ i)
def okAt (md : Region.Mode) (ops : Array Oper) (L0 L1 : Array Bool) (G : List Nat) (m : Nat) : Bool :=
  !closed md ops L0 G m || (if cnt G m = 0 then lst L0 m == L1 else !(Region.ready md ops (lst L0 m)).isEmpty && (Region.ready md ops (lst L0 m)).all (stepOk md ops L0 G m))
def needs (md : Region.Mode) (ops : Array Oper) (L0 : Array Bool) (G : List Nat) (i j : Nat) : Bool :=
  (subs G).all fun m => !closed md ops L0 G m || !(Region.ready md ops (lst L0 m)).contains i || m.testBit j
def okAll (md : Region.Mode) (ops : Array Oper) (L0 L1 : Array Bool) (G : List Nat) : Bool := (subs G).all (okAt md ops L0 L1 G) && (subs G).contains 0 && closed md ops L0 G 0 && lst L0 0 == L0
section
variable {P : Program} {ops : Array Oper} {Q : Exit → Act → World → Prop} {md : Region.Mode} {S : World → Prop} {G : List Nat} {L0 L1 : Array Bool} {fuel m i j : Nat}
theorem other (h : i ≠ j) : (m ||| 2 ^ i).testBit j = m.testBit j := by
  rw [Nat.testBit_or, Nat.testBit_two_pow]
  simp [h]
theorem full (h : cnt G m = 0) : ∀ i ∈ G, m.testBit i = true := fun i hi => by
  unfold cnt at h
  have := List.eq_nil_of_length_eq_zero h
  rw [List.filter_eq_nil_iff] at this
  have := this i hi
  simpa using this
theorem need (h : needs md ops L0 G i j = true) (hm : m ∈ subs G) (hc : closed md ops L0 G m = true) (hi : i ∈ Region.ready md ops (lst L0 m)) : m.testBit j = true := by
  have h1 := List.all_eq_true.1 h m hm
  rw [hc] at h1
  have h2 : (Region.ready md ops (lst L0 m)).contains i = true := by simpa using hi
  rw [h2] at h1
  simpa using h1
theorem go (hc : (subs G).all (okAt md ops L0 L1 G) = true) (I : Nat → Act → World → Prop)
    (step : ∀ m i a w, m ∈ subs G → closed md ops L0 G m = true → i ∈ Region.ready md ops (lst L0 m) → i ∈ G → I m a w → wpOp P ops Q i (fun a' w' => S w' ∧ I (m ||| 2 ^ i) a' w') a w)
    (K : ∀ m a w, (∀ i ∈ G, m.testBit i = true) → I m a w → wpAnyH P md ops Q S fuel L1 a w) :
    ∀ n m a w, cnt G m = n → m ∈ subs G → closed md ops L0 G m = true → I m a w → wpAnyH P md ops Q S (fuel + n) (lst L0 m) a w
  | 0, m, a, w, hn, hm, hcl, hI => by
    have h := List.all_eq_true.1 hc m hm
    unfold okAt at h
    rw [hcl, if_pos hn] at h
    have e : lst L0 m = L1 := by simpa using h
    rw [e]
    exact K m a w (full hn) hI
  | n + 1, m, a, w, hn, hm, hcl, hI => by
    have h := List.all_eq_true.1 hc m hm
    unfold okAt at h
    rw [hcl, if_neg (by omega)] at h
    simp only [Bool.not_true, Bool.false_or, Bool.and_eq_true, Bool.not_eq_true', List.isEmpty_eq_false_iff] at h
    refine wpAnyH_all rfl h.1 fun i hi => ?_
    have hs := List.all_eq_true.1 h.2 i hi
    unfold stepOk at hs
    simp only [Bool.and_eq_true, beq_iff_eq] at hs
    obtain ⟨⟨⟨⟨h1, h2⟩, h3⟩, h4⟩, h5⟩ := hs
    refine wpOp_mono (fun a' w' h' => ⟨h'.1, ?_⟩) (step m i a w hm hcl hi (by simpa using h1) hI)
    rw [h5]
    exact go hc I step K n (m ||| 2 ^ i) a' w' (by omega) (by simpa using h4) h2 h'.2
theorem enter {fuel0 : Nat} {a : Act} {w : World} (I : Nat → Act → World → Prop) (hc : okAll md ops L0 L1 G = true) (hf : fuel0 = fuel + cnt G 0) (h0 : I 0 a w)
    (step : ∀ m i a w, m ∈ subs G → closed md ops L0 G m = true → i ∈ Region.ready md ops (lst L0 m) → i ∈ G → I m a w → wpOp P ops Q i (fun a' w' => S w' ∧ I (m ||| 2 ^ i) a' w') a w)
    (K : ∀ m a w, (∀ i ∈ G, m.testBit i = true) → I m a w → wpAnyH P md ops Q S fuel L1 a w) : wpAnyH P md ops Q S fuel0 L0 a w := by
  unfold okAll at hc
  simp only [Bool.and_eq_true, beq_iff_eq] at hc
  obtain ⟨⟨⟨h1, h2⟩, h3⟩, h4⟩ := hc
  have h := go (Q := Q) (S := S) (fuel := fuel) h1 I step K (cnt G 0) 0 a w rfl (by simpa using h2) h3 h0
  rw [h4] at h
  rw [hf]
  exact h
end
end Gp
end Go.Hub
namespace Go.Proofs.YtigjafbbnocihaaDoor
open Go.RowKit Go.Hub Go.Lib Go.Vl
theorem wzib5_yi : (Tryd.prog.info? 5).map (fun i => (i.zero, i.size, i.bytes)) = some (some (.int .u8 0), 1, 1) := by kernel_rfl
theorem wzi5_yi : (Tryd.prog.info? 5).map (fun i => (i.zero, i.size)) = some (some (.int .u8 0), 1) := by kernel_rfl
theorem wzi22_yi : (Tryd.prog.info? 22).map (fun i => (i.zero, i.size)) = some (some (.slice none 0 0), 1) := by kernel_rfl
theorem wbs22_1_yi (x0 : Int) : Instr.fill (fun i => some (i * 1, 1)) ((Array.range (1 * 1)).map fun j => (Value.cells (.int .u8 0))[j % (Value.cells (.int .u8 0)).size]!) [(0, .int .u8 x0)] = some #[.int .u8 x0] := by kernel_rfl
theorem wbs22_2_yi (x0 : Int) (x1 : Int) : Instr.fill (fun i => some (i * 1, 1)) ((Array.range (2 * 1)).map fun j => (Value.cells (.int .u8 0))[j % (Value.cells (.int .u8 0)).size]!) [(0, .int .u8 x0), (1, .int .u8 x1)] = some #[.int .u8 x0, .int .u8 x1] := by kernel_rfl
theorem wbs22_3_yi (x0 : Int) (x1 : Int) (x2 : Int) : Instr.fill (fun i => some (i * 1, 1)) ((Array.range (3 * 1)).map fun j => (Value.cells (.int .u8 0))[j % (Value.cells (.int .u8 0)).size]!) [(0, .int .u8 x0), (1, .int .u8 x1), (2, .int .u8 x2)] = some #[.int .u8 x0, .int .u8 x1, .int .u8 x2] := by kernel_rfl
theorem wbs22_5_yi (x0 : Int) (x1 : Int) (x2 : Int) (x3 : Int) (x4 : Int) : Instr.fill (fun i => some (i * 1, 1)) ((Array.range (5 * 1)).map fun j => (Value.cells (.int .u8 0))[j % (Value.cells (.int .u8 0)).size]!) [(0, .int .u8 x0), (1, .int .u8 x1), (2, .int .u8 x2), (3, .int .u8 x3), (4, .int .u8 x4)] = some #[.int .u8 x0, .int .u8 x1, .int .u8 x2, .int .u8 x3, .int .u8 x4] := by kernel_rfl
theorem wbs45_6_yi (x0 : Option Addr) (y0 z0 : Nat) (x1 : Option Addr) (y1 z1 : Nat) (x2 : Option Addr) (y2 z2 : Nat) (x3 : Option Addr) (y3 z3 : Nat) (x4 : Option Addr) (y4 z4 : Nat) (x5 : Option Addr) (y5 z5 : Nat) : Instr.fill (fun i => some (i * 1, 1)) ((Array.range (6 * 1)).map fun j => (Value.cells (.slice none 0 0))[j % (Value.cells (.slice none 0 0)).size]!) [(0, .slice x0 y0 z0), (1, .slice x1 y1 z1), (2, .slice x2 y2 z2), (3, .slice x3 y3 z3), (4, .slice x4 y4 z4), (5, .slice x5 y5 z5)] = some #[.slice x0 y0 z0, .slice x1 y1 z1, .slice x2 y2 z2, .slice x3 y3 z3, .slice x4 y4 z4, .slice x5 y5 z5] := by kernel_rfl
theorem wsz22_yi : (Tryd.prog.info? 22).map (·.size) = some 1 := by kernel_rfl
def bads : List (List UInt8) := [[240, 0], [0], [54, 0], [192, 1, 0], [48, 255, 255, 255, 255], [48, 255, 127]]
def badK (k : Int) : List UInt8 := bads.getD (k % 6).toNat []
def errK (k : Int) : Int := if k % 6 = 5 then 22 else 21
theorem errK_ne (k : Int) : ¬ errK k = 0 := by unfold errK; split <;> decide
theorem six {k : Int} (hk : 0 ≤ k) : ∃ i : Nat, k % 6 = i ∧ i < 6 := ⟨(k % 6).toNat, by omega, by omega⟩
theorem badK_len (k : Int) : (badK k).length ≤ 5 := by
  unfold badK
  have h : ∀ i : Nat, (bads.getD i []).length ≤ 5 := fun i => by
    match i with
    | 0 | 1 | 2 | 3 | 4 | 5 => decide
    | n + 6 => simp [bads]
  exact h _
theorem hb0 : (readP [240, 0]).2.2 = 21 := by kernel_rfl
theorem hb1 : (readP [0]).2.2 = 21 := by kernel_rfl
theorem hb2 : (readP [54, 0]).2.2 = 21 := by kernel_rfl
theorem hb3 : (readP [192, 1, 0]).2.2 = 21 := by kernel_rfl
theorem hb4 : (readP [48, 255, 255, 255, 255]).2.2 = 21 := by kernel_rfl
theorem hb5 : (readP [48, 255, 127]).2.2 = 22 := by kernel_rfl
theorem bad_read (k : Int) (hk : 0 ≤ k) : (readP (badK k)).2.2 = errK k := by
  obtain ⟨i, hi, h6⟩ := six hk
  unfold badK errK
  rw [hi, Int.toNat_natCast]
  match i, h6 with
  | 0, _ => exact hb0
  | 1, _ => exact hb1
  | 2, _ => exact hb2
  | 3, _ => exact hb3
  | 4, _ => exact hb4
  | 5, _ => exact hb5
theorem feed_dies (ks : List UInt8) (k : Int) (hk : 0 ≤ k ∧ k < 256) : feedS ([], 0) (someN ks [] 0 ks.length ++ badK k) = ((List.range ks.length).map (pkN ks []), [], errK k) := by
  rw [feedS0, someN_flat, feed_encs _ _ (fun p hp => by
    obtain ⟨i, _, rfl⟩ := List.mem_map.1 hp
    exact pkN_right ks [] i (by simp))]
  have h := bad_read k hk.1
  have hE := errK_ne k
  have hE2 : errK k ≠ 20 := by unfold errK; split <;> decide
  rw [feedL_err (by rw [h]; exact hE) (by rw [h]; exact hE2), h]
  simp
theorem feed_dead {k : Int} (b : List UInt8) : feedS ([], errK k) b = ([], [], errK k) := by
  unfold feedS
  rw [if_neg (errK_ne k)]
def PhiS (w : World) (ks : List UInt8) (v : Value) (W : World) : Prop := ∃ A c, v = .slice A (someN ks [] 0 ks.length).length c ∧ FB w W A c (someN ks [] 0 ks.length)
def PhiB (l : List UInt8) (n : Nat) (v : Value) (W : World) : Prop := ∃ g, v = .slice (some ⟨g, 0, none⟩) n n ∧ Sl W (some ⟨g, 0, none⟩) n 1 (l.map u8)
def Phi8 (v : Value) (W : World) : Prop := ∃ g, v = .slice (some ⟨g, 0, none⟩) 6 6 ∧ ∃ R : List (Nat × List UInt8), R.map (·.2) = bads ∧ Sl W (some ⟨g, 0, none⟩) 6 1 (R.map fun r => .slice (some ⟨r.1, 0, none⟩) r.2.length r.2.length) ∧ ∀ r ∈ R, Sl W (some ⟨r.1, 0, none⟩) r.2.length 1 (r.2.map u8)
def Phi11 (l : List UInt8) (v : Value) (W : World) : Prop := ∃ b o g, v = .pointer (some ⟨b, o, none⟩) ∧ W.cell? ⟨b, o, none⟩ = some (.slice (some ⟨g, 0, none⟩) l.length l.length) ∧ Sl W (some ⟨g, 0, none⟩) l.length 1 (l.map u8)
def Phi12 (l : List UInt8) (v : Value) (W : World) : Prop := ∃ A c, v = .slice A l.length c ∧ Sl W A l.length 1 (l.map u8)
section
variable {w W W' : World} {ks l : List UInt8} {n : Nat} {v : Value}
theorem PhiS.kept (h : PhiS w ks v W) (hk : Kept [] W W') : PhiS w ks v W' := by
  obtain ⟨A, c, e, f⟩ := h
  exact ⟨A, c, e, f.kept0 hk⟩
theorem PhiB.kept (h : PhiB l n v W) (hk : Kept [] W W') : PhiB l n v W' := by
  obtain ⟨g, e, s⟩ := h
  exact ⟨g, e, s.kept hk⟩
theorem Phi8.kept (h : Phi8 v W) (hk : Kept [] W W') : Phi8 v W' := by
  obtain ⟨g, e, R, h1, h2, h3⟩ := h
  exact ⟨g, e, R, h1, h2.kept hk, fun r hr => (h3 r hr).kept hk⟩
theorem cell_kept {a : Addr} {u : Value} (h : W.cell? a = some u) (hk : Kept [] W W') : W'.cell? a = some u := (World.cell?_of_block (hk.block a.block (World.block_lt_of_cell? W a h) (by simp))).trans h
theorem Phi11.kept (h : Phi11 l v W) (hk : Kept [] W W') : Phi11 l v W' := by
  obtain ⟨b, o, g, e, h1, h2⟩ := h
  exact ⟨b, o, g, e, cell_kept h1 hk, h2.kept hk⟩
theorem Phi12.kept (h : Phi12 l v W) (hk : Kept [] W W') : Phi12 l v W' := by
  obtain ⟨A, c, e, s⟩ := h
  exact ⟨A, c, e, s.kept hk⟩
end
theorem STR.keptNil {w W : World} {g k c : Nat} {t : TypeId} {er : Int} {A : Option Addr} {xs : List Value} (h : STR w g t [] er) (hk : Kept (Value.slice A k c).ownBlock.toList w W) (o : Own w 5 1 (.slice A k c) k xs) (ht : t ≠ 5 := by decide) : STR W g t [] er := by
  obtain ⟨A0, c0, b, s, hc⟩ := h
  exact ⟨A0, c0, b.kept hk (own_ne o b ht), Bs.nil _ _ _ _, hc⟩
theorem six_all {W : World} {g0 g1 g2 g3 g4 g5 : Nat} {l0 l1 l2 l3 l4 l5 : List UInt8} (h0 : Sl W (some ⟨g0, 0, none⟩) l0.length 1 (l0.map u8)) (h1 : Sl W (some ⟨g1, 0, none⟩) l1.length 1 (l1.map u8)) (h2 : Sl W (some ⟨g2, 0, none⟩) l2.length 1 (l2.map u8)) (h3 : Sl W (some ⟨g3, 0, none⟩) l3.length 1 (l3.map u8)) (h4 : Sl W (some ⟨g4, 0, none⟩) l4.length 1 (l4.map u8)) (h5 : Sl W (some ⟨g5, 0, none⟩) l5.length 1 (l5.map u8)) :
    ∀ r ∈ [(g0, l0), (g1, l1), (g2, l2), (g3, l3), (g4, l4), (g5, l5)], Sl W (some ⟨r.1, 0, none⟩) r.2.length 1 (r.2.map u8) := fun r hr => by
  simp only [List.mem_cons, List.not_mem_nil, or_false] at hr
  rcases hr with rfl | rfl | rfl | rfl | rfl | rfl <;> assumption
theorem bad_at {R : List (Nat × List UInt8)} {k : Int} (hR : R.map (·.2) = bads) (hk : 0 ≤ k) : ∃ d, R[(k % 6).toNat]? = some d ∧ d.2 = badK k := by
  have hl : R.length = 6 := by have := congrArg List.length hR; simpa [bads] using this
  obtain ⟨d, hd⟩ := some_at R (k % 6).toNat (by omega)
  refine ⟨d, hd, ?_⟩
  have h := congrArg (fun q => q[(k % 6).toNat]?) hR
  simp only [List.getElem?_map, hd, Option.map_some] at h
  unfold badK
  rw [List.getD_eq_getElem?_getD, ← h]
  rfl
theorem bad_cell {W : World} {g : Nat} {R : List (Nat × List UInt8)} {k : Int} {d : Nat × List UInt8} (S : Sl W (some ⟨g, 0, none⟩) 6 1 (R.map fun r => .slice (some ⟨r.1, 0, none⟩) r.2.length r.2.length)) (hd : R[(k % 6).toNat]? = some d) : W.cell? ⟨g, 0 + (k % 6).toNat * 1, none⟩ = some (.slice (some ⟨d.1, 0, none⟩) d.2.length d.2.length) := by
  rw [Nat.mul_one]
  exact S.cell (by omega) rfl (by simp [hd])
set_option maxRecDepth 100000 in
set_option maxHeartbeats 4000000 in
theorem dies_walk (ks : List UInt8) (k : Int) (more : List UInt8) (Ak A : Option Addr) (ck c0_ : Nat) (w : World) (hT : Tabs w) (SK : Sl w Ak ks.length 1 (ks.map u8)) (hk : 0 ≤ k ∧ k < 256) (SM : Sl w A more.length 1 (more.map u8)) : Calls Tryd.prog 11 #[.slice Ak ks.length ck, .int .u8 k, .slice A more.length c0_] w (fun e w' => Kept [] w w' ∧ e = .returned (.bool true)) := by
 have HK : Kept [] w w := Kept.refl [] w
 have hT2 := hT.size
 have hE0 := errK_ne k
 refine C.enter Tryd.func11 rfl Tryd.ntmps11 rfl ?_
 intro a0 f0
 have f1 : Fr 100 a0 [(0, .slice Ak ks.length ck), (1, .int .u8 k), (2, .slice A more.length c0_)] := f0
 refine C.sk fun K0 hK0 => ?_
 refine L.ag f1 fun a2 f2 => ?_
 refine wpList_nil (hK0 _ _ ?_)
 have f3 := f2.sub (sc 0 (sc 1 (sc 2 sn)))
 refine wp_seq_k fun K1 hK1 => ?_
 refine C.sk fun K2 hK2 => ?_
 refine L.cl f3 (run_call Tryd.call26 (args0 f3)) (known5_any _ (hT.old (HK.below (by simp) (Nat.le_refl _)))) ?_
 clear f0 f1 a0 f2
 rintro e w1 ⟨kc1, rfl⟩
 refine ⟨_, rfl, fun a4 f4 => ?_⟩
 have szw1 := kc1.size
 replace HK := HK.trans kc1 (by simp)
 clear f3 a2 kc1
 refine L.va f4 (E.not f4 rfl) fun a5 f5 => ?_
 refine wpList_nil (hK2 _ _ ?_)
 have f6 := f5.sub (sc 0 (sc 1 (sc 2 (sc 17 sn))))
 refine C.condF f6 rfl ?_
 refine wp_skip (hK1 _ _ ?_)
 have f7 := f6.sub (sc 0 (sc 1 (sc 2 sn)))
 refine wp_seq_k fun K3 hK3 => ?_
 refine C.sk fun K4 hK4 => ?_
 refine L.mv f7 fun a8 f8 => ?_
 refine L.va f8 (E.lenL f8 U22 rfl) fun a9 f9 => ?_
 refine L.va f9 (E.gtr f9 rfl rfl) fun a10 f10 => ?_
 refine L.mv f10 fun a11 f11 => ?_
 clear f4 a4 f5 f6 f7 a5 f8 a8 f9 a9 f10 a10
 refine f11.splitD 21 rfl (fun h0 f12 => ?_) (fun h0 f12 => ?_)
 ·refine L.run f12 (rest' := []) (by kernel_rfl) fun a13 f13 => ?_
  clear f11
  skip
  refine wpList_nil (hK4 _ _ ?_)
  have f14 := f13.sub (sub_cons (i := 0) (Fr.kept f13 (by kernel_rfl) rfl) (sub_cons (i := 1) (Fr.kept f13 (by kernel_rfl) rfl) (sub_cons (i := 2) (Fr.kept f13 (by kernel_rfl) rfl) (sub_cons (i := 25) (v := .bool true) (by kernel_rfl) sn))))
  refine C.condT f14 rfl ?_
  refine C.sk fun K5 hK5 => ?_
  refine L.ag f14 fun a15 f15 => ?_
  refine wpList_nil (hK5 _ _ ?_)
  have f16 := f15.sub (sc 6 sn)
  refine wp_ret ?_
  try simp only [Exit.inBlock, Exit.then]
  refine C.ret (P := Tryd.prog) (fn := Tryd.f11) f16 rfl rfl ?_
  exact ⟨HK, rfl⟩
 refine L.mv f12 (hw := (f12.yes rfl rfl)) fun a13 f13 => ?_
 refine L.va f13 (E.lenL f13 U22 rfl) (hw := (f13.yes rfl rfl)) fun a14 f14 => ?_
 refine L.va f14 (E.gtr f14 rfl rfl) (hw := (f14.yes rfl rfl)) fun a15 f15 => ?_
 refine L.va f15 (E.pickF f15 rfl rfl) fun a16 f16 => ?_
 refine wpList_nil (hK4 _ _ ?_)
 have f17 := f16.sub (sc 0 (sc 1 (sc 2 (sc 25 sn))))
 clear f11 f12 a11 f13 a13 f14 a14 f15 a15 f16
 refine f17.splitD 25 rfl (fun h1 f18 => ?_) (fun h1 f18 => ?_)
 ·refine C.condT f18 rfl ?_
  refine C.sk fun K6 hK6 => ?_
  refine L.ag f18 fun a19 f19 => ?_
  refine wpList_nil (hK6 _ _ ?_)
  have f20 := f19.sub (sc 6 sn)
  refine wp_ret ?_
  try simp only [Exit.inBlock, Exit.then]
  refine C.ret (P := Tryd.prog) (fn := Tryd.f11) f20 rfl rfl ?_
  exact ⟨HK, rfl⟩
 refine C.condF f18 rfl ?_
 refine wp_skip (hK3 _ _ ?_)
 have f19 := f18.sub (sc 0 (sc 1 (sc 2 sn)))
 refine C.sk fun K7 hK7 => ?_
 refine L.cl f19 (run_call Tryd.call28 (args0 f19)) (new_any _) ?_
 clear f17 f18
 rintro e w2 ⟨kc2, gs, rfl, logs, SS⟩
 have szk := HK.size
 have frgs : w.heap.size ≤ gs := by omega
 refine ⟨_, rfl, fun a20 f20 => ?_⟩
 have szw2 := kc2.size
 replace HK := HK.trans kc2 (by simp)
 clear f19 a16 kc2
 refine L.ag f20 fun a21 f21 => ?_
 refine wpList_nil (hK7 _ _ ?_)
 have f22 := f21.sub (sc 0 (sc 1 (sc 2 (sc 7 sn))))
 refine wp_seq_k fun K8 hK8 => ?_
 have hd6 : Kept [] w2 (w2.drewN 1) := (Kept.refl _ _).drewN 1
 refine R.beginT (S := fun _ => True) (by kernel_rfl) (by kernel_rfl) trivial fun ht => ?_
 obtain ⟨w3, hww3⟩ : ∃ W, W = w2.drewN 1 := ⟨_, rfl⟩
 rw [← hww3] at hd6 ⊢
 clear f20 a20 f21 hww3
 have szw3 := hd6.size
 replace HK := HK.trans hd6 (by simp)
 replace SS := SS.kept0 hd6
 clear hd6
 refine R.u 0 f22 rfl ht trivial (fun W hW => (E.move f22 rfl)) fun a23 f23 => ?_
 refine R.u 9 f23 rfl ht trivial (fun W hW => (E.move f23 rfl)) fun a24 f24 => ?_
 refine R.u 10 f24 rfl ht trivial (fun W hW => (E.rem f24 rfl rfl (by omega) (Int.tmod_eq_emod_of_nonneg (by omega)))) fun a25 f25 => ?_
 clear f22 a21 f23 a23 f24 a24
 refine Gp.enter (G := [1, 2, 3, 4, 5, 6, 7, 8, 11, 12]) (L0 := #[true, false, false, false, false, false, false, false, false, true, true, false, false, false, false]) (L1 := #[true, true, true, true, true, true, true, true, true, true, true, true, true, false, false]) (fuel := 2) (fun m a W => ∃ v28 v29 v30 v31 v32 v33 v34 v35 v38 v39 : Value, Fr 100 a [(0, .slice Ak ks.length ck), (1, .int .u8 k), (2, .slice A more.length c0_), (7, .pointer (some ⟨gs, 0, none⟩)), (27, .slice Ak ks.length ck), (37, .int .u8 (k % 6)), (28, v28), (29, v29), (30, v30), (31, v31), (32, v32), (33, v33), (34, v34), (35, v35), (38, v38), (39, v39)] ∧ (Kept [] w W) ∧ (STR W gs 102 [] 0) ∧ (m.testBit 1 = true → PhiS w ks v28 W) ∧ (m.testBit 2 = true → PhiB [240, 0] 2 v29 W) ∧ (m.testBit 3 = true → PhiB [0] 1 v30 W) ∧ (m.testBit 4 = true → PhiB [54, 0] 2 v31 W) ∧ (m.testBit 5 = true → PhiB [192, 1, 0] 3 v32 W) ∧ (m.testBit 6 = true → PhiB [48, 255, 255, 255, 255] 5 v33 W) ∧ (m.testBit 7 = true → PhiB [48, 255, 127] 3 v34 W) ∧ (m.testBit 8 = true → Phi8 v35 W) ∧ (m.testBit 11 = true → Phi11 (badK k) v38 W) ∧ (m.testBit 12 = true → Phi12 (badK k) v39 W)) (by kernel_rfl) (by kernel_rfl) ?_ ?_ ?_
 ·obtain ⟨v28, f26⟩ := f25.any 28 (by decide)
  obtain ⟨v29, f27⟩ := f26.any 29 (by decide)
  obtain ⟨v30, f28⟩ := f27.any 30 (by decide)
  obtain ⟨v31, f29⟩ := f28.any 31 (by decide)
  obtain ⟨v32, f30⟩ := f29.any 32 (by decide)
  obtain ⟨v33, f31⟩ := f30.any 33 (by decide)
  obtain ⟨v34, f32⟩ := f31.any 34 (by decide)
  obtain ⟨v35, f33⟩ := f32.any 35 (by decide)
  obtain ⟨v38, f34⟩ := f33.any 38 (by decide)
  obtain ⟨v39, f35⟩ := f34.any 39 (by decide)
  exact ⟨v28, v29, v30, v31, v32, v33, v34, v35, v38, v39, f35.sub (sub_cons rfl (sub_cons rfl (sub_cons rfl (sub_cons rfl (sub_cons rfl (sub_cons rfl (sub_cons rfl (sub_cons rfl (sub_cons rfl (sub_cons rfl (sub_cons rfl (sub_cons rfl (sub_cons rfl (sub_cons rfl (sub_cons rfl (sub_cons rfl sn)))))))))))))))), HK, SS, fun q => absurd q (by simp), fun q => absurd q (by simp), fun q => absurd q (by simp), fun q => absurd q (by simp), fun q => absurd q (by simp), fun q => absurd q (by simp), fun q => absurd q (by simp), fun q => absurd q (by simp), fun q => absurd q (by simp), fun q => absurd q (by simp)⟩
 ·intro m i_ a26 w4 hm hcl hi hG hI
  obtain ⟨v28, v29, v30, v31, v32, v33, v34, v35, v38, v39, f26, HK, SS, P1, P2, P3, P4, P5, P6, P7, P8, P11, P12⟩ := hI
  simp only [List.mem_cons, List.not_mem_nil, or_false] at hG
  rcases hG with rfl | rfl | rfl | rfl | rfl | rfl | rfl | rfl | rfl | rfl
  ·skip
   refine O.call f26 rfl rfl (by decide) wantedN (run_call Tryd.call27 (args3 f26 rfl rfl rfl)) (some_any ks [] 0 Ak none ck 0 _ (hT.old (HK.below (by simp) (Nat.le_refl _))) (SK.kept HK) (Sl.nil _ _ _) (by omega) (by simp) (by omega)) ?_
   rintro e w5 ⟨kc5, A28, c28, rfl, F28⟩
   have szk := HK.size
   replace F28 := FB.lower F28 szk
   refine ⟨_, rfl, trivial, fun a27 f27 => ?_⟩
   have szw5 := kc5.size
   replace HK := HK.trans kc5 (by simp)
   replace SS := SS.kept0 kc5
   replace P1 := fun q => (P1 q).kept kc5
   replace P2 := fun q => (P2 q).kept kc5
   replace P3 := fun q => (P3 q).kept kc5
   replace P4 := fun q => (P4 q).kept kc5
   replace P5 := fun q => (P5 q).kept kc5
   replace P6 := fun q => (P6 q).kept kc5
   replace P7 := fun q => (P7 q).kept kc5
   replace P8 := fun q => (P8 q).kept kc5
   replace P11 := fun q => (P11 q).kept kc5
   replace P12 := fun q => (P12 q).kept kc5
   clear f26 a26 kc5
   exact ⟨_, _, _, _, _, _, _, _, _, _, f27.sub (sub_cons rfl (sub_cons rfl (sub_cons rfl (sub_cons rfl (sub_cons rfl (sub_cons rfl (sub_cons rfl (sub_cons rfl (sub_cons rfl (sub_cons rfl (sub_cons rfl (sub_cons rfl (sub_cons rfl (sub_cons rfl (sub_cons rfl (sub_cons rfl sn)))))))))))))))), HK, SS, fun _ => ⟨A28, c28, rfl, F28⟩, fun q => P2 (by rwa [Gp.other (by decide)] at q), fun q => P3 (by rwa [Gp.other (by decide)] at q), fun q => P4 (by rwa [Gp.other (by decide)] at q), fun q => P5 (by rwa [Gp.other (by decide)] at q), fun q => P6 (by rwa [Gp.other (by decide)] at q), fun q => P7 (by rwa [Gp.other (by decide)] at q), fun q => P8 (by rwa [Gp.other (by decide)] at q), fun q => P11 (by rwa [Gp.other (by decide)] at q), fun q => P12 (by rwa [Gp.other (by decide)] at q)⟩
  ·skip
   refine O.buildSlice f26 rfl wantedN (by decide) (parts2 f26 rfl rfl) U22 wzi5_yi rfl rfl (wbs22_2_yi _ _) (fun _ _ => trivial) fun a27 w5 g4 N4 hSn f27 => ?_
   clear hSn
   have Bg4 := N4.blk
   have kg4 := N4.kept
   have log4 := N4.lo
   have ltg4 := Bg4.lt
   have szw5 := kg4.size
   have frg4 : w.heap.size ≤ g4 := Nat.le_trans HK.size log4
   have nesg4_gs : g4 ≠ gs := by have := SS.lt; omega
   replace HK := HK.trans kg4 (by simp)
   replace SS := SS.kept0 kg4
   replace P1 := fun q => (P1 q).kept kg4
   replace P2 := fun q => (P2 q).kept kg4
   replace P3 := fun q => (P3 q).kept kg4
   replace P4 := fun q => (P4 q).kept kg4
   replace P5 := fun q => (P5 q).kept kg4
   replace P6 := fun q => (P6 q).kept kg4
   replace P7 := fun q => (P7 q).kept kg4
   replace P8 := fun q => (P8 q).kept kg4
   replace P11 := fun q => (P11 q).kept kg4
   replace P12 := fun q => (P12 q).kept kg4
   clear N4 kg4
   exact ⟨_, _, _, _, _, _, _, _, _, _, f27.sub (sub_cons rfl (sub_cons rfl (sub_cons rfl (sub_cons rfl (sub_cons rfl (sub_cons rfl (sub_cons rfl (sub_cons rfl (sub_cons rfl (sub_cons rfl (sub_cons rfl (sub_cons rfl (sub_cons rfl (sub_cons rfl (sub_cons rfl (sub_cons rfl sn)))))))))))))))), HK, SS, fun q => P1 (by rwa [Gp.other (by decide)] at q), fun _ => ⟨g4, rfl, sl_lit Bg4 [240, 0] rfl⟩, fun q => P3 (by rwa [Gp.other (by decide)] at q), fun q => P4 (by rwa [Gp.other (by decide)] at q), fun q => P5 (by rwa [Gp.other (by decide)] at q), fun q => P6 (by rwa [Gp.other (by decide)] at q), fun q => P7 (by rwa [Gp.other (by decide)] at q), fun q => P8 (by rwa [Gp.other (by decide)] at q), fun q => P11 (by rwa [Gp.other (by decide)] at q), fun q => P12 (by rwa [Gp.other (by decide)] at q)⟩
  ·skip
   refine O.buildSlice f26 rfl wantedN (by decide) (parts1 f26 rfl) U22 wzi5_yi rfl rfl (wbs22_1_yi _) (fun _ _ => trivial) fun a27 w5 g4 N4 hSn f27 => ?_
   clear hSn
   have Bg4 := N4.blk
   have kg4 := N4.kept
   have log4 := N4.lo
   have ltg4 := Bg4.lt
   have szw5 := kg4.size
   have frg4 : w.heap.size ≤ g4 := Nat.le_trans HK.size log4
   have nesg4_gs : g4 ≠ gs := by have := SS.lt; omega
   replace HK := HK.trans kg4 (by simp)
   replace SS := SS.kept0 kg4
   replace P1 := fun q => (P1 q).kept kg4
   replace P2 := fun q => (P2 q).kept kg4
   replace P3 := fun q => (P3 q).kept kg4
   replace P4 := fun q => (P4 q).kept kg4
   replace P5 := fun q => (P5 q).kept kg4
   replace P6 := fun q => (P6 q).kept kg4
   replace P7 := fun q => (P7 q).kept kg4
   replace P8 := fun q => (P8 q).kept kg4
   replace P11 := fun q => (P11 q).kept kg4
   replace P12 := fun q => (P12 q).kept kg4
   clear N4 kg4
   exact ⟨_, _, _, _, _, _, _, _, _, _, f27.sub (sub_cons rfl (sub_cons rfl (sub_cons rfl (sub_cons rfl (sub_cons rfl (sub_cons rfl (sub_cons rfl (sub_cons rfl (sub_cons rfl (sub_cons rfl (sub_cons rfl (sub_cons rfl (sub_cons rfl (sub_cons rfl (sub_cons rfl (sub_cons rfl sn)))))))))))))))), HK, SS, fun q => P1 (by rwa [Gp.other (by decide)] at q), fun q => P2 (by rwa [Gp.other (by decide)] at q), fun _ => ⟨g4, rfl, sl_lit Bg4 [0] rfl⟩, fun q => P4 (by rwa [Gp.other (by decide)] at q), fun q => P5 (by rwa [Gp.other (by decide)] at q), fun q => P6 (by rwa [Gp.other (by decide)] at q), fun q => P7 (by rwa [Gp.other (by decide)] at q), fun q => P8 (by rwa [Gp.other (by decide)] at q), fun q => P11 (by rwa [Gp.other (by decide)] at q), fun q => P12 (by rwa [Gp.other (by decide)] at q)⟩
  ·skip
   refine O.buildSlice f26 rfl wantedN (by decide) (parts2 f26 rfl rfl) U22 wzi5_yi rfl rfl (wbs22_2_yi _ _) (fun _ _ => trivial) fun a27 w5 g4 N4 hSn f27 => ?_
   clear hSn
   have Bg4 := N4.blk
   have kg4 := N4.kept
   have log4 := N4.lo
   have ltg4 := Bg4.lt
   have szw5 := kg4.size
   have frg4 : w.heap.size ≤ g4 := Nat.le_trans HK.size log4
   have nesg4_gs : g4 ≠ gs := by have := SS.lt; omega
   replace HK := HK.trans kg4 (by simp)
   replace SS := SS.kept0 kg4
   replace P1 := fun q => (P1 q).kept kg4
   replace P2 := fun q => (P2 q).kept kg4
   replace P3 := fun q => (P3 q).kept kg4
   replace P4 := fun q => (P4 q).kept kg4
   replace P5 := fun q => (P5 q).kept kg4
   replace P6 := fun q => (P6 q).kept kg4
   replace P7 := fun q => (P7 q).kept kg4
   replace P8 := fun q => (P8 q).kept kg4
   replace P11 := fun q => (P11 q).kept kg4
   replace P12 := fun q => (P12 q).kept kg4
   clear N4 kg4
   exact ⟨_, _, _, _, _, _, _, _, _, _, f27.sub (sub_cons rfl (sub_cons rfl (sub_cons rfl (sub_cons rfl (sub_cons rfl (sub_cons rfl (sub_cons rfl (sub_cons rfl (sub_cons rfl (sub_cons rfl (sub_cons rfl (sub_cons rfl (sub_cons rfl (sub_cons rfl (sub_cons rfl (sub_cons rfl sn)))))))))))))))), HK, SS, fun q => P1 (by rwa [Gp.other (by decide)] at q), fun q => P2 (by rwa [Gp.other (by decide)] at q), fun q => P3 (by rwa [Gp.other (by decide)] at q), fun _ => ⟨g4, rfl, sl_lit Bg4 [54, 0] rfl⟩, fun q => P5 (by rwa [Gp.other (by decide)] at q), fun q => P6 (by rwa [Gp.other (by decide)] at q), fun q => P7 (by rwa [Gp.other (by decide)] at q), fun q => P8 (by rwa [Gp.other (by decide)] at q), fun q => P11 (by rwa [Gp.other (by decide)] at q), fun q => P12 (by rwa [Gp.other (by decide)] at q)⟩
  ·skip
   refine O.buildSlice f26 rfl wantedN (by decide) (parts3 f26 rfl rfl rfl) U22 wzi5_yi rfl rfl (wbs22_3_yi _ _ _) (fun _ _ => trivial) fun a27 w5 g4 N4 hSn f27 => ?_
   clear hSn
   have Bg4 := N4.blk
   have kg4 := N4.kept
   have log4 := N4.lo
   have ltg4 := Bg4.lt
   have szw5 := kg4.size
   have frg4 : w.heap.size ≤ g4 := Nat.le_trans HK.size log4
   have nesg4_gs : g4 ≠ gs := by have := SS.lt; omega
   replace HK := HK.trans kg4 (by simp)
   replace SS := SS.kept0 kg4
   replace P1 := fun q => (P1 q).kept kg4
   replace P2 := fun q => (P2 q).kept kg4
   replace P3 := fun q => (P3 q).kept kg4
   replace P4 := fun q => (P4 q).kept kg4
   replace P5 := fun q => (P5 q).kept kg4
   replace P6 := fun q => (P6 q).kept kg4
   replace P7 := fun q => (P7 q).kept kg4
   replace P8 := fun q => (P8 q).kept kg4
   replace P11 := fun q => (P11 q).kept kg4
   replace P12 := fun q => (P12 q).kept kg4
   clear N4 kg4
   exact ⟨_, _, _, _, _, _, _, _, _, _, f27.sub (sub_cons rfl (sub_cons rfl (sub_cons rfl (sub_cons rfl (sub_cons rfl (sub_cons rfl (sub_cons rfl (sub_cons rfl (sub_cons rfl (sub_cons rfl (sub_cons rfl (sub_cons rfl (sub_cons rfl (sub_cons rfl (sub_cons rfl (sub_cons rfl sn)))))))))))))))), HK, SS, fun q => P1 (by rwa [Gp.other (by decide)] at q), fun q => P2 (by rwa [Gp.other (by decide)] at q), fun q => P3 (by rwa [Gp.other (by decide)] at q), fun q => P4 (by rwa [Gp.other (by decide)] at q), fun _ => ⟨g4, rfl, sl_lit Bg4 [192, 1, 0] rfl⟩, fun q => P6 (by rwa [Gp.other (by decide)] at q), fun q => P7 (by rwa [Gp.other (by decide)] at q), fun q => P8 (by rwa [Gp.other (by decide)] at q), fun q => P11 (by rwa [Gp.other (by decide)] at q), fun q => P12 (by rwa [Gp.other (by decide)] at q)⟩
  ·skip
   refine O.buildSlice f26 rfl wantedN (by decide) (parts5 f26 rfl rfl rfl rfl rfl) U22 wzi5_yi rfl rfl (wbs22_5_yi _ _ _ _ _) (fun _ _ => trivial) fun a27 w5 g4 N4 hSn f27 => ?_
   clear hSn
   have Bg4 := N4.blk
   have kg4 := N4.kept
   have log4 := N4.lo
   have ltg4 := Bg4.lt
   have szw5 := kg4.size
   have frg4 : w.heap.size ≤ g4 := Nat.le_trans HK.size log4
   have nesg4_gs : g4 ≠ gs := by have := SS.lt; omega
   replace HK := HK.trans kg4 (by simp)
   replace SS := SS.kept0 kg4
   replace P1 := fun q => (P1 q).kept kg4
   replace P2 := fun q => (P2 q).kept kg4
   replace P3 := fun q => (P3 q).kept kg4
   replace P4 := fun q => (P4 q).kept kg4
   replace P5 := fun q => (P5 q).kept kg4
   replace P6 := fun q => (P6 q).kept kg4
   replace P7 := fun q => (P7 q).kept kg4
   replace P8 := fun q => (P8 q).kept kg4
   replace P11 := fun q => (P11 q).kept kg4
   replace P12 := fun q => (P12 q).kept kg4
   clear N4 kg4
   exact ⟨_, _, _, _, _, _, _, _, _, _, f27.sub (sub_cons rfl (sub_cons rfl (sub_cons rfl (sub_cons rfl (sub_cons rfl (sub_cons rfl (sub_cons rfl (sub_cons rfl (sub_cons rfl (sub_cons rfl (sub_cons rfl (sub_cons rfl (sub_cons rfl (sub_cons rfl (sub_cons rfl (sub_cons rfl sn)))))))))))))))), HK, SS, fun q => P1 (by rwa [Gp.other (by decide)] at q), fun q => P2 (by rwa [Gp.other (by decide)] at q), fun q => P3 (by rwa [Gp.other (by decide)] at q), fun q => P4 (by rwa [Gp.other (by decide)] at q), fun q => P5 (by rwa [Gp.other (by decide)] at q), fun _ => ⟨g4, rfl, sl_lit Bg4 [48, 255, 255, 255, 255] rfl⟩, fun q => P7 (by rwa [Gp.other (by decide)] at q), fun q => P8 (by rwa [Gp.other (by decide)] at q), fun q => P11 (by rwa [Gp.other (by decide)] at q), fun q => P12 (by rwa [Gp.other (by decide)] at q)⟩
  ·skip
   refine O.buildSlice f26 rfl wantedN (by decide) (parts3 f26 rfl rfl rfl) U22 wzi5_yi rfl rfl (wbs22_3_yi _ _ _) (fun _ _ => trivial) fun a27 w5 g4 N4 hSn f27 => ?_
   clear hSn
   have Bg4 := N4.blk
   have kg4 := N4.kept
   have log4 := N4.lo
   have ltg4 := Bg4.lt
   have szw5 := kg4.size
   have frg4 : w.heap.size ≤ g4 := Nat.le_trans HK.size log4
   have nesg4_gs : g4 ≠ gs := by have := SS.lt; omega
   replace HK := HK.trans kg4 (by simp)
   replace SS := SS.kept0 kg4
   replace P1 := fun q => (P1 q).kept kg4
   replace P2 := fun q => (P2 q).kept kg4
   replace P3 := fun q => (P3 q).kept kg4
   replace P4 := fun q => (P4 q).kept kg4
   replace P5 := fun q => (P5 q).kept kg4
   replace P6 := fun q => (P6 q).kept kg4
   replace P7 := fun q => (P7 q).kept kg4
   replace P8 := fun q => (P8 q).kept kg4
   replace P11 := fun q => (P11 q).kept kg4
   replace P12 := fun q => (P12 q).kept kg4
   clear N4 kg4
   exact ⟨_, _, _, _, _, _, _, _, _, _, f27.sub (sub_cons rfl (sub_cons rfl (sub_cons rfl (sub_cons rfl (sub_cons rfl (sub_cons rfl (sub_cons rfl (sub_cons rfl (sub_cons rfl (sub_cons rfl (sub_cons rfl (sub_cons rfl (sub_cons rfl (sub_cons rfl (sub_cons rfl (sub_cons rfl sn)))))))))))))))), HK, SS, fun q => P1 (by rwa [Gp.other (by decide)] at q), fun q => P2 (by rwa [Gp.other (by decide)] at q), fun q => P3 (by rwa [Gp.other (by decide)] at q), fun q => P4 (by rwa [Gp.other (by decide)] at q), fun q => P5 (by rwa [Gp.other (by decide)] at q), fun q => P6 (by rwa [Gp.other (by decide)] at q), fun _ => ⟨g4, rfl, sl_lit Bg4 [48, 255, 127] rfl⟩, fun q => P8 (by rwa [Gp.other (by decide)] at q), fun q => P11 (by rwa [Gp.other (by decide)] at q), fun q => P12 (by rwa [Gp.other (by decide)] at q)⟩
  ·skip
   have D2 := P2 (Gp.need (j := 2) (by kernel_rfl) hm hcl hi)
   obtain ⟨g29, rfl, S29⟩ := D2
   have D3 := P3 (Gp.need (j := 3) (by kernel_rfl) hm hcl hi)
   obtain ⟨g30, rfl, S30⟩ := D3
   have D4 := P4 (Gp.need (j := 4) (by kernel_rfl) hm hcl hi)
   obtain ⟨g31, rfl, S31⟩ := D4
   have D5 := P5 (Gp.need (j := 5) (by kernel_rfl) hm hcl hi)
   obtain ⟨g32, rfl, S32⟩ := D5
   have D6 := P6 (Gp.need (j := 6) (by kernel_rfl) hm hcl hi)
   obtain ⟨g33, rfl, S33⟩ := D6
   have D7 := P7 (Gp.need (j := 7) (by kernel_rfl) hm hcl hi)
   obtain ⟨g34, rfl, S34⟩ := D7
   refine O.buildSlice f26 rfl wantedN (by decide) (parts6 f26 rfl rfl rfl rfl rfl rfl) U45 wzi22_yi rfl rfl (wbs45_6_yi _ _ _ _ _ _ _ _ _ _ _ _ _ _ _ _ _ _) (fun _ _ => trivial) fun a27 w5 g4 N4 hSn f27 => ?_
   clear hSn
   have Bg4 := N4.blk
   have kg4 := N4.kept
   have log4 := N4.lo
   have ltg4 := Bg4.lt
   have szw5 := kg4.size
   have frg4 : w.heap.size ≤ g4 := Nat.le_trans HK.size log4
   have nesg4_gs : g4 ≠ gs := by have := SS.lt; omega
   replace HK := HK.trans kg4 (by simp)
   replace SS := SS.kept0 kg4
   replace P1 := fun q => (P1 q).kept kg4
   replace P2 := fun q => (P2 q).kept kg4
   replace P3 := fun q => (P3 q).kept kg4
   replace P4 := fun q => (P4 q).kept kg4
   replace P5 := fun q => (P5 q).kept kg4
   replace P6 := fun q => (P6 q).kept kg4
   replace P7 := fun q => (P7 q).kept kg4
   replace P8 := fun q => (P8 q).kept kg4
   replace P11 := fun q => (P11 q).kept kg4
   replace P12 := fun q => (P12 q).kept kg4
   replace S29 := S29.kept kg4
   replace S30 := S30.kept kg4
   replace S31 := S31.kept kg4
   replace S32 := S32.kept kg4
   replace S33 := S33.kept kg4
   replace S34 := S34.kept kg4
   clear N4 kg4
   exact ⟨_, _, _, _, _, _, _, _, _, _, f27.sub (sub_cons rfl (sub_cons rfl (sub_cons rfl (sub_cons rfl (sub_cons rfl (sub_cons rfl (sub_cons rfl (sub_cons rfl (sub_cons rfl (sub_cons rfl (sub_cons rfl (sub_cons rfl (sub_cons rfl (sub_cons rfl (sub_cons rfl (sub_cons rfl sn)))))))))))))))), HK, SS, fun q => P1 (by rwa [Gp.other (by decide)] at q), fun q => P2 (by rwa [Gp.other (by decide)] at q), fun q => P3 (by rwa [Gp.other (by decide)] at q), fun q => P4 (by rwa [Gp.other (by decide)] at q), fun q => P5 (by rwa [Gp.other (by decide)] at q), fun q => P6 (by rwa [Gp.other (by decide)] at q), fun q => P7 (by rwa [Gp.other (by decide)] at q), fun _ => ⟨g4, rfl, [(g29, [240, 0]), (g30, [0]), (g31, [54, 0]), (g32, [192, 1, 0]), (g33, [48, 255, 255, 255, 255]), (g34, [48, 255, 127])], rfl, Bg4.slN (n := 6) (size := 1) rfl, six_all S29 S30 S31 S32 S33 S34⟩, fun q => P11 (by rwa [Gp.other (by decide)] at q), fun q => P12 (by rwa [Gp.other (by decide)] at q)⟩
  ·skip
   have D8 := P8 (Gp.need (j := 8) (by kernel_rfl) hm hcl hi)
   obtain ⟨g35, rfl, R, hR, SR, SE⟩ := D8
   obtain ⟨d, hd, hdl⟩ := bad_at (k := k) hR (by omega)
   have hcell := bad_cell SR hd
   have hsl := SE d (List.mem_of_getElem? hd)
   rw [hdl] at hcell hsl
   refine O.val f26 rfl rfl (by decide) wantedN (E.indexA f26 (by rfl) U45 wsz22_yi rfl rfl (by omega) (by omega)) trivial fun a27 f27 => ?_
   exact ⟨_, _, _, _, _, _, _, _, _, _, f27.sub (sub_cons rfl (sub_cons rfl (sub_cons rfl (sub_cons rfl (sub_cons rfl (sub_cons rfl (sub_cons rfl (sub_cons rfl (sub_cons rfl (sub_cons rfl (sub_cons rfl (sub_cons rfl (sub_cons rfl (sub_cons rfl (sub_cons rfl (sub_cons rfl sn)))))))))))))))), HK, SS, fun q => P1 (by rwa [Gp.other (by decide)] at q), fun q => P2 (by rwa [Gp.other (by decide)] at q), fun q => P3 (by rwa [Gp.other (by decide)] at q), fun q => P4 (by rwa [Gp.other (by decide)] at q), fun q => P5 (by rwa [Gp.other (by decide)] at q), fun q => P6 (by rwa [Gp.other (by decide)] at q), fun q => P7 (by rwa [Gp.other (by decide)] at q), fun q => P8 (by rwa [Gp.other (by decide)] at q), fun _ => ⟨_, _, _, rfl, hcell, hsl⟩, fun q => P12 (by rwa [Gp.other (by decide)] at q)⟩
  skip
  have D11 := P11 (Gp.need (j := 11) (by kernel_rfl) hm hcl hi)
  obtain ⟨b38, o38, g38, rfl, hc38, S38⟩ := D11
  refine O.val f26 rfl rfl (by decide) wantedN (by exact E.load f26 U22 rfl rfl (hc38)) trivial fun a27 f27 => ?_
  exact ⟨_, _, _, _, _, _, _, _, _, _, f27.sub (sub_cons rfl (sub_cons rfl (sub_cons rfl (sub_cons rfl (sub_cons rfl (sub_cons rfl (sub_cons rfl (sub_cons rfl (sub_cons rfl (sub_cons rfl (sub_cons rfl (sub_cons rfl (sub_cons rfl (sub_cons rfl (sub_cons rfl (sub_cons rfl sn)))))))))))))))), HK, SS, fun q => P1 (by rwa [Gp.other (by decide)] at q), fun q => P2 (by rwa [Gp.other (by decide)] at q), fun q => P3 (by rwa [Gp.other (by decide)] at q), fun q => P4 (by rwa [Gp.other (by decide)] at q), fun q => P5 (by rwa [Gp.other (by decide)] at q), fun q => P6 (by rwa [Gp.other (by decide)] at q), fun q => P7 (by rwa [Gp.other (by decide)] at q), fun q => P8 (by rwa [Gp.other (by decide)] at q), fun q => P11 (by rwa [Gp.other (by decide)] at q), fun _ => ⟨_, _, rfl, S38⟩⟩
 intro m a26 w4 hm hI
 obtain ⟨v28, v29, v30, v31, v32, v33, v34, v35, v38, v39, f26, HK, SS, P1, P2, P3, P4, P5, P6, P7, P8, P11, P12⟩ := hI
 have D1 := P1 (hm 1 (by decide))
 obtain ⟨A28, c28, rfl, F28⟩ := D1
 have D12 := P12 (hm 12 (by decide))
 obtain ⟨A39, c39, rfl, S39⟩ := D12
 clear P1 P2 P3 P4 P5 P6 P7 P8 P11 P12
 refine R.one 13 (by kernel_rfl) ?_
 refine O.append f26 rfl wantedN (by decide) U22 wzib5_yi rfl rfl rfl rfl F28.own (S39) (u8_one) (by have h1 := someN_len ks [] 0 ks.length (by omega) (by simp); have h2 := badK_len k; (unfold maxLen; omega)) (by have h1 := someN_len ks [] 0 ks.length (by omega) (by simp); have h2 := badK_len k; omega) fun a27 w5 A5 c5 AP5 => ?_
 have FN5 := AP5.nextB F28 HK.size (badK k) (rfl) (rfl)
 have kap5 := AP5.kept
 have szw5 := kap5.size
 replace HK := F28.rel HK kap5
 replace SS := STR.keptNil SS kap5 F28.own
 refine ⟨trivial, fun f27 => ?_⟩
 clear f26 a26 kap5 AP5 F28
 have f28 := f27.as (i := 40) rfl (sl_lenF FN5 (rfl))
 refine R.u 14 f28 rfl ht trivial (fun W hW => (E.assign f28 rfl)) fun a29 f29 => ?_
 refine R.done (by kernel_rfl) (hK8 _ _ ?_)
 have f30 := f29.sub (sc 0 (sc 1 (sc 2 (sc 7 (sc 8 sn)))))
 refine C.sk fun K9 hK9 => ?_
 refine L.mv f30 fun a31 f31 => ?_
 refine L.mv f31 fun a32 f32 => ?_
 have SBb : Bs [5] 0 w5 _ (someN ks [] 0 ks.length ++ badK k).length (someN ks [] 0 ks.length ++ badK k) := Bs.of_own FN5.own (by simp)
 have SS0 := SS
 obtain ⟨AX5, cX5, BX5, -, -⟩ := SS0
 have hC := (feed_any gs [] 0 (someN ks [] 0 ks.length ++ badK k) _ c5 w5 SS SBb.toSl (by have h1 := someN_len ks [] 0 ks.length (by omega) (by simp); have h2 := badK_len k; simp; omega) (hT.old (HK.below (by simp) (Nat.le_refl _))) (by omega)).mono (fun _ _ h => feed_of (v' := ((List.range ks.length).map (pkN ks []), [], errK k)) (feed_dies ks k hk) h)
 refine L.cl f32 (run_call Tryd.call29 (args2 f32 rfl rfl)) hC ?_
 clear f27 f28 a27 f29 f30 a29 f31 a31
 rintro e w6 ⟨p1, Ap1, cp1, mp1, rfl, Fp1, Pp1, SSn, kc6⟩
 have lp1 : p1.length = ks.length := by have h2 := congrArg List.length mp1; simpa using h2
 refine ⟨_, rfl, fun a33 f33 => ?_⟩
 have szw6 := kc6.size
 replace HK := HK.trans kc6 (ktr (by omega))
 clear f32 a32 kc6
 clear SS
 have SS := SSn
 clear SSn
 clear Fp1 Pp1
 refine L.mv f33 fun a34 f34 => ?_
 refine L.va f34 (E.extract f34 rfl rfl) fun a35 f35 => ?_
 refine L.va f35 (E.extract f35 rfl rfl) fun a36 f36 => ?_
 refine L.ag f36 fun a37 f37 => ?_
 refine L.ag f37 fun a38 f38 => ?_
 refine wpList_nil (hK9 _ _ ?_)
 have f39 := f38.sub (sc 0 (sc 1 (sc 2 (sc 7 (sc 9 (sc 10 sn))))))
 refine C.sk fun K10 hK10 => ?_
 refine L.mv f39 fun a40 f40 => ?_
 refine L.mv f40 fun a41 f41 => ?_
 clear f33 a33 f34 a34 f35 a35 f36 a36 f37 a37 f38 f39 a38 f40 a40
 have SS0 := SS
 obtain ⟨AX6, cX6, BX6, -, -⟩ := SS0
 have hC := (feed_any gs [] (errK k) (more) _ c0_ w6 SS (SM.kept HK) (by (simp; omega)) (hT.old (HK.below (by simp) (Nat.le_refl _))) (by omega)).mono (fun _ _ h => feed_of (v' := ([], [], errK k)) (feed_dead more) h)
 refine L.cl f41 (run_call Tryd.call29 (args2 f41 rfl rfl)) hC ?_
 rintro e w7 ⟨p2, Ap2, cp2, mp2, rfl, Fp2, Pp2, SSn, kc7⟩
 have lp2 : p2.length = 0 := by have h2 := congrArg List.length mp2; simpa using h2
 refine ⟨_, rfl, fun a42 f42 => ?_⟩
 have szw7 := kc7.size
 replace HK := HK.trans kc7 (ktr (by omega))
 clear f41 a41 kc7
 clear SS
 have SS := SSn
 clear SSn
 clear Fp2 Pp2
 refine L.mv f42 fun a43 f43 => ?_
 refine L.va f43 (E.extract f43 rfl rfl) fun a44 f44 => ?_
 refine L.va f44 (E.extract f44 rfl rfl) fun a45 f45 => ?_
 refine L.ag f45 fun a46 f46 => ?_
 refine L.ag f46 fun a47 f47 => ?_
 refine wpList_nil (hK10 _ _ ?_)
 have f48 := f47.sub (sc 0 (sc 1 (sc 7 (sc 9 (sc 10 (sc 11 (sc 12 sn)))))))
 refine C.sk fun K11 hK11 => ?_
 refine L.mv f48 fun a49 f49 => ?_
 have SS0 := SS
 obtain ⟨AX7, cX7, BX7, -, -⟩ := SS0
 have hC := (feed_any gs [] (errK k) ([]) none 0 w7 SS (Sl.nil _ _ _) (by (simp; done)) (hT.old (HK.below (by simp) (Nat.le_refl _))) (by omega)).mono (fun _ _ h => feed_of (v' := ([], [], errK k)) (feed_dead []) h)
 refine L.cl f49 (run_call Tryd.call29 (args2 f49 rfl rfl)) hC ?_
 clear f42 a42 f43 a43 f44 a44 f45 a45 f46 a46 f47 f48 a47
 rintro e w8 ⟨p3, Ap3, cp3, mp3, rfl, Fp3, Pp3, SSn, kc8⟩
 have lp3 : p3.length = 0 := by have h2 := congrArg List.length mp3; simpa using h2
 refine ⟨_, rfl, fun a50 f50 => ?_⟩
 have szw8 := kc8.size
 replace HK := HK.trans kc8 (ktr (by omega))
 clear f49 a49 kc8
 clear SS
 have SS := SSn
 clear SSn
 clear Fp3 Pp3
 refine L.mv f50 fun a51 f51 => ?_
 refine L.va f51 (E.extract f51 rfl rfl) fun a52 f52 => ?_
 refine L.va f52 (E.extract f52 rfl rfl) fun a53 f53 => ?_
 refine L.ag f53 fun a54 f54 => ?_
 refine L.ag f54 fun a55 f55 => ?_
 refine wpList_nil (hK11 _ _ ?_)
 have f56 := f55.sub (sc 0 (sc 1 (sc 7 (sc 9 (sc 10 (sc 11 (sc 12 (sc 13 (sc 14 sn)))))))))
 refine C.sk fun K12 hK12 => ?_
 refine L.ag f56 fun a57 f57 => ?_
 refine wpList_nil (hK12 _ _ ?_)
 have f58 := f57.sub (sc 0 (sc 1 (sc 7 (sc 9 (sc 10 (sc 11 (sc 12 (sc 13 (sc 14 (sc 15 sn))))))))))
 clear f50 a50 f51 a51 f52 a52 f53 a53 f54 a54 f55 f56 a55 f57
 refine wp_seq_k fun K13 hK13 => ?_
 refine C.sk fun K14 hK14 => ?_
 refine L.mv f58 fun a59 f59 => ?_
 refine L.va f59 (E.rem f59 rfl rfl (by omega) (Int.tmod_eq_emod_of_nonneg (by omega))) fun a60 f60 => ?_
 refine L.va f60 (E.eq f60) fun a61 f61 => ?_
 refine wpList_nil (hK14 _ _ ?_)
 have f62 := f61.sub (sc 0 (sc 7 (sc 9 (sc 10 (sc 11 (sc 12 (sc 13 (sc 14 (sc 15 (sc 60 sn))))))))))
 clear f58 a57 f59 a59 f60 a60 f61
 refine f62.splitD 60 rfl (fun h2 f63 => ?_) (fun h2 f63 => ?_)
 ·have hE : errK k = 22 := by unfold errK; rw [if_pos h2]
  refine C.condT f63 rfl ?_
  refine C.region ?_
  refine L.ag f63 fun a64 f64 => ?_
  refine wpList_nil (hK13 _ _ ?_)
  have f65 := f64.sub (sc 0 (sc 7 (sc 9 (sc 10 (sc 11 (sc 12 (sc 13 (sc 14 (sc 15 sn)))))))))
  refine C.sk fun K15 hK15 => ?_
  refine L.mv f65 fun a66 f66 => ?_
  refine L.va f66 (E.lenL f66 U33 rfl) fun a67 f67 => ?_
  refine L.mv f67 fun a68 f68 => ?_
  refine L.va f68 (E.lenL f68 U22 rfl) fun a69 f69 => ?_
  refine L.va f69 (E.eq f69) fun a70 f70 => ?_
  clear f62 f63 a61 f64 f65 a64 f66 a66 f67 a67 f68 a68 f69 a69
  have f71 := f70.as (i := 65) (v' := .bool true) rfl (by simp [lp1])
  refine L.mv f71 fun a72 f72 => ?_
  refine L.mv f72 (hw := (f72.yes rfl rfl)) fun a73 f73 => ?_
  refine L.mv f73 (hw := (f73.yes rfl rfl)) fun a74 f74 => ?_
  refine L.va f74 (E.eq f74) (hw := (f74.yes rfl rfl)) fun a75 f75 => ?_
  have f76 := f75.as (i := 69) (v' := .bool true) rfl (by simp [hE])
  refine L.va f76 (E.pickT f76 rfl rfl) fun a77 f77 => ?_
  refine L.mv f77 fun a78 f78 => ?_
  clear f70 f71 a70 f72 a72 f73 a73 f74 a74 f75 f76 a75 f77 a77
  refine L.mv f78 (hw := (f78.yes rfl rfl)) fun a79 f79 => ?_
  refine L.mv f79 (hw := (f79.yes rfl rfl)) fun a80 f80 => ?_
  refine L.va f80 (E.eq f80) (hw := (f80.yes rfl rfl)) fun a81 f81 => ?_
  have f82 := f81.as (i := 74) (v' := .bool true) rfl (by simp)
  refine L.va f82 (E.pickT f82 rfl rfl) fun a83 f83 => ?_
  refine L.mv f83 fun a84 f84 => ?_
  refine L.mv f84 (hw := (f84.yes rfl rfl)) fun a85 f85 => ?_
  refine L.mv f85 (hw := (f85.yes rfl rfl)) fun a86 f86 => ?_
  clear f78 a78 f79 a79 f80 a80 f81 f82 a81 f83 a83 f84 a84 f85 a85
  refine L.va f86 (E.eq f86) (hw := (f86.yes rfl rfl)) fun a87 f87 => ?_
  have f88 := f87.as (i := 79) (v' := .bool true) rfl (by simp)
  refine L.va f88 (E.pickT f88 rfl rfl) fun a89 f89 => ?_
  refine L.mv f89 fun a90 f90 => ?_
  refine L.mv f90 (hw := (f90.yes rfl rfl)) fun a91 f91 => ?_
  refine L.va f91 (E.lenL f91 U33 rfl) (hw := (f91.yes rfl rfl)) fun a92 f92 => ?_
  refine L.va f92 (E.eq f92) (hw := (f92.yes rfl rfl)) fun a93 f93 => ?_
  have f94 := f93.as (i := 84) (v' := .bool true) rfl (by simp [lp2])
  clear f86 a86 f87 f88 a87 f89 a89 f90 a90 f91 a91 f92 a92 f93
  refine L.va f94 (E.pickT f94 rfl rfl) fun a95 f95 => ?_
  refine L.mv f95 fun a96 f96 => ?_
  refine L.mv f96 (hw := (f96.yes rfl rfl)) fun a97 f97 => ?_
  refine L.va f97 (E.lenL f97 U33 rfl) (hw := (f97.yes rfl rfl)) fun a98 f98 => ?_
  refine L.va f98 (E.eq f98) (hw := (f98.yes rfl rfl)) fun a99 f99 => ?_
  have f100 := f99.as (i := 89) (v' := .bool true) rfl (by simp [lp3])
  refine L.va f100 (E.pickT f100 rfl rfl) fun a101 f101 => ?_
  refine L.mv f101 fun a102 f102 => ?_
  clear f94 a93 f95 a95 f96 a96 f97 a97 f98 a98 f99 f100 a99 f101 a101
  refine L.mv f102 (hw := (f102.yes rfl rfl)) fun a103 f103 => ?_
  refine L.cl f103 (run_call Tryd.call33 (args1 f103 rfl)) (dead_any gs _ _ _ SS) ?_ (hw := (f103.yes rfl rfl))
  clear f102 a102
  rintro e w9 ⟨kc9, rfl⟩
  refine ⟨_, rfl, fun a104 f104 => ?_⟩
  have szw9 := kc9.size
  replace HK := HK.trans kc9 (by simp)
  replace SS := SS.kept0 kc9
  clear f103 a103 kc9
  have f105 := f104.as (i := 93) (v' := .bool true) rfl (by rw [hE]; rfl)
  refine L.va f105 (E.pickT f105 rfl rfl) fun a106 f106 => ?_
  refine L.mv f106 fun a107 f107 => ?_
  refine L.mv f107 (hw := (f107.yes rfl rfl)) fun a108 f108 => ?_
  refine L.cl f108 (run_call Tryd.call32 (args1 f108 rfl)) (left_any gs _ _ _ SS) ?_ (hw := (f108.yes rfl rfl))
  clear f104 f105 a104 f106 a106 f107 a107
  rintro e w10 ⟨kc10, rfl⟩
  refine ⟨_, rfl, fun a109 f109 => ?_⟩
  have szw10 := kc10.size
  replace HK := HK.trans kc10 (by simp)
  replace SS := SS.kept0 kc10
  clear f108 a108 kc10
  refine L.va f109 (E.eq f109) (hw := (f109.yes rfl rfl)) fun a110 f110 => ?_
  have f111 := f110.as (i := 98) (v' := .bool true) rfl (by rfl)
  refine L.va f111 (E.pickT f111 rfl rfl) fun a112 f112 => ?_
  refine L.ag f112 fun a113 f113 => ?_
  refine wpList_nil (hK15 _ _ ?_)
  have f114 := f113.sub (sc 6 sn)
  refine wp_ret ?_
  try simp only [Exit.inBlock, Exit.then]
  refine C.ret (P := Tryd.prog) (fn := Tryd.f11) f114 rfl rfl ?_
  exact ⟨HK, rfl⟩
 have hE : errK k = 21 := by unfold errK; rw [if_neg h2]
 refine C.condF f63 rfl ?_
 refine wp_skip (hK13 _ _ ?_)
 have f64 := f63.sub (sc 0 (sc 7 (sc 9 (sc 10 (sc 11 (sc 12 (sc 13 (sc 14 (sc 15 sn)))))))))
 refine C.sk fun K16 hK16 => ?_
 refine L.mv f64 fun a65 f65 => ?_
 refine L.va f65 (E.lenL f65 U33 rfl) fun a66 f66 => ?_
 refine L.mv f66 fun a67 f67 => ?_
 refine L.va f67 (E.lenL f67 U22 rfl) fun a68 f68 => ?_
 refine L.va f68 (E.eq f68) fun a69 f69 => ?_
 have f70 := f69.as (i := 65) (v' := .bool true) rfl (by simp [lp1])
 refine L.mv f70 fun a71 f71 => ?_
 clear f62 f63 f64 a61 f65 a65 f66 a66 f67 a67 f68 a68 f69 f70 a69
 refine L.mv f71 (hw := (f71.yes rfl rfl)) fun a72 f72 => ?_
 refine L.mv f72 (hw := (f72.yes rfl rfl)) fun a73 f73 => ?_
 refine L.va f73 (E.eq f73) (hw := (f73.yes rfl rfl)) fun a74 f74 => ?_
 have f75 := f74.as (i := 69) (v' := .bool true) rfl (by simp [hE])
 refine L.va f75 (E.pickT f75 rfl rfl) fun a76 f76 => ?_
 refine L.mv f76 fun a77 f77 => ?_
 refine L.mv f77 (hw := (f77.yes rfl rfl)) fun a78 f78 => ?_
 refine L.mv f78 (hw := (f78.yes rfl rfl)) fun a79 f79 => ?_
 clear f71 a71 f72 a72 f73 a73 f74 f75 a74 f76 a76 f77 a77 f78 a78
 refine L.va f79 (E.eq f79) (hw := (f79.yes rfl rfl)) fun a80 f80 => ?_
 have f81 := f80.as (i := 74) (v' := .bool true) rfl (by simp)
 refine L.va f81 (E.pickT f81 rfl rfl) fun a82 f82 => ?_
 refine L.mv f82 fun a83 f83 => ?_
 refine L.mv f83 (hw := (f83.yes rfl rfl)) fun a84 f84 => ?_
 refine L.mv f84 (hw := (f84.yes rfl rfl)) fun a85 f85 => ?_
 refine L.va f85 (E.eq f85) (hw := (f85.yes rfl rfl)) fun a86 f86 => ?_
 have f87 := f86.as (i := 79) (v' := .bool true) rfl (by simp)
 clear f79 a79 f80 f81 a80 f82 a82 f83 a83 f84 a84 f85 a85 f86
 refine L.va f87 (E.pickT f87 rfl rfl) fun a88 f88 => ?_
 refine L.mv f88 fun a89 f89 => ?_
 refine L.mv f89 (hw := (f89.yes rfl rfl)) fun a90 f90 => ?_
 refine L.va f90 (E.lenL f90 U33 rfl) (hw := (f90.yes rfl rfl)) fun a91 f91 => ?_
 refine L.va f91 (E.eq f91) (hw := (f91.yes rfl rfl)) fun a92 f92 => ?_
 have f93 := f92.as (i := 84) (v' := .bool true) rfl (by simp [lp2])
 refine L.va f93 (E.pickT f93 rfl rfl) fun a94 f94 => ?_
 refine L.mv f94 fun a95 f95 => ?_
 clear f87 a86 f88 a88 f89 a89 f90 a90 f91 a91 f92 f93 a92 f94 a94
 refine L.mv f95 (hw := (f95.yes rfl rfl)) fun a96 f96 => ?_
 refine L.va f96 (E.lenL f96 U33 rfl) (hw := (f96.yes rfl rfl)) fun a97 f97 => ?_
 refine L.va f97 (E.eq f97) (hw := (f97.yes rfl rfl)) fun a98 f98 => ?_
 have f99 := f98.as (i := 89) (v' := .bool true) rfl (by simp [lp3])
 refine L.va f99 (E.pickT f99 rfl rfl) fun a100 f100 => ?_
 refine L.mv f100 fun a101 f101 => ?_
 refine L.mv f101 (hw := (f101.yes rfl rfl)) fun a102 f102 => ?_
 refine L.cl f102 (run_call Tryd.call33 (args1 f102 rfl)) (dead_any gs _ _ _ SS) ?_ (hw := (f102.yes rfl rfl))
 clear f95 a95 f96 a96 f97 a97 f98 f99 a98 f100 a100 f101 a101
 rintro e w9 ⟨kc9, rfl⟩
 refine ⟨_, rfl, fun a103 f103 => ?_⟩
 have szw9 := kc9.size
 replace HK := HK.trans kc9 (by simp)
 replace SS := SS.kept0 kc9
 clear f102 a102 kc9
 have f104 := f103.as (i := 93) (v' := .bool true) rfl (by rw [hE]; rfl)
 refine L.va f104 (E.pickT f104 rfl rfl) fun a105 f105 => ?_
 refine L.mv f105 fun a106 f106 => ?_
 refine L.mv f106 (hw := (f106.yes rfl rfl)) fun a107 f107 => ?_
 refine L.cl f107 (run_call Tryd.call32 (args1 f107 rfl)) (left_any gs _ _ _ SS) ?_ (hw := (f107.yes rfl rfl))
 clear f103 f104 a103 f105 a105 f106 a106
 rintro e w10 ⟨kc10, rfl⟩
 refine ⟨_, rfl, fun a108 f108 => ?_⟩
 have szw10 := kc10.size
 replace HK := HK.trans kc10 (by simp)
 replace SS := SS.kept0 kc10
 clear f107 a107 kc10
 refine L.va f108 (E.eq f108) (hw := (f108.yes rfl rfl)) fun a109 f109 => ?_
 have f110 := f109.as (i := 98) (v' := .bool true) rfl (by rfl)
 refine L.va f110 (E.pickT f110 rfl rfl) fun a111 f111 => ?_
 refine L.ag f111 fun a112 f112 => ?_
 refine wpList_nil (hK16 _ _ ?_)
 have f113 := f112.sub (sc 6 sn)
 refine wp_ret ?_
 try simp only [Exit.inBlock, Exit.then]
 refine C.ret (P := Tryd.prog) (fn := Tryd.f11) f113 rfl rfl ?_
 exact ⟨HK, rfl⟩
end Go.Proofs.YtigjafbbnocihaaDoor
namespace Go.Proofs.YtigjafbbnocihaaDoor
open Go.RowKit Go.Hub Go.Lib Go.Shelf Go.ChangeShapes Go.WideShapes Go.Deep
theorem dies_row {k : Int} {v0 v2 : Value} {w : World} (hT : Tabs w) (h0 : IsBs w v0) (w1 : (Lit.int .u8 k).wf = true) (h2 : IsBs w v2) : Calls Tryd.prog 11 #[v0, .int .u8 k, v2] w fun e w' => e = .returned (.bool true) ∧ Below w.heap.size w w' := by
  obtain ⟨ks, Ak, ck, rfl, h0, _⟩ := h0
  obtain ⟨us, A, c', rfl, h2, _⟩ := h2
  exact (dies_walk ks k us Ak A ck c' w hT h0 (bd8 w1) h2).mono fun _ _ => end_of
end Go.Proofs.YtigjafbbnocihaaDoor
