/- VarlenTells: the walk. -/
import Derived.Test.YtepihchlfbdnjaaF
import Derived.Test.YtepihchlfbdnjaaFa
import Derived.OpenShut
set_option linter.all false
namespace Go.Proofs.Ytepihchlfbdnjaa
open Go.RowKit Go.Hub Go.Vl

/-- block g holds numbers in its first s cells -/
def Nums (w : World) (g s : Nat) : Prop := ∀ i, i < s → ∃ x : Int, w.cell? ⟨g, i, none⟩ = some (.int .i64 x)
/-- block g holds byte slices in its first s cells -/
def Rows5 (B : Nat) (w : World) (g s : Nat) : Prop := ∀ i, i < s → ∃ A c l, w.cell? ⟨g, i, none⟩ = some (.slice A (l : List UInt8).length c) ∧ l.length ≤ maxLen ∧ Bs [5] B w A l.length l

theorem nums_new (w : World) (cs : Array Value) (t : TypeId) (h : ∀ i, i < cs.size → ∃ x : Int, cs[i]? = some (.int .i64 x)) : Nums (w.alloc (.cells cs t)) w.heap.size cs.size := fun i hi => by
  obtain ⟨x, hx⟩ := h i hi
  exact ⟨x, by rw [World.cell?_alloc_new]; exact hx⟩
theorem Nums.keep {w w' : World} {g s : Nat} (h : Nums w g s) (hk : ∀ p : Addr, p.block < g + 1 → w'.cell? p = w.cell? p) : Nums w' g s := fun i hi => by
  obtain ⟨x, hx⟩ := h i hi
  exact ⟨x, (hk ⟨g, i, none⟩ (by simp)).trans hx⟩
theorem byte_u8 (z : Int) (h : 0 ≤ z ∧ z ≤ 255) : Value.int .u8 z = u8 (UInt8.ofNat z.toNat) := by
  unfold u8
  rw [UInt8.toNat_ofNat']
  congr 1
  omega
theorem bd_bits (op : BinOp) (x y : Int) : 0 ≤ bits op .u8 x y ∧ bits op .u8 x y ≤ 255 := bd_u8 (wf_bits op .u8 x y)
/-- a row of literal bytes, just made -/
theorem bs_new (B : Nat) (w : World) (zs : List Int) (h : ∀ z ∈ zs, 0 ≤ z ∧ z ≤ 255) : Bs [5] B (w.alloc (.cells (zs.map (Value.int .u8)).toArray 5)) (some ⟨w.heap.size, 0, none⟩) zs.length (zs.map fun z => UInt8.ofNat z.toNat) :=
  ⟨by simp, fun _ => ⟨w.heap.size, 0, rfl, by simp, .inr ⟨_, 5, (0, 0), heap_alloc_new w _, by simp⟩, fun j x hx => by
    rw [Nat.zero_add, World.cell?_alloc_new]
    simp only [List.getElem?_map, Option.map_eq_some_iff] at hx
    obtain ⟨z, hz, rfl⟩ := hx
    simp [hz, byte_u8 z (h z (List.mem_of_getElem? hz))]⟩⟩

theorem rows_new (B : Nat) (w : World) (cs : Array Value) (t : TypeId) (h : ∀ i, i < cs.size → ∃ A c l, cs[i]? = some (.slice A (l : List UInt8).length c) ∧ l.length ≤ maxLen ∧ Bs [5] B w A l.length l) : Rows5 B (w.alloc (.cells cs t)) w.heap.size cs.size := fun i hi => by
  obtain ⟨A, c, l, h1, h2, h3⟩ := h i hi
  exact ⟨A, c, l, by rw [World.cell?_alloc_new]; exact h1, h2, h3.same ((Same.refl _ _ _).alloc _)⟩
theorem rows_start (B : Nat) (k : Int) (wo : World) (A : Option Addr) (c : Nat) (l : List UInt8) (hk : 0 ≤ k ∧ k ≤ 255) (hm : l.length ≤ maxLen) (h : Bs [5] B wo A l.length l) :
    Rows5 B (((((wo.alloc (Obj.cells #[Value.int IntKind.u8 (bits BinOp.or IntKind.u8 k 128), Value.int IntKind.u8 k] 5)).alloc (Obj.cells #[Value.int IntKind.u8 255, Value.int IntKind.u8 255, Value.int IntKind.u8 255, Value.int IntKind.u8 k] 5)).alloc (Obj.cells #[Value.int IntKind.u8 k, Value.int IntKind.u8 k, Value.int IntKind.u8 k, Value.int IntKind.u8 k] 5)).alloc (Obj.cells #[Value.int IntKind.u8 (bits BinOp.or IntKind.u8 k 128), Value.int IntKind.u8 128, Value.int IntKind.u8 128, Value.int IntKind.u8 (bits BinOp.and IntKind.u8 k 1)] 5)).alloc (Obj.cells #[Value.slice A l.length c, Value.slice (some { block := wo.heap.size, off := 0 }) 2 2, Value.slice (some { block := wo.heap.size + 1, off := 0 }) 4 4, Value.slice (some { block := wo.heap.size + 1 + 1, off := 0 }) 4 4, Value.slice (some { block := wo.heap.size + 1 + 1 + 1, off := 0 }) 4 4] 22)) (wo.heap.size + 1 + 1 + 1 + 1) 5 := by
  have b1 := bs_new B wo [bits BinOp.or IntKind.u8 k 128, k] (by simp [bd_bits, hk])
  have b2 := bs_new B (wo.alloc (Obj.cells #[Value.int IntKind.u8 (bits BinOp.or IntKind.u8 k 128), Value.int IntKind.u8 k] 5)) [255, 255, 255, k] (by simp [hk])
  have b3 := bs_new B ((wo.alloc (Obj.cells #[Value.int IntKind.u8 (bits BinOp.or IntKind.u8 k 128), Value.int IntKind.u8 k] 5)).alloc (Obj.cells #[Value.int IntKind.u8 255, Value.int IntKind.u8 255, Value.int IntKind.u8 255, Value.int IntKind.u8 k] 5)) [k, k, k, k] (by simp [hk])
  have b4 := bs_new B (((wo.alloc (Obj.cells #[Value.int IntKind.u8 (bits BinOp.or IntKind.u8 k 128), Value.int IntKind.u8 k] 5)).alloc (Obj.cells #[Value.int IntKind.u8 255, Value.int IntKind.u8 255, Value.int IntKind.u8 255, Value.int IntKind.u8 k] 5)).alloc (Obj.cells #[Value.int IntKind.u8 k, Value.int IntKind.u8 k, Value.int IntKind.u8 k, Value.int IntKind.u8 k] 5)) [bits BinOp.or IntKind.u8 k 128, 128, 128, bits BinOp.and IntKind.u8 k 1] (by simp [bd_bits])
  simp only [World.size_alloc] at b2 b3 b4
  have S : ∀ (w : World) (o : Obj), Same [5] B w (w.alloc o) := fun w o => (Same.refl _ _ _).alloc o
  have R := rows_new B ((((wo.alloc (Obj.cells #[Value.int IntKind.u8 (bits BinOp.or IntKind.u8 k 128), Value.int IntKind.u8 k] 5)).alloc (Obj.cells #[Value.int IntKind.u8 255, Value.int IntKind.u8 255, Value.int IntKind.u8 255, Value.int IntKind.u8 k] 5)).alloc (Obj.cells #[Value.int IntKind.u8 k, Value.int IntKind.u8 k, Value.int IntKind.u8 k, Value.int IntKind.u8 k] 5)).alloc (Obj.cells #[Value.int IntKind.u8 (bits BinOp.or IntKind.u8 k 128), Value.int IntKind.u8 128, Value.int IntKind.u8 128, Value.int IntKind.u8 (bits BinOp.and IntKind.u8 k 1)] 5)) #[Value.slice A l.length c, Value.slice (some { block := wo.heap.size, off := 0 }) 2 2, Value.slice (some { block := wo.heap.size + 1, off := 0 }) 4 4, Value.slice (some { block := wo.heap.size + 1 + 1, off := 0 }) 4 4, Value.slice (some { block := wo.heap.size + 1 + 1 + 1, off := 0 }) 4 4] 22 (fun i hi => by
    match i, hi with
    | 0, _ => exact ⟨A, c, l, rfl, hm, (((h.same (S _ _)).same (S _ _)).same (S _ _)).same (S _ _)⟩
    | 1, _ => exact ⟨_, 2, _, rfl, by simp [maxLen], (((b1.same (S _ _)).same (S _ _)).same (S _ _))⟩
    | 2, _ => exact ⟨some ⟨wo.heap.size + 1, 0, none⟩, 4, ([255, 255, 255, k] : List Int).map (fun (z : Int) => UInt8.ofNat z.toNat), rfl, by simp [maxLen], (b2.same (S _ _)).same (S _ _)⟩
    | 3, _ => exact ⟨some ⟨wo.heap.size + 1 + 1, 0, none⟩, 4, ([k, k, k, k] : List Int).map (fun (z : Int) => UInt8.ofNat z.toNat), rfl, by simp [maxLen], b3.same (S _ _)⟩
    | 4, _ => exact ⟨some ⟨wo.heap.size + 1 + 1 + 1, 0, none⟩, 4, [bits BinOp.or IntKind.u8 k 128, 128, 128, bits BinOp.and IntKind.u8 k 1].map (fun (z : Int) => UInt8.ofNat z.toNat), rfl, by simp [maxLen], b4⟩)
  simp only [World.size_alloc] at R
  exact R

set_option maxRecDepth 100000 in
set_option maxHeartbeats 4000000 in
theorem tells_any (n k : Int) (A : Option Addr) (c : Nat) (l : List UInt8) (w : World) (hk : 0 ≤ k ∧ k ≤ 255) (hm : l.length ≤ maxLen) (h : Bs [5] w.heap.size w A l.length l) :
    Calls Try.prog 3 #[.int .i64 n, .int .u8 k, .slice A l.length c] w fun e w' => e = .returned (.bool true) ∧ Below w.heap.size w w' := by
  have HH := hid h
  clear h
  go_enter Try.func3, Try.ntmps3
  go_wp2_with fail
  refine (known_any w).mono ?_
  rintro e w1 ⟨rfl, hb1⟩
  by_cases hl : l.length ≤ 20
  · have hl2 : decide ((20 : Int) < (l.length : Int)) = false := by simp; omega
    have hl3 : ¬ ((20 : Int) < (l.length : Int)) := by omega
    go_wp2_with fail
    go_loopg [44] 14 (fun g v wr => ∃ i : Nat, i + g = 14 ∧ v = .int .i64 i ∧ Nums wr w1.heap.size 14 ∧ Below w.heap.size w wr ∧ w1.heap.size < wr.heap.size ∧ Bs [5] w.heap.size wr A l.length l)
    case atStart =>
      have hb2 := hb1.alloc hb1.size (Obj.cells #[Value.int IntKind.i64 n, Value.int IntKind.i64 (bits BinOp.and IntKind.i64 n 16383), Value.int IntKind.i64 (bits BinOp.and IntKind.i64 n 2097151), Value.int IntKind.i64 (bits BinOp.and IntKind.i64 n 268435455), Value.int .i64 0, Value.int .i64 127, Value.int .i64 128, Value.int .i64 16383, Value.int .i64 16384, Value.int .i64 2097151, Value.int .i64 2097152, Value.int .i64 268435455, Value.int .i64 268435456, Value.int .i64 (-1)] 3)
      refine ⟨0, rfl, rfl, nums_new _ _ _ (fun i hi => ?_), hb2, by simp, HH.out.same (.of_below hb2)⟩
      match i, hi with
      | 0, _ => exact ⟨_, rfl⟩
      | 1, _ => exact ⟨_, rfl⟩
      | 2, _ => exact ⟨_, rfl⟩
      | 3, _ => exact ⟨_, rfl⟩
      | 4, _ => exact ⟨_, rfl⟩
      | 5, _ => exact ⟨_, rfl⟩
      | 6, _ => exact ⟨_, rfl⟩
      | 7, _ => exact ⟨_, rfl⟩
      | 8, _ => exact ⟨_, rfl⟩
      | 9, _ => exact ⟨_, rfl⟩
      | 10, _ => exact ⟨_, rfl⟩
      | 11, _ => exact ⟨_, rfl⟩
      | 12, _ => exact ⟨_, rfl⟩
      | 13, _ => exact ⟨_, rfl⟩
    case round =>
      obtain ⟨i, hi, rfl, hnum, hb, hsz, hbs⟩ := hrel
      obtain ⟨ko, rfl⟩ : ∃ ko : Nat, ko = gk := ⟨_, rfl⟩
      obtain ⟨wo, rfl⟩ : ∃ wo : World, wo = wr := ⟨_, rfl⟩
      by_cases hlt : i < 14
      · obtain ⟨x, hx⟩ := hnum i hlt
        have hi2 : (i : Int) < 14 := by omega
        have HO := hid (And.intro hi (And.intro hnum (And.intro hb (And.intro hsz hbs))))
        clear hi hnum hb hsz hbs
        go_wp2_with fail
        refine (put_any x wo).mono ?_
        rintro e w2 hP
        obtain ⟨A2, c2, rfl, hc1, hc2, hbs2, hb2⟩ := hP.view
        clear hP
        go_wp2_with fail
        refine (putR_any x w2).mono ?_
        rintro e w3 hP
        obtain ⟨A3, c3, rfl, hd1, hd2, hbs3, hb3⟩ := hP.view
        clear hP
        have hcv2 := (hbs2.same (.of_below hb3)).conv (c := c2) Try.underlying22 Try.underlying5 Try.underlying9
        have hcv3 := hbs3.conv (c := c3) Try.underlying22 Try.underlying5 Try.underlying9
        have hend : Below wo.heap.size wo w3 := hb2.trans (hb3.mono hb2.size)
        have H3 := hid (And.intro hend hbs3)
        clear hbs2 hbs3 hb2 hb3 hend
        go_wp2_with fail
        refine (size_any x w3).mono ?_
        rintro e w4 ⟨rfl, rfl⟩
        go_wp2_with fail
        refine (sizeR_any x w3).mono ?_
        rintro e w4 ⟨rfl, rfl⟩
        go_wp2_with fail
        go_loopg [14] (szN x + 1) (fun g v wr => ∃ j : Nat, j + g = szN x + 1 ∧ v = .int .i64 j ∧ w3 = wr)
        case atStart => exact ⟨0, by omega, rfl, rfl⟩
        case round =>
          obtain ⟨j, hj, rfl, rfl⟩ := hrel
          clear hcv2 hcv3 hx
          by_cases hjl : j ≤ szN x
          · have hj2 : (j : Int) ≤ (szN x : Int) := by omega
            have hj3 : j ≤ c3 := by omega
            have hr := (H3.out.2.head hjl).rds
            have HJ := hid hj
            clear hj
            have h4 := szN_le x
            go_wp2_with fail
            refine (read_any A3 j _ ((putL x).take j) w3 (by rw [List.length_take, putL_len]; omega) (by unfold maxLen; omega) hr).mono ?_
            rintro e w4 ⟨rfl, rfl⟩
            unfold rdTuple
            go_wp2_with fail
            refine (readR_any A3 j _ ((putL x).take j) w3 (by rw [List.length_take, putL_len]; omega) (by unfold maxLen; omega) hr).mono ?_
            rintro e w4 ⟨rfl, rfl⟩
            unfold rdTuple
            go_wp2
            go_roundg (gk - 1)
            case measure => have := HJ.out; omega
            case rel => exact ⟨j + 1, by have := HJ.out; omega, by go_num, rfl⟩
          · have hj2 : ¬ (j : Int) ≤ (szN x : Int) := by omega
            clear hj
            have F : Nums w3 w1.heap.size 14 ∧ Below w.heap.size w w3 ∧ w1.heap.size < w3.heap.size ∧ Bs [5] w.heap.size w3 A l.length l := by
              obtain ⟨_, hnum, hb, hsz, hbs⟩ := HO.out
              exact ⟨hnum.keep (fun p hp => H3.out.1.cell (by omega)), hb.trans (H3.out.1.mono hb.size), by have := H3.out.1.size; omega, hbs.same (.of_below H3.out.1)⟩
            have HF := hid F
            clear F
            go_wp2
            go_roundg (ko - 1)
            case measure => have := HO.out.1; omega
            case rel => exact ⟨i + 1, by have := HO.out.1; omega, by go_num, HF.out⟩
      · have hi2 : ¬ (i : Int) < 14 := by omega
        have HO := hid (And.intro hnum (And.intro hb (And.intro hsz hbs)))
        clear hi hnum hb hsz hbs
        go_wp2_with fail
        go_loopg [130] 5 (fun g v wr => ∃ i : Nat, i + g = 5 ∧ v = .int .i64 i ∧ Rows5 w.heap.size wr (wo.heap.size + 1 + 1 + 1 + 1) 5 ∧ Below w.heap.size w wr)
        case atStart =>
          obtain ⟨_, hb, hsz, hbs⟩ := HO.out
          have hs := hb.size
          exact ⟨0, rfl, rfl, rows_start _ k wo A c l hk hm hbs, ((((hb.alloc hs _).alloc (by simp; omega) _).alloc (by simp; omega) _).alloc (by simp; omega) _).alloc (by simp; omega) _⟩
        case round =>
          obtain ⟨j, hj, rfl, hrows, hb⟩ := hrel
          clear hi2 hlt
          by_cases hjl : j < 5
          · obtain ⟨A5, c5, l5, hcell, hm5, hbs5⟩ := hrows j hjl
            have hj2 : (j : Int) < 5 := by omega
            have HJ := hid (And.intro hj (And.intro hrows hb))
            have hr := hbs5.rds
            clear hj hrows hb hbs5
            go_wp2_with fail
            refine (read_any A5 l5.length _ l5 wr rfl hm5 hr).mono ?_
            rintro e w4 ⟨rfl, rfl⟩
            unfold rdTuple
            go_wp2_with fail
            refine (readR_any A5 l5.length _ l5 wr rfl hm5 hr).mono ?_
            rintro e w4 ⟨rfl, rfl⟩
            unfold rdTuple
            go_wp2
            go_roundg (gk - 1)
            case measure => have := HJ.out.1; omega
            case rel => exact ⟨j + 1, by have := HJ.out.1; omega, by go_num, HJ.out.2⟩
          · have hj2 : ¬ (j : Int) < 5 := by omega
            have HB := hid hb
            clear hj hrows hb
            go_wp2
            go_ret
            exact ⟨rfl, HB.out⟩
  · have hl2 : decide ((20 : Int) < (l.length : Int)) = true := by simp; omega
    have hl3 : (20 : Int) < (l.length : Int) := by omega
    go_wp2
    go_ret
    exact ⟨rfl, hb1⟩
theorem tells_law (n k : Int) (v : Value) (w : World) (hk : (Lit.int .u8 k).wf = true) (h : IsBytes w v) : Calls Try.prog 3 #[.int .i64 n, .int .u8 k, v] w fun e w' => e = .returned (.bool true) ∧ Below w.heap.size w w' := by
  obtain ⟨A, c, l, rfl, h1, h2⟩ := h
  exact tells_any n k A c l w (bd_u8 hk) h1 h2
end Go.Proofs.Ytepihchlfbdnjaa
