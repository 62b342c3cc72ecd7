/- Merged by program (shrink.py): contracts and plain laws that the claim's statement uses, part 2. -/
import Derived.Test.YtdfllmiokgoekaaDoorMa1
set_option linter.all false
set_option maxRecDepth 100000
set_option maxHeartbeats 8000000

namespace Go.Hub
open Go.Lib
def badL (l : List UInt8) : Bool := (decodeL l).1 == 65533 && (decodeL l).2 == 1
def chkf : Nat → Nat → List UInt8 → Int
  | 0, _, _ => -1
  | f + 1, i, l => if l = [] then -1 else if badL l || (decodeL l).1 == 0 then (i : Int) else chkf f (i + (decodeL l).2) (l.drop (decodeL l).2)
def chk (l : List UInt8) : Int := chkf l.length 0 l
theorem chkf_nil (f i : Nat) : chkf f i [] = -1 := by cases f <;> simp [chkf]
end Go.Hub
namespace Go.Proofs.YtdfllmiokgoekaaDoor
open Go.Shelf
def u8ren : Ren := ⟨fun | 32 => 57 | 49 => 65 | n => n, fun | 25 => 82 | 30 => 22 | 33 => 105 | 66 => 119 | 68 => 121 | 69 => 122 | n => n, fun | 2 => 0 | 3 => 1 | n => n⟩
theorem u8lays : Lays7.n32 Tryd.prog u8ren := {
  mixed := by kernel_rfl
  f32 := by kernel_rfl
  f49 := by kernel_rfl
  t0 := by kernel_rfl
  a0 := fun _ => by kernel_rfl
  z0 := fun _ => by kernel_rfl
  v0 := fun _ => by kernel_rfl
  i0 := by kernel_rfl
  t3 := by kernel_rfl
  a3 := fun _ => by kernel_rfl
  z3 := fun _ => by kernel_rfl
  v3 := fun _ => by kernel_rfl
  i3 := by kernel_rfl
  t4 := by kernel_rfl
  a4 := fun _ => by kernel_rfl
  z4 := fun _ => by kernel_rfl
  v4 := fun _ => by kernel_rfl
  i4 := by kernel_rfl
  t5 := by kernel_rfl
  a5 := fun _ => by kernel_rfl
  z5 := fun _ => by kernel_rfl
  v5 := fun _ => by kernel_rfl
  i5 := by kernel_rfl
  t21 := by kernel_rfl
  a21 := fun _ => by kernel_rfl
  z21 := fun _ => by kernel_rfl
  v21 := fun _ => by kernel_rfl
  i21 := by kernel_rfl
  t25 := by kernel_rfl
  a25 := fun _ => by kernel_rfl
  z25 := fun _ => by kernel_rfl
  v25 := fun _ => by kernel_rfl
  i25 := by kernel_rfl
  t30 := by kernel_rfl
  a30 := fun _ => by kernel_rfl
  z30 := fun _ => by kernel_rfl
  v30 := fun _ => by kernel_rfl
  i30 := by kernel_rfl
  t33 := by kernel_rfl
  a33 := fun _ => by kernel_rfl
  z33 := fun _ => by kernel_rfl
  v33 := fun _ => by kernel_rfl
  i33 := by kernel_rfl
  t66 := by kernel_rfl
  a66 := fun _ => by kernel_rfl
  z66 := fun _ => by kernel_rfl
  t68 := by kernel_rfl
  a68 := fun _ => by kernel_rfl
  z68 := fun _ => by kernel_rfl
  v68 := fun _ => by kernel_rfl
  i68 := by kernel_rfl
  t69 := by kernel_rfl
  a69 := fun _ => by kernel_rfl
  z69 := fun _ => by kernel_rfl
  v69 := fun _ => by kernel_rfl
  i69 := by kernel_rfl
  g2 := by kernel_rfl
  g3 := by kernel_rfl
}
end Go.Proofs.YtdfllmiokgoekaaDoor
namespace Go.Proofs.YtdfllmiokgoekaaDoor
open Go.RowKit Go.Hub Go.Lib
def Tabs (w : World) : Prop := Lib.Utf8Tabs 0 1 w
theorem Tabs.size {w : World} (h : Tabs w) : 2 ≤ w.heap.size := by
  have : 1 < w.heap.size := World.block_lt_of_cell? w _ (h.2 0 (by omega)).1
  omega
theorem Tabs.below {w w' : World} {B : Nat} (h : Tabs w) (hb : Below B w w') (hB : 2 ≤ B) : Tabs w' :=
  ⟨fun c hc => (hb.cell (p := ⟨0, c, none⟩) (by show 0 < B; omega)).trans (h.1 c hc), fun i hi => ⟨(hb.cell (p := ⟨1, 2 * i, none⟩) (by show 1 < B; omega)).trans (h.2 i hi).1, (hb.cell (p := ⟨1, 2 * i + 1, none⟩) (by show 1 < B; omega)).trans (h.2 i hi).2⟩⟩
theorem Tabs.old {w w' : World} (h : Tabs w) (hb : Below w.heap.size w w') : Tabs w' := h.below hb h.size
theorem getD_some {l : List UInt8} {k : Nat} (h : k < l.length) : l[k]? = some (l.getD k 0) := by simp [List.getD, h]
theorem get_getD (l : List UInt8) (j : Nat) : (⟨l.toArray⟩ : ByteArray).get! j = l.getD j 0 := by
  rw [← getD_get!']
theorem dec_any (b off cap : Nat) (l : List UInt8) (w : World) (hne : 0 < l.length) (hT : Tabs w) (hc : ∀ j, j < l.length → w.cell? ⟨b, off + j, none⟩ = some (.int .u8 ((l.getD j 0).toNat : Int))) :
    Calls Tryd.prog 57 #[.slice (some ⟨b, off, none⟩) l.length cap] w fun e w' => e = .returned (.tuple #[.int .i32 (decodeL l).1, .int .i64 (decodeL l).2]) ∧ Below w.heap.size w w' := by
  have hs : (⟨l.toArray⟩ : ByteArray).size = l.length := by show l.toArray.size = l.length; simp
  have h := Any7.utf8_DecodeRune u8lays ⟨l.toArray⟩ b off cap w hT (fun j hj => by rw [hs] at hj; rw [get_getD]; exact hc j hj)
  have e : Lib.decodeGo (⟨l.toArray⟩ : ByteArray) = decodeL l := by
    unfold Lib.decodeGo
    rw [if_neg (by rw [hs]; omega)]
    rfl
  rw [hs, e] at h
  exact h
theorem Bs_cells {E : List TypeId} {B : Nat} {w : World} {A : Option Addr} {n : Nat} {l : List UInt8} (h : Bs E B w A n l) (hn : 0 < n) : ∃ b off, A = some ⟨b, off, none⟩ ∧ ∀ j, j < n → w.cell? ⟨b, off + j, none⟩ = some (.int .u8 ((l.getD j 0).toNat : Int)) := by
  obtain ⟨b, off, e, _, _, hc⟩ := h.2 hn
  exact ⟨b, off, e, fun j hj => hc j _ (getD_some (by rw [h.1]; exact hj))⟩
theorem drop_cells {b off : Nat} {w : World} {l : List UInt8} (hc : ∀ j, j < l.length → w.cell? ⟨b, off + j, none⟩ = some (.int .u8 ((l.getD j 0).toNat : Int))) (i : Nat) :
    ∀ j, j < (l.drop i).length → w.cell? ⟨b, off + i + j, none⟩ = some (.int .u8 (((l.drop i).getD j 0).toNat : Int)) := fun j hj => by
  rw [getD_dropU, Nat.add_assoc]
  exact hc _ (by rw [List.length_drop] at hj; omega)
theorem chkf_at (l : List UInt8) (f i : Nat) (hi : i < l.length) (hf : l.length - i ≤ f) :
    ∃ f', f = f' + 1 ∧ chkf f i (l.drop i) = if badL (l.drop i) || (decodeL (l.drop i)).1 == 0 then (i : Int) else chkf f' (i + (decodeL (l.drop i)).2) (l.drop (i + (decodeL (l.drop i)).2)) := by
  obtain ⟨f', rfl⟩ : ∃ f', f = f' + 1 := ⟨f - 1, by omega⟩
  refine ⟨f', rfl, ?_⟩
  have hne : l.drop i ≠ [] := by
    intro h
    have := congrArg List.length h
    simp at this
    omega
  simp only [chkf]
  rw [if_neg hne, List.drop_drop]
theorem dec_zero (l : List UInt8) (hl : 0 < l.length) : (decodeL l).1 = 0 ↔ (l.getD 0 0).toNat = 0 := by
  rw [decodeL_N]
  rcases decodeN_shape l.length (l.getD 0 0).toNat (l.getD 1 0).toNat (l.getD 2 0).toNat (l.getD 3 0).toNat with ⟨c, e⟩ | ⟨c1, c2, c3, cv, e⟩ | ⟨c1, c2, c3, c4, cv, cs, e⟩ | ⟨c1, c2, c3, c4, c5, cv, cw, e⟩ | e
  · rw [e]
  · rw [e]; dsimp only; omega
  · rw [e]; dsimp only; omega
  · rw [e]; dsimp only; omega
  have hb := (l.getD 0 0).toNat_lt
  by_cases h : (l.getD 0 0).toNat < 128
  · unfold decodeN at e
    rw [if_pos h] at e
    have := congrArg Prod.fst e
    dsimp only at this
    omega
  rw [e]; dsimp only; omega
theorem chk_any (E : List TypeId) (B : Nat) (A : Option Addr) (cap : Nat) (l : List UInt8) (w : World) (hT : Tabs w) (h : Bs E B w A l.length l) (hl : l.length ≤ cap) (hcap : cap ≤ maxLen) :
    Calls Tryd.prog 43 #[.slice A l.length cap] w fun e w' => e = .returned (.int .i64 (chk l)) ∧ Below w.heap.size w w' := by
  unfold maxLen at hcap
  go_enter Tryd.func43, Tryd.ntmps43
  go_wp2
  go_loopg [3] l.length (fun g v wr => ∃ i f : Nat, i + g = l.length ∧ v = .int .i64 i ∧ l.length - i ≤ f ∧ chkf f i (l.drop i) = chk l ∧ Below w.heap.size w wr)
  case atStart => exact ⟨0, l.length, by omega, rfl, by omega, by simp [chk], Below.refl _ _⟩
  case round =>
    obtain ⟨i, f, hi, rfl, hf, hk, hB⟩ := hrel
    have HK := hid hk
    clear hk
    by_cases hlt : i < l.length
    · have hT2 := hT.old hB
      obtain ⟨b, off, rfl, hcell⟩ := Bs_cells (h.same (.of_below hB)) (by omega)
      have HB := hid hB
      have HC := hid hcell
      obtain ⟨f', rfl, hstep⟩ := chkf_at l f i hlt hf
      have HS := hid hstep
      have HI := hid hi
      have HF := hid hf
      have hdl : (l.drop i).length = l.length - i := List.length_drop
      have hw := decodeL_width (l.drop i)
      have hne : l.drop i ≠ [] := by intro h; have := congrArg List.length h; simp at this; omega
      have hle := decodeL_le (l.drop i) hne
      have hi2 : (i : Int) < (l.length : Int) := by omega
      have hi3 : (i : Int) ≤ (cap : Int) := by omega
      have hstp := dec_any b (off + i) (cap - i) (l.drop i) wr (by omega) hT2 (drop_cells hcell i)
      rw [hdl] at hstp hle
      have hzz := dec_zero (l.drop i) (by omega)
      rw [getD_dropU, Nat.add_zero] at hzz
      have hci : ¬ cap = i := by omega
      have hcl := hcell i hlt
      have HH := hid h
      clear hcell hstep hi hf hdl h hT2 hB hne
      go_wp2_with fail
      refine hstp.mono ?_
      rintro e w1 ⟨rfl, hb1⟩
      have hcl := (hb1.cell (p := ⟨b, off + i, none⟩) (World.block_lt_of_cell? _ _ hcl)).trans hcl
      have HB := hid (HB.out.trans (hb1.mono HB.out.size))
      obtain ⟨z, hz⟩ : ∃ z, z = (l.getD i 0).toNat := ⟨_, rfl⟩
      obtain ⟨r, hr⟩ : ∃ r, r = decodeL (l.drop i) := ⟨_, rfl⟩
      rw [← hr] at hw hle hzz ⊢
      rw [← hz] at hcl hzz
      have HR := hid hr
      clear hr hstp hlt hz hb1
      by_cases h1 : r.1 = 0
      · have hz1 : ((z : Int) == 0) = true := by simp; omega
        have HE := hid (show chk l = (i : Int) by rw [← HK.out, HS.out, ← HR.out, h1]; simp)
        clear h1 hzz
        go_wp2
        go_ret
        exact ⟨by rw [HE.out]; rfl, HB.out⟩
      have hz1 : ((z : Int) == 0) = false := by simp; omega
      by_cases h2 : r.1 = 65533
      · have hz2 : ((r.1 : Int) == 65533) = true := by simp; omega
        by_cases h3 : r.2 = 1
        · have hz3 : (r.2 : Int) < 2 := by omega
          have HE := hid (show chk l = (i : Int) by rw [← HK.out, HS.out]; unfold badL; rw [← HR.out, h2, h3]; simp)
          clear h1 hzz h2 h3
          go_wp2
          go_ret
          exact ⟨by rw [HE.out]; rfl, HB.out⟩
        have hz3 : ¬ (r.2 : Int) < 2 := by omega
        have HE := hid (show chkf f' (i + r.2) (l.drop (i + r.2)) = chk l by
          rw [← HK.out, HS.out]; unfold badL; rw [← HR.out]
          simp [h1, h3])
        clear h1 hzz h2 h3
        go_wp2
        go_roundg (gk - r.2)
        case measure => have := HI.out; omega
        case rel => exact ⟨i + r.2, f', by have := HI.out; omega, by go_num, by have := HF.out; omega, HE.out, HB.out⟩
      have hz2 : ((r.1 : Int) == 65533) = false := by simp; omega
      have HE := hid (show chkf f' (i + r.2) (l.drop (i + r.2)) = chk l by
        rw [← HK.out, HS.out]; unfold badL; rw [← HR.out]
        simp [h1, h2])
      clear h1 hzz h2
      go_wp2
      go_roundg (gk - r.2)
      case measure => have := HI.out; omega
      case rel => exact ⟨i + r.2, f', by have := HI.out; omega, by go_num, by have := HF.out; omega, HE.out, HB.out⟩
    have hi2 : ¬ (i : Int) < (l.length : Int) := by omega
    have HE := hid (show chk l = -1 by
      rw [← HK.out, List.drop_eq_nil_of_le (by omega), chkf_nil])
    clear hf hlt hi
    go_wp2
    go_ret
    exact ⟨by rw [HE.out]; rfl, hB⟩
end Go.Proofs.YtdfllmiokgoekaaDoor
namespace Go.Hub
open Go.RowKit Go.Lib
theorem bs_conv (E : List TypeId) (B : Nat) (w : World) (s : ByteArray) (e : TypeId) (he : e ∈ E) (cap : Nat) (fr : Nat × Nat) :
    Bs E B (w.drew.alloc (.cells (bytesRow s cap) e fr)) (some ⟨w.heap.size, 0, none⟩) s.data.toList.length s.data.toList := by
  refine ⟨rfl, fun _ => ⟨w.heap.size, 0, rfl, by simp, .inr ⟨_, e, fr, heap_alloc_new w.drew _, he⟩, fun j x hx => ?_⟩⟩
  rw [Nat.zero_add]
  have hj : j < s.data.size := by
    have := (List.getElem?_eq_some_iff.1 hx).1
    simpa using this
  refine (World.cell?_alloc_mark w.drew _ _ _ _).trans ?_
  rw [bytesRow_at s cap j hj]
  have : x = s.data[j] := by
    have := (List.getElem?_eq_some_iff.1 hx).2
    simp at this
    exact this.symm
  rw [this]
  rfl
end Go.Hub
namespace Go.Proofs.YtdfllmiokgoekaaDoor
open Go.RowKit Go.Hub Go.Lib
theorem toList_len (s : ByteArray) : s.toList.length = s.size := by rw [ByteArray.toList_eq]; rfl
theorem pos_of {s : ByteArray} (h : ¬ s = ⟨#[]⟩) : 0 < s.size := by
  have : s.size ≠ 0 := fun e => h (ByteArray.ext (Array.eq_empty_of_size_eq_zero e))
  omega
theorem pos_not {s : ByteArray} (h : s = ⟨#[]⟩) : s.size = 0 := by subst h; rfl
def textB (s : ByteArray) : Bool := decide (0 < s.size) && (decide (s.size ≤ 65535) && decide (chk s.toList < 0))
theorem text_t {s : ByteArray} (h1 : 0 < s.size) (h2 : s.size ≤ 65535) : textB s = decide (chk s.toList < 0) := by simp [textB, h1, h2]
theorem text_f {s : ByteArray} (h : ¬ (0 < s.size ∧ s.size ≤ 65535)) : textB s = false := by
  unfold textB
  by_cases h1 : 0 < s.size
  · rw [decide_eq_false (p := s.size ≤ 65535) (by omega)]; simp
  rw [decide_eq_false h1]; rfl
section
variable {P : Program} {ops : Array Oper} {rest : List Oper} {a : Act} {w : World} {Q : Exit → Act → World → Prop} {n d : Nat} {l : FL} {ty : TypeId} {ps : String} {af : Array Edge} {gd : Option (Nat × Bool)} {x : Operand} {src dst u8t : TypeId}
theorem L.convSB (f : Fr n a l) (hw : Region.wanted ⟨some d, .convert src dst x, ty, ps, af, gd⟩ (yielded ops a.tmps) = true) (hn : d < n) (hs : P.underlying src = some .string) (hd : P.underlying dst = some (.slice 5)) (he : P.underlying 5 = some (.int .u8)) {s : ByteArray} (hx : evl l x = some (.string s))
    (hm : s.size ≤ 1000000) (hK : ∀ a' w' c, Fr n a' ((d, .slice (some ⟨w.heap.size, 0, none⟩) s.toList.length c) :: l) → (s.toList.length ≤ c ∧ c ≤ maxLen) → Bs [5] w'.heap.size w' (some ⟨w.heap.size, 0, none⟩) s.toList.length s.toList → Kept [] w w' → wpList P ops Q rest a' w') : wpList P ops Q (⟨some d, .convert src dst x, ty, ps, af, gd⟩ :: rest) a w := by
  have h := run_bytes_of_string (P := P) w src dst 5 s hs hd he
  refine L.val (v := .slice (some ⟨w.heap.size, 0, none⟩) s.size (grownCap w s.size 0 5)) (w' := w.drew.alloc (.cells (bytesRow s (grownCap w s.size 0 5)) 5 ((bytesRow s (grownCap w s.size 0 5)).size, (bytesRow s (grownCap w s.size 0 5)).size + 1))) f hw rfl hn (by simp only [execOp, f.ev hx, Sem.run_bind, h, Result.andThen, Sem.run_pure]) fun a' f' => hK a' _ (grownCap w s.size 0 5) (by rw [toList_len]; exact f') ?_ ?_ ?_
  · rw [toList_len]
    exact ⟨grownCap_ge _ _ _ _, grownCap_le_maxLen _ _ _ _ (by unfold maxLen; omega)⟩
  · rw [ByteArray.toList_eq]
    exact bs_conv [5] _ w s 5 (by simp) _ _
  exact ((Kept.refl [] w).drewN 1).alloc _
end
theorem text_any (s : ByteArray) (w : World) (hT : Tabs w) (hs : s.size ≤ 1000000) : Calls Tryd.prog 30 #[.string s] w (fun e w' => Kept [] w w' ∧ e = .returned (.bool (textB s))) := by
 have HK : Kept [] w w := Kept.refl [] w
 refine C.enter Tryd.func30 rfl Tryd.ntmps30 rfl ?_
 intro a0 f0
 have f1 : Fr 16 a0 [(0, .string s)] := f0
 refine C.sk fun K0 hK0 => ?_
 refine L.ag f1 fun a2 f2 => ?_
 have f3 := f2.pk [0, 2]
 refine wn hK0 (C.sk fun K1 hK1 => ?_)
 refine L.mv f3 fun a4 f4 => ?_
 refine L.va f4 (E.neqS f4 rfl rfl) fun a5 f5 => ?_
 refine L.mv f5 fun a6 f6 => ?_
 clear f0 f1 a0 f2 f3 a2 f4 a4 f5 a5
 refine f6.splitN 5 rfl (fun h0 f7 => ?_) (fun h0 f7 => ?_)
 ·have h5 := h0
  refine L.mv f7 (hw := (f7.yes rfl rfl)) fun a8 f8 => ?_
  refine L.va f8 (E.lenS f8 U9 rfl) (hw := (f8.yes rfl rfl)) fun a9 f9 => ?_
  refine L.va f9 (E.leq f9 rfl rfl) (hw := (f9.yes rfl rfl)) fun a10 f10 => ?_
  refine L.va f10 (E.pickT f10 rfl rfl) fun a11 f11 => ?_
  refine L.mv f11 fun a12 f12 => ?_
  clear f6 f7 a6 f8 a8 f9 a9 f10 a10 f11 a11
  refine f12.splitD 10 rfl (fun h1 f13 => ?_) (fun h1 f13 => ?_)
  ·have h10 := h1
   refine L.mv f13 (hw := (f13.yes rfl rfl)) fun a14 f14 => ?_
   refine L.convSB f14 (f14.yes rfl rfl) (by decide) U9 U22 U5 rfl (by omega) fun a15 w1 cb f15 hcb BS kcv => ?_
   have szw1 := kcv.size
   replace HK := HK.z kcv
   clear f12 f13 a12 f14 a14 kcv
   refine L.cl f15 (run_call Tryd.call43 (args1 f15 rfl)) (chk_any [5] w1.heap.size _ cb s.toList w1 (hT.old (HK.below (by simp) (Nat.le_refl _))) BS hcb.1 hcb.2) ?_ (hw := (f15.yes rfl rfl))
   rintro e w2 ⟨rfl, kb⟩
   have kc2 := Kept.of_below kb []
   refine ⟨_, rfl, fun a16 f16 => ?_⟩
   have szw2 := kc2.size
   replace HK := HK.z kc2
   clear f15 a15 kc2
   refine L.va f16 (E.lss f16 rfl rfl) (hw := (f16.yes rfl rfl)) fun a17 f17 => ?_
   refine L.va f17 (E.pickT f17 rfl rfl) fun a18 f18 => ?_
   refine L.ag f18 fun a19 f19 => ?_
   have f20 := f19.pk [2]
   refine wn hK1 (wp_ret ?_); (try simp only [xt, xb]); refine C.ret f20 rfl rfl ?_
   exact ⟨HK, by rw [text_t (pos_of h5) (by omega)]⟩
  have h10 := h1
  refine L.skip f13 (f13.noT rfl rfl) rfl (by decide) fun a14 f14 => ?_
  refine L.skip f14 (f14.noT rfl rfl) rfl (by decide) fun a15 f15 => ?_
  refine L.run f15 (rest' := []) (by kernel_rfl) fun a16 f16 => ?_
  clear f12 f13 a12 f14 a14
  have f17 := f16.sub (sv 2 (.bool false) sn)
  refine wn hK1 (wp_ret ?_); (try simp only [xt, xb]); refine C.ret f17 rfl rfl ?_
  exact ⟨HK, by rw [text_f (by omega)]⟩
 have h5 := h0
 refine L.skip f7 (f7.noT rfl rfl) rfl (by decide) fun a8 f8 => ?_
 refine L.skip f8 (f8.noT rfl rfl) rfl (by decide) fun a9 f9 => ?_
 refine L.skip f9 (f9.noT rfl rfl) rfl (by decide) fun a10 f10 => ?_
 refine L.va f10 (E.pickF f10 rfl rfl) fun a11 f11 => ?_
 refine L.mv f11 fun a12 f12 => ?_
 refine L.skip f12 (f12.noT rfl rfl) rfl (by decide) fun a13 f13 => ?_
 refine L.skip f13 (f13.noT rfl rfl) rfl (by decide) fun a14 f14 => ?_
 clear f6 f7 a6 f8 a8 f9 a9 f10 a10 f11 a11 f12 a12 f13 a13
 refine L.run f14 (rest' := []) (by kernel_rfl) fun a15 f15 => ?_
 have f16 := f15.sub (sv 2 (.bool false) sn)
 refine wn hK1 (wp_ret ?_); (try simp only [xt, xb]); refine C.ret f16 rfl rfl ?_
 exact ⟨HK, by rw [text_f (by rw [pos_not h5]; omega)]⟩
end Go.Proofs.YtdfllmiokgoekaaDoor
namespace Go.Proofs.YtdfllmiokgoekaaDoor
open Go.Shelf
def spren : Ren := ⟨fun | 138 => 67 | 143 => 68 | 146 => 44 | 195 => 70 | 197 => 71 | 217 => 75 | 218 => 72 | 219 => 73 | 221 => 58 | 224 => 77 | 225 => 76 | 260 => 74 | 266 => 79 | 267 => 78 | 268 => 66 | 314 => 80 | n => n, fun | 31 => 58 | 46 => 82 | 51 => 100 | 105 => 105 | 119 => 119 | 138 => 121 | 139 => 122 | 146 => 126 | n => n, fun | 1 => 2 | 3 => 0 | 4 => 1 | n => n⟩
theorem splitL : Lays.n146 Tryd.prog spren := {
  mixed := by kernel_rfl
  f138 := by kernel_rfl
  f143 := by kernel_rfl
  f146 := by kernel_rfl
  f195 := by kernel_rfl
  f197 := by kernel_rfl
  f217 := by kernel_rfl
  f218 := by kernel_rfl
  f219 := by kernel_rfl
  f221 := by kernel_rfl
  f224 := by kernel_rfl
  f225 := by kernel_rfl
  f260 := by kernel_rfl
  f266 := by kernel_rfl
  f267 := by kernel_rfl
  f268 := by kernel_rfl
  f314 := by kernel_rfl
  t0 := by kernel_rfl
  a0 := fun _ => by kernel_rfl
  z0 := fun _ => by kernel_rfl
  v0 := fun _ => by kernel_rfl
  t3 := by kernel_rfl
  a3 := fun _ => by kernel_rfl
  z3 := fun _ => by kernel_rfl
  v3 := fun _ => by kernel_rfl
  t4 := by kernel_rfl
  a4 := fun _ => by kernel_rfl
  z4 := fun _ => by kernel_rfl
  v4 := fun _ => by kernel_rfl
  t5 := by kernel_rfl
  a5 := fun _ => by kernel_rfl
  z5 := fun _ => by kernel_rfl
  v5 := fun _ => by kernel_rfl
  t9 := by kernel_rfl
  a9 := fun _ => by kernel_rfl
  z9 := fun _ => by kernel_rfl
  v9 := fun _ => by kernel_rfl
  t21 := by kernel_rfl
  a21 := fun _ => by kernel_rfl
  z21 := fun _ => by kernel_rfl
  v21 := fun _ => by kernel_rfl
  t31 := by kernel_rfl
  a31 := fun _ => by kernel_rfl
  z31 := fun _ => by kernel_rfl
  v31 := fun _ => by kernel_rfl
  t46 := by kernel_rfl
  a46 := fun _ => by kernel_rfl
  z46 := fun _ => by kernel_rfl
  v46 := fun _ => by kernel_rfl
  t51 := by kernel_rfl
  a51 := fun _ => by kernel_rfl
  z51 := fun _ => by kernel_rfl
  v51 := fun _ => by kernel_rfl
  t105 := by kernel_rfl
  a105 := fun _ => by kernel_rfl
  z105 := fun _ => by kernel_rfl
  v105 := fun _ => by kernel_rfl
  t119 := by kernel_rfl
  a119 := fun _ => by kernel_rfl
  z119 := fun _ => by kernel_rfl
  t138 := by kernel_rfl
  a138 := fun _ => by kernel_rfl
  z138 := fun _ => by kernel_rfl
  v138 := fun _ => by kernel_rfl
  t139 := by kernel_rfl
  a139 := fun _ => by kernel_rfl
  z139 := fun _ => by kernel_rfl
  v139 := fun _ => by kernel_rfl
  t146 := by kernel_rfl
  a146 := fun _ => by kernel_rfl
  z146 := fun _ => by kernel_rfl
  v146 := fun _ => by kernel_rfl
  g1 := by kernel_rfl
  g3 := by kernel_rfl
  g4 := by kernel_rfl
}
end Go.Proofs.YtdfllmiokgoekaaDoor
namespace Go.Proofs.YtdfllmiokgoekaaDoor
open Go.RowKit Go.Hub Go.Lib Go.Shelf
def Glob (w : World) : Prop := Tabs w ∧ ∃ m, w.cell? ⟨2, 0, none⟩ = some (.int .i64 m)
theorem Glob.kept {w w' : World} (h : Glob w) (hk : Kept [] w w') : Glob w' := ⟨h.1.old (hk.below (by simp) (Nat.le_refl _)), by
  obtain ⟨m, hm⟩ := h.2
  exact ⟨m, (hk.cell (p := ⟨2, 0, none⟩) (World.block_lt_of_cell? w _ hm) (by simp)).trans hm⟩⟩
def slash : ByteArray := ⟨#[47]⟩
def levelsL (s : ByteArray) : List ByteArray := Lib.splitB slash 0 (Lib.countB s slash) s
def LevPost (s : ByteArray) (w : World) (e : Ending) (w' : World) : Prop := Kept [] w w' ∧ ∃ A c, e = .returned (.slice A (levelsL s).length c) ∧ Ss w' A (levelsL s) ∧ (levelsL s).length ≤ c ∧ 1 ≤ (levelsL s).length ∧ (levelsL s).length ≤ s.size + 1
theorem lev_len (s : ByteArray) : (levelsL s).length = Lib.countB s slash + 1 := Lib.splitB_all slash (by decide) 0 _ s rfl
theorem cnt_le (s : ByteArray) : Lib.countB s slash ≤ s.size := Lib.countB_le slash (by decide) s.size s (Nat.le_refl _)
theorem split_any (s : ByteArray) (w : World) (G : Glob w) (hs : s.size ≤ 1000000) : Calls Tryd.prog 44 #[.string s, .string ⟨#[47]⟩] w (LevPost s w) := by
  obtain ⟨m, hm⟩ := G.2
  have h := Any.strings_Split splitL (by kernel_rfl) s slash m w (by omega) hm (by decide)
  refine Calls.mono h ?_
  rintro e w' ⟨rfl, rfl⟩
  refine ⟨(Kept.refl [] w).alloc _, some ⟨w.heap.size, 0, none⟩, Lib.countB s slash + 1, by rw [lev_len], ?_, by rw [lev_len]; exact Nat.le_refl _, by rw [lev_len]; omega, by rw [lev_len]; have := cnt_le s; omega⟩
  refine ⟨by simp, fun _ => ⟨w.heap.size, 0, rfl, by simp, fun j u hu => ?_⟩⟩
  rw [Nat.zero_add]
  refine (World.cell?_alloc_mark w _ _ _ _).trans ?_
  rw [← Array.getElem?_toList]
  exact hu
theorem levels_any (s : ByteArray) (w : World) (G : Glob w) (hs : s.size ≤ 1000000) : Calls Tryd.prog 31 #[.string s] w (LevPost s w) := by
 have HK : Kept [] w w := Kept.refl [] w
 refine C.enter Tryd.func31 rfl Tryd.ntmps31 rfl ?_
 intro a0 f0
 have f1 : Fr 5 a0 [(0, .string s)] := f0
 refine C.sk fun K0 hK0 => ?_
 refine L.ag f1 fun a2 f2 => ?_
 have f3 := f2.pk [0, 2]
 refine wn hK0 (C.sk fun K1 hK1 => ?_)
 refine L.mv f3 fun a4 f4 => ?_
 refine L.cl f4 (run_call Tryd.call44 (args2 f4 rfl rfl)) (split_any s _ G hs) ?_
 clear f0 f1 a0 f2 f3 a2
 rintro e w1 ⟨kc1, A, c, rfl, h1, h2, h3, h4⟩
 refine ⟨_, rfl, fun a5 f5 => ?_⟩
 have szw1 := kc1.size
 replace HK := HK.z kc1
 clear f4 a4 kc1
 refine L.ag f5 fun a6 f6 => ?_
 have f7 := f6.pk [2]
 refine wn hK1 (wp_ret ?_); (try simp only [xt, xb]); refine C.ret f7 rfl rfl ?_
 exact ⟨HK, A, c, rfl, h1, h2, h3, h4⟩
end Go.Proofs.YtdfllmiokgoekaaDoor
namespace Go.Proofs.YtdfllmiokgoekaaDoor
open Go.RowKit Go.Hub Go.Lib
theorem wsz9_tg : (Tryd.prog.info? 9).map (·.size) = some 1 := by kernel_rfl
def okL (p : ByteArray) (last : Bool) : Bool := decide (p = ⟨#[43]⟩) || (decide (p = ⟨#[35]⟩) && last) || !anyW p
theorem any35 : anyW ⟨#[35]⟩ = true := by kernel_rfl
def okAll : List ByteArray → Bool
  | [] => true
  | p :: r => okL p r.isEmpty && okAll r
theorem ok_at {l : List ByteArray} {k : Nat} {p : ByteArray} (h : l[k]? = some p) : okAll (l.drop k) = (okL p (decide (((k : Nat) : Int) = (l.length : Int) - 1)) && okAll (l.drop (k + 1))) := by
  obtain ⟨hk, rfl⟩ := List.getElem?_eq_some_iff.1 h
  rw [List.drop_eq_getElem_cons hk, okAll]
  have e : (l.drop (k + 1)).isEmpty = decide (((k : Nat) : Int) = (l.length : Int) - 1) := by
    rw [Bool.eq_iff_iff]
    simp [List.isEmpty_iff, List.drop_eq_nil_iff]
    omega
  rw [e]
def filterB (s : ByteArray) : Bool := textB s && okAll (levelsL s)
theorem ok_next {l : List ByteArray} {k : Nat} {p : ByteArray} (h : l[k]? = some p) (ho : okL p (decide (((k : Nat) : Int) = (l.length : Int) - 1)) = true) : okAll (l.drop (k + 1)) = okAll (l.drop k) := by
  rw [ok_at h, ho, Bool.true_and]
theorem filter_any (s : ByteArray) (w : World) (G : Glob w) (hs : s.size ≤ 1000000) : Calls Tryd.prog 17 #[.string s] w (fun e w' => Kept [] w w' ∧ e = .returned (.bool (filterB s))) := by
 have HK : Kept [] w w := Kept.refl [] w
 refine C.enter Tryd.func17 rfl Tryd.ntmps17 rfl ?_
 intro a0 f0
 have f1 : Fr 37 a0 [(0, .string s)] := f0
 refine C.sk fun K0 hK0 => ?_
 refine L.ag f1 fun a2 f2 => ?_
 refine wn hK0 ?_
 have f3 := f2.pk [0, 2]
 refine wp_seq_k fun K1 hK1 => C.sk fun K2 hK2 => ?_
 refine L.mv f3 fun a4 f4 => ?_
 refine L.cl f4 (run_call Tryd.call30 (args1 f4 rfl)) (text_any s w (G.kept HK).1 hs) ?_
 clear f0 f1 a0 f2 f3 a2
 rintro e w1 ⟨kc1, rfl⟩
 refine ⟨_, rfl, fun a5 f5 => ?_⟩
 have szw1 := kc1.size
 replace HK := HK.z kc1
 clear f4 a4 kc1
 refine L.va f5 (E.not f5 rfl) fun a6 f6 => ?_
 refine wn hK2 ?_
 have f7 := f6.pk [0, 2, 8]
 clear f5 a5 f6
 refine f7.splitNB 8 rfl (fun h0 f8 => ?_) (fun h0 f8 => ?_)
 ·have h8 := h0
  refine C.condT f8 rfl ?_
  refine C.sk fun K3 hK3 => ?_
  refine L.ag f8 fun a9 f9 => ?_
  have f10 := f9.pk [0, 2]
  refine wn hK3 (wp_ret ?_); (try simp only [xt, xb]); refine C.ret f10 rfl rfl ?_
  exact ⟨HK, by unfold filterB; simp [*]⟩
 have h8 := h0
 refine C.condF f8 rfl ?_
 refine wp_skip (hK1 _ _ ?_)
 have f9 := f8.pk [0, 2]
 refine C.sk fun K4 hK4 => ?_
 refine L.mv f9 fun a10 f10 => ?_
 refine L.cl f10 (run_call Tryd.call31 (args1 f10 rfl)) (levels_any s w1 (G.kept HK) hs) ?_
 clear f7 f8 f9 a6
 rintro e w2 ⟨kc2, A, c, rfl, LS, l2, l3, l4⟩
 refine ⟨_, rfl, fun a11 f11 => ?_⟩
 have szw2 := kc2.size
 replace HK := HK.z kc2
 clear f10 a10 kc2
 refine L.ag f11 fun a12 f12 => ?_
 refine wn hK4 ?_
 have f13 := f12.pk [2, 3]
 refine wp_seq_k fun K5 hK5 => C.sk fun K6 hK6 => ?_
 refine L.mv f13 fun a14 f14 => ?_
 refine L.va f14 (E.lenL f14 U58 rfl) fun a15 f15 => ?_
 refine L.mv f15 fun a16 f16 => ?_
 refine wn hK6 ?_
 have f17 := f16.pk [2, 3, 11, 12, 13]
 refine wp_block ?_
 clear f11 a11 f12 f13 a12 f14 a14 f15 a15 f16
 refine C.loop (fun gk a W => ∃ k : Nat, k + gk = (levelsL s).length ∧ okAll ((levelsL s).drop k) = okAll (levelsL s) ∧ Kept [] w W ∧ Ss W A (levelsL s) ∧ Fr 37 a [(3, .slice A (levelsL s).length c), (11, .slice A (levelsL s).length c), (12, .int .i64 (levelsL s).length), (13, .int .i64 k)]) ((levelsL s).length) ?_ ?_
 ·exact ⟨0, by omega, rfl, HK, LS, f17.sub (sx (sx (sx (sx sn))))⟩
 intro gk8 a18 w3 hI KL7 hKL7
 obtain ⟨k, hk, hq, HK, LS, f18⟩ := hI
 try clear f17
 refine C.sk fun K8 hK8 => ?_
 refine L.va f18 (E.lss f18 rfl rfl) fun a19 f19 => ?_
 refine wn hK8 ?_
 have f20 := f19.pk [3, 11, 12, 13, 14]
 refine wp_seq_k fun K9 hK9 => ?_
 clear f18 a18 f19
 refine f20.splitD 14 rfl (fun h1 f21 => ?_) (fun h1 f21 => ?_)
 ·obtain ⟨p, hx⟩ : ∃ p, (levelsL s)[k]? = some p := ⟨(levelsL s)[k]'(by omega), List.getElem?_eq_getElem _⟩
  obtain ⟨b1, o1, hA⟩ := LS.addr (k := k) (by omega)
  refine C.condT f21 rfl ?_
  refine wp_skip (hK9 _ _ ?_)
  have f22 := f21.pk [3, 11, 12, 13, 14]
  refine wp_seq_k fun K10 hK10 => ?_
  refine wp_block ?_
  refine C.sk fun K11 hK11 => ?_
  refine L.mv f22 fun a23 f23 => ?_
  refine L.va f23 (E.indexA f23 (by assumption) U58 wsz9_tg rfl rfl (by omega) (by omega)) fun a24 f24 => ?_
  refine L.va f24 (E.load f24 U9 rfl rfl (ss_cell LS hA hx)) fun a25 f25 => ?_
  refine L.ag f25 fun a26 f26 => ?_
  refine L.ag f26 fun a27 f27 => ?_
  have f28 := f27.pk [3, 4, 5, 11, 12, 13, 14, 15, 16, 17]
  refine wn hK11 (C.sk fun K12 hK12 => ?_)
  refine L.mv f28 fun a29 f29 => ?_
  clear f20 f21 f22 a19 f23 a23 f24 a24 f25 a25 f26 a26 f27 f28 a27
  refine L.va f29 (E.neqS f29 rfl rfl) fun a30 f30 => ?_
  refine L.mv f30 fun a31 f31 => ?_
  clear f29 a29 f30 a30
  refine f31.splitN 20 rfl (fun h2 f32 => ?_) (fun h2 f32 => ?_)
  ·have h20 := h2
   refine L.mv f32 (hw := (f32.yes rfl rfl)) fun a33 f33 => ?_
   refine L.va f33 (E.eqlS f33 rfl rfl) (hw := (f33.yes rfl rfl)) fun a34 f34 => ?_
   refine L.mv f34 (hw := (f34.yes rfl rfl)) fun a35 f35 => ?_
   clear f31 f32 a31 f33 a33 f34 a34
   refine f35.splitD 23 rfl (fun h3 f36 => ?_) (fun h3 f36 => ?_)
   ·have h23 := h3
    refine L.mv f36 (hw := (f36.yes rfl rfl)) fun a37 f37 => ?_
    refine L.mv f37 (hw := (f37.yes rfl rfl)) fun a38 f38 => ?_
    refine L.va f38 (E.lenL f38 U58 rfl) (hw := (f38.yes rfl rfl)) fun a39 f39 => ?_
    refine L.va f39 (E.sub f39 rfl rfl (IntWalk.i64_in _ (by omega))) (hw := (f39.yes rfl rfl)) fun a40 f40 => ?_
    refine L.va f40 (E.eql f40 rfl rfl) (hw := (f40.yes rfl rfl)) fun a41 f41 => ?_
    refine L.va f41 (E.pickT f41 rfl rfl) (hw := (f41.yes rfl rfl)) fun a42 f42 => ?_
    refine L.va f42 (E.not f42 rfl) (hw := (f42.yes rfl rfl)) fun a43 f43 => ?_
    clear f35 f36 a35 f37 a37 f38 a38 f39 a39 f40 a40 f41 a41 f42 a42
    refine L.va f43 (E.pickT f43 rfl rfl) fun a44 f44 => ?_
    refine L.mv f44 fun a45 f45 => ?_
    clear f43 a43 f44 a44
    refine f45.splitN 32 rfl (fun h4 f46 => ?_) (fun h4 f46 => ?_)
    ·have h32 := h4
     refine L.mv f46 (hw := (f46.yes rfl rfl)) fun a47 f47 => ?_
     refine L.cl f47 (run_call Tryd.call32 (args2 f47 rfl rfl)) (cont_any p w3) ?_ (hw := (f47.yes rfl rfl))
     clear f45 f46 a45
     rintro e w4 ⟨kc4, rfl⟩
     refine ⟨_, rfl, fun a48 f48 => ?_⟩
     have szw4 := kc4.size
     replace HK := HK.z kc4
     replace LS := LS.kept kc4
     clear f47 a47 kc4
     refine L.va f48 (E.pickT f48 rfl rfl) fun a49 f49 => ?_
     refine wn hK12 ?_
     have f50 := f49.pk [3, 4, 5, 11, 12, 13, 14, 15, 16, 17, 18, 19, 20, 21, 22, 23, 24, 25, 26, 27, 28, 29, 30, 31, 32, 33, 34, 35]
     clear f48 a48 f49
     refine f50.split 35 rfl (fun h5 f51 => ?_) (fun h5 f51 => ?_)
     ·have h35 := h5
      refine C.condT f51 rfl ?_
      refine C.sk fun K13 hK13 => ?_
      refine L.ag f51 fun a52 f52 => ?_
      have f53 := f52.pk [2, 3, 4, 5, 11, 12, 13, 14, 15, 16, 17, 18, 19, 20, 21, 22, 23, 24, 25, 26, 27, 28, 29, 30, 31, 32, 33, 34, 35]
      refine wn hK13 (wp_ret ?_); (try simp only [xt, xb]); refine C.ret f53 rfl rfl ?_
      exact ⟨HK, by unfold filterB; rw [← hq, ok_at hx]; simp [okL, any35, h20, h23, h32, h35]⟩
     have h35 := h5
     refine C.condF f51 rfl ?_
     refine wp_skip (hK10 _ _ ?_)
     have f52 := f51.pk [3, 4, 5, 11, 12, 13, 14, 15, 16, 17, 18, 19, 20, 21, 22, 23, 24, 25, 26, 27, 28, 29, 30, 31, 32, 33, 34, 35]
     refine C.region ?_
     refine L.va f52 (E.add f52 rfl rfl (IntWalk.i64_in _ (by omega))) fun a53 f53 => ?_
     refine L.mv f53 fun a54 f54 => ?_
     clear f50 f51 f52 a49 f53 a53
     refine wpList_nil (hKL7 _ _ (gk8 - 1) ?_ ?_)
     ·omega
     exact ⟨k + 1, by omega, (ok_next hx (by rw [h23, any35] at h35; cases h35)).trans hq, HK, LS, f54.sub (sx (sx (sx (sx sn))))⟩
    have h32 := h4
    refine L.run f46 (rest' := []) (by kernel_rfl) fun a47 f47 => ?_
    clear f45
    refine wn hK12 ?_
    have f48 := f47.sub (sv 35 (.bool false) (pkR f47 [3, 4, 5, 11, 12, 13, 14, 15, 16, 17, 18, 19, 20, 21, 22, 23, 24, 25, 26, 27, 28, 29, 30, 31, 32]))
    refine C.condF f48 rfl ?_
    refine wp_skip (hK10 _ _ ?_)
    have f49 := f48.pk [3, 4, 5, 11, 12, 13, 14, 15, 16, 17, 18, 19, 20, 21, 22, 23, 24, 25, 26, 27, 28, 29, 30, 31, 32, 35]
    refine C.region ?_
    refine L.va f49 (E.add f49 rfl rfl (IntWalk.i64_in _ (by omega))) fun a50 f50 => ?_
    refine L.mv f50 fun a51 f51 => ?_
    clear f47 f46 f48 f49 a47 f50 a50
    refine wpList_nil (hKL7 _ _ (gk8 - 1) ?_ ?_)
    ·omega
    exact ⟨k + 1, by omega, (ok_next hx (by simp [okL, h20, h23, h32])).trans hq, HK, LS, f51.sub (sx (sx (sx (sx sn))))⟩
   have h23 := h3
   refine L.skip f36 (f36.noT rfl rfl) rfl (by decide) fun a37 f37 => ?_
   refine L.skip f37 (f37.noT rfl rfl) rfl (by decide) fun a38 f38 => ?_
   refine L.skip f38 (f38.noT rfl rfl) rfl (by decide) fun a39 f39 => ?_
   refine L.skip f39 (f39.noT rfl rfl) rfl (by decide) fun a40 f40 => ?_
   refine L.skip f40 (f40.noT rfl rfl) rfl (by decide) fun a41 f41 => ?_
   refine L.va f41 (E.pickF f41 rfl rfl) (hw := (f41.yes rfl rfl)) fun a42 f42 => ?_
   refine L.va f42 (E.not f42 rfl) (hw := (f42.yes rfl rfl)) fun a43 f43 => ?_
   clear f35 f36 a35 f37 a37 f38 a38 f39 a39 f40 a40 f41 a41 f42 a42
   refine L.va f43 (E.pickT f43 rfl rfl) fun a44 f44 => ?_
   refine L.mv f44 fun a45 f45 => ?_
   refine L.mv f45 (hw := (f45.yes rfl rfl)) fun a46 f46 => ?_
   refine L.cl f46 (run_call Tryd.call32 (args2 f46 rfl rfl)) (cont_any p w3) ?_ (hw := (f46.yes rfl rfl))
   clear f43 a43 f44 a44 f45 a45
   rintro e w4 ⟨kc4, rfl⟩
   refine ⟨_, rfl, fun a47 f47 => ?_⟩
   have szw4 := kc4.size
   replace HK := HK.z kc4
   replace LS := LS.kept kc4
   clear f46 a46 kc4
   refine L.va f47 (E.pickT f47 rfl rfl) fun a48 f48 => ?_
   refine wn hK12 ?_
   have f49 := f48.pk [3, 4, 5, 11, 12, 13, 14, 15, 16, 17, 18, 19, 20, 21, 22, 23, 24, 25, 26, 27, 28, 29, 30, 31, 32, 33, 34, 35]
   clear f47 a47 f48
   refine f49.split 35 rfl (fun h6 f50 => ?_) (fun h6 f50 => ?_)
   ·have h35 := h6
    refine C.condT f50 rfl ?_
    refine C.sk fun K14 hK14 => ?_
    refine L.ag f50 fun a51 f51 => ?_
    have f52 := f51.pk [2, 3, 4, 5, 11, 12, 13, 14, 15, 16, 17, 18, 19, 20, 21, 22, 23, 24, 25, 26, 27, 28, 29, 30, 31, 32, 33, 34, 35]
    refine wn hK14 (wp_ret ?_); (try simp only [xt, xb]); refine C.ret f52 rfl rfl ?_
    exact ⟨HK, by unfold filterB; rw [← hq, ok_at hx]; simp [okL, any35, h20, h23, h35]⟩
   have h35 := h6
   refine C.condF f50 rfl ?_
   refine wp_skip (hK10 _ _ ?_)
   have f51 := f50.pk [3, 4, 5, 11, 12, 13, 14, 15, 16, 17, 18, 19, 20, 21, 22, 23, 24, 25, 26, 27, 28, 29, 30, 31, 32, 33, 34, 35]
   refine C.region ?_
   refine L.va f51 (E.add f51 rfl rfl (IntWalk.i64_in _ (by omega))) fun a52 f52 => ?_
   refine L.mv f52 fun a53 f53 => ?_
   clear f49 f50 f51 a48 f52 a52
   refine wpList_nil (hKL7 _ _ (gk8 - 1) ?_ ?_)
   ·omega
   exact ⟨k + 1, by omega, (ok_next hx (by simp [okL, h20, h23, h35])).trans hq, HK, LS, f53.sub (sx (sx (sx (sx sn))))⟩
  have h20 := h2
  refine L.run f32 (rest' := []) (by kernel_rfl) fun a33 f33 => ?_
  clear f31
  refine wn hK12 ?_
  have f34 := f33.sub (sv 31 (.bool false) (sv 32 (.bool false) (sv 35 (.bool false) (pkR f33 [3, 4, 5, 11, 12, 13, 14, 15, 16, 17, 18, 19, 20]))))
  refine C.condF f34 rfl ?_
  refine wp_skip (hK10 _ _ ?_)
  have f35 := f34.pk [3, 4, 5, 11, 12, 13, 14, 15, 16, 17, 18, 19, 20, 31, 32, 35]
  refine C.region ?_
  refine L.va f35 (E.add f35 rfl rfl (IntWalk.i64_in _ (by omega))) fun a36 f36 => ?_
  refine L.mv f36 fun a37 f37 => ?_
  clear f33 f32 f34 f35 a33 f36 a36
  refine wpList_nil (hKL7 _ _ (gk8 - 1) ?_ ?_)
  ·omega
  exact ⟨k + 1, by omega, (ok_next hx (by simp [okL, h20])).trans hq, HK, LS, f37.sub (sx (sx (sx (sx sn))))⟩
 have hend := h1
 refine C.condF f21 rfl ?_
 refine wp_exit (hK5 _ _ ?_)
 have f22 := f21.sub sn
 refine C.sk fun K15 hK15 => ?_
 refine L.ag f22 fun a23 f23 => ?_
 have f24 := f23.pk [2]
 refine wn hK15 (wp_ret ?_); (try simp only [xt, xb]); refine C.ret f24 rfl rfl ?_
 exact ⟨HK, by unfold filterB; rw [← hq, List.drop_eq_nil_of_le (by omega)]; simp [okAll, h8]⟩
end Go.Proofs.YtdfllmiokgoekaaDoor
namespace Go.Proofs.YtdfllmiokgoekaaDoor
open Go.RowKit Go.Hub Go.Lib Go.MapKept
theorem wzi9_sx : (Tryd.prog.info? 9).map (fun i => (i.zero, i.size)) = some (some (.string ⟨#[]⟩), 1) := by kernel_rfl
theorem wbs58_10_sx (x0 : ByteArray) (x1 : ByteArray) (x2 : ByteArray) (x3 : ByteArray) (x4 : ByteArray) (x5 : ByteArray) (x6 : ByteArray) (x7 : ByteArray) (x8 : ByteArray) (x9 : ByteArray) : Instr.fill (fun i => some (i * 1, 1)) ((Array.range (10 * 1)).map fun j => (Value.cells (.string ⟨#[]⟩))[j % (Value.cells (.string ⟨#[]⟩)).size]!) [(0, .string x0), (1, .string x1), (2, .string x2), (3, .string x3), (4, .string x4), (5, .string x5), (6, .string x6), (7, .string x7), (8, .string x8), (9, .string x9)] = some #[.string x0, .string x1, .string x2, .string x3, .string x4, .string x5, .string x6, .string x7, .string x8, .string x9] := by kernel_rfl
theorem wsz9_sx : (Tryd.prog.info? 9).map (·.size) = some 1 := by kernel_rfl
def p10 : List ByteArray := [⟨#[97]⟩, ⟨#[35]⟩, ⟨#[97, 47, 43]⟩, ⟨#[43, 47, 98]⟩, ⟨#[97, 47, 35]⟩, ⟨#[98, 47, 99]⟩, ⟨#[36, 115, 47, 35]⟩, ⟨#[43]⟩, ⟨#[43, 47, 43]⟩, ⟨#[195, 169, 47, 35]⟩]
abbrev FE := List (ByteArray × Int)
theorem list_at (l : List ByteArray) (i : Int) (hi : i.toNat < l.length) : ∃ x, l[i.toNat]? = some x := ⟨l[i.toNat], List.getElem?_eq_getElem hi⟩
theorem p10_at (k : Int) (h : 0 ≤ k) : ∃ x, p10[Int.toNat (k % 10)]? = some x := list_at p10 _ (by show _ < 10; omega)
theorem ss_blk {w : World} {g t : Nat} {l : List ByteArray} (B : Blk w g t (l.map Value.string).toArray) : Ss w (some ⟨g, 0, none⟩) l :=
  ⟨by simp, fun _ => ⟨g, 0, rfl, B.lt, fun j u hu => by
    rw [Nat.zero_add]
    exact B.cell_ (by rw [← Array.getElem?_toList]; exact hu)⟩⟩
theorem ss_cellI {w : World} {A : Option Addr} {b off : Nat} {l : List ByteArray} {x : ByteArray} {i : Int} (h : Ss w A l) (hA : A = some ⟨b, off, none⟩) (hx : l[i.toNat]? = some x) : w.cell? ⟨b, off + i.toNat * 1, none⟩ = some (.string x) := by
  have := ss_cell h hA hx
  rwa [Int.toNat_natCast] at this
def ltF (a b : ByteArray) : Prop := Op.bytesLess a.toList b.toList = true
instance (a b : ByteArray) : Decidable (ltF a b) := by unfold ltF; exact inferInstance
theorem bytesLess_is : ∀ (x y : List UInt8), Op.bytesLess x y = decide (x < y)
  | [], [] => by simp [Op.bytesLess]
  | _ :: _, [] => by simp [Op.bytesLess]
  | [], _ :: _ => by simp [Op.bytesLess]
  | a :: x, b :: y => by
    rw [Op.bytesLess, bytesLess_is x y]
    simp only [List.cons_lt_cons_iff]
    by_cases h1 : a < b <;> by_cases h2 : a = b <;> by_cases h3 : x < y <;> simp [h1, h2, h3]
theorem ltF_iff (a b : ByteArray) : ltF a b ↔ a.toList < b.toList := by unfold ltF; rw [bytesLess_is]; simp
theorem ltF_trans {a b c : ByteArray} (h : ltF a b) (k : ltF b c) : ltF a c := by rw [ltF_iff] at *; exact List.lt_trans h k
theorem ltF_irrefl (a : ByteArray) : ¬ ltF a a := by rw [ltF_iff]; exact List.lt_irrefl _
theorem ltF_total {a b : ByteArray} (h : ¬ ltF a b) (k : ¬ ltF b a) : a = b := by
  rw [ltF_iff] at *
  have e := List.le_antisymm (show a.toList ≤ b.toList from k) (show b.toList ≤ a.toList from h)
  rw [ByteArray.toList_eq, ByteArray.toList_eq] at e
  exact ByteArray.ext (Array.ext' e)
theorem ltF_tri (a b : ByteArray) : ltF a b ∨ a = b ∨ ltF b a := by
  by_cases h : ltF a b
  · exact .inl h
  by_cases k : ltF b a
  · exact .inr (.inr k)
  exact .inr (.inl (ltF_total h k))
theorem _root_.Go.Hub.E.gtrS {P : Program} {a : Act} {w : World} {n : Nat} {l : FL} {x y : Operand} {dst : Option Nat} {t u ty : TypeId} {ps : String} {af : Array Edge} {g : Option (Nat × Bool)} (f : Fr n a l) {s r : ByteArray} (hx : evl l x = some (.string s)) (hy : evl l y = some (.string r)) : (execOp a.eval ⟨dst, .binOp .gtr t x y u, ty, ps, af, g⟩).run P w = .ok (.value (.bool (decide (ltF r s)))) w := by
  have e : (!(Op.bytesLess s.toList r.toList || s.toList == r.toList)) = decide (ltF r s) := by
    rw [Bool.eq_iff_iff, decide_eq_true_iff, ltF_iff, bytesLess_is]
    simp only [Bool.not_eq_true', Bool.or_eq_false_iff, decide_eq_false_iff_not, beq_eq_false_iff_ne]
    constructor
    · rintro ⟨h1, h2⟩
      exact Decidable.byContradiction fun h3 => h2 (List.le_antisymm (show s.toList ≤ r.toList from h3) (show r.toList ≤ s.toList from h1))
    intro h
    exact ⟨List.lt_asymm h, fun e => List.lt_irrefl _ (e ▸ h)⟩
  rw [← e]
  simp [execOp, f.ev hx, f.ev hy, eqGuard, binOp, Op.stringOp]
def cmpF (a b : ByteArray) : Int := if ltF a b then -1 else if ltF b a then 1 else 0
def subM : MT := { k := 9, e := 3, K := ByteArray, V := Int, dom := fun x => x.size ≤ maxLen, kv := fun x => .string x, kl := fun x => .string x.data.toList, ev := fun v => .int .i64 v }
instance : DecidableEq subM.K := inferInstanceAs (DecidableEq ByteArray)
theorem subOk : subM.Ok Tryd.prog := ⟨Go.Maps.string_keyed U9, fun x hx => Go.WideMaps.keyOf_string_mk U9 hx, fun x y _ _ h => by
  injection h with h
  exact ByteArray.ext (Array.ext' h)⟩
theorem subKv : ∀ (v : Value) (l : Lit), keyOf Tryd.prog subM.k v = some l → ∀ x, subM.dom x → l = subM.kl x → v = subM.kv x := fun v l h x hx e => by
  subst e
  exact (Go.WideMaps.string_law U9).inj h (Go.WideMaps.keyOf_string_mk U9 hx)
theorem zero3 : ∀ w, (zeroValue 3).run Tryd.prog w = .ok (.int .i64 0) w := fun w => by kernel_rfl
section
variable {M : MT} [DecidableEq M.K] {P : Program} {ops : Array Oper} {rest : List Oper} {a : Act} {w : World} {Q : Exit → Act → World → Prop} {n d m : Nat} {l : FL} {ty k : TypeId} {ps : String} {af : Array Edge} {gd : Option (Nat × Bool)} {x y : Operand} {t : TypeId} {Es : List (M.K × M.V)}
theorem _root_.Go.Hub.L.mapDropA (f : Fr n a l) (hw : Region.wanted ⟨none, .call { callee := .builtin .delete, args := #[x, y], argTypes := #[t, k] }, ty, ps, af, gd⟩ (yielded ops a.tmps) = true) (h : IsAss M P w m Es) (ok : M.Ok P) (ht : P.underlying t = some (.map M.k M.e)) (hk : M.k = k) (key : M.K) (hd : M.dom key)
    (hx : evl l x = some (.map (some m))) (hy : evl l y = some (M.kv key)) (hK : ∀ a' w', IsAss M P w' m (strike Es key) → Kept [m] w w' → Fr n a' l → wpList P ops Q rest a' w') : wpList P ops Q (⟨none, .call { callee := .builtin .delete, args := #[x, y], argTypes := #[t, k] }, ty, ps, af, gd⟩ :: rest) a w := by
  subst hk
  obtain ⟨w', hrun, r1, r2⟩ := h.drop ok ht hd ty
  exact L.drop f hw rfl (v := .tuple #[]) (by simp [execOp, resolve, invoke, builtin, f.ev hx, f.ev hy, hrun]) fun a' f' => hK a' w' r1 r2 f'
theorem _root_.Go.Hub.L.makeMapA (f : Fr n a l) (hw : Region.wanted ⟨some d, .makeMap t none, ty, ps, af, gd⟩ (yielded ops a.tmps) = true) (hn : d < n) (M : MT) [DecidableEq M.K] (P : Program)
    (hK : ∀ a' w' g, IsAss M P w' g [] → Kept [] w w' → w.heap.size ≤ g → Fr n a' ((d, .map (some g)) :: l) → wpList P ops Q rest a' w') : wpList P ops Q (⟨some d, .makeMap t none, ty, ps, af, gd⟩ :: rest) a w :=
  L.val f hw rfl hn (E.makeMap f) fun a' f' => hK a' _ _ (IsAss.made M w P) ⟨rfl, rfl, rfl, by simp, fun i hi _ => (Go.MapKept.heap_alloc w _).2 i hi⟩ (Nat.le_refl _) f'
end
theorem nanS_any (x : ByteArray) (w : World) : Calls Tryd.prog 36 #[.string x] w (fun e w' => w = w' ∧ e = .returned (.bool false)) := by
 refine C.enter Tryd.func36 rfl Tryd.ntmps36 rfl ?_
 intro a0 f0
 have f1 : Fr 6 a0 [(0, .string x)] := f0
 refine C.sk fun K0 hK0 => ?_
 refine L.ag f1 fun a2 f2 => ?_
 have f3 := f2.pk [0, 2]
 refine wn hK0 (C.sk fun K1 hK1 => ?_)
 refine L.mv f3 fun a4 f4 => ?_
 refine L.mv f4 fun a5 f5 => ?_
 refine L.va f5 (E.neqS f5 rfl rfl) fun a6 f6 => ?_
 refine L.ag f6 fun a7 f7 => ?_
 have f8 := f7.pk [2]
 refine wn hK1 (wp_ret ?_); (try simp only [xt, xb]); refine C.ret f8 rfl rfl ?_
 exact ⟨rfl, by simp⟩
theorem cmpS_any (x y : ByteArray) (w : World) : Calls Tryd.prog 20 #[.string x, .string y] w (fun e w' => w = w' ∧ e = .returned (.int .i64 (cmpF x y))) := by
 refine C.enter Tryd.func20 rfl Tryd.ntmps20 rfl ?_
 intro a0 f0
 have f1 : Fr 20 a0 [(0, .string x), (1, .string y)] := f0
 refine C.sk fun K0 hK0 => ?_
 refine L.ag f1 fun a2 f2 => ?_
 have f3 := f2.pk [0, 1, 4]
 refine wn hK0 (C.sk fun K1 hK1 => ?_)
 refine L.mv f3 fun a4 f4 => ?_
 refine L.cl f4 (run_call Tryd.call36 (args1 f4 rfl)) (nanS_any _ _) ?_
 clear f0 f1 a0 f2 f3 a2
 rintro e wx ⟨rfl, rfl⟩
 refine ⟨_, rfl, fun a5 f5 => ?_⟩
 refine L.ag f5 fun a6 f6 => ?_
 have f7 := f6.pk [0, 1, 4, 5]
 refine wn hK1 (C.sk fun K2 hK2 => ?_)
 refine L.mv f7 fun a8 f8 => ?_
 refine L.cl f8 (run_call Tryd.call36 (args1 f8 rfl)) (nanS_any _ _) ?_
 clear f4 a4 f5 a5 f6 f7 a6
 rintro e wx ⟨rfl, rfl⟩
 refine ⟨_, rfl, fun a9 f9 => ?_⟩
 refine L.ag f9 fun a10 f10 => ?_
 refine wn hK2 ?_
 have f11 := f10.pk [0, 1, 4, 5, 6]
 refine wp_seq_k fun K3 hK3 => C.sk fun K4 hK4 => ?_
 refine L.mv f11 fun a12 f12 => ?_
 refine wn hK4 ?_
 have f13 := f12.pk [0, 1, 4, 6, 11]
 refine C.condF f13 rfl ?_
 refine wp_skip (hK3 _ _ ?_)
 have f14 := f13.pk [0, 1, 4, 6]
 refine wp_seq_k fun K5 hK5 => C.sk fun K6 hK6 => ?_
 refine L.mv f14 fun a15 f15 => ?_
 refine wn hK6 ?_
 have f16 := f15.pk [0, 1, 4, 13]
 refine C.condF f16 rfl ?_
 refine wp_skip (hK5 _ _ ?_)
 have f17 := f16.pk [0, 1, 4]
 refine wp_seq_k fun K7 hK7 => C.sk fun K8 hK8 => ?_
 refine L.mv f17 fun a18 f18 => ?_
 clear f8 a8 f9 a9 f10 f11 a10 f12 f13 f14 a12 f15 f16 f17 a15
 refine L.mv f18 fun a19 f19 => ?_
 refine L.va f19 (E.lssS f19 rfl rfl) fun a20 f20 => ?_
 refine wn hK8 ?_
 have f21 := f20.pk [0, 1, 4, 16]
 clear f18 a18 f19 a19 f20
 refine f21.split 16 rfl (fun h0 f22 => ?_) (fun h0 f22 => ?_)
 ·refine C.condT f22 rfl ?_
  refine C.sk fun K9 hK9 => ?_
  refine L.ag f22 fun a23 f23 => ?_
  have f24 := f23.pk [0, 1, 4]
  refine wn hK9 (wp_ret ?_); (try simp only [xt, xb]); refine C.ret f24 rfl rfl ?_
  exact ⟨rfl, by (try simp only [ltF] at h1); simp [cmpF, ltF, *]⟩
 refine C.condF f22 rfl ?_
 refine wp_skip (hK7 _ _ ?_)
 have f23 := f22.pk [0, 1, 4]
 refine wp_seq_k fun K10 hK10 => C.sk fun K11 hK11 => ?_
 refine L.mv f23 fun a24 f24 => ?_
 refine L.mv f24 fun a25 f25 => ?_
 refine L.va f25 (E.gtrS f25 rfl rfl) fun a26 f26 => ?_
 refine wn hK11 ?_
 have f27 := f26.pk [4, 19]
 clear f21 f22 f23 a20 f24 a24 f25 a25 f26
 refine f27.splitD 19 rfl (fun h1 f28 => ?_) (fun h1 f28 => ?_)
 ·refine C.condT f28 rfl ?_
  refine C.sk fun K12 hK12 => ?_
  refine L.ag f28 fun a29 f29 => ?_
  have f30 := f29.pk [4]
  refine wn hK12 (wp_ret ?_); (try simp only [xt, xb]); refine C.ret f30 rfl rfl ?_
  exact ⟨rfl, by (try simp only [ltF] at h1); simp [cmpF, ltF, *]⟩
 refine C.condF f28 rfl ?_
 refine wp_skip (hK10 _ _ ?_)
 have f29 := f28.pk [4]
 refine C.sk fun K13 hK13 => ?_
 refine L.ag f29 fun a30 f30 => ?_
 have f31 := f30.pk [4]
 refine wn hK13 (wp_ret ?_); (try simp only [xt, xb]); refine C.ret f31 rfl rfl ?_
 exact ⟨rfl, by (try simp only [ltF] at h1); simp [cmpF, ltF, *]⟩
theorem sfilter_any (k : Int) (w : World) (h0 : 0 ≤ k) (h1 : k < 256) : Calls Tryd.prog 7 #[.int .u8 k] w (fun e w' => Kept [] w w' ∧ e = .returned (.string (p10.getD (k % 10).toNat ⟨#[]⟩))) := by
 have HK : Kept [] w w := Kept.refl [] w
 refine C.enter Tryd.func7 rfl Tryd.ntmps7 rfl ?_
 intro a0 f0
 have f1 : Fr 8 a0 [(0, .int .u8 k)] := f0
 refine C.sk fun K0 hK0 => ?_
 refine L.ag f1 fun a2 f2 => ?_
 refine wn hK0 ?_
 have f3 := f2.pk [0, 2]
 refine wp_seq_k fun K1 hK1 => ?_
 obtain ⟨x, hx⟩ := p10_at k h0
 refine C.region ?_
 refine L.buildSlice f3 wantedN (by decide) (parts10 f3 rfl rfl rfl rfl rfl rfl rfl rfl rfl rfl) U58 wzi9_sx rfl rfl (wbs58_10_sx _ _ _ _ _ _ _ _ _ _) fun a4 w1 g0 N0 f4 => ?_
 have SL := ss_blk (l := p10) N0.blk
 have Bg0 := N0.blk
 have kg0 := N0.kept
 have log0 := N0.lo
 have ltg0 := Bg0.lt
 have szw1 := kg0.size
 have frg0 : w.heap.size ≤ g0 := Nat.le_trans HK.size log0
 replace HK := HK.z kg0
 clear f0 f1 a0 f2 N0 kg0
 refine L.mv f4 fun a5 f5 => ?_
 refine L.va f5 (E.rem f5 rfl rfl (by omega) (Int.tmod_eq_emod_of_nonneg (by omega))) fun a6 f6 => ?_
 refine L.va f6 (E.indexA f6 (by rfl) U58 wsz9_sx rfl rfl (by omega) (by omega)) fun a7 f7 => ?_
 refine L.va f7 (E.load f7 U9 rfl rfl (ss_cellI SL rfl hx)) fun a8 f8 => ?_
 refine L.ag f8 fun a9 f9 => ?_
 have f10 := f9.pk [2]
 refine wn hK1 (wp_ret ?_); (try simp only [xt, xb]); refine C.ret f10 rfl rfl ?_
 exact ⟨HK, by rw [List.getD_eq_getElem?_getD, hx]; rfl⟩
end Go.Proofs.YtdfllmiokgoekaaDoor
namespace Go.Proofs.YtdfllmiokgoekaaDoor
open Go.RowKit Go.Hub Go.Lib
theorem wsz48_sw : (Tryd.prog.info? 48).map (·.size) = some 1 := by kernel_rfl
def SubPost (p gs : Nat) (cs : Array Value) (Em : FE) (fb : ByteArray) (q : Int) (w : World) (e : Ending) (w' : World) : Prop :=
  (filterB fb = true ∧ 0 ≤ q ∧ q ≤ 2 ∧ Kept [gs] w w' ∧ Blk w' p 56 cs ∧ e = .returned (.bool (!(lk Em fb).isSome)) ∧ IsAss subM Tryd.prog w' gs ((fb, q) :: Go.Hub.strike Em fb : FE)) ∨
  (¬ (filterB fb = true ∧ 0 ≤ q ∧ q ≤ 2) ∧ Kept [gs] w w' ∧ Blk w' p 56 cs ∧ e = .returned (.bool false) ∧ IsAss subM Tryd.prog w' gs Em)
theorem subscribe_any (p gs : Nat) (v0 v2 v3 v4 v5 : Value) (Em : FE) (w : World) (BP : Blk w p 56 #[v0, .map (some gs), v2, v3, v4, v5]) (IA : IsAss subM Tryd.prog w gs Em) (hne : p ≠ gs) (G : Glob w) (fb : ByteArray) (q : Int) (hf : fb.size ≤ 100000) (hE : Em.length ≤ 1000000) : Calls Tryd.prog 8 #[.pointer (some ⟨p, 0, none⟩), .string fb, .int .i64 q] w (SubPost p gs #[v0, .map (some gs), v2, v3, v4, v5] Em fb q w) := by
 have HK : Kept [gs] w w := Kept.refl _ w
 have hfm : fb.size ≤ maxLen := by unfold maxLen; omega
 refine C.enter Tryd.func8 rfl Tryd.ntmps8 rfl ?_
 intro a0 f0
 have f1 : Fr 37 a0 [(0, .pointer (some ⟨p, 0, none⟩)), (1, .string fb), (2, .int .i64 q)] := f0
 refine C.sk fun K0 hK0 => ?_
 refine L.ag f1 fun a2 f2 => ?_
 refine wn hK0 ?_
 have f3 := f2.pk [0, 1, 2, 6]
 refine wp_seq_k fun K1 hK1 => C.sk fun K2 hK2 => ?_
 refine L.mv f3 fun a4 f4 => ?_
 refine L.cl f4 (run_call Tryd.call17 (args1 f4 rfl)) (filter_any fb _ G (by omega)) ?_
 clear f0 f1 a0 f2 f3 a2
 rintro e w1 ⟨kc1, rfl⟩
 refine ⟨_, rfl, fun a5 f5 => ?_⟩
 have szw1 := kc1.size
 replace HK := HK.z kc1
 replace BP := BP.z kc1
 replace IA := IsAss.z IA kc1
 clear f4 a4 kc1
 refine L.va f5 (E.not f5 rfl) fun a6 f6 => ?_
 refine L.mv f6 fun a7 f7 => ?_
 clear f5 a5 f6 a6
 refine f7.splitNB 12 rfl (fun h0 f8 => ?_) (fun h0 f8 => ?_)
 ·have h12 := h0
  refine L.run f8 (rest' := []) (by kernel_rfl) fun a9 f9 => ?_
  clear f7
  refine wn hK2 ?_
  have f10 := f9.sub (sv 19 (.bool true) (pkR f9 [0, 1, 2, 6]))
  refine C.condT f10 rfl ?_
  refine C.sk fun K3 hK3 => ?_
  refine L.ag f10 fun a11 f11 => ?_
  have f12 := f11.pk [0, 1, 2, 6]
  refine wn hK3 (wp_ret ?_); (try simp only [xt, xb]); refine C.ret f12 rfl rfl ?_
  exact .inr ⟨by simp_all <;> omega, HK, BP, rfl, IA⟩
 have h12 := h0
 refine L.mv f8 (hw := (f8.yes rfl rfl)) fun a9 f9 => ?_
 refine L.va f9 (E.lss f9 rfl rfl) (hw := (f9.yes rfl rfl)) fun a10 f10 => ?_
 refine L.va f10 (E.pickF f10 rfl rfl) fun a11 f11 => ?_
 refine L.mv f11 fun a12 f12 => ?_
 clear f7 f8 a7 f9 a9 f10 a10 f11 a11
 refine f12.splitD 16 rfl (fun h1 f13 => ?_) (fun h1 f13 => ?_)
 ·refine L.run f13 (rest' := []) (by kernel_rfl) fun a14 f14 => ?_
  clear f12
  refine wn hK2 ?_
  have f15 := f14.sub (sv 19 (.bool true) (pkR f14 [0, 1, 2, 6]))
  refine C.condT f15 rfl ?_
  refine C.sk fun K4 hK4 => ?_
  refine L.ag f15 fun a16 f16 => ?_
  have f17 := f16.pk [0, 1, 2, 6]
  refine wn hK4 (wp_ret ?_); (try simp only [xt, xb]); refine C.ret f17 rfl rfl ?_
  exact .inr ⟨by simp_all <;> omega, HK, BP, rfl, IA⟩
 refine L.mv f13 (hw := (f13.yes rfl rfl)) fun a14 f14 => ?_
 refine L.va f14 (E.gtr f14 rfl rfl) (hw := (f14.yes rfl rfl)) fun a15 f15 => ?_
 refine L.va f15 (E.pickF f15 rfl rfl) fun a16 f16 => ?_
 refine wn hK2 ?_
 have f17 := f16.pk [0, 1, 2, 6, 19]
 clear f12 f13 a12 f14 a14 f15 a15 f16
 refine f17.splitD 19 rfl (fun h2 f18 => ?_) (fun h2 f18 => ?_)
 ·refine C.condT f18 rfl ?_
  refine C.sk fun K5 hK5 => ?_
  refine L.ag f18 fun a19 f19 => ?_
  have f20 := f19.pk [0, 1, 2, 6]
  refine wn hK5 (wp_ret ?_); (try simp only [xt, xb]); refine C.ret f20 rfl rfl ?_
  exact .inr ⟨by simp_all <;> omega, HK, BP, rfl, IA⟩
 refine C.condF f18 rfl ?_
 refine wp_skip (hK1 _ _ ?_)
 have f19 := f18.pk [0, 1, 2, 6]
 refine C.sk fun K6 hK6 => ?_
 refine L.mv f19 fun a20 f20 => ?_
 refine L.va f20 (E.nilCheck f20 rfl) fun a21 f21 => ?_
 refine L.fa 1 f21 U56 rfl wsz48_sw fun a22 f22 => ?_
 refine L.va f22 (E.load f22 U48 rfl rfl ((BP).cl rfl)) fun a23 f23 => ?_
 refine L.mv f23 fun a24 f24 => ?_
 refine L.va f24 (E.lookOkA f24 IA subOk U48 zero3 fb hfm rfl rfl) fun a25 f25 => ?_
 clear f17 f18 f19 a16 f20 a20 f21 a21 f22 a22 f23 a23 f24 a24
 refine L.mv f25 fun a26 f26 => ?_
 refine L.va f26 (E.extract f26 rfl rfl) fun a27 f27 => ?_
 refine L.va f27 (E.extract f27 rfl rfl) fun a28 f28 => ?_
 refine L.ag f28 fun a29 f29 => ?_
 refine L.ag f29 fun a30 f30 => ?_
 have f31 := f30.pk [0, 1, 2, 6, 8]
 refine wn hK6 (C.sk fun K7 hK7 => ?_)
 refine L.mv f31 fun a32 f32 => ?_
 refine L.va f32 (E.nilCheck f32 rfl) fun a33 f33 => ?_
 clear f25 a25 f26 a26 f27 a27 f28 a28 f29 a29 f30 f31 a30 f32 a32
 refine L.fa 1 f33 U56 rfl wsz48_sw fun a34 f34 => ?_
 refine L.va f34 (E.load f34 U48 rfl rfl ((BP).cl rfl)) fun a35 f35 => ?_
 refine L.mv f35 fun a36 f36 => ?_
 refine L.mv f36 fun a37 f37 => ?_
 refine L.mapPutA f37 wantedN IA subOk U48 fb hfm q rfl rfl rfl (Nat.lt_of_le_of_lt hE (by decide)) fun a38 w2 IA2 ks f38 => ?_
 have szw2 := ks.size
 replace BP := BP.kept ks (by simpa using hne)
 replace HK := HK.trans ks (by simp)
 clear f33 a33 f34 a34 f35 a35 f36 a36 ks f37 a37
 have f39 := f38.pk [6, 8]
 refine wn hK7 (C.sk fun K8 hK8 => ?_)
 refine L.mv f39 fun a40 f40 => ?_
 refine L.va f40 (E.not f40 rfl) fun a41 f41 => ?_
 refine L.ag f41 fun a42 f42 => ?_
 have f43 := f42.pk [6]
 refine wn hK8 (wp_ret ?_); (try simp only [xt, xb]); refine C.ret f43 rfl rfl ?_
 exact .inl ⟨by assumption, by omega, by omega, HK, BP, rfl, IA2⟩
theorem unsubscribe_any (p gs : Nat) (v0 v2 v3 v4 v5 : Value) (Em : FE) (w : World) (BP : Blk w p 56 #[v0, .map (some gs), v2, v3, v4, v5]) (IA : IsAss subM Tryd.prog w gs Em) (hne : p ≠ gs) (fb : ByteArray) (hf : fb.size ≤ 100000) : Calls Tryd.prog 6 #[.pointer (some ⟨p, 0, none⟩), .string fb] w (fun e w' => Kept [gs] w w' ∧ Blk w' p 56 #[v0, .map (some gs), v2, v3, v4, v5] ∧ e = .returned (.bool (lk Em fb).isSome) ∧ IsAss subM Tryd.prog w' gs (Go.Hub.strike Em fb : FE)) := by
 have HK : Kept [gs] w w := Kept.refl _ w
 have hfm : fb.size ≤ maxLen := by unfold maxLen; omega
 refine C.enter Tryd.func6 rfl Tryd.ntmps6 rfl ?_
 intro a0 f0
 have f1 : Fr 22 a0 [(0, .pointer (some ⟨p, 0, none⟩)), (1, .string fb)] := f0
 refine C.sk fun K0 hK0 => ?_
 refine L.ag f1 fun a2 f2 => ?_
 have f3 := f2.pk [0, 1, 4]
 refine wn hK0 (C.sk fun K1 hK1 => ?_)
 refine L.mv f3 fun a4 f4 => ?_
 refine L.va f4 (E.nilCheck f4 rfl) fun a5 f5 => ?_
 refine L.fa 1 f5 U56 rfl wsz48_sw fun a6 f6 => ?_
 refine L.va f6 (E.load f6 U48 rfl rfl ((BP).cl rfl)) fun a7 f7 => ?_
 refine L.mv f7 fun a8 f8 => ?_
 clear f0 f1 a0 f2 f3 a2 f4 a4 f5 a5 f6 a6 f7 a7
 refine L.va f8 (E.lookOkA f8 IA subOk U48 zero3 fb hfm rfl rfl) fun a9 f9 => ?_
 refine L.mv f9 fun a10 f10 => ?_
 refine L.va f10 (E.extract f10 rfl rfl) fun a11 f11 => ?_
 refine L.va f11 (E.extract f11 rfl rfl) fun a12 f12 => ?_
 refine L.ag f12 fun a13 f13 => ?_
 refine L.ag f13 fun a14 f14 => ?_
 have f15 := f14.pk [0, 1, 4, 6]
 refine wn hK1 (C.sk fun K2 hK2 => ?_)
 refine L.mv f15 fun a16 f16 => ?_
 clear f8 a8 f9 a9 f10 a10 f11 a11 f12 a12 f13 a13 f14 f15 a14
 refine L.va f16 (E.nilCheck f16 rfl) fun a17 f17 => ?_
 refine L.fa 1 f17 U56 rfl wsz48_sw fun a18 f18 => ?_
 refine L.va f18 (E.load f18 U48 rfl rfl ((BP).cl rfl)) fun a19 f19 => ?_
 refine L.mv f19 fun a20 f20 => ?_
 refine L.mapDropA f20 wantedN IA subOk U48 rfl fb hfm rfl rfl fun a21 w1 IA2 ks f21 => ?_
 have szw1 := ks.size
 replace BP := BP.kept ks (by simpa using hne)
 replace HK := HK.trans ks (by simp)
 clear f16 a16 f17 a17 f18 a18 f19 a19 ks f20 a20
 have f22 := f21.pk [4, 6]
 refine wn hK2 (C.sk fun K3 hK3 => ?_)
 refine L.mv f22 fun a23 f23 => ?_
 refine L.ag f23 fun a24 f24 => ?_
 have f25 := f24.pk [4]
 refine wn hK3 (wp_ret ?_); (try simp only [xt, xb]); refine C.ret f25 rfl rfl ?_
 exact ⟨HK, BP, rfl, IA2⟩
end Go.Proofs.YtdfllmiokgoekaaDoor
set_option maxRecDepth 100000
namespace Go.Proofs.YtdfllmiokgoekaaDoor
open Go.Shelf Go.RowKit Go.Hub Go.Lib Go.Sort
def sortren : Ren := ⟨fun | 6 => 18 | 14 => 34 | 15 => 35 | 20 => 46 | 21 => 47 | 22 => 48 | 23 => 49 | 24 => 50 | 25 => 51 | 26 => 52 | 27 => 53 | 28 => 54 | 29 => 55 | 46 => 60 | 47 => 61 | 48 => 62 | 49 => 63 | 50 => 64 | 57 => 69 | n => n, fun | 0 => 0 | 3 => 3 | 4 => 4 | 5 => 5 | 9 => 9 | 22 => 30 | 24 => 33 | 25 => 61 | 39 => 82 | 45 => 93 | 46 => 94 | 50 => 57 | 53 => 100 | 55 => 102 | 66 => 109 | 70 => 113 | 76 => 116 | 77 => 117 | n => n, fun n => n⟩
theorem sortL : SlLaysF0.n6 Tryd.prog sortren := {
  mixed := by kernel_rfl
  f6 := ⟨ "slices.SortFunc[[]hubbub/api.Sub,hubbub/api.Sub]", by decide, Tryd.func18.trans (congrArg some (by kernel_rfl))⟩
  f14 := ⟨ "slices.pdqsortCmpFunc[hubbub/api.Sub]", by decide, Tryd.func34.trans (congrArg some (by kernel_rfl))⟩
  f15 := Tryd.func35.trans (congrArg some (by kernel_rfl))
  f20 := ⟨ "slices.insertionSortCmpFunc[hubbub/api.Sub]", by decide, Tryd.func46.trans (congrArg some (by kernel_rfl))⟩
  f21 := ⟨ "slices.heapSortCmpFunc[hubbub/api.Sub]", by decide, Tryd.func47.trans (congrArg some (by kernel_rfl))⟩
  f22 := ⟨ "slices.breakPatternsCmpFunc[hubbub/api.Sub]", by decide, Tryd.func48.trans (congrArg some (by kernel_rfl))⟩
  f23 := ⟨ "slices.choosePivotCmpFunc[hubbub/api.Sub]", by decide, Tryd.func49.trans (congrArg some (by kernel_rfl))⟩
  f24 := ⟨ "slices.reverseRangeCmpFunc[hubbub/api.Sub]", by decide, Tryd.func50.trans (congrArg some (by kernel_rfl))⟩
  f25 := ⟨ "slices.partialInsertionSortCmpFunc[hubbub/api.Sub]", by decide, Tryd.func51.trans (congrArg some (by kernel_rfl))⟩
  f26 := ⟨ "slices.partitionEqualCmpFunc[hubbub/api.Sub]", by decide, Tryd.func52.trans (congrArg some (by kernel_rfl))⟩
  f27 := ⟨ "slices.partitionCmpFunc[hubbub/api.Sub]", by decide, Tryd.func53.trans (congrArg some (by kernel_rfl))⟩
  f28 := Tryd.func54.trans (congrArg some (by kernel_rfl))
  f29 := Tryd.func55.trans (congrArg some (by kernel_rfl))
  f46 := ⟨ "slices.siftDownCmpFunc[hubbub/api.Sub]", by decide, Tryd.func60.trans (congrArg some (by kernel_rfl))⟩
  f47 := Tryd.func61.trans (congrArg some (by kernel_rfl))
  f48 := Tryd.func62.trans (congrArg some (by kernel_rfl))
  f49 := ⟨ "slices.medianAdjacentCmpFunc[hubbub/api.Sub]", by decide, Tryd.func63.trans (congrArg some (by kernel_rfl))⟩
  f50 := ⟨ "slices.medianCmpFunc[hubbub/api.Sub]", by decide, Tryd.func64.trans (congrArg some (by kernel_rfl))⟩
  f57 := ⟨ "slices.order2CmpFunc[hubbub/api.Sub]", by decide, Tryd.func69.trans (congrArg some (by kernel_rfl))⟩
  t0 := by kernel_rfl
  a0 := fun _ => by kernel_rfl
  z0 := fun _ => by kernel_rfl
  v0 := fun _ => by kernel_rfl
  t3 := by kernel_rfl
  a3 := fun _ => by kernel_rfl
  z3 := fun _ => by kernel_rfl
  v3 := fun _ => by kernel_rfl
  t4 := by kernel_rfl
  a4 := fun _ => by kernel_rfl
  z4 := fun _ => by kernel_rfl
  v4 := fun _ => by kernel_rfl
  t5 := by kernel_rfl
  a5 := fun _ => by kernel_rfl
  z5 := fun _ => by kernel_rfl
  v5 := fun _ => by kernel_rfl
  t9 := by kernel_rfl
  a9 := fun _ => by kernel_rfl
  z9 := fun _ => by kernel_rfl
  v9 := fun _ => by kernel_rfl
  t22 := by kernel_rfl
  a22 := fun _ => by kernel_rfl
  z22 := fun _ => by kernel_rfl
  v22 := fun _ => by kernel_rfl
  t25 := by kernel_rfl
  a25 := fun _ => by kernel_rfl
  z25 := fun _ => by kernel_rfl
  v25 := fun _ => by kernel_rfl
  t39 := by kernel_rfl
  a39 := fun _ => by kernel_rfl
  z39 := fun _ => by kernel_rfl
  v39 := fun _ => by kernel_rfl
  t45 := by kernel_rfl
  a45 := fun _ => by kernel_rfl
  z45 := fun _ => by kernel_rfl
  v45 := fun _ => by kernel_rfl
  t46 := by kernel_rfl
  a46 := fun _ => by kernel_rfl
  z46 := fun _ => by kernel_rfl
  v46 := fun _ => by kernel_rfl
  t50 := by kernel_rfl
  a50 := fun _ => by kernel_rfl
  z50 := fun _ => by kernel_rfl
  v50 := fun _ => by kernel_rfl
  t53 := by kernel_rfl
  a53 := fun _ => by kernel_rfl
  z53 := fun _ => by kernel_rfl
  v53 := fun _ => by kernel_rfl
  t55 := by kernel_rfl
  a55 := fun _ => by kernel_rfl
  z55 := fun _ => by kernel_rfl
  v55 := fun _ => by kernel_rfl
  t66 := by kernel_rfl
  a66 := fun _ => by kernel_rfl
  z66 := fun _ => by kernel_rfl
  v66 := fun _ => by kernel_rfl
  t70 := by kernel_rfl
  a70 := fun _ => by kernel_rfl
  z70 := fun _ => by kernel_rfl
  v70 := fun _ => by kernel_rfl
  t76 := by kernel_rfl
  a76 := fun _ => by kernel_rfl
  z76 := fun _ => by kernel_rfl
  v76 := fun _ => by kernel_rfl
  t77 := by kernel_rfl
  a77 := fun _ => by kernel_rfl
  z77 := fun _ => by kernel_rfl
  v77 := fun _ => by kernel_rfl
}
abbrev scp (p : ByteArray × Int) : List Value := [.string p.1, .int .i64 p.2]
def cfF (x y : ByteArray × Int) : Int := cmpF x.1 y.1
theorem lt_cf (x y : ByteArray × Int) : ltOf cfF x y = decide (ltF x.1 y.1) := by
  unfold ltOf cfF cmpF
  by_cases h1 : ltF x.1 y.1
  · simp [h1]
  by_cases h2 : ltF y.1 x.1 <;> simp [h1, h2]
theorem swoF : SWO (ltOf cfF) where
  irrefl x := by rw [lt_cf]; simp [ltF_irrefl]
  trans x y z h1 h2 := by
    rw [lt_cf] at *
    simp only [decide_eq_true_eq] at *
    exact ltF_trans h1 h2
  ntrans x y z h1 h2 := by
    rw [lt_cf] at *
    simp only [decide_eq_false_iff_not] at *
    intro h
    rcases ltF_tri x.1 y.1 with a | a | a
    · exact h1 a
    · rw [a] at h; exact h2 h
    exact h2 (ltF_trans a h)
theorem closureF (x y : ByteArray × Int) (W : World) : Calls Tryd.prog 19 #[.agg #[.string x.1, .int .i64 x.2], .agg #[.string y.1, .int .i64 y.2]] W fun e w' => e = .returned (.int .i64 (cfF x y)) ∧ ∃ q os', w' = grow (W.drewN q) os' := by
  have hcon := fun W' => cmpS_any x.1 y.1 W'
  unfold cfF
  generalize cmpF x.1 y.1 = r at hcon ⊢
  go_enter Tryd.func19, Tryd.ntmps19
  go_wp2_with (go_at_call 20; refine (hcon _).mono ?_; rintro e w' ⟨rfl, rfl⟩)
  go_ret
  exact ⟨rfl, 0, _, by rw [alloc_eq_grow, alloc_eq_grow, grow_grow]; rfl⟩
theorem cmpLaysF (blk off size : Nat) (w : World) : CmpLays Tryd.prog 19 #[] scp 2 cfF blk off size w := fun _ _ _ _ x y => closureF x y _
theorem sort_kept (w : World) (blk off n : Nat) (d : Array (ByteArray × Int)) (os : Array Obj) : Kept [blk] w (sortWorldK scp 2 w blk off n d os) := by
  unfold sortWorldK grow putRowK putRow mapBlock Go.Sort.ahead
  refine ⟨rfl, rfl, rfl, by simp, fun i hi hn => ?_⟩
  have hne : blk ≠ i := fun e => hn (by simp [e])
  rw [Array.getElem?_append_left (by simpa using hi), Array.getElem?_modify]
  simp [hne]
theorem fm_get {α : Type} (enc : α → List Value) (hk : ∀ x, (enc x).length = 2) : ∀ (l : List α) (j : Nat), (l.flatMap enc)[j]? = (l[j / 2]?).bind fun x => (enc x)[j % 2]?
  | [], j => by simp
  | a :: r, j => by
    rw [List.flatMap_cons, List.getElem?_append, hk]
    by_cases h : j < 2
    · rw [if_pos h, show j / 2 = 0 by omega, show j % 2 = j by omega]; rfl
    rw [if_neg h, fm_get enc hk r, show j / 2 = (j - 2) / 2 + 1 by omega, show j % 2 = (j - 2) % 2 by omega]; rfl
theorem fm_len {α : Type} (enc : α → List Value) (hk : ∀ x, (enc x).length = 2) (l : List α) : (l.flatMap enc).length = l.length * 2 := by
  induction l with
  | nil => rfl
  | cons a r ih => rw [List.flatMap_cons, List.length_append, ih, hk, List.length_cons]; omega
theorem scp_len (x : ByteArray × Int) : (scp x).length = 2 := rfl
theorem holds_of {w : World} {blk off : Nat} {l : FE} (hc : ∀ j u, (l.flatMap scp)[j]? = some u → w.cell? ⟨blk, off + j, none⟩ = some u ∧ w.frozen? ⟨blk, off + j, none⟩ = false) : HoldsK scp 2 w blk off l.toArray := by
  intro j hj
  rw [size_flatK] at hj
  have hj2 : j / 2 < l.length := by have : l.toArray.size = l.length := by simp
                                    omega
  have h := hc j ((scp l[j / 2])[j % 2]'(by show _ < 2; omega)) (by rw [fm_get scp scp_len, List.getElem?_eq_getElem hj2]; exact List.getElem?_eq_getElem _)
  refine ⟨h.1.trans ?_, h.2⟩
  rw [get_flatK _ _ _ _ hj]
  congr 1
  have e : l.toArray[j / 2]! = l[j / 2] := by simp [hj2]
  rw [e]
  simp only [id]
  rw [getElem!_pos (scp l[j / 2]) (j % 2) (by show _ < 2; omega)]
theorem sl_of_holds {w : World} {blk off : Nat} {d : Array (ByteArray × Int)} (hb : blk < w.heap.size) (h : HoldsK scp 2 w blk off d) : Sl w (some ⟨blk, off, none⟩) d.size 2 (d.toList.flatMap scp) := by
  refine ⟨by rw [fm_len scp scp_len]; simp, fun _ => ⟨blk, off, rfl, hb, fun j u hu => ?_⟩⟩
  rw [fm_get scp scp_len] at hu
  cases hx : d.toList[j / 2]? with
  | none => rw [hx] at hu; cases hu
  | some x =>
    rw [hx] at hu
    obtain ⟨hlt, hx2⟩ := List.getElem?_eq_some_iff.1 hx
    have hlt2 : j / 2 < d.size := by simpa using hlt
    have h2 := h.cell (c := j % 2) hlt2 (Nat.mod_lt _ (by decide))
    have e : off + j / 2 * 2 + j % 2 = off + j := by omega
    rw [e] at h2
    rw [h2.1]
    have e3 : d[j / 2]! = x := by rw [getElem!_pos d _ hlt2]; simpa using hx2
    rw [e3]
    have hu' : (scp x)[j % 2]? = some u := hu
    obtain ⟨h5, h6⟩ := List.getElem?_eq_some_iff.1 hu'
    rw [getElem!_pos (scp x) _ h5, h6]
def SortedF (l : FE) : Prop := ∀ (i j : Nat) (p q : ByteArray × Int), i < j → l[i]? = some p → l[j]? = some q → ¬ ltF q.1 p.1
theorem sortF_any (blk off cap : Nat) (l : FE) (w : World) (hc : ∀ j u, (l.flatMap scp)[j]? = some u → w.cell? ⟨blk, off + j, none⟩ = some u ∧ w.frozen? ⟨blk, off + j, none⟩ = false) (hblk : blk < w.heap.size) (hl : l.length ≤ 1000000) :
    Calls Tryd.prog 18 #[.slice (some ⟨blk, off, none⟩) l.length cap, .func (.func 19) #[] #[]] w fun e w' => Kept [blk] w w' ∧ e = .returned (.tuple #[]) ∧ ∃ out : FE, out.length = l.length ∧ out.Perm l ∧ SortedF out ∧ Sl w' (some ⟨blk, off, none⟩) out.length 2 (out.flatMap scp) := by
  have eg : ∀ args w, (callFunc 19 args).run Tryd.prog w = .ok (.enter 19 args) w := enters_of Tryd.func19 (by kernel_rfl) rfl
  have hH := holds_of hc
  have hcon := AnyQ.slices_SortFunc sortL 2 (fun _ => by kernel_rfl) (fun _ => by kernel_rfl) scp scp_len (fun x v hv => by simp [scp] at hv; rcases hv with rfl | rfl <;> rfl) cfF swoF 19 #[] blk off cap l.toArray w eg (cmpLaysF blk off _ w) hH hblk (by simp; omega)
  have el : l.length = l.toArray.size := by simp
  rw [el]
  refine hcon.mono ?_
  rintro e w' ⟨rfl, d', n, os, hp, hs, rfl⟩
  have hsz : d'.size = l.toArray.size := hp.1
  have hsl : d'.toList.length = l.toArray.size := by simpa using hsz
  refine ⟨sort_kept w blk off n d' os, rfl, d'.toList, hsl, ?_, ?_, ?_⟩
  · have := hp.2.2
    have e1 : d'.extract 0 l.toArray.size = d' := by rw [← hsz]; simp
    have e2 : l.toArray.extract 0 l.toArray.size = l.toArray := by simp
    rw [e1, e2] at this
    exact this
  · intro i j p q hij hi hj hlt
    obtain ⟨h1, h2⟩ := List.getElem?_eq_some_iff.1 hi
    obtain ⟨h3, h4⟩ := List.getElem?_eq_some_iff.1 hj
    have h5 : j < d'.size := by simpa using h3
    have := hs i j (Nat.zero_le _) hij (by rw [← hsz]; exact h5)
    rw [lt_cf, getElem!_pos d' j h5, getElem!_pos d' i (by omega)] at this
    simp only [decide_eq_false_iff_not] at this
    refine this ?_
    have e4 : d'[j] = q := by simpa using h4
    have e2 : d'[i] = p := by simpa using h2
    rw [e4, e2]
    exact hlt
  have h6 := holdsK_sortWorldK scp 2 w blk off n l.toArray d' os hblk hH hsz
  have hb : blk < (sortWorldK scp 2 w blk off n d' os).heap.size := Nat.lt_of_lt_of_le hblk (sort_kept w blk off n d' os).size
  have := sl_of_holds hb h6
  rw [show d'.size = d'.toList.length by simp] at this
  exact this
theorem sortR_any (w0 : World) (A : Option Addr) (c : Nat) (l : FE) (w : World) (F : Fresh w0 w 33 2 A l.length c (l.flatMap scp)) (hl : l.length ≤ 1000000) :
    Calls Tryd.prog 18 #[.slice A l.length c, .func (.func 19) #[] #[]] w fun e w' => (e = .returned (.tuple #[]) ∧ Kept ((Value.slice A l.length c).ownBlock.toList) w w') ∧ ∃ out : FE, out.length = l.length ∧ out.Perm l ∧ SortedF out ∧ Sl w' A out.length 2 (out.flatMap scp) := by
  by_cases h0 : l.length = 0
  · have e : l = [] := List.eq_nil_of_length_eq_zero h0
    subst e
    refine (AnyF.slices_SortFunc_none sortL A c (.func (.func 19) #[] #[]) w).mono ?_
    rintro e w' ⟨rfl, rfl⟩
    exact ⟨⟨rfl, Kept.refl _ _⟩, [], rfl, List.Perm.refl _, fun i j p q _ hi => by simp at hi, Sl.nil _ _ _⟩
  have hO := F.own
  rcases hO.2 with ⟨e, hz⟩ | ⟨g, off, cap, cur, e, hg, hn, hc, hs, hcell⟩
  · exact absurd hz h0
  injection e with e1 e2 e3
  subst e1 e3
  have hb : g < w.heap.size := (Array.getElem?_eq_some_iff.1 hg).1
  refine (sortF_any g off c l w (fun j u hu => ⟨?_, ?_⟩) hb hl).mono ?_
  · simp only [World.cell?, hg]
    exact hcell j u hu
  · simp [World.frozen?, hg]
  rintro e w' ⟨hk, rfl, out, h1, h2, h3, h4⟩
  exact ⟨⟨rfl, by simpa [Value.ownBlock] using hk⟩, out, h1, h2, h3, by rw [h1]; rw [h1] at h4; exact h4⟩
end Go.Proofs.YtdfllmiokgoekaaDoor
namespace Go.Proofs.YtdfllmiokgoekaaDoor
open Go.RowKit Go.Hub Go.Lib
theorem wzib33_ss1 : (Tryd.prog.info? 33).map (fun i => (i.zero, i.size, i.bytes)) = some (some (.agg #[(.string ⟨#[]⟩), (.int .i64 0)]), 2, 24) := by kernel_rfl
theorem wzi33_ss1 : (Tryd.prog.info? 33).map (fun i => (i.zero, i.size)) = some (some (.agg #[(.string ⟨#[]⟩), (.int .i64 0)]), 2) := by kernel_rfl
theorem wbs30_1_ss1 (x0_0 x0_1 : Value) : Instr.fill (fun i => some (i * 2, 2)) ((Array.range (1 * 2)).map fun j => (Value.cells (.agg #[(.string ⟨#[]⟩), (.int .i64 0)]))[j % (Value.cells (.agg #[(.string ⟨#[]⟩), (.int .i64 0)])).size]!) [(0, .agg #[x0_0, x0_1])] = some #[x0_0, x0_1] := by kernel_rfl
theorem wsz48_ss1 : (Tryd.prog.info? 48).map (·.size) = some 1 := by kernel_rfl
theorem wbl33_0_1_ss1 (x0 : ByteArray) (x1 : Int) : Tryd.prog.built 33 [(0, .string x0), (1, .int .i64 x1)] = some #[.string x0, .int .i64 x1] := by kernel_rfl
theorem sl_b1 {M : Type} {cell : M → List Value} {w : World} {g t : Nat} (m : M) (B : Blk w g t (cell m).toArray) : Sl w (some ⟨g, 0, none⟩) 1 (cell m).length ([m].flatMap cell) :=
  ⟨by simp, fun _ => ⟨g, 0, rfl, B.lt, fun j u hu => by rw [Nat.zero_add]; exact B.cell_ (by simpa using hu)⟩⟩
theorem scp_one (l : FE) : ∀ u ∈ l.flatMap scp, u.oneCell' = true := fun u hu => by
  obtain ⟨x, _, hx⟩ := List.mem_flatMap.1 hu
  simp only [scp, List.mem_cons, List.not_mem_nil, or_false] at hx
  rcases hx with rfl | rfl <;> rfl
theorem perm_strike : ∀ {R : FE} {k : ByteArray} {u : Int}, (R.map (·.1)).Nodup → (k, u) ∈ R → R.Perm ((k, u) :: (Go.Hub.strike R k : FE))
  | a :: r, k, u, hn, hm => by
    rw [List.map_cons, List.nodup_cons] at hn
    unfold Go.Hub.strike
    rw [List.filter_cons]
    rcases List.mem_cons.1 hm with e | hm
    · subst e
      have e2 : (r.filter fun p => !decide (p.1 = k)) = r := List.filter_eq_self.2 fun p hp => by
        have : p.1 ≠ k := fun e => hn.1 (List.mem_map.2 ⟨p, hp, e⟩)
        simp [this]
      simp [e2]
    have hne : a.1 ≠ k := fun e => hn.1 (by rw [e]; exact List.mem_map.2 ⟨(k, u), hm, rfl⟩)
    rw [if_pos (by simp [hne])]
    exact ((perm_strike hn.2 hm).cons a).trans (List.Perm.swap _ _ _)
theorem perm_next {lo R Em : FE} {k : ByteArray} {u : Int} (h : (lo ++ R).Perm Em) (hs : R.Perm ((k, u) :: (Go.Hub.strike R k : FE))) : ((lo ++ [(k, u)]) ++ (Go.Hub.strike R k : FE)).Perm Em := by
  refine List.Perm.trans ?_ h
  rw [List.append_assoc]
  exact (hs.symm).append_left lo
def SubsPost (p gs : Nat) (cs : Array Value) (Em : FE) (w : World) (e : Ending) (w' : World) : Prop := Kept [] w w' ∧ ∃ A c, ∃ out : FE, e = .returned (.slice A out.length c) ∧ out.Perm Em ∧ SortedF out ∧ Sl w' A out.length 2 (out.flatMap scp) ∧ Blk w' p 56 cs ∧ IsAss subM Tryd.prog w' gs Em
theorem subs_any (p gs : Nat) (v0 v2 v3 v4 v5 : Value) (Em : FE) (w : World) (BP : Blk w p 56 #[v0, .map (some gs), v2, v3, v4, v5]) (IA : IsAss subM Tryd.prog w gs Em) (hne : p ≠ gs) (hE : Em.length ≤ 1000000) : Calls Tryd.prog 9 #[.pointer (some ⟨p, 0, none⟩)] w (SubsPost p gs #[v0, .map (some gs), v2, v3, v4, v5] Em w) := by
 have HK : Kept [] w w := Kept.refl [] w
 have ltp := BP.lt
 have ltg := IsAss.lt IA
 refine C.enter Tryd.func9 rfl Tryd.ntmps9 rfl ?_
 intro a0 f0
 have f1 : Fr 25 a0 [(0, .pointer (some ⟨p, 0, none⟩))] := f0
 refine C.sk fun K0 hK0 => ?_
 refine L.ag f1 fun a2 f2 => ?_
 have f3 := f2.pk [0, 2]
 refine wn hK0 (C.sk fun K1 hK1 => ?_)
 refine L.ag f3 fun a4 f4 => ?_
 refine wn hK1 ?_
 have f5 := f4.pk [0, 2, 3]
 refine wp_seq_k fun K2 hK2 => C.sk fun K3 hK3 => ?_
 refine L.mv f5 fun a6 f6 => ?_
 refine L.va f6 (E.nilCheck f6 rfl) fun a7 f7 => ?_
 refine L.fa 1 f7 U56 rfl wsz48_ss1 fun a8 f8 => ?_
 refine L.va f8 (E.load f8 U48 rfl rfl ((BP).cl rfl)) fun a9 f9 => ?_
 clear f0 f1 a0 f2 f3 a2 f4 f5 a4 f6 a6 f7 a7 f8 a8
 refine L.rangeA f9 wantedN (by decide) IA subOk U48 rfl fun a10 w1 r IN ks lor f10 => ?_
 have szw1 := ks.size
 have frr : w.heap.size ≤ r := Nat.le_trans HK.size lor
 have hrlt := InRange.lt IN
 replace HK := HK.trans ks (by simp)
 replace BP := BP.z ks
 clear ks f9 a9
 have HR := Kept.refl [r] w1
 have hwr := HK.size
 refine wn hK3 ?_
 have f11 := f10.pk [2, 3, 10]
 refine wp_block ?_
 clear f10
 refine C.loop (fun gk a W => ∃ (Rm : FE) (c : Nat) (lo : FE) (A3 : Option Addr) (c3 : Nat), c ≤ gk ∧ (lo ++ Rm).Perm Em ∧ Kept [] w W ∧ Kept [r] w1 W ∧ Blk W p 56 #[v0, .map (some gs), v2, v3, v4, v5] ∧ InRange subM Tryd.prog W gs r Em Rm c ∧ Fresh w1 W 33 2 A3 lo.length c3 (lo.flatMap scp) ∧ Fr 25 a [(3, .slice A3 lo.length c3), (10, .pointer (some ⟨r, 0, none⟩))]) (Em.length) ?_ ?_
 ·exact ⟨Em, Em.length, [], none, 0, Nat.le_refl _, List.Perm.refl _, HK, HR, BP, IN, Fresh.nil _ _ _ _, f11.sub (sx (sx sn))⟩
 intro gk5 a12 w2 hI KL4 hKL4
 obtain ⟨Rm, c, lo, A3, c3, hcg, hpm, HK, HR, BP, IN, FR, f12⟩ := hI
 try clear f11
 have hll := hpm.length_eq
 rw [List.length_append] at hll
 refine C.sk fun K5 hK5 => ?_
 refine L.nextA f12 wantedN (by decide) IN subOk subKv rfl ?_ ?_
 ·skip
  intro hR a13 f13
  subst hR
  refine L.va f13 (E.extract f13 rfl rfl) fun a14 f14 => ?_
  refine wn hK5 ?_
  have f15 := f14.pk [3, 10, 11, 12]
  refine wp_seq_k fun K6 hK6 => ?_
  refine C.condF f15 rfl ?_
  refine wp_exit (hK2 _ _ ?_)
  have f16 := f15.pk [3]
  refine C.sk fun K7 hK7 => ?_
  refine L.mv f16 fun a17 f17 => ?_
  refine L.cl f17 (run_call Tryd.call18 (args2 f17 rfl rfl)) (sortR_any w1 A3 c3 lo w2 FR (by omega)) ?_
  clear f12 f13 f14 f15 f16 a14
  rintro e w3 ⟨⟨rfl, kc3⟩, out, hol, hop, hos, SO⟩
  have hnb : ∀ x, x ∈ (Value.slice A3 lo.length c3).ownBlock.toList → w1.heap.size ≤ x := fun x hx => FR.lo x ((own_block _ _ _ _).1 (by simpa using hx))
  have HK9 := HK.trans kc3 (fun x hx hlt => by exfalso; have := hnb x hx; omega)
  have BP9 := BP.kept kc3 (fun hx => by have := hnb _ hx; omega)
  have IA9 := IsAss.kept (InRange.ass IN) kc3 (fun hx => by have := hnb _ hx; omega)
  refine ⟨_, rfl, fun a18 f18 => ?_⟩
  have szw3 := kc3.size
  clear f17 a17 kc3
  have f19 := f18.pk [3]
  refine wn hK7 (C.sk fun K8 hK8 => ?_)
  refine L.mv f19 fun a20 f20 => ?_
  refine L.ag f20 fun a21 f21 => ?_
  have f22 := f21.pk [2]
  refine wn hK8 (wp_ret ?_); (try simp only [xt, xb]); refine C.ret f22 rfl rfl ?_
  exact ⟨HK9, A3, c3, out, by rw [hol], (hop.trans (by have h : (lo ++ ([] : FE)).Perm Em := hpm; rw [List.append_nil] at h; exact h)), hos, SO, BP9, IA9⟩
 skip
 intro (key : ByteArray) (u : Int) a13 w3 c2 hm IN2 hc2 kn hent f13
 have hps := perm_strike IN.2.1 hm
 have HK2 := HK.trans kn (fun x hx hlt => by obtain rfl := List.mem_singleton.1 hx; exfalso; omega)
 have HR2 := HR.trans kn (by simp)
 have FR2 := FR.kept kn (fun b hb hm => by have := FR.lo b hb; obtain rfl := List.mem_singleton.1 hm; omega)
 have BP2 := BP.kept kn (by simp; omega)
 clear IN HK HR FR BP
 have HK := HK2
 have HR := HR2
 have FR := FR2
 have BP := BP2
 have IN : InRange subM Tryd.prog w3 gs r Em (Go.Hub.strike Rm key : FE) c2 := IN2
 clear HK2 HR2 FR2 BP2 IN2 kn
 have hent2 : (Instr.entry (.pointer (some ⟨r, 0, none⟩))).run Tryd.prog w3 = .ok (.tuple #[.string key, .int .i64 u]) w3 := hent
 clear hent
 refine L.va f13 (E.extract f13 rfl rfl) fun a14 f14 => ?_
 refine wn hK5 ?_
 have f15 := f14.pk [3, 10, 11, 12]
 refine wp_seq_k fun K9 hK9 => ?_
 refine C.condT f15 rfl ?_
 refine wp_skip (hK9 _ _ ?_)
 have f16 := f15.pk [3, 10, 11, 12]
 refine wp_block ?_
 refine C.sk fun K10 hK10 => ?_
 refine L.va f16 (E.entryA f16 hent2 rfl) fun a17 f17 => ?_
 refine L.va f17 (E.extract f17 rfl rfl) fun a18 f18 => ?_
 refine L.va f18 (E.extract f18 rfl rfl) fun a19 f19 => ?_
 refine L.ag f19 fun a20 f20 => ?_
 refine L.ag f20 fun a21 f21 => ?_
 clear f12 f13 f14 f15 f16 a14 f17 a17 f18 a18 f19 a19 f20 a20
 refine wn hK10 ?_
 have f22 := f21.pk [3, 4, 5, 10, 11, 12, 13, 14, 15]
 refine C.region ?_
 refine L.mv f22 fun a23 f23 => ?_
 refine L.mv f23 fun a24 f24 => ?_
 refine L.mv f24 fun a25 f25 => ?_
 refine L.va f25 (E.build f25 (parts2 f25 rfl rfl) (wbl33_0_1_ss1 _ _)) fun a26 f26 => ?_
 refine L.buildSlice f26 wantedN (by decide) (parts1 f26 rfl) U30 wzi33_ss1 rfl rfl (wbs30_1_ss1 _ _) fun a27 w4 g3 N3 f27 => ?_
 have Bg3 := N3.blk
 have kg3 := N3.kept
 have log3 := N3.lo
 have ltg3 := Bg3.lt
 have szw4 := kg3.size
 have frg3 : w.heap.size ≤ g3 := Nat.le_trans HK.size log3
 have frg3_HR : w1.heap.size ≤ g3 := Nat.le_trans HR.size log3
 have nep_g3 : p ≠ g3 := by have := BP.lt; omega
 replace HK := HK.z kg3
 replace HR := HR.trans kg3 (by simp)
 replace BP := BP.z kg3
 replace IN := InRange.kept IN kg3 (by simp) (by simp)
 replace FR := FR.kept0 kg3
 clear f21 f22 a21 f23 a23 f24 a24 f25 a25 N3 kg3
 refine L.append f27 wantedN (by decide) U30 wzib33_ss1 rfl rfl rfl rfl (FR.own) ((sl_b1 (cell := scp) (key, u) Bg3)) (fun v hv => scp_one [(key, u)] v hv) (by unfold maxLen; omega) (by omega) fun a28 w5 Ay cy AP5 f28 => ?_
 have FY : Fresh w1 w5 33 2 Ay (lo ++ [(key, u)]).length cy ((lo ++ [(key, u)]).flatMap scp) := by have h := AP5.next FR HR.size; rw [List.length_append, List.flatMap_append]; exact h
 have HK2 := AP5.grow (FR.lower hwr) HK
 have HR2 := AP5.grow FR HR
 have kap5 := AP5.kept
 replace HK := HK2
 replace HR := HR2
 replace BP := BP.kept kap5 (fun hx => by have := FR.lo p ((own_block _ _ _ _).1 (by simpa using hx)); omega)
 replace IN := InRange.kept IN kap5 (fun hx => by have := FR.lo gs ((own_block _ _ _ _).1 (by simpa using hx)); omega) (fun hx => by have := FR.lo r ((own_block _ _ _ _).1 (by simpa using hx)); omega)
 replace f28 := f28.as (i := 21) (v' := .slice Ay (lo ++ [(key, u)]).length cy) rfl (by rw [List.length_append]; rfl)
 have szw5 := kap5.size
 clear f26 a26 f27 a27 kap5
 refine L.ag f28 fun a29 f29 => ?_
 clear f28 a28
 refine wpList_nil (hKL4 _ _ (c2) ?_ ?_)
 ·omega
 exact ⟨(Go.Hub.strike Rm key : FE), c2, lo ++ [(key, u)], Ay, cy, Nat.le_refl _, perm_next hpm hps, HK, HR, BP, IN, FY, f29.sub (sx (sx sn))⟩
end Go.Proofs.YtdfllmiokgoekaaDoor
namespace Go.Proofs.YtdfllmiokgoekaaDoor
open Go.RowKit Go.Hub
theorem wbl73_0_1_a (x0 : Option Nat) (x1 : Int) : Tryd.prog.built 73 [(0, .map x0), (1, .int .i64 x1)] = some #[.map x0, .int .i64 x1, (.int .i64 0)] := by kernel_rfl
theorem wsz53_a : (Tryd.prog.info? 53).map (·.size) = some 1 := by kernel_rfl
theorem wbl76_1_a (x0 : Int) : Tryd.prog.built 76 [(1, .int .i64 x0)] = some #[(.slice none 0 0), .int .i64 x0, (.int .i64 0)] := by kernel_rfl
theorem wsz74_a : (Tryd.prog.info? 74).map (·.size) = some 1 := by kernel_rfl
structure IdsAt (w : World) (p im : Nat) (S : List Int) (most taken : Int) : Prop where
  top : Blk w p 73 #[.map (some im), .int .i64 most, .int .i64 taken]
  set : IsSet Tryd.prog 3 4 w im S
  ne : im ≠ p
theorem IdsAt.kept {w w' : World} {p im : Nat} {S : List Int} {most taken : Int} {L : List Nat} (h : IdsAt w p im S most taken) (hk : Kept L w w') (h1 : p ∉ L) (h2 : im ∉ L) : IdsAt w' p im S most taken := ⟨h.top.kept hk h1, h.set.kept hk h2, h.ne⟩
def mostI (most hi : Int) : Int := Min.min (Max.max most 0) hi
def nearI (x : Int) : Int := Min.min (Max.max x (-1099511627776)) 1099511627776
def IdsNewPost (most : Int) (w : World) (e : Ending) (w' : World) : Prop := ∃ p im, e = .returned (.pointer (some ⟨p, 0, none⟩)) ∧ Kept [] w w' ∧ IdsAt w' p im [] (mostI most 65535) 0 ∧ w.heap.size ≤ p ∧ w.heap.size ≤ im
def QuNewPost (most : Int) (w : World) (e : Ending) (w' : World) : Prop := ∃ q, e = .returned (.pointer (some ⟨q, 0, none⟩)) ∧ Kept [] w w' ∧ Blk w' q 76 #[.slice none 0 0, .int .i64 (mostI most 65536), .int .i64 0] ∧ w.heap.size ≤ q
theorem idsNew_any (most : Int) (w : World) : Calls Tryd.prog 15 #[.int .i64 most] w (IdsNewPost most w) := by
 have HK : Kept [] w w := Kept.refl [] w
 refine C.enter Tryd.func15 rfl Tryd.ntmps15 rfl ?_
 intro a0 f0
 have f1 : Fr 9 a0 [(0, .int .i64 most)] := f0
 refine C.sk fun K0 hK0 => ?_
 refine L.ag f1 fun a2 f2 => ?_
 have f3 := f2.pk [0, 2]
 refine wn hK0 (C.sk fun K1 hK1 => ?_)
 refine L.makeMap f3 wantedN (by decide) 3 4 fun a4 w1 g0 Ig0 kg0 log0 f4 => ?_
 have ltg0 := Ig0.lt
 have szw1 := kg0.size
 have frg0 : w.heap.size ≤ g0 := Nat.le_trans HK.size log0
 replace HK := HK.z kg0
 clear f0 f1 a0 f2 f3 kg0 a2
 refine L.mv f4 fun a5 f5 => ?_
 refine L.va f5 (E.max f5 rfl rfl) fun a6 f6 => ?_
 refine L.va f6 (E.min f6 rfl rfl) fun a7 f7 => ?_
 refine L.va f7 (E.build f7 (parts2 f7 rfl rfl) (wbl73_0_1_a _ _)) fun a8 f8 => ?_
 refine L.box f8 wantedN (by decide) rfl rfl fun a9 w2 g1 N1 f9 => ?_
 have Bg1 := N1.blk
 have kg1 := N1.kept
 have log1 := N1.lo
 have ltg1 := Bg1.lt
 have szw2 := kg1.size
 have frg1 : w.heap.size ≤ g1 := Nat.le_trans HK.size log1
 have neg0_g1 : g0 ≠ g1 := by have := Ig0.lt; omega
 replace HK := HK.z kg1
 replace Ig0 := Ig0.kept kg1 (by simp)
 clear f4 a4 f5 a5 f6 a6 f7 a7 N1 kg1
 refine L.ag f9 fun a10 f10 => ?_
 have f11 := f10.pk [2]
 refine wn hK1 (wp_ret ?_); (try simp only [xt, xb]); refine C.ret f11 rfl rfl ?_
 exact ⟨_, _, rfl, HK, ⟨Bg1, Ig0, neg0_g1⟩, frg1, frg0⟩
theorem idsFree_any (p im : Nat) (S : List Int) (most taken : Int) (x : Int) (w : World) (A : IdsAt w p im S most taken) (hx : (Lit.int .i64 x).wf = true) : Calls Tryd.prog 40 #[.pointer (some ⟨p, 0, none⟩), .int .i64 x] w (fun e w' => e = .returned (.bool (decide (x ∈ S))) ∧ Kept [im] w w' ∧ IdsAt w' p im (S.erase x) most taken) := by
 have BP := A.top
 have IS := A.set
 have hne := A.ne
 have hne2 : p ≠ im := fun h => hne h.symm
 have HK : Kept [im] w w := Kept.refl _ w
 refine C.enter Tryd.func40 rfl Tryd.ntmps40 rfl ?_
 intro a0 f0
 have f1 : Fr 18 a0 [(0, .pointer (some ⟨p, 0, none⟩)), (1, .int .i64 x)] := f0
 refine C.sk fun K0 hK0 => ?_
 refine L.ag f1 fun a2 f2 => ?_
 have f3 := f2.pk [0, 1, 4]
 refine wn hK0 (C.sk fun K1 hK1 => ?_)
 refine L.mv f3 fun a4 f4 => ?_
 refine L.va f4 (E.nilCheck f4 rfl) fun a5 f5 => ?_
 refine L.fa 0 f5 U73 rfl wsz53_a fun a6 f6 => ?_
 refine L.va f6 (E.load f6 U53 rfl rfl ((BP).cl rfl)) fun a7 f7 => ?_
 refine L.mv f7 fun a8 f8 => ?_
 clear f0 f1 a0 f2 f3 a2 f4 a4 f5 a5 f6 a6 f7 a7
 refine L.va f8 (E.look f8 IS U3 U4 U53 (fun _ => by kernel_rfl) rfl rfl (by assumption)) fun a9 f9 => ?_
 refine L.ag f9 fun a10 f10 => ?_
 have f11 := f10.pk [0, 1, 4, 5]
 refine wn hK1 (C.sk fun K2 hK2 => ?_)
 refine L.mv f11 fun a12 f12 => ?_
 refine L.va f12 (E.nilCheck f12 rfl) fun a13 f13 => ?_
 refine L.fa 0 f13 U73 rfl wsz53_a fun a14 f14 => ?_
 refine L.va f14 (E.load f14 U53 rfl rfl ((BP).cl rfl)) fun a15 f15 => ?_
 refine L.mv f15 fun a16 f16 => ?_
 clear f8 a8 f9 a9 f10 f11 a10 f12 a12 f13 a13 f14 a14 f15 a15
 refine L.mapDrop f16 wantedN IS U3 U53 rfl rfl (by assumption) fun a17 w1 IN ks f17 => ?_
 have szw1 := ks.size
 replace HK := HK.trans ks (by simp)
 replace BP := BP.kept ks (by simp; omega)
 replace IS := IN
 clear ks f16 a16
 have f18 := f17.pk [4, 5]
 refine wn hK2 (C.sk fun K3 hK3 => ?_)
 refine L.mv f18 fun a19 f19 => ?_
 refine L.ag f19 fun a20 f20 => ?_
 have f21 := f20.pk [4]
 refine wn hK3 (wp_ret ?_); (try simp only [xt, xb]); refine C.ret f21 rfl rfl ?_
 exact ⟨rfl, HK, ⟨BP, IS, hne⟩⟩
theorem quNew_any (most : Int) (w : World) : Calls Tryd.prog 16 #[.int .i64 most] w (QuNewPost most w) := by
 have HK : Kept [] w w := Kept.refl [] w
 refine C.enter Tryd.func16 rfl Tryd.ntmps16 rfl ?_
 intro a0 f0
 have f1 : Fr 8 a0 [(0, .int .i64 most)] := f0
 refine C.sk fun K0 hK0 => ?_
 refine L.ag f1 fun a2 f2 => ?_
 have f3 := f2.pk [0, 2]
 refine wn hK0 (C.sk fun K1 hK1 => ?_)
 refine L.mv f3 fun a4 f4 => ?_
 refine L.va f4 (E.max f4 rfl rfl) fun a5 f5 => ?_
 refine L.va f5 (E.min f5 rfl rfl) fun a6 f6 => ?_
 refine L.va f6 (E.build f6 (parts1 f6 rfl) (wbl76_1_a _)) fun a7 f7 => ?_
 refine L.box f7 wantedN (by decide) rfl rfl fun a8 w1 g0 N0 f8 => ?_
 have Bg0 := N0.blk
 have kg0 := N0.kept
 have log0 := N0.lo
 have ltg0 := Bg0.lt
 have szw1 := kg0.size
 have frg0 : w.heap.size ≤ g0 := Nat.le_trans HK.size log0
 replace HK := HK.z kg0
 clear f0 f1 a0 f2 f3 a2 f4 a4 f5 a5 f6 a6 N0 kg0
 refine L.ag f8 fun a9 f9 => ?_
 have f10 := f9.pk [2]
 refine wn hK1 (wp_ret ?_); (try simp only [xt, xb]); refine C.ret f10 rfl rfl ?_
 exact ⟨_, rfl, HK, Bg0, frg0⟩
theorem quLen_any (q : Nat) (A : Option Addr) (n c : Nat) (most lost : Int) (w : World) (BP : Blk w q 76 #[.slice A n c, .int .i64 most, .int .i64 lost]) : Calls Tryd.prog 22 #[.pointer (some ⟨q, 0, none⟩)] w (fun e w' => w = w' ∧ e = .returned (.int .i64 n)) := by
 refine C.enter Tryd.func22 rfl Tryd.ntmps22 rfl ?_
 intro a0 f0
 have f1 : Fr 8 a0 [(0, .pointer (some ⟨q, 0, none⟩))] := f0
 refine C.sk fun K0 hK0 => ?_
 refine L.ag f1 fun a2 f2 => ?_
 have f3 := f2.pk [0, 2]
 refine wn hK0 (C.sk fun K1 hK1 => ?_)
 refine L.mv f3 fun a4 f4 => ?_
 refine L.va f4 (E.nilCheck f4 rfl) fun a5 f5 => ?_
 refine L.fa 0 f5 U76 rfl wsz74_a fun a6 f6 => ?_
 refine L.va f6 (E.load f6 U74 rfl rfl ((BP).cl rfl)) fun a7 f7 => ?_
 refine L.va f7 (E.lenL f7 U74 rfl) fun a8 f8 => ?_
 clear f0 f1 a0 f2 f3 a2 f4 a4 f5 a5 f6 a6 f7 a7
 refine L.ag f8 fun a9 f9 => ?_
 have f10 := f9.pk [2]
 refine wn hK1 (wp_ret ?_); (try simp only [xt, xb]); refine C.ret f10 rfl rfl ?_
 exact ⟨rfl, rfl⟩
theorem near_any (x : Int) (w : World) : Calls Tryd.prog 28 #[.int .i64 x] w (fun e w' => w = w' ∧ e = .returned (.int .i64 (nearI x))) := by
 refine C.enter Tryd.func28 rfl Tryd.ntmps28 rfl ?_
 intro a0 f0
 have f1 : Fr 6 a0 [(0, .int .i64 x)] := f0
 refine C.sk fun K0 hK0 => ?_
 refine L.ag f1 fun a2 f2 => ?_
 have f3 := f2.pk [0, 2]
 refine wn hK0 (C.sk fun K1 hK1 => ?_)
 refine L.mv f3 fun a4 f4 => ?_
 refine L.va f4 (E.max f4 rfl rfl) fun a5 f5 => ?_
 refine L.va f5 (E.min f5 rfl rfl) fun a6 f6 => ?_
 refine L.ag f6 fun a7 f7 => ?_
 have f8 := f7.pk [2]
 refine wn hK1 (wp_ret ?_); (try simp only [xt, xb]); refine C.ret f8 rfl rfl ?_
 exact ⟨rfl, rfl⟩
end Go.Proofs.YtdfllmiokgoekaaDoor
namespace Go.Ids
def stp (t : Int) : Int := t % 65535 + 1
def nxtG : Nat → List Int → Int → Option Int
  | 0, _, _ => none
  | k + 1, S, u => if u ∈ S then nxtG k S (stp u) else some u
def nxt (S : List Int) (t : Int) : Int := (nxtG 65535 S (stp t)).getD 0
theorem stp_bd (t : Int) (h : 0 ≤ t) : 1 ≤ stp t ∧ stp t ≤ 65535 := by unfold stp; omega
theorem nxtG_spec : ∀ (k : Nat) (S : List Int) (u r : Int), 1 ≤ u → u ≤ 65535 → nxtG k S u = some r → r ∉ S ∧ 1 ≤ r ∧ r ≤ 65535
  | 0, _, _, _, _, _, h => by simp [nxtG] at h
  | k + 1, S, u, r, h1, h2, h => by
    unfold nxtG at h
    split at h
    · exact nxtG_spec k S (stp u) r (stp_bd u (by omega)).1 (stp_bd u (by omega)).2 h
    rename_i hn
    obtain rfl : u = r := by simpa using h
    exact ⟨hn, h1, h2⟩
theorem nxtG_none : ∀ (k : Nat) (S : List Int) (u : Int), 1 ≤ u → u ≤ 65535 → nxtG k S u = none → ∀ i : Nat, i < k → ((u - 1 + i) % 65535 + 1) ∈ S
  | 0, _, _, _, _, _ => fun i hi => by omega
  | k + 1, S, u, h1, h2, h => by
    intro i hi
    unfold nxtG at h
    split at h
    · rename_i hu
      match i, hi with
      | 0, _ => rw [show (u - 1 + (0 : Nat)) % 65535 + 1 = u from by omega]; exact hu
      | i + 1, hi =>
        have := nxtG_none k S (stp u) (stp_bd u (by omega)).1 (stp_bd u (by omega)).2 h i (by omega)
        rw [show (stp u - 1 + i) % 65535 + 1 = (u - 1 + (i + 1 : Nat)) % 65535 + 1 from by unfold stp; omega] at this
        exact this
    cases h
theorem count_le : ∀ (n : Nat) (S : List Int), (∀ x : Nat, 1 ≤ x → x ≤ n → (x : Int) ∈ S) → n ≤ S.length
  | 0, _, _ => Nat.zero_le _
  | n + 1, S, h => by
    have hm := h (n + 1) (by omega) (by omega)
    have := count_le n (S.erase (n + 1 : Nat)) (fun x h1 h2 => (List.mem_erase_of_ne (by omega)).2 (h x h1 (by omega)))
    rw [List.length_erase_of_mem hm] at this
    have : 0 < S.length := List.length_pos_of_mem hm
    omega
theorem nxtG_some (S : List Int) (t : Int) (ht : 0 ≤ t) (hS : S.length < 65535) : nxtG 65535 S (stp t) = some (nxt S t) := by
  unfold nxt
  cases h : nxtG 65535 S (stp t) with
  | some r => rfl
  | none =>
    exfalso
    have hb := stp_bd t ht
    have := count_le 65535 S (fun x h1 h2 => by
      have := nxtG_none 65535 S (stp t) hb.1 hb.2 h (((x : Int) - stp t) % 65535).toNat (by omega)
      rw [show (stp t - 1 + ((((x : Int) - stp t) % 65535).toNat : Int)) % 65535 + 1 = (x : Int) from by omega] at this
      exact this)
    omega
theorem nxt_spec (S : List Int) (t : Int) (ht : 0 ≤ t) (hS : S.length < 65535) : nxt S t ∉ S ∧ 1 ≤ nxt S t ∧ nxt S t ≤ 65535 :=
  nxtG_spec _ _ _ _ (stp_bd t ht).1 (stp_bd t ht).2 (nxtG_some S t ht hS)
end Go.Ids
namespace Go.Proofs.YtdfllmiokgoekaaDoor
open Go.RowKit Go.Hub
theorem wsz3_b : (Tryd.prog.info? 3).map (·.size) = some 1 := by kernel_rfl
theorem wsz53_b : (Tryd.prog.info? 53).map (·.size) = some 1 := by kernel_rfl
def TakePost (S : List Int) (most taken : Int) (p im : Nat) (w : World) (e : Ending) (w' : World) : Prop :=
  Kept [p, im] w w' ∧ if most ≤ S.length then e = .returned (.tuple #[.int .i64 0, .bool false]) ∧ IdsAt w' p im S most taken else e = .returned (.tuple #[.int .i64 (Go.Ids.nxt S taken), .bool true]) ∧ IdsAt w' p im (insS (Go.Ids.nxt S taken) S) most (Go.Ids.nxt S taken)
theorem nx_pos {k : Nat} {S : List Int} {u r : Int} (h : Go.Ids.nxtG k S u = some r) : 0 < k := by
  cases k with
  | zero => cases h
  | succ k => omega
theorem nx_step {k : Nat} {S : List Int} {u r : Int} (h : Go.Ids.nxtG k S u = some r) (hm : u ∈ S) : Go.Ids.nxtG (k - 1) S (Go.Ids.stp u) = some r := by
  cases k with
  | zero => cases h
  | succ k => simpa [Go.Ids.nxtG, hm] using h
theorem nx_done {k : Nat} {S : List Int} {u r : Int} (h : Go.Ids.nxtG k S u = some r) (hm : u ∉ S) : u = r := by
  cases k with
  | zero => cases h
  | succ k => simpa [Go.Ids.nxtG, hm] using h
theorem take_full {S : List Int} {most taken : Int} {p im : Nat} {w w' : World} (h : most ≤ S.length) (hk : Kept [p, im] w w') (A : IdsAt w' p im S most taken) : TakePost S most taken p im w (.returned (.tuple #[.int .i64 0, .bool false])) w' := by
  refine ⟨hk, ?_⟩
  rw [if_pos h]
  exact ⟨rfl, A⟩
theorem take_got {S : List Int} {most taken : Int} {p im : Nat} {w w' : World} (h : ¬ most ≤ S.length) (hk : Kept [p, im] w w') (A : IdsAt w' p im (insS (Go.Ids.nxt S taken) S) most (Go.Ids.nxt S taken)) : TakePost S most taken p im w (.returned (.tuple #[.int .i64 (Go.Ids.nxt S taken), .bool true])) w' := by
  refine ⟨hk, ?_⟩
  rw [if_neg h]
  exact ⟨rfl, A⟩
theorem take_any (p im : Nat) (S : List Int) (most taken : Int) (w : World) (A : IdsAt w p im S most taken) (ht : 0 ≤ taken) (hm : most ≤ 65535) : Calls Tryd.prog 38 #[.pointer (some ⟨p, 0, none⟩)] w (TakePost S most taken p im w) := by
 have BP := A.top
 have IS := A.set
 have hne := A.ne
 have hne2 : p ≠ im := fun h => hne h.symm
 have HK : Kept [p, im] w w := Kept.refl _ w
 refine C.enter Tryd.func38 rfl Tryd.ntmps38 rfl ?_
 intro a0 f0
 have f1 : Fr 53 a0 [(0, .pointer (some ⟨p, 0, none⟩))] := f0
 refine C.sk fun K0 hK0 => ?_
 refine L.ag f1 fun a2 f2 => ?_
 refine L.ag f2 fun a3 f3 => ?_
 refine wn hK0 ?_
 have f4 := f3.pk [0, 2, 3]
 refine wp_seq_k fun K1 hK1 => ?_
 refine wp_seq_k fun K2 hK2 => ?_
 refine R.begin (S := fun W => Kept [] w W) (by kernel_rfl) (by exact (Kept.refl _ _).drewN 1) ?_
 have hS1 : Kept [] w (w.drewN 1) := (Kept.refl _ _).drewN 1
 have hd1 : Kept [] w (w.drewN 1) := (Kept.refl _ _).drewN 1
 obtain ⟨w1, hww1⟩ : ∃ W, W = w.drewN 1 := ⟨_, rfl⟩
 rw [← hww1] at hS1 hd1 ⊢
 clear f0 f1 a0 f2 a2 f3 hww1
 have szw1 := hS1.size
 refine R.mv 0 f4 rfl hS1 fun a5 f5 => ?_
 refine R.t 1 f5 rfl hS1 (fun W hW => (E.nilCheck f5 rfl)) fun a6 f6 => ?_
 refine R.t 2 f6 rfl hS1 (fun W hW => (E.fa 0 f6 U73 rfl wsz53_b)) fun a7 f7 => ?_
 refine R.t 3 f7 rfl hS1 (fun W hW => (E.load f7 U53 rfl rfl ((BP.z hW).cl rfl))) fun a8 f8 => ?_
 refine R.t 4 f8 rfl hS1 (fun W hW => (E.lenM f8 (IS.kept hW (by simp)) U53 rfl)) fun a9 f9 => ?_
 refine R.mv 5 f9 rfl hS1 fun a10 f10 => ?_
 refine R.t 6 f10 rfl hS1 (fun W hW => (E.nilCheck f10 rfl)) fun a11 f11 => ?_
 clear f4 a3 f5 a5 f6 a6 f7 a7 f8 a8 f9 a9 f10 a10
 refine R.t 7 f11 rfl hS1 (fun W hW => (E.fa 1 f11 U73 rfl wsz3_b)) fun a12 f12 => ?_
 refine R.t 8 f12 rfl hS1 (fun W hW => (E.load f12 U3 rfl rfl ((BP.z hW).cl rfl))) fun a13 f13 => ?_
 refine R.t 9 f13 rfl hS1 (fun W hW => (E.geq f13 rfl rfl)) fun a14 f14 => ?_
 have szw1r := hS1.size
 replace HK := HK.trans hS1 (by simp)
 replace BP := BP.z hS1
 replace IS := IS.kept hS1 (by simp)
 clear f11 a11 f12 a12 f13 a13 hS1
 refine R.done (by kernel_rfl) (hK2 _ _ ?_)
 have f15 := f14.pk [0, 2, 3, 13]
 clear f14
 refine f15.splitD 13 rfl (fun h0 f16 => ?_) (fun h0 f16 => ?_)
 ·have hfull := h0
  refine C.condT f16 rfl ?_
  refine C.sk fun K3 hK3 => ?_
  refine L.ag f16 fun a17 f17 => ?_
  refine L.ag f17 fun a18 f18 => ?_
  have f19 := f18.pk [0, 2, 3]
  refine wn hK3 (wp_ret ?_); (try simp only [xt, xb]); refine C.ret2 f19 rfl rfl rfl ?_
  exact take_full hfull HK ⟨BP, IS, hne⟩
 have hroom := h0
 have hr := Go.Ids.nxtG_some S taken ht (by omega)
 have hb := Go.Ids.stp_bd taken ht
 refine C.condF f16 rfl ?_
 refine wp_skip (hK1 _ _ ?_)
 have f17 := f16.pk [0, 2, 3]
 refine C.sk fun K4 hK4 => ?_
 refine L.mv f17 fun a18 f18 => ?_
 refine L.mv f18 fun a19 f19 => ?_
 refine L.va f19 (E.nilCheck f19 rfl) fun a20 f20 => ?_
 refine L.fa 2 f20 U73 rfl wsz3_b fun a21 f21 => ?_
 refine L.va f21 (E.load f21 U3 rfl rfl ((BP).cl rfl)) fun a22 f22 => ?_
 refine L.va f22 (E.rem f22 rfl rfl (by omega) (Int.tmod_eq_emod_of_nonneg (by omega))) fun a23 f23 => ?_
 clear f15 f16 f17 a14 f18 a18 f19 a19 f20 a20 f21 a21 f22 a22
 refine L.va f23 (E.add f23 rfl rfl (IntWalk.i64_in _ (by omega))) fun a24 f24 => ?_
 refine L.va f24 (E.nilCheck f24 rfl) fun a25 f25 => ?_
 refine L.fa 2 f25 U73 rfl wsz3_b fun a26 f26 => ?_
 refine L.store f26 wantedN wsz3_b rfl rfl rfl BP (by (simp [Value.cells]; done)) fun a27 w2 f27 NB2 ks2 => ?_
 have szw2 := ks2.size
 replace HK := HK.trans ks2 (by simp)
 replace IS := IS.kept ks2 (by simp; omega)
 replace BP := NB2
 simp only [Value.cells, List.setIfInBounds_toArray, List.set_cons_zero, List.set_cons_succ, Nat.reduceAdd, Nat.zero_add] at BP
 clear f23 a23 f24 a24 f25 a25 ks2 f26 a26
 refine wn hK4 ?_
 have f28 := f27.pk [0, 2, 3]
 refine wp_seq_k fun K5 hK5 => ?_
 refine wp_block ?_
 clear f27
 refine C.loop (fun gk a W => ∃ u : Int, Go.Ids.nxtG gk S u = some (Go.Ids.nxt S taken) ∧ 1 ≤ u ∧ u ≤ 65535 ∧ Blk W p 73 #[.map (some im), .int .i64 most, .int .i64 u] ∧ IsSet Tryd.prog 3 4 W im S ∧ Kept [p, im] w W ∧ Fr 53 a [(0, .pointer (some ⟨p, 0, none⟩))]) (65535) ?_ ?_
 ·exact ⟨Go.Ids.stp taken, hr, hb.1, hb.2, BP, IS, HK, f28.sub (sx sn)⟩
 intro gk7 a29 w3 hI KL6 hKL6
 obtain ⟨u, hq, hu1, hu2, BP, IS, HK, f29⟩ := hI
 try clear f28
 have hg := nx_pos hq
 refine wp_seq_k fun K7 hK7 => ?_
 refine wp_seq_k fun K8 hK8 => ?_
 refine R.begin (S := fun W => Kept [] w3 W) (by kernel_rfl) (by exact (Kept.refl _ _).drewN 1) ?_
 have hS4 : Kept [] w3 (w3.drewN 1) := (Kept.refl _ _).drewN 1
 have hd4 : Kept [] w3 (w3.drewN 1) := (Kept.refl _ _).drewN 1
 obtain ⟨w4, hww4⟩ : ∃ W, W = w3.drewN 1 := ⟨_, rfl⟩
 rw [← hww4] at hS4 hd4 ⊢
 clear hww4
 have szw4 := hS4.size
 refine R.mv 0 f29 rfl hS4 fun a30 f30 => ?_
 refine R.t 1 f30 rfl hS4 (fun W hW => (E.nilCheck f30 rfl)) fun a31 f31 => ?_
 refine R.t 2 f31 rfl hS4 (fun W hW => (E.fa 0 f31 U73 rfl wsz53_b)) fun a32 f32 => ?_
 refine R.t 3 f32 rfl hS4 (fun W hW => (E.load f32 U53 rfl rfl ((BP.z hW).cl rfl))) fun a33 f33 => ?_
 refine R.mv 4 f33 rfl hS4 fun a34 f34 => ?_
 refine R.t 5 f34 rfl hS4 (fun W hW => (E.nilCheck f34 rfl)) fun a35 f35 => ?_
 refine R.t 6 f35 rfl hS4 (fun W hW => (E.fa 2 f35 U73 rfl wsz3_b)) fun a36 f36 => ?_
 clear f29 a29 f30 a30 f31 a31 f32 a32 f33 a33 f34 a34 f35 a35
 refine R.t 7 f36 rfl hS4 (fun W hW => (E.load f36 U3 rfl rfl ((BP.z hW).cl rfl))) fun a37 f37 => ?_
 refine R.t 8 f37 rfl hS4 (fun W hW => (E.look f37 (IS.kept hW (by simp)) U3 U4 U53 (fun _ => by kernel_rfl) rfl rfl (wf64 (by omega)))) fun a38 f38 => ?_
 have szw4r := hS4.size
 replace HK := HK.trans hS4 (by simp)
 replace BP := BP.z hS4
 replace IS := IS.kept hS4 (by simp)
 clear f36 a36 f37 a37 hS4
 refine R.done (by kernel_rfl) (hK8 _ _ ?_)
 have f39 := f38.pk [0, 23, 24, 25, 26, 27, 28, 29, 30, 31]
 clear f38
 refine f39.splitD 31 rfl (fun h1 f40 => ?_) (fun h1 f40 => ?_)
 ·have hin := h1
  refine C.condT f40 rfl ?_
  refine wp_skip (hK7 _ _ ?_)
  have f41 := f40.pk [0, 23, 24, 25, 26, 27, 28, 29, 30, 31]
  refine wp_block ?_
  refine C.region ?_
  refine L.mv f41 fun a42 f42 => ?_
  refine L.mv f42 fun a43 f43 => ?_
  refine L.va f43 (E.nilCheck f43 rfl) fun a44 f44 => ?_
  refine L.fa 2 f44 U73 rfl wsz3_b fun a45 f45 => ?_
  refine L.va f45 (E.load f45 U3 rfl rfl ((BP).cl rfl)) fun a46 f46 => ?_
  refine L.va f46 (E.rem f46 rfl rfl (by omega) (Int.tmod_eq_emod_of_nonneg (by omega))) fun a47 f47 => ?_
  clear f39 f40 f41 a38 f42 a42 f43 a43 f44 a44 f45 a45 f46 a46
  refine L.va f47 (E.add f47 rfl rfl (IntWalk.i64_in _ (by omega))) fun a48 f48 => ?_
  refine L.va f48 (E.nilCheck f48 rfl) fun a49 f49 => ?_
  refine L.fa 2 f49 U73 rfl wsz3_b fun a50 f50 => ?_
  refine L.store f50 wantedN wsz3_b rfl rfl rfl BP (by (simp [Value.cells]; done)) fun a51 w5 f51 NB5 ks5 => ?_
  have szw5 := ks5.size
  replace HK := HK.trans ks5 (by simp)
  replace IS := IS.kept ks5 (by simp; omega)
  replace BP := NB5
  simp only [Value.cells, List.setIfInBounds_toArray, List.set_cons_zero, List.set_cons_succ, Nat.reduceAdd, Nat.zero_add] at BP
  clear f47 a47 f48 a48 f49 a49 ks5 f50 a50
  refine wpList_nil (hKL6 _ _ (gk7 - 1) ?_ ?_)
  ·omega
  exact ⟨Go.Ids.stp u, nx_step hq hin, (Go.Ids.stp_bd u (by omega)).1, (Go.Ids.stp_bd u (by omega)).2, BP, IS, HK, f51.sub (sx sn)⟩
 have hout := h1
 obtain rfl := nx_done hq hout
 refine C.condF f40 rfl ?_
 refine wp_exit (hK5 _ _ ?_)
 have f41 := f40.pk [0]
 refine wp_seq_k fun K9 hK9 => ?_
 have KN := Kept.refl [] w4
 refine R.begin (S := fun W => Kept [im] w4 W) (by kernel_rfl) (by exact (Kept.refl _ _).drewN 1) ?_
 have hS6 : Kept [im] w4 (w4.drewN 1) := (Kept.refl _ _).drewN 1
 have hd6 : Kept [] w4 (w4.drewN 1) := (Kept.refl _ _).drewN 1
 obtain ⟨w5, hww5⟩ : ∃ W, W = w4.drewN 1 := ⟨_, rfl⟩
 rw [← hww5] at hS6 hd6 ⊢
 clear f39 f40 hww5
 have szw5 := hS6.size
 replace KN := KN.trans hd6 (by simp)
 refine R.mv 0 f41 rfl hS6 fun a42 f42 => ?_
 refine R.t 1 f42 rfl hS6 (fun W hW => (E.nilCheck f42 rfl)) fun a43 f43 => ?_
 refine R.t 2 f43 rfl hS6 (fun W hW => (E.fa 0 f43 U73 rfl wsz53_b)) fun a44 f44 => ?_
 refine R.t 3 f44 rfl hS6 (fun W hW => (E.load f44 U53 rfl rfl ((BP.kept hW (by simp; omega)).cl rfl))) fun a45 f45 => ?_
 refine R.mv 4 f45 rfl hS6 fun a46 f46 => ?_
 refine R.t 5 f46 rfl hS6 (fun W hW => (E.nilCheck f46 rfl)) fun a47 f47 => ?_
 refine R.t 6 f47 rfl hS6 (fun W hW => (E.fa 2 f47 U73 rfl wsz3_b)) fun a48 f48 => ?_
 clear f41 a38 f42 a42 f43 a43 f44 a44 f45 a45 f46 a46 f47 a47
 refine R.t 7 f48 rfl hS6 (fun W hW => (E.load f48 U3 rfl rfl ((BP.kept hW (by simp; omega)).cl rfl))) fun a49 f49 => ?_
 refine R.one 8 (by kernel_rfl) ?_
 refine O.mapPut f49 rfl wantedN (IS.kept KN (by simp)) U3 U4 U53 rfl rfl rfl (wf64 (by omega)) (by unfold maxLen; omega) (fun _ hk => hS6.trans hk (by simp)) fun a50 w6 IN ks f50 => ?_
 replace hS6 := hS6.trans ks (by simp)
 have szw6 := ks.size
 clear f48 a48 f49 a49 ks
 have szw6r := hS6.size
 replace HK := HK.trans hS6 (by simp)
 replace BP := BP.kept hS6 (by simp; omega)
 clear hS6
 refine R.done (by kernel_rfl) (hK9 _ _ ?_)
 have f51 := f50.pk [0]
 refine C.sk fun K10 hK10 => ?_
 refine L.mv f51 fun a52 f52 => ?_
 refine L.va f52 (E.nilCheck f52 rfl) fun a53 f53 => ?_
 refine L.fa 2 f53 U73 rfl wsz3_b fun a54 f54 => ?_
 refine L.va f54 (E.load f54 U3 rfl rfl ((BP).cl rfl)) fun a55 f55 => ?_
 refine L.ag f55 fun a56 f56 => ?_
 refine L.ag f56 fun a57 f57 => ?_
 have f58 := f57.pk [2, 3]
 clear f50 f51 a50 f52 a52 f53 a53 f54 a54 f55 a55 f56 a56 f57
 refine wn hK10 (wp_ret ?_); (try simp only [xt, xb]); refine C.ret2 f58 rfl rfl rfl ?_
 exact take_got (by omega) HK ⟨BP, IN, hne⟩
end Go.Proofs.YtdfllmiokgoekaaDoor
namespace Go.Proofs.YtdfllmiokgoekaaDoor
open Go.RowKit Go.Hub
theorem wzib5_c : (Tryd.prog.info? 5).map (fun i => (i.zero, i.size, i.bytes)) = some (some (.int .u8 0), 1, 1) := by kernel_rfl
theorem wsz5_c : (Tryd.prog.info? 5).map (·.size) = some 1 := by kernel_rfl
theorem wsz22_c : (Tryd.prog.info? 22).map (·.size) = some 1 := by kernel_rfl
theorem wsz38_c : (Tryd.prog.info? 38).map (·.size) = some 4 := by kernel_rfl
def BytesPost (n : Nat) (xs : List Value) (w : World) (e : Ending) (w' : World) : Prop := Kept [] w w' ∧ ∃ A c, e = .returned (.slice A n c) ∧ Fresh w w' 5 1 A n c xs
def CopyPost (tp : ByteArray) (n : Nat) (xs : List Value) (qos : Int) (ret : Bool) (w : World) (e : Ending) (w' : World) : Prop := Kept [] w w' ∧ ∃ A c, e = .returned (.agg #[.string tp, .slice A n c, .int .i64 qos, .bool ret]) ∧ Fresh w w' 5 1 A n c xs
theorem clone_any (A : Option Addr) (n c : Nat) (xs : List Value) (w : World) (A1 : Sl w A n 1 xs) (h1 : ∀ u ∈ xs, u.oneCell' = true) (hm : n ≤ 1000000000) : Calls Tryd.prog 37 #[.slice A n c] w (BytesPost n xs w) := by
 have HK : Kept [] w w := Kept.refl [] w
 refine C.enter Tryd.func37 rfl Tryd.ntmps37 rfl ?_
 intro a0 f0
 have f1 : Fr 8 a0 [(0, .slice A n c)] := f0
 refine C.sk fun K0 hK0 => ?_
 refine L.ag f1 fun a2 f2 => ?_
 refine wn hK0 ?_
 have f3 := f2.pk [0, 2]
 refine wp_seq_k fun K1 hK1 => C.sk fun K2 hK2 => ?_
 refine L.mv f3 fun a4 f4 => ?_
 refine L.va f4 (E.eqlNil f4 U22 rfl rfl) fun a5 f5 => ?_
 refine wn hK2 ?_
 have f6 := f5.pk [0, 2, 4]
 clear f0 f1 a0 f2 f3 a2 f4 a4 f5
 refine f6.split 4 rfl (fun h0 f7 => ?_) (fun h0 f7 => ?_)
 ·have hA0 : A = none := by simpa using h0
  clear f6
  have hn0 : n = 0 := by
   rcases Nat.eq_zero_or_pos n with h | h
   ·exact h
   obtain ⟨b, off, e⟩ := A1.addr h
   rw [hA0] at e
   cases e
  have hx0 : xs = [] := by have := A1.1; rw [hn0] at this; simpa using this
  refine C.condT f7 rfl ?_
  refine C.sk fun K3 hK3 => ?_
  refine L.ag f7 fun a8 f8 => ?_
  have f9 := f8.pk [0, 2]
  refine wn hK3 (wp_ret ?_); (try simp only [xt, xb]); refine C.ret f9 rfl rfl ?_
  clear f7 a5 f8
  subst hn0 hx0
  exact ⟨HK, none, 0, rfl, Fresh.nil _ _ _ _⟩
 refine C.condF f7 rfl ?_
 refine wp_skip (hK1 _ _ ?_)
 have f8 := f7.pk [0, 2]
 refine C.sk fun K4 hK4 => ?_
 refine L.buildNone f8 wantedN (by decide) U22 wsz5_c fun a9 w1 g0 N0 f9 => ?_
 have OW := N0.own (k := 0) (size := 1) rfl (by decide)
 have Bg0 := N0.blk
 have kg0 := N0.kept
 have log0 := N0.lo
 have ltg0 := Bg0.lt
 have szw1 := kg0.size
 have frg0 : w.heap.size ≤ g0 := Nat.le_trans HK.size log0
 replace HK := HK.z kg0
 clear f6 f7 N0 kg0
 refine L.mv f9 fun a10 f10 => ?_
 refine L.append f10 wantedN (by decide) U22 wzib5_c rfl rfl rfl rfl (OW) (A1.kept HK) (h1) (by unfold maxLen; omega) (by omega) fun a11 w2 A2 c2 AP2 f11 => ?_
 have kap2 : Kept [g0] w1 w2 := by simpa [Value.ownBlock] using AP2.kept
 have FR := AP2.next (⟨OW, fun b hb => by simp at hb; omega⟩ : Fresh w w1 5 1 (some ⟨g0, 0, none⟩) 0 0 _) HK.size
 have szw2 := kap2.size
 replace HK := HK.trans kap2 (by intro x hx hlt; simp at hx; subst hx; (exfalso; omega))
 clear f8 a5 f9 a9 f10 a10 kap2
 refine L.ag f11 fun a12 f12 => ?_
 have f13 := f12.pk [2]
 refine wn hK4 (wp_ret ?_); (try simp only [xt, xb]); refine C.ret f13 rfl rfl ?_
 simp only [Nat.zero_add] at FR f13 ⊢
 exact ⟨HK, _, _, rfl, by simpa using FR⟩
theorem copied_any (tp : ByteArray) (A : Option Addr) (n c : Nat) (xs : List Value) (qos : Int) (ret : Bool) (w : World) (A1 : Sl w A n 1 xs) (h1 : ∀ u ∈ xs, u.oneCell' = true) (hm : n ≤ 1000000000) : Calls Tryd.prog 39 #[.agg #[.string tp, .slice A n c, .int .i64 qos, .bool ret]] w (CopyPost tp n xs qos ret w) := by
 have HK : Kept [] w w := Kept.refl [] w
 refine C.enter Tryd.func39 rfl Tryd.ntmps39 rfl ?_
 intro a0 f0
 have f1 : Fr 8 a0 [(0, .agg #[.string tp, .slice A n c, .int .i64 qos, .bool ret])] := f0
 refine C.sk fun K0 hK0 => ?_
 refine L.box f1 wantedN (by decide) rfl rfl fun a2 w1 g0 N0 f2 => ?_
 have Bg0 := N0.blk
 have kg0 := N0.kept
 have log0 := N0.lo
 have ltg0 := Bg0.lt
 have szw1 := kg0.size
 have frg0 : w.heap.size ≤ g0 := Nat.le_trans HK.size log0
 replace HK := HK.z kg0
 clear f0 N0 kg0
 refine L.alloc f2 wantedN (by decide) (z := (.agg #[(.string ⟨#[]⟩), (.slice none 0 0), (.int .i64 0), (.bool false)])) (fun _ => by kernel_rfl) rfl fun a3 w2 g1 N1 f3 => ?_
 have Bg1 := N1.blk
 have kg1 := N1.kept
 have log1 := N1.lo
 have ltg1 := Bg1.lt
 have szw2 := kg1.size
 have frg1 : w.heap.size ≤ g1 := Nat.le_trans HK.size log1
 have neg0_g1 : g0 ≠ g1 := by have := Bg0.lt; omega
 replace HK := HK.z kg1
 replace Bg0 := Bg0.z kg1
 clear f1 a0 N1 kg1
 have f4 := f3.pk [1, 2]
 refine wn hK0 (C.sk fun K1 hK1 => ?_)
 refine L.fa 1 f4 U38 rfl wsz22_c fun a5 f5 => ?_
 refine L.va f5 (E.load f5 U22 rfl rfl ((Bg0).cl rfl)) fun a6 f6 => ?_
 refine L.cl f6 (run_call Tryd.call37 (args1 f6 rfl)) (clone_any A n c xs _ (A1.kept HK) h1 hm) ?_
 clear f2 a2 f3 f4 a3 f5 a5
 rintro e w3 ⟨kc3, Ac, cc, rfl, FC⟩
 refine ⟨_, rfl, fun a7 f7 => ?_⟩
 have szw3 := kc3.size
 replace HK := HK.z kc3
 replace Bg0 := Bg0.z kc3
 replace Bg1 := Bg1.z kc3
 clear f6 a6 kc3
 refine L.fa 1 f7 U38 rfl wsz22_c fun a8 f8 => ?_
 refine L.store f8 wantedN wsz22_c rfl rfl rfl Bg0 (by (simp [Value.cells]; done)) fun a9 w4 f9 NB4 ks4 => ?_
 have szw4 := ks4.size
 replace HK := HK.trans ks4 (by intro x hx hlt; simp at hx; subst hx; (exfalso; omega))
 replace Bg1 := Bg1.kept ks4 (by simp; omega)
 replace FC := FC.kept ks4 (fun b hb hx => by simp at hx; subst hx; have := FC.lo _ hb; omega)
 replace Bg0 := NB4
 simp only [Value.cells, List.setIfInBounds_toArray, List.set_cons_zero, List.set_cons_succ, Nat.reduceAdd, Nat.zero_add] at Bg0
 clear f7 a7 ks4 f8 a8
 have f10 := f9.pk [1, 2]
 refine wn hK1 (C.sk fun K2 hK2 => ?_)
 refine L.va f10 (E.loadB f10 U38 rfl wsz38_c rfl (Bg0) rfl) fun a11 f11 => ?_
 refine L.storeR f11 wantedN wsz38_c rfl rfl rfl Bg1 rfl rfl fun a12 w5 f12 NB5 ks5 => ?_
 have szw5 := ks5.size
 replace HK := HK.trans ks5 (by intro x hx hlt; simp at hx; subst hx; (exfalso; omega))
 replace FC := FC.kept ks5 (fun b hb hx => by simp at hx; subst hx; have := FC.lo _ hb; omega)
 replace Bg0 := Bg0.kept ks5 (by simp; omega)
 replace Bg1 := NB5
 clear f9 f10 a9 ks5 f11 a11
 have f13 := f12.pk [2]
 refine wn hK2 (wp_ret ?_); (try simp only [xt, xb]); refine C.retC f13 rfl rfl Bg1 U38 rfl wsz38_c ?_
 exact ⟨HK, Ac, cc, rfl, FC.lower (by omega)⟩
end Go.Proofs.YtdfllmiokgoekaaDoor
namespace Go.Proofs.YtdfllmiokgoekaaDoor
open Go.RowKit Go.Hub
theorem wzi44_d : (Tryd.prog.info? 44).map (fun i => (i.zero, i.size)) = some (some (.agg #[(.int .i64 0), (.bool false), (.bool false), (.int .i64 0), (.int .i64 0), (.string ⟨#[]⟩), (.slice none 0 0), (.int .i64 0), (.string ⟨#[]⟩), (.bool false), (.int .i64 0), (.bool false), (.string ⟨#[]⟩), (.slice none 0 0), (.int .i64 0), (.bool false), (.bool false), (.bool false), (.string ⟨#[]⟩), (.slice none 0 0), (.bool false), (.int .i64 0), (.slice none 0 0), (.slice none 0 0)]), 24) := by kernel_rfl
theorem wbs35_1_d (x0_0 x0_1 x0_2 x0_3 x0_4 x0_5 x0_6 x0_7 x0_8 x0_9 x0_10 x0_11 x0_12 x0_13 x0_14 x0_15 x0_16 x0_17 x0_18 x0_19 x0_20 x0_21 x0_22 x0_23 : Value) : Instr.fill (fun i => some (i * 24, 24)) ((Array.range (1 * 24)).map fun j => (Value.cells (.agg #[(.int .i64 0), (.bool false), (.bool false), (.int .i64 0), (.int .i64 0), (.string ⟨#[]⟩), (.slice none 0 0), (.int .i64 0), (.string ⟨#[]⟩), (.bool false), (.int .i64 0), (.bool false), (.string ⟨#[]⟩), (.slice none 0 0), (.int .i64 0), (.bool false), (.bool false), (.bool false), (.string ⟨#[]⟩), (.slice none 0 0), (.bool false), (.int .i64 0), (.slice none 0 0), (.slice none 0 0)]))[j % (Value.cells (.agg #[(.int .i64 0), (.bool false), (.bool false), (.int .i64 0), (.int .i64 0), (.string ⟨#[]⟩), (.slice none 0 0), (.int .i64 0), (.string ⟨#[]⟩), (.bool false), (.int .i64 0), (.bool false), (.string ⟨#[]⟩), (.slice none 0 0), (.int .i64 0), (.bool false), (.bool false), (.bool false), (.string ⟨#[]⟩), (.slice none 0 0), (.bool false), (.int .i64 0), (.slice none 0 0), (.slice none 0 0)])).size]!) [(0, .agg #[x0_0, x0_1, x0_2, x0_3, x0_4, x0_5, x0_6, x0_7, x0_8, x0_9, x0_10, x0_11, x0_12, x0_13, x0_14, x0_15, x0_16, x0_17, x0_18, x0_19, x0_20, x0_21, x0_22, x0_23])] = some #[x0_0, x0_1, x0_2, x0_3, x0_4, x0_5, x0_6, x0_7, x0_8, x0_9, x0_10, x0_11, x0_12, x0_13, x0_14, x0_15, x0_16, x0_17, x0_18, x0_19, x0_20, x0_21, x0_22, x0_23] := by kernel_rfl
theorem wbl44_0_4_d (x0 : Int) (x1 : Int) : Tryd.prog.built 44 [(0, .int .i64 x0), (4, .int .i64 x1)] = some #[.int .i64 x0, (.bool false), (.bool false), (.int .i64 0), .int .i64 x1, (.string ⟨#[]⟩), (.slice none 0 0), (.int .i64 0), (.string ⟨#[]⟩), (.bool false), (.int .i64 0), (.bool false), (.string ⟨#[]⟩), (.slice none 0 0), (.int .i64 0), (.bool false), (.bool false), (.bool false), (.string ⟨#[]⟩), (.slice none 0 0), (.bool false), (.int .i64 0), (.slice none 0 0), (.slice none 0 0)] := by kernel_rfl
theorem wsz9_d : (Tryd.prog.info? 9).map (·.size) = some 1 := by kernel_rfl
theorem wsz54_d : (Tryd.prog.info? 54).map (·.size) = some 1 := by kernel_rfl
def ackCells (k id : Int) : Array Value := #[(.int .i64 k), (.bool false), (.bool false), (.int .i64 0), (.int .i64 id), (.string ⟨#[]⟩), (.slice none 0 0), (.int .i64 0), (.string ⟨#[]⟩), (.bool false), (.int .i64 0), (.bool false), (.string ⟨#[]⟩), (.slice none 0 0), (.int .i64 0), (.bool false), (.bool false), (.bool false), (.string ⟨#[]⟩), (.slice none 0 0), (.bool false), (.int .i64 0), (.slice none 0 0), (.slice none 0 0)]
def ReplyPost (k id : Int) (w : World) (e : Ending) (w' : World) : Prop := ∃ g, e = .returned (.slice (some ⟨g, 0, none⟩) 1 1) ∧ Kept [] w w' ∧ Blk w' g 44 (ackCells k id) ∧ w.heap.size ≤ g
theorem reply_any (k id : Int) (w : World) : Calls Tryd.prog 29 #[.int .i64 k, .int .i64 id] w (ReplyPost k id w) := by
 have HK : Kept [] w w := Kept.refl [] w
 refine C.enter Tryd.func29 rfl Tryd.ntmps29 rfl ?_
 intro a0 f0
 have f1 : Fr 9 a0 [(0, .int .i64 k), (1, .int .i64 id)] := f0
 refine C.sk fun K0 hK0 => ?_
 refine L.ag f1 fun a2 f2 => ?_
 have f3 := f2.pk [0, 1, 4]
 refine wn hK0 (C.sk fun K1 hK1 => ?_)
 refine L.mv f3 fun a4 f4 => ?_
 refine L.mv f4 fun a5 f5 => ?_
 refine L.va f5 (E.build f5 (parts2 f5 rfl rfl) (wbl44_0_4_d _ _)) fun a6 f6 => ?_
 refine L.buildSlice f6 wantedN (by decide) (parts1 f6 rfl) U35 wzi44_d rfl rfl (wbs35_1_d _ _ _ _ _ _ _ _ _ _ _ _ _ _ _ _ _ _ _ _ _ _ _ _) fun a7 w1 g0 N0 f7 => ?_
 have Bg0 := N0.blk
 have kg0 := N0.kept
 have log0 := N0.lo
 have ltg0 := Bg0.lt
 have szw1 := kg0.size
 have frg0 : w.heap.size ≤ g0 := Nat.le_trans HK.size log0
 replace HK := HK.z kg0
 clear f0 f1 a0 f2 f3 a2 f4 a4 f5 a5 N0 kg0
 refine L.ag f7 fun a8 f8 => ?_
 have f9 := f8.pk [4]
 refine wn hK1 (wp_ret ?_); (try simp only [xt, xb]); refine C.ret f9 rfl rfl ?_
 exact ⟨g0, rfl, HK, Bg0, frg0⟩
theorem client_any (p : Nat) (cl : ByteArray) (v1 v2 v3 v4 v5 : Value) (w : World) (BP : Blk w p 56 #[.string cl, v1, v2, v3, v4, v5]) : Calls Tryd.prog 14 #[.pointer (some ⟨p, 0, none⟩)] w (fun e w' => w = w' ∧ e = .returned (.string cl)) := by
 refine C.enter Tryd.func14 rfl Tryd.ntmps14 rfl ?_
 intro a0 f0
 have f1 : Fr 7 a0 [(0, .pointer (some ⟨p, 0, none⟩))] := f0
 refine C.sk fun K0 hK0 => ?_
 refine L.ag f1 fun a2 f2 => ?_
 have f3 := f2.pk [0, 2]
 refine wn hK0 (C.sk fun K1 hK1 => ?_)
 refine L.mv f3 fun a4 f4 => ?_
 refine L.va f4 (E.nilCheck f4 rfl) fun a5 f5 => ?_
 refine L.fa 0 f5 U56 rfl wsz9_d fun a6 f6 => ?_
 refine L.va f6 (E.load f6 U9 rfl rfl ((BP).cl rfl)) fun a7 f7 => ?_
 refine L.ag f7 fun a8 f8 => ?_
 clear f0 f1 a0 f2 f3 a2 f4 a4 f5 a5 f6 a6 f7 a7
 have f9 := f8.pk [2]
 refine wn hK1 (wp_ret ?_); (try simp only [xt, xb]); refine C.ret f9 rfl rfl ?_
 exact ⟨rfl, rfl⟩
theorem flying_any (p : Nat) (n c : Nat) (A : Option Addr) (v0 v1 v2 v4 v5 : Value) (w : World) (BP : Blk w p 56 #[v0, v1, v2, .slice A n c, v4, v5]) : Calls Tryd.prog 11 #[.pointer (some ⟨p, 0, none⟩)] w (fun e w' => w = w' ∧ e = .returned (.int .i64 n)) := by
 refine C.enter Tryd.func11 rfl Tryd.ntmps11 rfl ?_
 intro a0 f0
 have f1 : Fr 8 a0 [(0, .pointer (some ⟨p, 0, none⟩))] := f0
 refine C.sk fun K0 hK0 => ?_
 refine L.ag f1 fun a2 f2 => ?_
 have f3 := f2.pk [0, 2]
 refine wn hK0 (C.sk fun K1 hK1 => ?_)
 refine L.mv f3 fun a4 f4 => ?_
 refine L.va f4 (E.nilCheck f4 rfl) fun a5 f5 => ?_
 refine L.fa 3 f5 U56 rfl wsz54_d fun a6 f6 => ?_
 refine L.va f6 (E.load f6 U54 rfl rfl ((BP).cl rfl)) fun a7 f7 => ?_
 refine L.va f7 (E.lenL f7 U54 rfl) fun a8 f8 => ?_
 clear f0 f1 a0 f2 f3 a2 f4 a4 f5 a5 f6 a6 f7 a7
 refine L.ag f8 fun a9 f9 => ?_
 have f10 := f9.pk [2]
 refine wn hK1 (wp_ret ?_); (try simp only [xt, xb]); refine C.ret f10 rfl rfl ?_
 exact ⟨rfl, rfl⟩
end Go.Proofs.YtdfllmiokgoekaaDoor
namespace Go.Proofs.YtdfllmiokgoekaaDoor
open Go.RowKit Go.Hub
theorem wsz3_e : (Tryd.prog.info? 3).map (·.size) = some 1 := by kernel_rfl
theorem wsz4_e : (Tryd.prog.info? 4).map (·.size) = some 1 := by kernel_rfl
theorem wsz9_e : (Tryd.prog.info? 9).map (·.size) = some 1 := by kernel_rfl
theorem wsz22_e : (Tryd.prog.info? 22).map (·.size) = some 1 := by kernel_rfl
theorem wsz44_e : (Tryd.prog.info? 44).map (·.size) = some 24 := by kernel_rfl
theorem wbl44_0_5_6_3_2_4_1_e (x0 : Int) (x1 : ByteArray) (x2 : Option Addr) (y2 z2 : Nat) (x3 : Int) (x4 : Bool) (x5 : Int) (x6 : Bool) : Tryd.prog.built 44 [(0, .int .i64 x0), (5, .string x1), (6, .slice x2 y2 z2), (3, .int .i64 x3), (2, .bool x4), (4, .int .i64 x5), (1, .bool x6)] = some #[.int .i64 x0, .bool x6, .bool x4, .int .i64 x3, .int .i64 x5, .string x1, .slice x2 y2 z2, (.int .i64 0), (.string ⟨#[]⟩), (.bool false), (.int .i64 0), (.bool false), (.string ⟨#[]⟩), (.slice none 0 0), (.int .i64 0), (.bool false), (.bool false), (.bool false), (.string ⟨#[]⟩), (.slice none 0 0), (.bool false), (.int .i64 0), (.slice none 0 0), (.slice none 0 0)] := by kernel_rfl
def pubCells (tp : ByteArray) (A : Option Addr) (n c : Nat) (qos : Int) (ret : Bool) (id : Int) (dup : Bool) : Array Value := #[(.int .i64 3), (.bool dup), (.bool ret), (.int .i64 qos), (.int .i64 id), (.string tp), (.slice A n c), (.int .i64 0), (.string ⟨#[]⟩), (.bool false), (.int .i64 0), (.bool false), (.string ⟨#[]⟩), (.slice none 0 0), (.int .i64 0), (.bool false), (.bool false), (.bool false), (.string ⟨#[]⟩), (.slice none 0 0), (.bool false), (.int .i64 0), (.slice none 0 0), (.slice none 0 0)]
theorem seg_all : ∀ (xs cs : List Value), xs.length = cs.length → setSeg xs 0 cs = cs := fun xs cs h => by
  apply List.ext_getElem?
  intro i
  rw [setSeg_at cs xs 0 i (by omega)]
  split
  · simp
  rename_i hn
  rw [List.getElem?_eq_none (by omega), List.getElem?_eq_none (by omega)]
def PubPost (tp : ByteArray) (n : Nat) (xs : List Value) (qos : Int) (ret : Bool) (id : Int) (dup : Bool) (w : World) (e : Ending) (w' : World) : Prop := Kept [] w w' ∧ ∃ A c, e = .returned (.agg (pubCells tp A n c qos ret id dup)) ∧ Fresh w w' 5 1 A n c xs
theorem publish_any (tp : ByteArray) (A : Option Addr) (n c : Nat) (xs : List Value) (qos : Int) (ret : Bool) (id : Int) (dup : Bool) (w : World) (A1 : Sl w A n 1 xs) (h1 : ∀ u ∈ xs, u.oneCell' = true) (hm : n ≤ 1000000000) : Calls Tryd.prog 21 #[.agg #[.string tp, .slice A n c, .int .i64 qos, .bool ret], .int .i64 id, .bool dup] w (PubPost tp n xs qos ret id dup w) := by
 have HK : Kept [] w w := Kept.refl [] w
 refine C.enter Tryd.func21 rfl Tryd.ntmps21 rfl ?_
 intro a0 f0
 have f1 : Fr 19 a0 [(0, .agg #[.string tp, .slice A n c, .int .i64 qos, .bool ret]), (1, .int .i64 id), (2, .bool dup)] := f0
 refine C.sk fun K0 hK0 => ?_
 refine L.box f1 wantedN (by decide) rfl rfl fun a2 w1 g0 N0 f2 => ?_
 have Bg0 := N0.blk
 have kg0 := N0.kept
 have log0 := N0.lo
 have ltg0 := Bg0.lt
 have szw1 := kg0.size
 have frg0 : w.heap.size ≤ g0 := Nat.le_trans HK.size log0
 replace HK := HK.z kg0
 clear f0 N0 kg0
 refine L.alloc f2 wantedN (by decide) (z := (.agg #[(.int .i64 0), (.bool false), (.bool false), (.int .i64 0), (.int .i64 0), (.string ⟨#[]⟩), (.slice none 0 0), (.int .i64 0), (.string ⟨#[]⟩), (.bool false), (.int .i64 0), (.bool false), (.string ⟨#[]⟩), (.slice none 0 0), (.int .i64 0), (.bool false), (.bool false), (.bool false), (.string ⟨#[]⟩), (.slice none 0 0), (.bool false), (.int .i64 0), (.slice none 0 0), (.slice none 0 0)])) (fun _ => by kernel_rfl) rfl fun a3 w2 g1 N1 f3 => ?_
 have Bg1 := N1.blk
 have kg1 := N1.kept
 have log1 := N1.lo
 have ltg1 := Bg1.lt
 have szw2 := kg1.size
 have frg1 : w.heap.size ≤ g1 := Nat.le_trans HK.size log1
 have neg0_g1 : g0 ≠ g1 := by have := Bg0.lt; omega
 replace HK := HK.z kg1
 replace Bg0 := Bg0.z kg1
 clear f1 a0 N1 kg1
 refine wn hK0 ?_
 have f4 := f3.pk [1, 2, 3, 6]
 refine wp_seq_k fun K1 hK1 => ?_
 have KN := Kept.refl [] w2
 refine R.begin (S := fun W => Kept [g1] w2 W) (by kernel_rfl) (by exact (Kept.refl _ _).drewN 1) ?_
 have hS1 : Kept [g1] w2 (w2.drewN 1) := (Kept.refl _ _).drewN 1
 have hd1 : Kept [] w2 (w2.drewN 1) := (Kept.refl _ _).drewN 1
 obtain ⟨w3, hww3⟩ : ∃ W, W = w2.drewN 1 := ⟨_, rfl⟩
 rw [← hww3] at hS1 hd1 ⊢
 clear f2 a2 f3 hww3
 have szw3 := hS1.size
 replace KN := KN.trans hd1 (by simp)
 refine R.t 0 f4 rfl hS1 (fun W hW => (E.fa 0 f4 U38 rfl wsz9_e)) fun a5 f5 => ?_
 refine R.t 1 f5 rfl hS1 (fun W hW => (E.load f5 U9 rfl rfl ((Bg0.kept hW (by simp; omega)).cl rfl))) fun a6 f6 => ?_
 refine R.t 2 f6 rfl hS1 (fun W hW => (E.fa 1 f6 U38 rfl wsz22_e)) fun a7 f7 => ?_
 refine R.t 3 f7 rfl hS1 (fun W hW => (E.load f7 U22 rfl rfl ((Bg0.kept hW (by simp; omega)).cl rfl))) fun a8 f8 => ?_
 refine R.t 5 f8 rfl hS1 (fun W hW => (E.fa 2 f8 U38 rfl wsz3_e)) fun a9 f9 => ?_
 refine R.t 6 f9 rfl hS1 (fun W hW => (E.load f9 U3 rfl rfl ((Bg0.kept hW (by simp; omega)).cl rfl))) fun a10 f10 => ?_
 refine R.t 7 f10 rfl hS1 (fun W hW => (E.fa 3 f10 U38 rfl wsz4_e)) fun a11 f11 => ?_
 clear f4 a3 f5 a5 f6 a6 f7 a7 f8 a8 f9 a9 f10 a10
 refine R.t 8 f11 rfl hS1 (fun W hW => (E.load f11 U4 rfl rfl ((Bg0.kept hW (by simp; omega)).cl rfl))) fun a12 f12 => ?_
 refine R.mv 9 f12 rfl hS1 fun a13 f13 => ?_
 refine R.mv 10 f13 rfl hS1 fun a14 f14 => ?_
 refine R.call 4 f14 rfl rfl (by decide) (by kernel_rfl) wantedN (run_call Tryd.call37 (args1 f14 rfl)) (clone_any A n c xs _ (A1.kept (HK.z KN)) h1 hm) ?_
 clear f11 a11 f12 a12 f13 a13
 rintro e w4 ⟨kc4, Ac, cc, rfl, FC⟩
 replace hS1 := hS1.trans kc4 (by simp)
 refine ⟨_, rfl, hS1, fun a15 f15 => ?_⟩
 have szw4 := kc4.size
 replace KN := KN.trans kc4 (by simp)
 clear f14 a14 kc4
 refine R.t 11 f15 rfl hS1 (fun W hW => (E.build f15 (parts7 f15 rfl rfl rfl rfl rfl rfl rfl) (wbl44_0_5_6_3_2_4_1_e _ _ _ _ _ _ _ _ _))) fun a16 f16 => ?_
 refine R.one 12 (by kernel_rfl) ?_
 refine O.storeSeg f16 rfl wantedN wsz44_e rfl rfl rfl (xs := [(.int .i64 0), (.bool false), (.bool false), (.int .i64 0), (.int .i64 0), (.string ⟨#[]⟩), (.slice none 0 0), (.int .i64 0), (.string ⟨#[]⟩), (.bool false), (.int .i64 0), (.bool false), (.string ⟨#[]⟩), (.slice none 0 0), (.int .i64 0), (.bool false), (.bool false), (.bool false), (.string ⟨#[]⟩), (.slice none 0 0), (.bool false), (.int .i64 0), (.slice none 0 0), (.slice none 0 0)]) (Bg1.z KN) (by simp) rfl (fun _ hk => hS1.trans hk (by simp)) fun a17 w5 f17 NB ks => ?_
 clear f15 a15
 have BR : Blk w5 g1 44 (pubCells tp Ac n cc qos ret id dup) := by
   rw [seg_all _ _ (by simp)] at NB
   exact NB
 have FR := FC.kept ks (fun b hb hx => by simp at hx; subst hx; have := FC.lo _ hb; omega)
 replace hS1 := hS1.trans ks (by simp)
 have szw5 := ks.size
 clear f16 a16 ks NB
 have szw5r := hS1.size
 replace HK := HK.trans hS1 (by intro x hx hlt; simp at hx; subst hx; (exfalso; omega))
 clear hS1
 refine R.done (by kernel_rfl) (hK1 _ _ ?_)
 have f18 := f17.pk [6]
 refine wp_ret ?_; (try simp only [xt, xb]); refine C.retC f18 rfl rfl BR U44 rfl wsz44_e ?_
 exact ⟨HK, Ac, cc, rfl, FR.lower (by omega)⟩
end Go.Proofs.YtdfllmiokgoekaaDoor
namespace Go.Proofs.YtdfllmiokgoekaaDoor
open Go.RowKit Go.Hub
theorem info67 : (Tryd.prog.info? 67).map (fun i => (i.zero, i.size, i.bytes)) = some (some (.agg #[.string ByteArray.empty, .slice none 0 0, .int .i64 0, .bool false, .int .i64 0, .int .i64 0, .bool false]), 7, 80) := by kernel_rfl
theorem zero67 (w : World) : (zeroValue 67).run Tryd.prog w = .ok (.agg #[.string ByteArray.empty, .slice none 0 0, .int .i64 0, .bool false, .int .i64 0, .int .i64 0, .bool false]) w := by kernel_rfl
theorem del_any (g off n c i : Nat) (xs : List Value) (w : World) (ho : Own w 67 7 (.slice (some ⟨g, off, none⟩) n c) n xs) (h1 : ∀ u ∈ xs, u.oneCell' = true) (hi : i < n) :
    Calls Tryd.prog 41 #[.slice (some ⟨g, off, none⟩) n c, .int .i64 i, .int .i64 (i + 1)] w fun e w' => e = .returned (.slice (some ⟨g, off, none⟩) (n - 1) c) ∧ Own w' 67 7 (.slice (some ⟨g, off, none⟩) (n - 1) c) (n - 1) (xs.take (i * 7) ++ xs.drop ((i + 1) * 7)) ∧ Kept [g] w w' := by
  obtain ⟨A, c', e, hc1, hc2⟩ := ho.form
  injection e with e1 e2 e3
  subst e1 e3
  obtain ⟨m, rfl⟩ : ∃ m, n = i + 1 + m := ⟨n - (i + 1), by omega⟩
  obtain ⟨i0, hi0, hz0, hz1, hz2⟩ := info_parts info67
  unfold maxLen at hc2
  have hne : ((i : Int) == (i : Int) + 1) = false := by simp; omega
  rw [show i + 1 + m - 1 = i + m from by omega]
  go_enter Tryd.func41, Tryd.ntmps41
  by_cases hc : c = i + 1
  · obtain rfl : m = 0 := by omega
    subst hc
    have hhead := ho.head (k := i) (by omega)
    have htail : Rds w w.heap.size 7 (some ⟨g, off, none⟩) 0 (xs.drop ((i + 1) * 7)) := by
      have := ho.1
      rw [List.drop_eq_nil_of_le (by omega)]
      exact Rds.nil _ _ _ _
    have hu : ∀ u ∈ xs.drop ((i + 1) * 7), u.oneCell' = true := fun u hu => h1 u (List.mem_of_mem_drop hu)
    have q1 : ((i : Int) + 1).toNat = i + 1 := by omega
    have q2 : IntKind.i64.wrap ((i : Int) + 1) = (i : Int) + 1 := by rw [IntKind.wrap_i64]; omega
    have q5 : (0 : Int) ≤ (i : Int) := by omega
    have q6 : (i : Int) ≤ (i : Int) + 1 := by omega
    have q8 : (0 : Int) ≤ (i : Int) + 1 := by omega
    have HO := hid (And.intro ho h1)
    clear ho h1
    go_wp2_with fail
    go_region_held3 (fun w' => True) (trivial)
      (first | (refine step_append_fit _ rfl (.tmp 22) (.tmp 25) _ rfl 67 i0 7 U54 hi0 hz1 g off i (i + 1) i _ rfl hhead.drew _ _ _ _ _ rfl htail.drew hu (by omega) (by omega) ?_; intro w1 ho1 hk1))
    have hcl : ∀ ty cc, (Builtin.clear_ #[54] ty #[.slice (some ⟨g, off + i * 7, none⟩) 1 cc]).run Tryd.prog w1 = .ok (.tuple #[]) (w1.setCells g (off + i * 7) [.string ByteArray.empty, .slice none 0 0, .int .i64 0, .bool false, .int .i64 0, .int .i64 0, .bool false]) := fun ty cc =>
      run_clear_one w1 54 67 ty (.agg #[.string ByteArray.empty, .slice none 0 0, .int .i64 0, .bool false, .int .i64 0, .int .i64 0, .bool false]) U54 zero67 (by simp [Value.cells, Value.oneCell']) g (off + i * 7) cc
        (fun j hj => by simp [Value.cells] at hj; rw [Nat.add_assoc]; exact (ho1.room (by omega)).1) (fun j hj => by simp [Value.cells] at hj; rw [Nat.add_assoc]; exact (ho1.room (by omega)).2)
    have hp := ho1.past (o := off + i * 7) (by omega) [.string ByteArray.empty, .slice none 0 0, .int .i64 0, .bool false, .int .i64 0, .int .i64 0, .bool false]
    have HP := hid (And.intro hp hk1)
    clear hp hk1 ho1 hhead htail hu
    go_wp2_with (simp only [hcl])
    go_ret
    exact ⟨rfl, HP.out.1.1, HP.out.2.of_drew.trans HP.out.1.2 (by simp)⟩
  have hhead := ho.head (k := i) (by omega)
  have htail := ho.rds.cut (k := i + 1) (cap := c) (by omega) (by omega)
  rw [if_neg hc] at htail
  simp only [Option.map_some, add_none, Nat.add_sub_cancel_left] at htail
  have hu : ∀ u ∈ xs.drop ((i + 1) * 7), u.oneCell' = true := fun u hu => h1 u (List.mem_of_mem_drop hu)
  have q1 : ((i : Int) + 1).toNat = i + 1 := by omega
  have q2 : IntKind.i64.wrap ((i : Int) + 1) = (i : Int) + 1 := by rw [IntKind.wrap_i64]; omega
  have q3 : (i : Int) ≤ (i : Int) + 1 + (m : Int) := by omega
  have q5 : (0 : Int) ≤ (i : Int) := by omega
  have q6 : (i : Int) ≤ (c : Int) := by omega
  have q7 : (i : Int) + 1 + (m : Int) ≤ (c : Int) := by omega
  have q8 : (0 : Int) ≤ (i : Int) + 1 := by omega
  have q4 : (i : Int) + 1 ≤ (i : Int) + 1 + (m : Int) := by omega
  have HO := hid (And.intro ho h1)
  clear ho h1
  go_wp2_with fail
  go_region_held3 (fun w' => True) (trivial)
    (first | (refine step_append_fit _ rfl (.tmp 22) (.tmp 25) _ rfl 67 i0 7 U54 hi0 hz1 g off i c (i + m) _ rfl hhead.drew _ _ _ _ _ rfl htail.drew hu (by omega) (by omega) ?_; intro w1 ho1 hk1))
  have hcl : ∀ ty cc, (Builtin.clear_ #[54] ty #[.slice (some ⟨g, off + (i + m) * 7, none⟩) 1 cc]).run Tryd.prog w1 = .ok (.tuple #[]) (w1.setCells g (off + (i + m) * 7) [.string ByteArray.empty, .slice none 0 0, .int .i64 0, .bool false, .int .i64 0, .int .i64 0, .bool false]) := fun ty cc =>
    run_clear_one w1 54 67 ty (.agg #[.string ByteArray.empty, .slice none 0 0, .int .i64 0, .bool false, .int .i64 0, .int .i64 0, .bool false]) U54 zero67 (by simp [Value.cells, Value.oneCell']) g (off + (i + m) * 7) cc
      (fun j hj => by simp [Value.cells] at hj; rw [Nat.add_assoc]; exact (ho1.room (by omega)).1) (fun j hj => by simp [Value.cells] at hj; rw [Nat.add_assoc]; exact (ho1.room (by omega)).2)
  have hp := ho1.past (o := off + (i + m) * 7) (by omega) [.string ByteArray.empty, .slice none 0 0, .int .i64 0, .bool false, .int .i64 0, .int .i64 0, .bool false]
  have r0 : i + 1 + m - (i + m) = 1 := by omega
  have r1 : (0 : Int) ≤ (i : Int) + (m : Int) := by omega
  have r2 : (i : Int) + (m : Int) ≤ (i : Int) + 1 + (m : Int) := by omega
  have r3 : ((i : Int) + (m : Int)).toNat = i + m := by omega
  have r4 : ((i : Int) + 1 + (m : Int)).toNat = i + 1 + m := by omega
  have HP := hid (And.intro hp hk1)
  clear hp hk1 ho1 hhead htail hu
  go_wp2_with (simp only [hcl])
  go_ret
  exact ⟨rfl, HP.out.1.1, HP.out.2.of_drew.trans HP.out.1.2 (by simp)⟩
end Go.Proofs.YtdfllmiokgoekaaDoor
namespace Go.Proofs.YtdfllmiokgoekaaDoor
open Go.RowKit Go.Hub
structure Ms where
  tp : ByteArray
  pay : List UInt8
  qos : Int
  ret : Bool
structure Fa where
  m : Ms
  id : Int
  at_ : Int
  rc : Bool
structure SA where
  used : List Int
  taken : Int
  fly : List Fa
  wait : List Ms
  lost : Int
  got : List Int
structure Pa where
  kind : Int
  dup : Bool
  ret : Bool
  qos : Int
  id : Int
  tp : ByteArray
  pay : List UInt8
def newS : SA := ⟨[], 0, [], [], 0, []⟩
def pubP (m : Ms) (id : Int) (dup : Bool) : Pa := ⟨3, dup, m.ret, m.qos, id, m.tp, m.pay⟩
def ackP (k id : Int) : Pa := ⟨k, false, false, 0, id, ⟨#[]⟩, []⟩
def riseS (s : SA) (m : Ms) (now : Int) : SA := { s with used := insS (Go.Ids.nxt s.used s.taken) s.used, taken := Go.Ids.nxt s.used s.taken, fly := s.fly ++ [⟨m, Go.Ids.nxt s.used s.taken, nearI now, false⟩] }
def riseP (s : SA) (m : Ms) : Pa := pubP m (Go.Ids.nxt s.used s.taken) false
def drainN : Nat → SA → Int → SA × List Pa
  | 0, s, _ => (s, [])
  | k + 1, s, now => if s.fly.length < 4 then match s.wait with
      | [] => (s, [])
      | m :: r => let t := { s with wait := r }; let q := drainN k (riseS t m now) now; (q.1, riseP t m :: q.2)
    else (s, [])
def drainS (s : SA) (now : Int) : SA × List Pa := drainN 5 s now
def pushS (s : SA) (m : Ms) : SA := if s.wait.length < 8 then { s with wait := s.wait ++ [m] } else { s with lost := s.lost + 1 }
def sendS (s : SA) (m : Ms) (on : Bool) (now : Int) : SA × List Pa :=
  if m.qos = 0 ∧ on = true then (s, [pubP m 0 false])
  else if m.qos < 1 ∨ 2 < m.qos then (s, [])
  else if on = true ∧ s.fly.length < 4 ∧ s.wait.length = 0 then (riseS s m now, [riseP s m])
  else (pushS s m, [])
def idxI : List Int → Int → Int → Int
  | [], _, _ => -1
  | x :: r, id, k => if x = id then k else idxI r id (k + 1)
def doneS (s : SA) (i : Nat) (id now : Int) : SA × List Pa := drainS { s with used := s.used.erase id, fly := s.fly.eraseIdx i } now
def ackS (s : SA) (kind id now : Int) : SA × List Pa :=
  let i := idxI (s.fly.map (·.id)) id 0
  match s.fly[i.toNat]? with
  | none => (s, [])
  | some f =>
    if i < 0 then (s, [])
    else if (kind = 4 ∧ f.m.qos = 1) ∨ (kind = 7 ∧ f.rc = true) then doneS s i.toNat f.id now
    else if kind = 5 ∧ f.m.qos = 2 then ({ s with fly := s.fly.set i.toNat { f with rc := true, at_ := nearI now } }, [ackP 6 f.id])
    else (s, [])
def gotS (s : SA) (kind qos id : Int) : SA × Bool × List Pa :=
  if kind = 6 then ({ s with got := s.got.erase id }, false, [ackP 7 id])
  else if kind ≠ 3 ∨ qos < 0 ∨ 2 < qos then (s, false, [])
  else if qos = 0 then (s, true, [])
  else if qos = 1 then (s, true, [ackP 4 id])
  else ({ s with got := insS id s.got }, !decide (id ∈ s.got), [ackP 5 id])
structure Mc where
  m : Ms
  A : Option Addr
  c : Nat
abbrev mcell (x : Mc) : List Value := [.string x.m.tp, .slice x.A x.m.pay.length x.c, .int .i64 x.m.qos, .bool x.m.ret]
structure Fc where
  x : Mc
  id : Int
  at_ : Int
  rc : Bool
abbrev fcell (f : Fc) : List Value := [.string f.x.m.tp, .slice f.x.A f.x.m.pay.length f.x.c, .int .i64 f.x.m.qos, .bool f.x.m.ret, .int .i64 f.id, .int .i64 f.at_, .bool f.rc]
def Fc.abs (f : Fc) : Fa := ⟨f.x.m, f.id, f.at_, f.rc⟩
structure Pc where
  p : Pa
  A : Option Addr
  c : Nat
def pcell (x : Pc) : List Value := [.int .i64 x.p.kind, .bool x.p.dup, .bool x.p.ret, .int .i64 x.p.qos, .int .i64 x.p.id, .string x.p.tp, .slice x.A x.p.pay.length x.c, .int .i64 0, .string ⟨#[]⟩, .bool false, .int .i64 0, .bool false, .string ⟨#[]⟩, .slice none 0 0, .int .i64 0, .bool false, .bool false, .bool false, .string ⟨#[]⟩, .slice none 0 0, .bool false, .int .i64 0, .slice none 0 0, .slice none 0 0]
def Pay (B : Nat) (w : World) (A : Option Addr) (l : List UInt8) : Prop := Bs [5] B w A l.length l ∧ l.length ≤ 1000000000
structure QuAt (B : Nat) (w : World) (q : Nat) (A : Option Addr) (c : Nat) (l : List Mc) (lost : Int) : Prop where
  top : Blk w q 76 #[.slice A l.length c, .int .i64 8, .int .i64 lost]
  own : Own w 38 4 (.slice A l.length c) l.length (l.flatMap mcell)
  pay : ∀ m ∈ l, Pay B w m.A m.m.pay
  lo : B ≤ q
  loA : ∀ a, A = some a → B ≤ a.block
  len : l.length ≤ 8
structure FlyAt (B : Nat) (w : World) (A : Option Addr) (c : Nat) (l : List Fc) : Prop where
  own : Own w 67 7 (.slice A l.length c) l.length (l.flatMap fcell)
  pay : ∀ f ∈ l, Pay B w f.x.A f.x.m.pay
  loA : ∀ a, A = some a → B ≤ a.block
  len : l.length ≤ 4
structure PkAt (B : Nat) (w0 w : World) (A : Option Addr) (c : Nat) (l : List Pc) : Prop where
  fr : Fresh w0 w 44 24 A l.length c (l.flatMap pcell)
  pay : ∀ x ∈ l, Pay B w x.A x.p.pay
structure Ses where
  cl : ByteArray
  sv : Value
  ip : Nat
  im : Nat
  q : Nat
  gm : Nat
  used : List Int
  taken : Int
  fly : List Fc
  FA : Option Addr
  fc : Nat
  wait : List Mc
  QA : Option Addr
  qc : Nat
  lost : Int
  got : List Int
def Ses.abs (s : Ses) : SA := ⟨s.used, s.taken, s.fly.map Fc.abs, s.wait.map (·.m), s.lost, s.got⟩
structure Ses.Like (s s' : Ses) : Prop where
  im : s'.im = s.im
  gm : s'.gm = s.gm
  cl : s'.cl = s.cl
abbrev Ses.cells (s : Ses) : Array Value := #[.string s.cl, s.sv, .pointer (some ⟨s.ip, 0, none⟩), .slice s.FA s.fly.length s.fc, .pointer (some ⟨s.q, 0, none⟩), .map (some s.gm)]
structure SesAt (B : Nat) (w : World) (p : Nat) (s : Ses) : Prop where
  top : Blk w p 56 s.cells
  one : s.sv.oneCell' = true
  ids : IdsAt w s.ip s.im s.used 65535 s.taken
  qu : QuAt B w s.q s.QA s.qc s.wait s.lost
  fly : FlyAt B w s.FA s.fc s.fly
  got : IsSet Tryd.prog 3 4 w s.gm s.got
  ne : s.im ≠ s.gm
  lop : B ≤ p
  loi : B ≤ s.ip
  lom : B ≤ s.im
  log : B ≤ s.gm
  tk : 0 ≤ s.taken ∧ s.taken ≤ 65535
  perm : s.used.Perm (s.fly.map (·.id))
  ats : ∀ f ∈ s.fly, -1099511627776 ≤ f.at_ ∧ f.at_ ≤ 1099511627776
  idb : ∀ f ∈ s.fly, 1 ≤ f.id ∧ f.id ≤ 65535
section
variable {T : List TypeId} {M : List Nat} {B : Nat} {w w' w0 : World} {A : Option Addr} {c p q : Nat}
theorem Pay.mod {l : List UInt8} (h : Pay B w A l) (hm : Mod T M B w w') (hT : (5 : TypeId) ∉ T) : Pay B w' A l := ⟨h.1.mod hm (by simpa using hT), h.2⟩
theorem Pay.nil (B : Nat) (w : World) (A : Option Addr) : Pay B w A [] := ⟨Bs.nil _ _ _ _, by simp⟩
theorem Pay.of_fresh {n : Nat} {l : List UInt8} (h : Fresh w0 w 5 1 A n c (l.map u8)) (hl : l.length ≤ 1000000000) : Pay B w A l := by
  have hn : n = l.length := by have := h.own.1; simpa using this.symm
  subst hn
  exact ⟨Bs.of_own h.own (by simp), hl⟩
theorem Pay.sl {l : List UInt8} (h : Pay B w A l) : Sl w A l.length 1 (l.map u8) := h.1.sl
theorem Pay.kept0 {l : List UInt8} (h : Pay B w A l) (hk : Kept [] w w') : Pay B w' A l := h.mod (T := []) (M := []) (.of_kept0 hk) (by simp)
theorem QuAt.mod {l : List Mc} {lost : Int} (h : QuAt B w q A c l lost) (hm : Mod T M B w w') (hT : (76 : TypeId) ∉ T ∧ (38 : TypeId) ∉ T ∧ (5 : TypeId) ∉ T) : QuAt B w' q A c l lost :=
  ⟨h.top.mod hm hT.1, h.own.mod hm hT.2.1, fun m hx => (h.pay m hx).mod hm hT.2.2, h.lo, h.loA, h.len⟩
theorem FlyAt.mod {l : List Fc} (h : FlyAt B w A c l) (hm : Mod T M B w w') (hT : (67 : TypeId) ∉ T ∧ (5 : TypeId) ∉ T) : FlyAt B w' A c l :=
  ⟨h.own.mod hm hT.1, fun m hx => (h.pay m hx).mod hm hT.2, h.loA, h.len⟩
theorem PkAt.mod {l : List Pc} (h : PkAt B w0 w A c l) (hm : Mod T M B w w') (hT : (44 : TypeId) ∉ T ∧ (5 : TypeId) ∉ T) : PkAt B w0 w' A c l := ⟨h.fr.mod hm hT.1, fun x hx => (h.pay x hx).mod hm hT.2⟩
theorem PkAt.nil (B : Nat) (w0 w : World) : PkAt B w0 w none 0 [] := ⟨Fresh.nil _ _ _ _, by simp⟩
theorem PkAt.lower {l : List Pc} {w1 : World} (h : PkAt B w0 w A c l) (hs : w1.heap.size ≤ w0.heap.size) : PkAt B w1 w A c l := ⟨h.fr.lower hs, h.pay⟩
theorem IdsAt.mod {ip im : Nat} {S : List Int} {most taken : Int} (h : IdsAt w ip im S most taken) (hm : Mod T M B w w') (hT : (73 : TypeId) ∉ T) (hM : im ∉ M) : IdsAt w' ip im S most taken := ⟨h.top.mod hm hT, h.set.mod hm hM, h.ne⟩
theorem SesAt.mod {s : Ses} (h : SesAt B w p s) (hm : Mod T [] B w w') (hT : ∀ t ∈ ([56, 73, 76, 38, 67, 5] : List TypeId), t ∉ T) : SesAt B w' p s :=
  ⟨h.top.mod hm (hT _ (by simp)), h.one, h.ids.mod hm (hT _ (by simp)) (by simp), h.qu.mod hm ⟨hT _ (by simp), hT _ (by simp), hT _ (by simp)⟩, h.fly.mod hm ⟨hT _ (by simp), hT _ (by simp)⟩, h.got.mod hm (by simp), h.ne, h.lop, h.loi, h.lom, h.log, h.tk, h.perm, h.ats, h.idb⟩
end
theorem fcell_len (l : List Fc) : (l.flatMap fcell).length = l.length * 7 := flat_len fcell 7 (fun _ => rfl) l
end Go.Proofs.YtdfllmiokgoekaaDoor
namespace Go.Proofs.YtdfllmiokgoekaaDoor
open Go.RowKit Go.Hub
theorem wzib38_g : (Tryd.prog.info? 38).map (fun i => (i.zero, i.size, i.bytes)) = some (some (.agg #[(.string ⟨#[]⟩), (.slice none 0 0), (.int .i64 0), (.bool false)]), 4, 56) := by kernel_rfl
theorem wzi38_g : (Tryd.prog.info? 38).map (fun i => (i.zero, i.size)) = some (some (.agg #[(.string ⟨#[]⟩), (.slice none 0 0), (.int .i64 0), (.bool false)]), 4) := by kernel_rfl
theorem wbs74_1_g (x0_0 x0_1 x0_2 x0_3 : Value) : Instr.fill (fun i => some (i * 4, 4)) ((Array.range (1 * 4)).map fun j => (Value.cells (.agg #[(.string ⟨#[]⟩), (.slice none 0 0), (.int .i64 0), (.bool false)]))[j % (Value.cells (.agg #[(.string ⟨#[]⟩), (.slice none 0 0), (.int .i64 0), (.bool false)])).size]!) [(0, .agg #[x0_0, x0_1, x0_2, x0_3])] = some #[x0_0, x0_1, x0_2, x0_3] := by kernel_rfl
theorem wsz3_g : (Tryd.prog.info? 3).map (·.size) = some 1 := by kernel_rfl
theorem wsz38_g : (Tryd.prog.info? 38).map (·.size) = some 4 := by kernel_rfl
theorem wsz74_g : (Tryd.prog.info? 74).map (·.size) = some 1 := by kernel_rfl
theorem wbl38__g  : Tryd.prog.built 38 [] = some #[(.string ⟨#[]⟩), (.slice none 0 0), (.int .i64 0), (.bool false)] := by kernel_rfl
theorem sl_blk {w : World} {g T size : Nat} {cs : Array Value} (B : Blk w g T cs) (h : cs.size = size) : Sl w (some ⟨g, 0, none⟩) 1 size cs.toList :=
  ⟨by simpa using h, fun _ => ⟨g, 0, rfl, B.lt, fun j u hu => by rw [Nat.zero_add]; exact B.cell_ (by simpa using hu)⟩⟩
def PushPost (B q : Nat) (l : List Mc) (lost : Int) (m : Ms) (L : List Nat) (w : World) (e : Ending) (w' : World) : Prop :=
  Mod [76, 38] [] B w w' ∧ Kept L w w' ∧ e = .returned (.bool (decide (l.length < 8))) ∧ ∃ A' c' l', QuAt B w' q A' c' l' (if l.length < 8 then lost else lost + 1) ∧ l'.map (·.m) = if l.length < 8 then l.map (·.m) ++ [m] else l.map (·.m)
def PopPost (B q : Nat) (l : List Mc) (lost : Int) (w : World) (e : Ending) (w' : World) : Prop :=
  Mod [76] [] B w w' ∧ ∃ (x : Mc) (A' : Option Addr) (c' : Nat) (r : List Mc), e = .returned (.tuple #[.agg (mcell x).toArray, .bool (!l.isEmpty)]) ∧ QuAt B w' q A' c' r lost ∧ Pay B w' x.A x.m.pay ∧ (l = x :: r ∨ l = [] ∧ r = [])
section
variable {B q : Nat} {A Ac A2 : Option Addr} {c cc c2 : Nat} {l : List Mc} {lost : Int} {m : Ms} {w W : World}
theorem push_full (h : (8 : Int) ≤ (l.length : Nat)) (hq : QuAt B w q A c l lost) (HK : Mod [76, 38] [] B w W) {L : List Nat} (KK : Kept L w W) (h' : QuAt B W q A c l (lost + 1)) : PushPost B q l lost m L w (.returned (.bool false)) W := by
  have hn : ¬ l.length < 8 := by omega
  refine ⟨HK, KK, by rw [decide_eq_false hn], A, c, l, ?_, ?_⟩
  · rw [if_neg hn]; exact h'
  rw [if_neg hn]
theorem push_room (h : ¬ (8 : Int) ≤ (l.length : Nat)) (hq : QuAt B w q A c l lost) (HK : Mod [76, 38] [] B w W) {L : List Nat} (KK : Kept L w W) (BP : Blk W q 76 #[.slice A2 (l.length + 1) c2, .int .i64 8, .int .i64 lost])
    (RX : Own W 38 4 (.slice A2 (l.length + 1) c2) (l.length + 1) (l.flatMap mcell ++ [.string m.tp, .slice Ac m.pay.length cc, .int .i64 m.qos, .bool m.ret])) (PY : ∀ m ∈ l, Pay B W m.A m.m.pay) (HC : Pay B W Ac m.pay) (LX : ∀ a, A2 = some a → B ≤ a.block) : PushPost B q l lost m L w (.returned (.bool true)) W := by
  have hn : l.length < 8 := by omega
  refine ⟨HK, KK, by rw [decide_eq_true hn], A2, c2, l ++ [⟨m, Ac, cc⟩], ?_, ?_⟩
  · rw [if_pos hn]
    refine ⟨by simpa using BP, ?_, ?_, hq.lo, LX, by simp; omega⟩
    · rw [List.length_append, List.flatMap_append]
      exact RX
    intro x hx
    rcases List.mem_append.1 hx with hx | hx
    · exact PY x hx
    obtain rfl := List.mem_singleton.1 hx
    exact HC
  rw [if_pos hn, List.map_append]
  rfl
theorem pop_none (h : ((l.length : Nat) : Int) = 0) (hq : QuAt B w q A c l lost) (HK : Mod [76] [] B w W) (h' : QuAt B W q A c l lost) : PopPost B q l lost w (.returned (.tuple #[.agg #[.string ⟨#[]⟩, .slice none 0 0, .int .i64 0, .bool false], .bool false])) W := by
  obtain rfl : l = [] := List.eq_nil_of_length_eq_zero (by omega)
  exact ⟨HK, ⟨⟨⟨#[]⟩, [], 0, false⟩, none, 0⟩, A, c, [], rfl, h', Pay.nil _ _ _, .inr ⟨rfl, rfl⟩⟩
theorem pop_one {x : Mc} {r : List Mc} (hq : QuAt B w q A c (x :: r) lost) (HK : Mod [76] [] B w W) (BP : Blk W q 76 #[.slice (if c = (1 : Int).toNat then A else A.map (·.add ((1 : Int).toNat * 4))) ((x :: r).length - (1 : Int).toNat) (c - (1 : Int).toNat), .int .i64 8, .int .i64 lost])
    (OWN : Own W 38 4 (.slice A (x :: r).length c) (x :: r).length ((x :: r).flatMap mcell)) (PY : ∀ m ∈ x :: r, Pay B W m.A m.m.pay) : PopPost B q (x :: r) lost w (.returned (.tuple #[.agg (mcell x).toArray, .bool true])) W := by
  have hl := hq.len
  refine ⟨HK, x, _, _, r, rfl, ⟨BP, ?_, fun m hm => PY m (List.mem_cons_of_mem _ hm), hq.lo, ?_, by simp at hl; omega⟩, PY x (by simp), .inl rfl⟩
  · have := OWN.cut (k := 1) (by simp)
    simpa using this
  intro a ha
  split at ha
  · exact hq.loA a ha
  cases A with
  | none => simp at ha
  | some a' => simp at ha; subst ha; exact hq.loA a' rfl
end
theorem push_any (B q : Nat) (A : Option Addr) (c : Nat) (l : List Mc) (lost : Int) (m : Ms) (Am : Option Addr) (cm : Nat) (w : World) (hq : QuAt B w q A c l lost) (HP : Pay B w Am m.pay) (hB : B ≤ w.heap.size) (hl : 0 ≤ lost ∧ lost ≤ 1000000000) : Calls Tryd.prog 24 #[.pointer (some ⟨q, 0, none⟩), .agg #[.string m.tp, .slice Am m.pay.length cm, .int .i64 m.qos, .bool m.ret]] w (PushPost B q l lost m (q :: (Value.slice A l.length c).ownBlock.toList) w) := by
 have HK : Mod [76, 38] [] B w w := .refl _ _ _ _
 have BP := hq.top
 have OWN := hq.own
 have PY := hq.pay
 have hloq := hq.lo
 have hlen := hq.len
 obtain ⟨MM, hMM⟩ : ∃ MM, MM = (Value.slice A l.length c).ownBlock.toList := ⟨_, rfl⟩
 have hqM : q ∉ MM := by rw [hMM]; exact own_ne hq.own hq.top (by decide)
 have KK : Kept (q :: MM) w w := Kept.refl _ _
 refine C.enter Tryd.func24 rfl Tryd.ntmps24 rfl ?_
 intro a0 f0
 have f1 : Fr 33 a0 [(0, .pointer (some ⟨q, 0, none⟩)), (1, .agg #[.string m.tp, .slice Am m.pay.length cm, .int .i64 m.qos, .bool m.ret])] := f0
 refine C.sk fun K0 hK0 => ?_
 refine L.box f1 wantedN (by decide) rfl rfl fun a2 w1 g0 N0 f2 => ?_
 have Bg0 := N0.blk
 have kg0 := N0.kept
 have log0 := N0.lo
 have ltg0 := Bg0.lt
 have szw1 := kg0.size
 have frg0 : w.heap.size ≤ g0 := Nat.le_trans HK.size log0
 have neq_g0 : q ≠ g0 := by have := BP.lt; omega
 replace HK := HK.trans (.of_kept0 kg0)
 replace KK := KK.trans kg0 (by simp)
 replace BP := BP.z kg0
 replace OWN := OWN.mod (Mod.of_kept0 (T := []) (M := []) (B := B) kg0) (by decide)
 replace PY := fun m hm => (PY m hm).mod (Mod.of_kept0 (T := []) (M := []) (B := B) kg0) (by decide)
 replace HP := HP.mod (Mod.of_kept0 (T := []) (M := []) (B := B) kg0) (by decide)
 clear f0 N0 kg0
 refine L.ag f2 fun a3 f3 => ?_
 refine wn hK0 ?_
 have f4 := f3.pk [0, 3, 4]
 refine wp_seq_k fun K1 hK1 => ?_
 refine wp_seq_k fun K2 hK2 => ?_
 refine R.begin (S := fun W => Kept [] w1 W) (by kernel_rfl) (by exact (Kept.refl _ _).drewN 1) ?_
 have hS1 : Kept [] w1 (w1.drewN 1) := (Kept.refl _ _).drewN 1
 have hd1 : Kept [] w1 (w1.drewN 1) := (Kept.refl _ _).drewN 1
 obtain ⟨w2, hww2⟩ : ∃ W, W = w1.drewN 1 := ⟨_, rfl⟩
 rw [← hww2] at hS1 hd1 ⊢
 clear f1 a0 f2 a2 f3 hww2
 have szw2 := hS1.size
 refine R.mv 0 f4 rfl hS1 fun a5 f5 => ?_
 refine R.t 1 f5 rfl hS1 (fun W hW => (E.nilCheck f5 rfl)) fun a6 f6 => ?_
 refine R.t 2 f6 rfl hS1 (fun W hW => (E.fa 0 f6 U76 rfl wsz74_g)) fun a7 f7 => ?_
 refine R.t 3 f7 rfl hS1 (fun W hW => (E.load f7 U74 rfl rfl ((BP.z hW).cl rfl))) fun a8 f8 => ?_
 refine R.t 4 f8 rfl hS1 (fun W hW => (E.lenL f8 U74 rfl)) fun a9 f9 => ?_
 refine R.mv 5 f9 rfl hS1 fun a10 f10 => ?_
 refine R.t 6 f10 rfl hS1 (fun W hW => (E.nilCheck f10 rfl)) fun a11 f11 => ?_
 clear f4 a3 f5 a5 f6 a6 f7 a7 f8 a8 f9 a9 f10 a10
 refine R.t 7 f11 rfl hS1 (fun W hW => (E.fa 1 f11 U76 rfl wsz3_g)) fun a12 f12 => ?_
 refine R.t 8 f12 rfl hS1 (fun W hW => (E.load f12 U3 rfl rfl ((BP.z hW).cl rfl))) fun a13 f13 => ?_
 refine R.t 9 f13 rfl hS1 (fun W hW => (E.geq f13 rfl rfl)) fun a14 f14 => ?_
 have szw2r := hS1.size
 replace HK := HK.trans (.of_kept0 hS1)
 replace KK := KK.trans hS1 (by simp)
 replace BP := BP.z hS1
 replace OWN := OWN.mod (Mod.of_kept0 (T := []) (M := []) (B := B) hS1) (by decide)
 replace PY := fun m hm => (PY m hm).mod (Mod.of_kept0 (T := []) (M := []) (B := B) hS1) (by decide)
 replace HP := HP.mod (Mod.of_kept0 (T := []) (M := []) (B := B) hS1) (by decide)
 replace Bg0 := Bg0.z hS1
 clear f11 a11 f12 a12 f13 a13 hS1
 refine R.done (by kernel_rfl) (hK2 _ _ ?_)
 have f15 := f14.pk [0, 3, 4, 14]
 clear f14
 refine f15.splitD 14 rfl (fun h0 f16 => ?_) (fun h0 f16 => ?_)
 ·have hfull := h0
  refine C.condT f16 rfl ?_
  refine C.sk fun K3 hK3 => ?_
  refine L.mv f16 fun a17 f17 => ?_
  refine L.va f17 (E.nilCheck f17 rfl) fun a18 f18 => ?_
  refine L.fa 2 f18 U76 rfl wsz3_g fun a19 f19 => ?_
  refine L.va f19 (E.load f19 U3 rfl rfl ((BP).cl rfl)) fun a20 f20 => ?_
  refine L.va f20 (E.add f20 rfl rfl (IntWalk.i64_in _ (by omega))) fun a21 f21 => ?_
  refine L.va f21 (E.nilCheck f21 rfl) fun a22 f22 => ?_
  refine L.fa 2 f22 U76 rfl wsz3_g fun a23 f23 => ?_
  clear f15 f16 a14 f17 a17 f18 a18 f19 a19 f20 a20 f21 a21 f22 a22
  refine L.store f23 wantedN wsz3_g rfl rfl rfl BP (by (simp [Value.cells]; done)) fun a24 w3 f24 NB3 ks3 => ?_
  have szw3 := ks3.size
  have KM := (Mod.of_blk (T := [76]) (M := []) (B := B) ks3 BP hq.lo (by simp))
  replace HK := HK.step KM (by decide) (by simp) (by omega)
  replace KK := KK.trans ks3 (by simp)
  replace OWN := OWN.mod KM (by decide)
  replace PY := fun m hm => (PY m hm).mod KM (by decide)
  replace HP := HP.mod KM (by decide)
  replace Bg0 := Bg0.kept ks3 (by simp; omega)
  replace BP := NB3
  simp only [Value.cells, List.setIfInBounds_toArray, List.set_cons_zero, List.set_cons_succ, Nat.reduceAdd, Nat.zero_add] at BP
  clear ks3 f23 a23
  have f25 := f24.pk [0, 3, 4]
  refine wn hK3 (C.sk fun K4 hK4 => ?_)
  refine L.ag f25 fun a26 f26 => ?_
  have f27 := f26.pk [0, 3, 4]
  refine wn hK4 (wp_ret ?_); (try simp only [xt, xb]); refine C.ret f27 rfl rfl ?_
  exact push_full hfull hq HK (hMM ▸ KK) ⟨BP, OWN, PY, hq.lo, hq.loA, hq.len⟩
 have hroom := h0
 refine C.condF f16 rfl ?_
 refine wp_skip (hK1 _ _ ?_)
 have f17 := f16.pk [0, 3, 4]
 refine wp_seq_k fun K5 hK5 => ?_
 have hg0M : g0 ∉ MM := by rw [hMM]; exact own_old hq.own frg0
 have OWN1 := OWN
 refine RB.begin (S := fun W => Kept MM w2 W) 9 (by kernel_rfl) (by exact (Kept.refl _ _).drewN 1) ?_
 have hS4 : Kept MM w2 (w2.drewN 1) := (Kept.refl _ _).drewN 1
 have hd4 : Kept [] w2 (w2.drewN 1) := (Kept.refl _ _).drewN 1
 obtain ⟨w3, hww3⟩ : ∃ W, W = w2.drewN 1 := ⟨_, rfl⟩
 rw [← hww3] at hS4 hd4 ⊢
 clear f15 f16 hww3
 have szw3 := hS4.size
 replace HP := HP.kept0 hd4
 replace OWN := OWN.mod (T := []) (M := []) (Mod.of_kept0 (B := B) hd4) (by simp)
 refine RB.tk 0 f17 rfl hS4 (fun W hW => (E.move f17 rfl)) fun a18 f18 => ?_
 refine RB.tk 1 f18 rfl hS4 (fun W hW => (E.move f18 rfl)) fun a19 f19 => ?_
 refine RB.tk 2 f19 rfl hS4 (fun W hW => (E.nilCheck f19 rfl)) fun a20 f20 => ?_
 refine RB.tk 3 f20 rfl hS4 (fun W hW => (E.fa 0 f20 U76 rfl wsz74_g)) fun a21 f21 => ?_
 refine RB.tk 4 f21 rfl hS4 (fun W hW => (E.load f21 U74 rfl rfl ((BP.kept hW (by assumption)).cl rfl))) fun a22 f22 => ?_
 refine RB.tk 5 f22 rfl hS4 (fun W hW => (E.loadB f22 U38 rfl wsz38_g rfl (Bg0.kept hW (by assumption)) rfl)) fun a23 f23 => ?_
 refine RB.call 6 f23 rfl rfl (by decide) (by kernel_rfl) (by kernel_rfl) wantedN (run_call Tryd.call39 (args1 f23 rfl)) (copied_any m.tp Am m.pay.length cm _ m.qos m.ret _ HP.sl u8_one HP.2) ?_
 clear f17 a14 f18 a18 f19 a19 f20 a20 f21 a21 f22 a22
 rintro e w4 ⟨kc4, Ac, cc, rfl, FC⟩
 have HC : Pay B w4 Ac m.pay := Pay.of_fresh FC HP.2
 replace hS4 := hS4.trans kc4 (by simp)
 refine ⟨_, rfl, hS4, fun a24 f24 => ?_⟩
 have szw4 := kc4.size
 replace HP := HP.kept0 kc4
 replace OWN := OWN.mod (T := []) (M := []) (Mod.of_kept0 (B := B) kc4) (by simp)
 clear f23 a23 kc4
 refine RB.one 7 (by kernel_rfl) (by kernel_rfl) ?_
 refine O.buildSlice f24 rfl wantedN (by decide) (parts1 f24 rfl) U74 wzi38_g rfl rfl (wbs74_1_g _ _ _ _) (fun _ hk => hS4.trans hk (by simp)) fun a25 w5 g4 N4 hSn f25 => ?_
 have Bg4 := N4.blk
 have kg4 := N4.kept
 have log4 := N4.lo
 have ltg4 := Bg4.lt
 have szw5 := kg4.size
 have szSw5 := hS4.size
 replace HP := HP.kept0 kg4
 replace OWN := OWN.mod (T := []) (M := []) (Mod.of_kept0 (B := B) kg4) (by simp)
 replace HC := HC.kept0 kg4
 clear f24 a24 N4 kg4
 replace hS4 := hSn
 clear hSn
 refine RB.one 8 (by kernel_rfl) (by kernel_rfl) ?_
 refine O.append f25 rfl wantedN (by decide) U74 wzib38_g rfl rfl rfl rfl (OWN) (sl_blk Bg4 rfl) (by simp [Value.oneCell']) (by unfold maxLen; omega) (by omega) fun a26 w6 A2 c2 AP6 => ?_
 have kap6 : Kept MM w5 w6 := by rw [hMM]; exact AP6.kept
 have KA : Mod [38] [] B w5 w6 := .of_app AP6 OWN hq.loA (by simp)
 have RX := AP6.own
 have LX := AP6.from hq.loA (B := B) (by omega)
 have hSn := hS4.trans kap6 (by exact fun x hx _ => hx)
 refine ⟨hSn, fun f26 => ?_⟩
 have szw6 := kap6.size
 replace HP := HP.mod KA (by decide)
 replace HC := HC.mod KA (by decide)
 clear f25 kap6
 replace hS4 := hSn
 clear hSn
 refine RB.stop (by kernel_rfl) ?_
 have szw6r := hS4.size
 have KM := Mod.of_own (T := [38]) (M := []) (B := B) (hMM ▸ hS4) OWN1 hq.loA (by simp)
 replace HK := HK.step KM (by decide) (by simp) (by omega)
 replace KK := KK.trans hS4 (fun x hx _ => List.mem_cons_of_mem _ hx)
 replace BP := BP.kept hS4 (by assumption)
 replace PY := fun m hm => (PY m hm).mod KM (by decide)
 replace Bg0 := Bg0.kept hS4 (by assumption)
 clear hS4
 refine R.t 9 f26 rfl trivial (fun W hW => (E.nilCheck f26 rfl)) fun a27 f27 => ?_
 refine R.t 10 f27 rfl trivial (fun W hW => (E.fa 0 f27 U76 rfl wsz74_g)) fun a28 f28 => ?_
 refine R.one 11 (by kernel_rfl) ?_
 refine OT.store f28 rfl wantedN wsz74_g rfl rfl rfl BP (by (simp [Value.cells]; done)) fun a29 w7 f29 NB7 ks7 => ?_
 have szw7 := ks7.size
 have KM := (Mod.of_blk (T := [76]) (M := []) (B := B) ks7 BP hq.lo (by simp))
 replace HK := HK.step KM (by decide) (by simp) (by omega)
 replace KK := KK.trans ks7 (by simp)
 replace PY := fun m hm => (PY m hm).mod KM (by decide)
 replace Bg0 := Bg0.kept ks7 (by simp; omega)
 replace HP := HP.mod KM (by decide)
 replace HC := HC.mod KM (by decide)
 replace RX := RX.mod KM (by decide)
 replace BP := NB7
 simp only [Value.cells, List.setIfInBounds_toArray, List.set_cons_zero, List.set_cons_succ, Nat.reduceAdd, Nat.zero_add] at BP
 clear f26 a26 f27 a27 ks7 f28 a28
 refine R.done (by kernel_rfl) (hK5 _ _ ?_)
 have f30 := f29.pk [4]
 refine C.sk fun K6 hK6 => ?_
 refine L.ag f30 fun a31 f31 => ?_
 have f32 := f31.pk [4]
 refine wn hK6 (wp_ret ?_); (try simp only [xt, xb]); refine C.ret f32 rfl rfl ?_
 exact push_room (Ac := Ac) (cc := cc) hroom hq HK (hMM ▸ KK) BP RX PY HC LX
theorem pop_any (B q : Nat) (A : Option Addr) (c : Nat) (l : List Mc) (lost : Int) (w : World) (hq : QuAt B w q A c l lost) (hB : B ≤ w.heap.size) : Calls Tryd.prog 56 #[.pointer (some ⟨q, 0, none⟩)] w (PopPost B q l lost w) := by
 have HK : Mod [76] [] B w w := .refl _ _ _ _
 have BP := hq.top
 have OWN := hq.own
 have PY := hq.pay
 have hloq := hq.lo
 have hlen := hq.len
 refine C.enter Tryd.func56 rfl Tryd.ntmps56 rfl ?_
 intro a0 f0
 have f1 : Fr 27 a0 [(0, .pointer (some ⟨q, 0, none⟩))] := f0
 refine C.sk fun K0 hK0 => ?_
 refine L.alloc f1 wantedN (by decide) (z := (.agg #[(.string ⟨#[]⟩), (.slice none 0 0), (.int .i64 0), (.bool false)])) (fun _ => by kernel_rfl) rfl fun a2 w1 g0 N0 f2 => ?_
 have Bg0 := N0.blk
 have kg0 := N0.kept
 have log0 := N0.lo
 have ltg0 := Bg0.lt
 have szw1 := kg0.size
 have frg0 : w.heap.size ≤ g0 := Nat.le_trans HK.size log0
 have neq_g0 : q ≠ g0 := by have := BP.lt; omega
 replace HK := HK.trans (.of_kept0 kg0)
 replace BP := BP.z kg0
 replace OWN := OWN.mod (Mod.of_kept0 (T := []) (M := []) (B := B) kg0) (by decide)
 replace PY := fun m hm => (PY m hm).mod (Mod.of_kept0 (T := []) (M := []) (B := B) kg0) (by decide)
 clear f0 N0 kg0
 refine L.ag f2 fun a3 f3 => ?_
 refine wn hK0 ?_
 have f4 := f3.pk [0, 2, 3]
 refine wp_seq_k fun K1 hK1 => C.sk fun K2 hK2 => ?_
 refine L.mv f4 fun a5 f5 => ?_
 refine L.va f5 (E.nilCheck f5 rfl) fun a6 f6 => ?_
 refine L.fa 0 f6 U76 rfl wsz74_g fun a7 f7 => ?_
 refine L.va f7 (E.load f7 U74 rfl rfl ((BP).cl rfl)) fun a8 f8 => ?_
 refine L.va f8 (E.lenL f8 U74 rfl) fun a9 f9 => ?_
 clear f1 a0 f2 a2 f3 f4 a3 f5 a5 f6 a6 f7 a7 f8 a8
 refine L.va f9 (E.eql f9 rfl rfl) fun a10 f10 => ?_
 refine wn hK2 ?_
 have f11 := f10.pk [0, 2, 3, 10]
 clear f9 a9 f10
 refine f11.splitD 10 rfl (fun h0 f12 => ?_) (fun h0 f12 => ?_)
 ·have hn0 := h0
  refine C.condT f12 rfl ?_
  refine C.sk fun K3 hK3 => ?_
  refine L.va f12 (E.build f12 (parts0 f12) (wbl38__g)) fun a13 f13 => ?_
  refine L.storeR f13 wantedN wsz38_g rfl rfl rfl Bg0 rfl rfl fun a14 w2 f14 NB2 ks2 => ?_
  have szw2 := ks2.size
  replace HK := HK.kept_new ks2 (by simp; omega)
  replace BP := BP.kept ks2 (by simp; omega)
  replace OWN := OWN.kept ks2 (fun b hb hx => by have := (hq.own.blk b hb).1; simp at hx; omega)
  replace PY := fun m hm => (PY m hm).mod (Mod.of_blk (T := [38]) (M := []) (B := B) ks2 Bg0 (by omega) (by simp)) (by decide)
  replace Bg0 := NB2
  clear f11 f12 a10 ks2 f13 a13
  refine L.ag f14 fun a15 f15 => ?_
  have f16 := f15.pk [0, 2, 3]
  refine wn hK3 (wp_ret ?_); (try simp only [xt, xb]); refine C.retCT f16 rfl rfl rfl Bg0 U38 rfl wsz38_g ?_
  exact pop_none hn0 hq HK ⟨BP, OWN, PY, hq.lo, hq.loA, hq.len⟩
 clear f11
 obtain ⟨x, r, rfl⟩ : ∃ x r, l = x :: r := by
   cases l with
   | nil => simp at h0
   | cons x r => exact ⟨x, r, rfl⟩
 obtain ⟨b, off, hA⟩ := (Sl.of_own OWN).addr (by simp)
 have hpos : (0 : Int) < ((x :: r).length : Nat) := by simp
 refine C.condF f12 rfl ?_
 refine wp_skip (hK1 _ _ ?_)
 have f13 := f12.pk [0, 2, 3]
 refine C.sk fun K4 hK4 => ?_
 refine L.mv f13 fun a14 f14 => ?_
 refine L.va f14 (E.nilCheck f14 rfl) fun a15 f15 => ?_
 refine L.fa 0 f15 U76 rfl wsz74_g fun a16 f16 => ?_
 refine L.va f16 (E.load f16 U74 rfl rfl ((BP).cl rfl)) fun a17 f17 => ?_
 refine L.va f17 (E.indexA f17 (by assumption) U74 wsz38_g rfl rfl (by omega) (by omega)) fun a18 f18 => ?_
 clear f12 f13 a10 f14 a14 f15 a15 f16 a16 f17 a17
 refine L.va f18 (by (exact E.loadR f18 U38 rfl wsz38_g rfl ((Sl.row (i := 0) (cs := mcell x) (Sl.of_own OWN) (by simp) hA (by intro j u hu; rw [Nat.zero_mul, Nat.zero_add, List.flatMap_cons, List.getElem?_append_left (List.getElem?_eq_some_iff.1 hu).1]; exact hu))) rfl)) fun a19 f19 => ?_
 refine L.alloc f19 wantedN (by decide) (z := (.agg #[(.string ⟨#[]⟩), (.slice none 0 0), (.int .i64 0), (.bool false)])) (fun _ => by kernel_rfl) rfl fun a20 w2 g1 N1 f20 => ?_
 have Bg1 := N1.blk
 have kg1 := N1.kept
 have log1 := N1.lo
 have ltg1 := Bg1.lt
 have szw2 := kg1.size
 have frg1 : w.heap.size ≤ g1 := Nat.le_trans HK.size log1
 have neq_g1 : q ≠ g1 := by have := BP.lt; omega
 have neg0_g1 : g0 ≠ g1 := by have := Bg0.lt; omega
 replace HK := HK.trans (.of_kept0 kg1)
 replace BP := BP.z kg1
 replace OWN := OWN.mod (Mod.of_kept0 (T := []) (M := []) (B := B) kg1) (by decide)
 replace PY := fun m hm => (PY m hm).mod (Mod.of_kept0 (T := []) (M := []) (B := B) kg1) (by decide)
 replace Bg0 := Bg0.z kg1
 clear f18 a18 N1 kg1
 refine L.storeR f20 wantedN wsz38_g rfl rfl rfl Bg1 rfl rfl fun a21 w3 f21 NB3 ks3 => ?_
 have szw3 := ks3.size
 replace HK := HK.kept_new ks3 (by simp; omega)
 replace BP := BP.kept ks3 (by simp; omega)
 replace OWN := OWN.kept ks3 (fun b hb hx => by have := (hq.own.blk b hb).1; simp at hx; omega)
 replace PY := fun m hm => (PY m hm).mod (Mod.of_blk (T := [38]) (M := []) (B := B) ks3 Bg1 (by omega) (by simp)) (by decide)
 replace Bg0 := Bg0.kept ks3 (by simp; omega)
 replace Bg1 := NB3
 clear f19 a19 ks3 f20 a20
 have f22 := f21.pk [0, 2, 3, 4]
 refine wn hK4 (C.sk fun K5 hK5 => ?_)
 refine L.mv f22 fun a23 f23 => ?_
 refine L.mv f23 fun a24 f24 => ?_
 refine L.va f24 (E.nilCheck f24 rfl) fun a25 f25 => ?_
 refine L.fa 0 f25 U76 rfl wsz74_g fun a26 f26 => ?_
 refine L.va f26 (E.load f26 U74 rfl rfl ((BP).cl rfl)) fun a27 f27 => ?_
 refine L.va f27 (E.slLlo f27 U74 wsz38_g rfl rfl (by omega) (by omega) ) fun a28 f28 => ?_
 refine L.va f28 (E.nilCheck f28 rfl) fun a29 f29 => ?_
 clear f21 f22 a21 f23 a23 f24 a24 f25 a25 f26 a26 f27 a27 f28 a28
 refine L.fa 0 f29 U76 rfl wsz74_g fun a30 f30 => ?_
 refine L.store f30 wantedN wsz74_g rfl rfl rfl BP (by (simp [Value.cells]; done)) fun a31 w4 f31 NB4 ks4 => ?_
 have szw4 := ks4.size
 have KM := (Mod.of_blk (T := [76]) (M := []) (B := B) ks4 BP hq.lo (by simp))
 replace HK := HK.step KM (by decide) (by simp) (by omega)
 replace OWN := OWN.mod KM (by decide)
 replace PY := fun m hm => (PY m hm).mod KM (by decide)
 replace Bg0 := Bg0.kept ks4 (by simp; omega)
 replace Bg1 := Bg1.kept ks4 (by simp; omega)
 replace BP := NB4
 simp only [Value.cells, List.setIfInBounds_toArray, List.set_cons_zero, List.set_cons_succ, Nat.reduceAdd, Nat.zero_add] at BP
 clear f29 a29 ks4 f30 a30
 have f32 := f31.pk [2, 3, 4]
 refine wn hK5 (C.sk fun K6 hK6 => ?_)
 refine L.va f32 (E.loadB f32 U38 rfl wsz38_g rfl (Bg1) rfl) fun a33 f33 => ?_
 refine L.storeR f33 wantedN wsz38_g rfl rfl rfl Bg0 rfl rfl fun a34 w5 f34 NB5 ks5 => ?_
 have szw5 := ks5.size
 replace HK := HK.kept_new ks5 (by simp; omega)
 replace OWN := OWN.kept ks5 (fun b hb hx => by have := (hq.own.blk b hb).1; simp at hx; omega)
 replace PY := fun m hm => (PY m hm).mod (Mod.of_blk (T := [38]) (M := []) (B := B) ks5 Bg0 (by omega) (by simp)) (by decide)
 replace Bg1 := Bg1.kept ks5 (by simp; omega)
 replace BP := BP.kept ks5 (by simp; omega)
 replace Bg0 := NB5
 clear f31 f32 a31 ks5 f33 a33
 refine L.ag f34 fun a35 f35 => ?_
 have f36 := f35.pk [2, 3]
 refine wn hK6 (wp_ret ?_); (try simp only [xt, xb]); refine C.retCT f36 rfl rfl rfl Bg0 U38 rfl wsz38_g ?_
 exact pop_one hq HK BP OWN PY
end Go.Proofs.YtdfllmiokgoekaaDoor
namespace Go.Proofs.YtdfllmiokgoekaaDoor
open Go.RowKit Go.Hub
theorem wsz3_h : (Tryd.prog.info? 3).map (·.size) = some 1 := by kernel_rfl
theorem wsz67_h : (Tryd.prog.info? 67).map (·.size) = some 7 := by kernel_rfl
theorem wzib67_h : (Tryd.prog.info? 67).map (fun i => (i.zero, i.size, i.bytes)) = some (some (.agg #[(.string ⟨#[]⟩), (.slice none 0 0), (.int .i64 0), (.bool false), (.int .i64 0), (.int .i64 0), (.bool false)]), 7, 80) := by kernel_rfl
theorem wzi67_h : (Tryd.prog.info? 67).map (fun i => (i.zero, i.size)) = some (some (.agg #[(.string ⟨#[]⟩), (.slice none 0 0), (.int .i64 0), (.bool false), (.int .i64 0), (.int .i64 0), (.bool false)]), 7) := by kernel_rfl
theorem wbs54_1_h (x0_0 x0_1 x0_2 x0_3 x0_4 x0_5 x0_6 : Value) : Instr.fill (fun i => some (i * 7, 7)) ((Array.range (1 * 7)).map fun j => (Value.cells (.agg #[(.string ⟨#[]⟩), (.slice none 0 0), (.int .i64 0), (.bool false), (.int .i64 0), (.int .i64 0), (.bool false)]))[j % (Value.cells (.agg #[(.string ⟨#[]⟩), (.slice none 0 0), (.int .i64 0), (.bool false), (.int .i64 0), (.int .i64 0), (.bool false)])).size]!) [(0, .agg #[x0_0, x0_1, x0_2, x0_3, x0_4, x0_5, x0_6])] = some #[x0_0, x0_1, x0_2, x0_3, x0_4, x0_5, x0_6] := by kernel_rfl
theorem wsz22_h : (Tryd.prog.info? 22).map (·.size) = some 1 := by kernel_rfl
theorem wsz38_h : (Tryd.prog.info? 38).map (·.size) = some 4 := by kernel_rfl
theorem wsz44_h : (Tryd.prog.info? 44).map (·.size) = some 24 := by kernel_rfl
theorem wsz49_h : (Tryd.prog.info? 49).map (·.size) = some 1 := by kernel_rfl
theorem wsz54_h : (Tryd.prog.info? 54).map (·.size) = some 1 := by kernel_rfl
theorem wbl67_0_1_2_h (x0_0 x0_1 x0_2 x0_3 : Value) (x1 : Int) (x2 : Int) : Tryd.prog.built 67 [(0, .agg #[x0_0, x0_1, x0_2, x0_3]), (1, .int .i64 x1), (2, .int .i64 x2)] = some #[x0_0, x0_1, x0_2, x0_3, .int .i64 x1, .int .i64 x2, (.bool false)] := by kernel_rfl
theorem idx_next {l : List Fc} {id : Int} {k : Nat} {f : Fc} (hf : l[k]? = some f) (h : ¬ f.id = id) : idxI ((l.drop k).map (·.id)) id k = idxI ((l.drop (k + 1)).map (·.id)) id ((k + 1 : Nat) : Int) := by
  obtain ⟨h1, h2⟩ := List.getElem?_eq_some_iff.1 hf
  rw [List.drop_eq_getElem_cons h1, h2]
  simp [idxI, h]
theorem idx_hit {l : List Fc} {id : Int} {k : Nat} {f : Fc} (hf : l[k]? = some f) (h : f.id = id) : idxI ((l.drop k).map (·.id)) id k = k := by
  obtain ⟨h1, h2⟩ := List.getElem?_eq_some_iff.1 hf
  rw [List.drop_eq_getElem_cons h1, h2]
  simp [idxI, h]
theorem SesAt.used_lt {B p : Nat} {w : World} {s : Ses} (h : SesAt B w p s) : s.used.length < 65535 := by
  have h1 := h.perm.length_eq
  have h2 := h.fly.len
  rw [List.length_map] at h1
  omega
theorem take_ok (B ip im : Nat) (S : List Int) (taken : Int) (w : World) (A : IdsAt w ip im S 65535 taken) (hS : S.length < 65535) (ht : 0 ≤ taken) (h1 : B ≤ ip) (h2 : B ≤ im) :
    Calls Tryd.prog 38 #[.pointer (some ⟨ip, 0, none⟩)] w fun e w' => e = .returned (.tuple #[.int .i64 (Go.Ids.nxt S taken), .bool true]) ∧ Mod [73] [im] B w w' ∧ IdsAt w' ip im (insS (Go.Ids.nxt S taken) S) 65535 (Go.Ids.nxt S taken) ∧ Go.Ids.nxt S taken ∉ S ∧ 1 ≤ Go.Ids.nxt S taken ∧ Go.Ids.nxt S taken ≤ 65535 := by
  refine (take_any ip im S 65535 taken w A ht (by omega)).mono ?_
  rintro e w' ⟨hk, h⟩
  rw [if_neg (by omega)] at h
  refine ⟨h.1, .of_kept hk ?_, h.2, Go.Ids.nxt_spec S taken ht hS⟩
  intro x hx _
  simp only [List.mem_cons, List.not_mem_nil, or_false] at hx
  rcases hx with rfl | rfl
  · exact ⟨h1, .inl (A.top.typ (by simp))⟩
  exact ⟨h2, .inr ⟨A.set.map, by simp⟩⟩
def RisePost (B p : Nat) (s : Ses) (m : Ms) (now : Int) (w : World) (e : Ending) (w' : World) : Prop :=
  ∃ s' A c, e = .returned (.agg (pcell ⟨riseP s.abs m, A, c⟩).toArray) ∧ SesAt B w' p s' ∧ s'.abs = riseS s.abs m now ∧ s.Like s' ∧ Mod [56, 73, 67] [s.im] B w w' ∧ Pay B w' A m.pay
theorem near_bd (x : Int) : -1099511627776 ≤ nearI x ∧ nearI x ≤ 1099511627776 := by unfold nearI; omega
theorem rise_fin {B p : Nat} {s : Ses} {m : Ms} {now : Int} {w W : World} {A2 Ac Ap : Option Addr} {c2 cc cp : Nat} (hS : SesAt B w p s) (htn : 1 ≤ Go.Ids.nxt s.used s.taken ∧ Go.Ids.nxt s.used s.taken ≤ 65535) (hti : Go.Ids.nxt s.used s.taken ∉ s.used) (h4 : s.fly.length < 4) (HK : Mod [56, 73, 67] [s.im] B w W)
    (BP : Blk W p 56 #[.string s.cl, s.sv, .pointer (some ⟨s.ip, 0, none⟩), .slice A2 (s.fly.length + 1) c2, .pointer (some ⟨s.q, 0, none⟩), .map (some s.gm)]) (IDN : IdsAt W s.ip s.im (insS (Go.Ids.nxt s.used s.taken) s.used) 65535 (Go.Ids.nxt s.used s.taken))
    (RX : Own W 67 7 (.slice A2 (s.fly.length + 1) c2) (s.fly.length + 1) (s.fly.flatMap fcell ++ [.string m.tp, .slice Ac m.pay.length cc, .int .i64 m.qos, .bool m.ret, .int .i64 (Go.Ids.nxt s.used s.taken), .int .i64 (nearI now), .bool false])) (HC : Pay B W Ac m.pay) (LX : ∀ a, A2 = some a → B ≤ a.block) (HR : Pay B W Ap m.pay) :
    RisePost B p s m now w (.returned (.agg (pubCells m.tp Ap m.pay.length cp m.qos m.ret (Go.Ids.nxt s.used s.taken) false))) W := by
  have hlen : (s.fly ++ [(⟨⟨m, Ac, cc⟩, Go.Ids.nxt s.used s.taken, nearI now, false⟩ : Fc)]).length = s.fly.length + 1 := by simp
  refine ⟨{ s with used := insS (Go.Ids.nxt s.used s.taken) s.used, taken := Go.Ids.nxt s.used s.taken, fly := s.fly ++ [⟨⟨m, Ac, cc⟩, Go.Ids.nxt s.used s.taken, nearI now, false⟩], FA := A2, fc := c2 }, Ap, cp, rfl, ?_, ?_, ⟨rfl, rfl, rfl⟩, HK, HR⟩
  · refine ⟨by simpa [Ses.cells] using BP, hS.one, IDN, hS.qu.mod HK (by decide), ⟨?_, ?_, LX, by show (s.fly ++ [_]).length ≤ 4; rw [hlen]; omega⟩, hS.got.mod HK (by simpa using Ne.symm hS.ne), hS.ne, hS.lop, hS.loi, hS.lom, hS.log, ⟨by show 0 ≤ Go.Ids.nxt s.used s.taken; omega, htn.2⟩, ?_, ?_, ?_⟩
    · simp only [hlen, List.flatMap_append]
      exact RX
    · intro f hf
      rcases List.mem_append.1 hf with hf | hf
      · exact (hS.fly.pay f hf).mod HK (by decide)
      obtain rfl := List.mem_singleton.1 hf
      exact HC
    · show (insS (Go.Ids.nxt s.used s.taken) s.used).Perm _
      rw [insS, if_neg hti, List.map_append]
      exact (List.Perm.cons _ hS.perm).trans (List.perm_append_singleton _ _).symm
    · intro f hf
      rcases List.mem_append.1 hf with hf | hf
      · exact hS.ats f hf
      obtain rfl := List.mem_singleton.1 hf
      exact near_bd now
    intro f hf
    rcases List.mem_append.1 hf with hf | hf
    · exact hS.idb f hf
    obtain rfl := List.mem_singleton.1 hf
    exact htn
  simp [Ses.abs, riseS, Fc.abs]
theorem clos_any (f : Fc) (g : Nat) (pcs : Array Value) (id : Int) (w : World) (BQ : Blk w g 44 pcs) (h4 : pcs.toList[4]? = some (.int .i64 id)) : Calls Tryd.prog 26 #[.agg (fcell f).toArray, .pointer (some ⟨g, 0, none⟩)] w (fun e w' => e = .returned (.bool (decide (f.id = id))) ∧ Kept [] w w') := by
 have HK : Kept [] w w := Kept.refl [] w
 refine C.enter Tryd.func26 rfl Tryd.ntmps26 rfl ?_
 intro a0 f0
 have f1 : Fr 9 a0 [(0, .agg (fcell f).toArray), (1, .pointer (some ⟨g, 0, none⟩))] := f0
 refine C.sk fun K0 hK0 => ?_
 refine L.box f1 wantedN (by decide) rfl rfl fun a2 w1 g0 N0 f2 => ?_
 have Bg0 := N0.blk
 have kg0 := N0.kept
 have log0 := N0.lo
 have ltg0 := Bg0.lt
 have szw1 := kg0.size
 have frg0 : w.heap.size ≤ g0 := Nat.le_trans HK.size log0
 have neg_g0 : g ≠ g0 := by have := BQ.lt; omega
 replace HK := HK.z kg0
 replace BQ := BQ.z kg0
 clear f0 N0 kg0
 refine L.ag f2 fun a3 f3 => ?_
 have f4 := f3.pk [1, 2, 3]
 refine wn hK0 (C.sk fun K1 hK1 => ?_)
 refine L.fa 4 f4 U67 rfl wsz3_h fun a5 f5 => ?_
 refine L.va f5 (E.load f5 U3 rfl rfl ((Bg0).cl rfl)) fun a6 f6 => ?_
 refine L.fa 4 f6 U44 rfl wsz3_h fun a7 f7 => ?_
 refine L.va f7 (E.load f7 U3 rfl rfl (BQ.cl h4)) fun a8 f8 => ?_
 refine L.va f8 (E.eql f8 rfl rfl) fun a9 f9 => ?_
 clear f1 a0 f2 a2 f3 f4 a3 f5 a5 f6 a6 f7 a7 f8 a8
 refine L.ag f9 fun a10 f10 => ?_
 have f11 := f10.pk [3]
 refine wn hK1 (wp_ret ?_); (try simp only [xt, xb]); refine C.ret f11 rfl rfl ?_
 exact ⟨rfl, HK⟩
theorem idxS_any (A : Option Addr) (c : Nat) (l : List Fc) (g : Nat) (pcs : Array Value) (id : Int) (w : World) (OWN : Own w 67 7 (.slice A l.length c) l.length (l.flatMap fcell)) (BQ : Blk w g 44 pcs) (h4 : pcs.toList[4]? = some (.int .i64 id)) (hlen : l.length ≤ 4) : Calls Tryd.prog 25 #[.slice A l.length c, .func (.func 26) #[] #[.pointer (some ⟨g, 0, none⟩)]] w (fun e w' => e = .returned (.int .i64 (idxI (l.map (·.id)) id 0)) ∧ Kept [] w w') := by
 have HK : Kept [] w w := Kept.refl [] w
 have SLF := Sl.of_own OWN
 refine C.enter Tryd.func25 rfl Tryd.ntmps25 rfl ?_
 intro a0 f0
 have f1 : Fr 19 a0 [(0, .slice A l.length c), (1, .func (.func 26) #[] #[.pointer (some ⟨g, 0, none⟩)])] := f0
 refine C.sk fun K0 hK0 => ?_
 refine L.ag f1 fun a2 f2 => ?_
 refine wn hK0 ?_
 have f3 := f2.pk [0, 1, 4]
 refine wp_seq_k fun K1 hK1 => C.sk fun K2 hK2 => ?_
 refine L.mv f3 fun a4 f4 => ?_
 refine L.va f4 (E.lenL f4 U54 rfl) fun a5 f5 => ?_
 refine L.mv f5 fun a6 f6 => ?_
 refine wn hK2 ?_
 have f7 := f6.pk [0, 1, 4, 7, 8]
 refine wp_block ?_
 clear f0 f1 a0 f2 f3 a2 f4 a4 f5 a5 f6
 refine C.loop (fun gk a W => ∃ k : Nat, k + gk = l.length ∧ idxI (l.map (·.id)) id 0 = idxI ((l.drop k).map (·.id)) id k ∧ Kept [] w W ∧ Fr 19 a [(0, .slice A l.length c), (1, .func (.func 26) #[] #[.pointer (some ⟨g, 0, none⟩)]), (7, .int .i64 l.length), (8, .int .i64 k)]) (l.length) ?_ ?_
 ·exact ⟨0, by omega, rfl, HK, f7.sub (sx (sx (sx (sx sn))))⟩
 intro gk4 a8 w1 hI KL3 hKL3
 obtain ⟨k, hk, hq, HK, f8⟩ := hI
 try clear f7
 refine C.sk fun K4 hK4 => ?_
 refine L.va f8 (E.lss f8 rfl rfl) fun a9 f9 => ?_
 refine wn hK4 ?_
 have f10 := f9.pk [0, 1, 7, 8, 9]
 refine wp_seq_k fun K5 hK5 => ?_
 clear f8 a8 f9
 refine f10.splitD 9 rfl (fun h0 f11 => ?_) (fun h0 f11 => ?_)
 ·obtain ⟨b, off, hA⟩ := SLF.addr (by omega)
  obtain ⟨f, hf⟩ : ∃ f, l[k]? = some f := ⟨l[k]'(by omega), List.getElem?_eq_getElem _⟩
  refine C.condT f11 rfl ?_
  refine wp_skip (hK5 _ _ ?_)
  have f12 := f11.pk [0, 1, 7, 8, 9]
  refine wp_seq_k fun K6 hK6 => ?_
  refine wp_block ?_
  refine C.sk fun K7 hK7 => ?_
  refine L.mv f12 fun a13 f13 => ?_
  refine L.ag f13 fun a14 f14 => ?_
  have f15 := f14.pk [0, 1, 5, 7, 8, 9, 10]
  refine wn hK7 (C.sk fun K8 hK8 => ?_)
  refine L.mv f15 fun a16 f16 => ?_
  refine L.mv f16 fun a17 f17 => ?_
  refine L.mv f17 fun a18 f18 => ?_
  refine L.va f18 (E.indexA f18 (by assumption) U54 wsz67_h rfl rfl (by omega) (by omega)) fun a19 f19 => ?_
  clear f10 f11 f12 a9 f13 a13 f14 f15 a14 f16 a16 f17 a17 f18 a18
  refine L.va f19 (E.loadR f19 U67 rfl wsz67_h rfl (Sl.row (i := k) (cs := fcell f) (SLF.kept HK) (by omega) hA (flat_at fcell 7 (fun _ => rfl) l k f hf)) rfl) fun a20 f20 => ?_
  refine L.cl f20 (cv1_1 f20 rfl Tryd.call26 rfl) (clos_any f g pcs id _ (BQ.z HK) h4) ?_
  clear f19 a19
  rintro e w2 ⟨rfl, kc2⟩
  refine ⟨_, rfl, fun a21 f21 => ?_⟩
  have szw2 := kc2.size
  replace HK := HK.z kc2
  clear f20 a20 kc2
  refine wn hK8 ?_
  have f22 := f21.pk [0, 1, 5, 7, 8, 9, 10, 11, 12, 13, 14, 15, 16]
  clear f21
  refine f22.splitD 16 rfl (fun h1 f23 => ?_) (fun h1 f23 => ?_)
  ·have hyes := h1
   refine C.condT f23 rfl ?_
   refine C.sk fun K9 hK9 => ?_
   refine L.mv f23 fun a24 f24 => ?_
   refine L.ag f24 fun a25 f25 => ?_
   have f26 := f25.pk [0, 1, 4, 5, 7, 8, 9, 10, 11, 12, 13, 14, 15, 16, 17]
   refine wn hK9 (wp_ret ?_); (try simp only [xt, xb]); refine C.ret f26 rfl rfl ?_
   exact ⟨by rw [hq, idx_hit hf hyes], HK⟩
  have hno := h1
  refine C.condF f23 rfl ?_
  refine wp_skip (hK6 _ _ ?_)
  have f24 := f23.pk [0, 1, 5, 7, 8, 9, 10, 11, 12, 13, 14, 15, 16]
  refine C.region ?_
  refine L.va f24 (E.add f24 rfl rfl (IntWalk.i64_in _ (by omega))) fun a25 f25 => ?_
  refine L.mv f25 fun a26 f26 => ?_
  clear f22 f23 f24 a21 f25 a25
  refine wpList_nil (hKL3 _ _ (gk4 - 1) ?_ ?_)
  ·omega
  exact ⟨k + 1, by omega, by rw [hq]; exact idx_next hf hno, HK, f26.sub (sx (sx (sx (sx sn))))⟩
 have hend := h0
 refine C.condF f11 rfl ?_
 refine wp_exit (hK1 _ _ ?_)
 have f12 := f11.sub sn
 refine C.sk fun K10 hK10 => ?_
 refine L.ag f12 fun a13 f13 => ?_
 have f14 := f13.pk [4]
 refine wn hK10 (wp_ret ?_); (try simp only [xt, xb]); refine C.ret f14 rfl rfl ?_
 exact ⟨by rw [hq, List.drop_eq_nil_of_le (by omega)]; rfl, HK⟩
theorem rise_any (B p : Nat) (s : Ses) (m : Ms) (Am : Option Addr) (cm : Nat) (now : Int) (w : World) (hS : SesAt B w p s) (HP : Pay B w Am m.pay) (hB : B ≤ w.heap.size) (h4 : s.fly.length < 4) : Calls Tryd.prog 23 #[.pointer (some ⟨p, 0, none⟩), .agg #[.string m.tp, .slice Am m.pay.length cm, .int .i64 m.qos, .bool m.ret], .int .i64 now] w (RisePost B p s m now w) := by
 have HK : Mod [56, 73, 67] [s.im] B w w := .refl _ _ _ _
 have BP := hS.top
 have OWN := hS.fly.own
 have hlop := hS.lop
 have hul := hS.used_lt
 obtain ⟨MM, hMM⟩ : ∃ MM, MM = (Value.slice s.FA s.fly.length s.fc).ownBlock.toList := ⟨_, rfl⟩
 have hpM : p ∉ MM := by rw [hMM]; exact own_ne hS.fly.own hS.top (by decide)
 have htk := hS.tk
 have ID := hS.ids
 refine C.enter Tryd.func23 rfl Tryd.ntmps23 rfl ?_
 intro a0 f0
 have f1 : Fr 38 a0 [(0, .pointer (some ⟨p, 0, none⟩)), (1, .agg #[.string m.tp, .slice Am m.pay.length cm, .int .i64 m.qos, .bool m.ret]), (2, .int .i64 now)] := f0
 refine C.sk fun K0 hK0 => ?_
 refine L.box f1 wantedN (by decide) rfl rfl fun a2 w1 g0 N0 f2 => ?_
 have Bg0 := N0.blk
 have kg0 := N0.kept
 have log0 := N0.lo
 have ltg0 := Bg0.lt
 have szw1 := kg0.size
 have frg0 : w.heap.size ≤ g0 := Nat.le_trans HK.size log0
 have nep_g0 : p ≠ g0 := by have := BP.lt; omega
 replace HK := HK.trans (.of_kept0 kg0)
 replace BP := BP.z kg0
 replace OWN := OWN.mod (Mod.of_kept0 (T := []) (M := []) (B := B) kg0) (by decide)
 replace HP := HP.mod (Mod.of_kept0 (T := []) (M := []) (B := B) kg0) (by decide)
 replace ID := ID.mod (Mod.of_kept0 (T := []) (M := []) (B := B) kg0) (by decide) (by simp)
 clear f0 N0 kg0
 refine L.alloc f2 wantedN (by decide) (z := (.agg #[(.int .i64 0), (.bool false), (.bool false), (.int .i64 0), (.int .i64 0), (.string ⟨#[]⟩), (.slice none 0 0), (.int .i64 0), (.string ⟨#[]⟩), (.bool false), (.int .i64 0), (.bool false), (.string ⟨#[]⟩), (.slice none 0 0), (.int .i64 0), (.bool false), (.bool false), (.bool false), (.string ⟨#[]⟩), (.slice none 0 0), (.bool false), (.int .i64 0), (.slice none 0 0), (.slice none 0 0)])) (fun _ => by kernel_rfl) rfl fun a3 w2 g1 N1 f3 => ?_
 have Bg1 := N1.blk
 have kg1 := N1.kept
 have log1 := N1.lo
 have ltg1 := Bg1.lt
 have szw2 := kg1.size
 have frg1 : w.heap.size ≤ g1 := Nat.le_trans HK.size log1
 have nep_g1 : p ≠ g1 := by have := BP.lt; omega
 have neg0_g1 : g0 ≠ g1 := by have := Bg0.lt; omega
 replace HK := HK.trans (.of_kept0 kg1)
 replace BP := BP.z kg1
 replace OWN := OWN.mod (Mod.of_kept0 (T := []) (M := []) (B := B) kg1) (by decide)
 replace HP := HP.mod (Mod.of_kept0 (T := []) (M := []) (B := B) kg1) (by decide)
 replace ID := ID.mod (Mod.of_kept0 (T := []) (M := []) (B := B) kg1) (by decide) (by simp)
 replace Bg0 := Bg0.z kg1
 clear f1 a0 N1 kg1
 have f4 := f3.pk [0, 2, 4, 6]
 refine wn hK0 (C.sk fun K1 hK1 => ?_)
 refine L.mv f4 fun a5 f5 => ?_
 refine L.va f5 (E.nilCheck f5 rfl) fun a6 f6 => ?_
 refine L.fa 2 f6 U56 rfl wsz49_h fun a7 f7 => ?_
 refine L.va f7 (E.load f7 U49 rfl rfl ((BP).cl rfl)) fun a8 f8 => ?_
 refine L.cl f8 (run_call Tryd.call38 (args1 f8 rfl)) (take_ok B s.ip s.im s.used s.taken _ ID hul htk.1 hS.loi hS.lom) ?_
 clear f2 a2 f3 f4 a3 f5 a5 f6 a6 f7 a7
 rintro e w3 ⟨rfl, kc3, IDN, hti, htn⟩
 refine ⟨_, rfl, fun a9 f9 => ?_⟩
 have szw3 := kc3.size
 replace HK := HK.step kc3 (by decide) (by simp) (by omega)
 replace BP := BP.mod kc3 (by decide)
 replace OWN := OWN.mod kc3 (by decide)
 replace HP := HP.mod kc3 (by decide)
 replace Bg0 := Bg0.mod kc3 (by decide)
 replace Bg1 := Bg1.mod kc3 (by decide)
 clear f8 a8 kc3
 refine L.mv f9 fun a10 f10 => ?_
 refine L.va f10 (E.extract f10 rfl rfl) fun a11 f11 => ?_
 refine L.va f11 (E.extract f11 rfl rfl) fun a12 f12 => ?_
 refine L.ag f12 fun a13 f13 => ?_
 refine L.ag f13 fun a14 f14 => ?_
 have f15 := f14.pk [0, 2, 4, 6, 7]
 refine wn hK1 (C.sk fun K2 hK2 => ?_)
 refine L.fa 1 f15 U38 rfl wsz22_h fun a16 f16 => ?_
 refine L.va f16 (E.load f16 U22 rfl rfl ((Bg0).cl rfl)) fun a17 f17 => ?_
 clear f9 a9 f10 a10 f11 a11 f12 a12 f13 a13 f14 f15 a14 f16 a16
 refine L.cl f17 (run_call Tryd.call37 (args1 f17 rfl)) (clone_any _ _ _ _ _ HP.sl u8_one HP.2) ?_
 rintro e w4 ⟨kc4, Ac, cc, rfl, FC⟩
 have HC : Pay B w4 Ac m.pay := Pay.of_fresh FC HP.2
 refine ⟨_, rfl, fun a18 f18 => ?_⟩
 have szw4 := kc4.size
 replace HK := HK.trans (.of_kept0 kc4)
 replace BP := BP.z kc4
 replace OWN := OWN.mod (Mod.of_kept0 (T := []) (M := []) (B := B) kc4) (by decide)
 replace HP := HP.mod (Mod.of_kept0 (T := []) (M := []) (B := B) kc4) (by decide)
 replace Bg0 := Bg0.z kc4
 replace Bg1 := Bg1.z kc4
 replace IDN := IDN.mod (Mod.of_kept0 (T := []) (M := []) (B := B) kc4) (by decide) (by simp)
 clear f17 a17 kc4
 refine L.fa 1 f18 U38 rfl wsz22_h fun a19 f19 => ?_
 refine L.store f19 wantedN wsz22_h rfl rfl rfl Bg0 (by (simp [Value.cells]; done)) fun a20 w5 f20 NB5 ks5 => ?_
 have szw5 := ks5.size
 replace HK := HK.kept_new ks5 (by simp; omega)
 replace BP := BP.kept ks5 (by simp; omega)
 replace OWN := OWN.kept ks5 (fun b hb hx => by have := (hS.fly.own.blk b hb).1; simp at hx; omega)
 replace HP := HP.mod (Mod.of_blk1 (M := []) (B := B) ks5 Bg0 (by omega)) (by decide)
 replace Bg1 := Bg1.kept ks5 (by simp; omega)
 replace IDN := IDN.mod (Mod.of_blk1 (M := []) (B := B) ks5 Bg0 (by omega)) (by decide) (by simp)
 replace HC := HC.mod (Mod.of_blk1 (M := []) (B := B) ks5 Bg0 (by omega)) (by decide)
 replace Bg0 := NB5
 simp only [Value.cells, List.setIfInBounds_toArray, List.set_cons_zero, List.set_cons_succ, Nat.reduceAdd, Nat.zero_add] at Bg0
 clear f18 a18 ks5 f19 a19
 refine wn hK2 ?_
 have f21 := f20.pk [0, 2, 4, 6, 7]
 refine wp_seq_k fun K3 hK3 => ?_
 have hg0M : g0 ∉ MM := by rw [hMM]; exact own_old hS.fly.own frg0
 have hg1M : g1 ∉ MM := by rw [hMM]; exact own_old hS.fly.own frg1
 have OWN1 := OWN
 have HP0 := HP.2
 refine RB.begin (S := fun W => Kept MM w5 W) 12 (by kernel_rfl) (by exact (Kept.refl _ _).drewN 1) ?_
 have hS3 : Kept MM w5 (w5.drewN 1) := (Kept.refl _ _).drewN 1
 have hd3 : Kept [] w5 (w5.drewN 1) := (Kept.refl _ _).drewN 1
 obtain ⟨w6, hww6⟩ : ∃ W, W = w5.drewN 1 := ⟨_, rfl⟩
 rw [← hww6] at hS3 hd3 ⊢
 clear f20 hww6
 have szw6 := hS3.size
 replace HC := HC.kept0 hd3
 replace OWN := OWN.mod (T := []) (M := []) (Mod.of_kept0 (B := B) hd3) (by simp)
 refine RB.tk 0 f21 rfl hS3 (fun W hW => (E.move f21 rfl)) fun a22 f22 => ?_
 refine RB.tk 1 f22 rfl hS3 (fun W hW => (E.move f22 rfl)) fun a23 f23 => ?_
 refine RB.tk 2 f23 rfl hS3 (fun W hW => (E.nilCheck f23 rfl)) fun a24 f24 => ?_
 refine RB.tk 3 f24 rfl hS3 (fun W hW => (E.fa 3 f24 U56 rfl wsz54_h)) fun a25 f25 => ?_
 refine RB.tk 4 f25 rfl hS3 (fun W hW => (E.load f25 U54 rfl rfl ((BP.kept hW (by assumption)).cl rfl))) fun a26 f26 => ?_
 refine RB.tk 5 f26 rfl hS3 (fun W hW => (E.loadB f26 U38 rfl wsz38_h rfl (Bg0.kept hW (by assumption)) rfl)) fun a27 f27 => ?_
 refine RB.tk 6 f27 rfl hS3 (fun W hW => (E.move f27 rfl)) fun a28 f28 => ?_
 clear f21 a20 f22 a22 f23 a23 f24 a24 f25 a25 f26 a26 f27 a27
 refine RB.tk 7 f28 rfl hS3 (fun W hW => (E.move f28 rfl)) fun a29 f29 => ?_
 refine RB.call 8 f29 rfl rfl (by decide) (by kernel_rfl) (by kernel_rfl) wantedN (run_call Tryd.call28 (args1 f29 rfl)) (near_any now _) ?_
 clear f28 a28
 rintro e w6x ⟨rfl, rfl⟩
 refine ⟨_, rfl, hS3, fun a30 f30 => ?_⟩
 refine RB.tk 9 f30 rfl hS3 (fun W hW => (E.build f30 (parts3 f30 rfl rfl rfl) (wbl67_0_1_2_h _ _ _ _ _ _))) fun a31 f31 => ?_
 refine RB.one 10 (by kernel_rfl) (by kernel_rfl) ?_
 refine O.buildSlice f31 rfl wantedN (by decide) (parts1 f31 rfl) U54 wzi67_h rfl rfl (wbs54_1_h _ _ _ _ _ _ _) (fun _ hk => hS3.trans hk (by simp)) fun a32 w7 g6 N6 hSn f32 => ?_
 have Bg6 := N6.blk
 have kg6 := N6.kept
 have log6 := N6.lo
 have ltg6 := Bg6.lt
 have szw7 := kg6.size
 have szSw7 := hS3.size
 replace HC := HC.kept0 kg6
 replace OWN := OWN.mod (T := []) (M := []) (Mod.of_kept0 (B := B) kg6) (by simp)
 clear f29 a29 f30 a30 f31 a31 N6 kg6
 replace hS3 := hSn
 clear hSn
 refine RB.one 11 (by kernel_rfl) (by kernel_rfl) ?_
 refine O.append f32 rfl wantedN (by decide) U54 wzib67_h rfl rfl rfl rfl (OWN) (sl_blk Bg6 rfl) (by simp [Value.oneCell']) (by unfold maxLen; omega) (by omega) fun a33 w8 A2 c2 AP8 => ?_
 have kap8 : Kept MM w7 w8 := by rw [hMM]; exact AP8.kept
 have KA : Mod [67] [] B w7 w8 := .of_app AP8 OWN hS.fly.loA (by simp)
 have RX := AP8.own
 have LX := AP8.from hS.fly.loA (B := B) (by omega)
 have hSn := hS3.trans kap8 (by exact fun x hx _ => hx)
 refine ⟨hSn, fun f33 => ?_⟩
 have szw8 := kap8.size
 replace HC := HC.mod KA (by decide)
 clear f32 kap8
 replace hS3 := hSn
 clear hSn
 refine RB.stop (by kernel_rfl) ?_
 have szw8r := hS3.size
 have KM := Mod.of_own (T := [67]) (M := []) (B := B) (hMM ▸ hS3) OWN1 hS.fly.loA (by simp)
 replace HK := HK.step KM (by decide) (by simp) (by omega)
 replace BP := BP.kept hS3 (by assumption)
 replace HP := HP.mod KM (by decide)
 replace Bg1 := Bg1.kept hS3 (by assumption)
 replace IDN := IDN.mod KM (by decide) (by simp)
 replace Bg0 := Bg0.kept hS3 (by assumption)
 clear hS3
 refine R.t 12 f33 rfl trivial (fun W hW => (E.nilCheck f33 rfl)) fun a34 f34 => ?_
 refine R.t 13 f34 rfl trivial (fun W hW => (E.fa 3 f34 U56 rfl wsz54_h)) fun a35 f35 => ?_
 refine R.one 14 (by kernel_rfl) ?_
 refine OT.store f35 rfl wantedN wsz54_h rfl rfl rfl BP (by (simp [Value.cells]; done)) fun a36 w9 f36 NB9 ks9 => ?_
 have szw9 := ks9.size
 have KM := (Mod.of_blk (T := [56]) (M := []) (B := B) ks9 BP hS.lop (by simp))
 replace HK := HK.step KM (by decide) (by simp) (by omega)
 replace HP := HP.mod KM (by decide)
 replace Bg1 := Bg1.kept ks9 (by simp; omega)
 replace IDN := IDN.mod KM (by decide) (by simp)
 replace Bg0 := Bg0.kept ks9 (by simp; omega)
 replace HC := HC.mod KM (by decide)
 replace RX := RX.mod KM (by decide)
 replace BP := NB9
 simp only [Value.cells, List.setIfInBounds_toArray, List.set_cons_zero, List.set_cons_succ, Nat.reduceAdd, Nat.zero_add] at BP
 clear f33 a33 f34 a34 ks9 f35 a35
 refine R.done (by kernel_rfl) (hK3 _ _ ?_)
 have f37 := f36.pk [4, 6, 7]
 refine C.sk fun K4 hK4 => ?_
 refine L.va f37 (E.loadB f37 U38 rfl wsz38_h rfl (Bg0) rfl) fun a38 f38 => ?_
 refine L.mv f38 fun a39 f39 => ?_
 refine L.cl f39 (run_call Tryd.call21 (args3 f39 rfl rfl rfl)) (publish_any m.tp Ac m.pay.length cc _ m.qos m.ret _ false _ HC.sl u8_one HP0) ?_
 clear f36 f37 a36 f38 a38
 rintro e w10 ⟨kc10, Ap, cp, rfl, FP⟩
 have HR : Pay B w10 Ap m.pay := Pay.of_fresh FP HP0
 refine ⟨_, rfl, fun a40 f40 => ?_⟩
 have szw10 := kc10.size
 replace HK := HK.trans (.of_kept0 kc10)
 replace HP := HP.mod (Mod.of_kept0 (T := []) (M := []) (B := B) kc10) (by decide)
 replace Bg1 := Bg1.z kc10
 replace IDN := IDN.mod (Mod.of_kept0 (T := []) (M := []) (B := B) kc10) (by decide) (by simp)
 replace Bg0 := Bg0.z kc10
 replace HC := HC.mod (Mod.of_kept0 (T := []) (M := []) (B := B) kc10) (by decide)
 replace RX := RX.mod (Mod.of_kept0 (T := []) (M := []) (B := B) kc10) (by decide)
 replace BP := BP.z kc10
 clear f39 a39 kc10
 refine L.storeR f40 wantedN wsz44_h rfl rfl rfl Bg1 rfl rfl fun a41 w11 f41 NB11 ks11 => ?_
 have szw11 := ks11.size
 replace HK := HK.kept_new ks11 (by simp; omega)
 replace HP := HP.mod (Mod.of_blk1 (M := []) (B := B) ks11 Bg1 (by omega)) (by decide)
 replace IDN := IDN.mod (Mod.of_blk1 (M := []) (B := B) ks11 Bg1 (by omega)) (by decide) (by simp)
 replace Bg0 := Bg0.kept ks11 (by simp; omega)
 replace HC := HC.mod (Mod.of_blk1 (M := []) (B := B) ks11 Bg1 (by omega)) (by decide)
 replace RX := RX.mod (Mod.of_blk1 (M := []) (B := B) ks11 Bg1 (by omega)) (by decide)
 replace BP := BP.kept ks11 (by simp; omega)
 replace HR := HR.mod (Mod.of_blk1 (M := []) (B := B) ks11 Bg1 (by omega)) (by decide)
 replace Bg1 := NB11
 clear ks11 f40 a40
 have f42 := f41.pk [6]
 refine wn hK4 (wp_ret ?_); (try simp only [xt, xb]); refine C.retC f42 rfl rfl Bg1 U44 rfl wsz44_h ?_
 exact rise_fin hS htn hti h4 HK BP IDN RX HC LX HR
end Go.Proofs.YtdfllmiokgoekaaDoor
namespace Go.Proofs.YtdfllmiokgoekaaDoor
open Go.RowKit Go.Hub
theorem wzib44_i : (Tryd.prog.info? 44).map (fun i => (i.zero, i.size, i.bytes)) = some (some (.agg #[(.int .i64 0), (.bool false), (.bool false), (.int .i64 0), (.int .i64 0), (.string ⟨#[]⟩), (.slice none 0 0), (.int .i64 0), (.string ⟨#[]⟩), (.bool false), (.int .i64 0), (.bool false), (.string ⟨#[]⟩), (.slice none 0 0), (.int .i64 0), (.bool false), (.bool false), (.bool false), (.string ⟨#[]⟩), (.slice none 0 0), (.bool false), (.int .i64 0), (.slice none 0 0), (.slice none 0 0)]), 24, 288) := by kernel_rfl
theorem wsz38_i : (Tryd.prog.info? 38).map (·.size) = some 4 := by kernel_rfl
theorem wsz51_i : (Tryd.prog.info? 51).map (·.size) = some 1 := by kernel_rfl
theorem wsz54_i : (Tryd.prog.info? 54).map (·.size) = some 1 := by kernel_rfl
theorem wpk1 (x : Pc) : Instr.fill (fun i => some (i * 24, 24)) ((Array.range (1 * 24)).map fun j => (Value.cells (.agg #[(.int .i64 0), (.bool false), (.bool false), (.int .i64 0), (.int .i64 0), (.string ⟨#[]⟩), (.slice none 0 0), (.int .i64 0), (.string ⟨#[]⟩), (.bool false), (.int .i64 0), (.bool false), (.string ⟨#[]⟩), (.slice none 0 0), (.int .i64 0), (.bool false), (.bool false), (.bool false), (.string ⟨#[]⟩), (.slice none 0 0), (.bool false), (.int .i64 0), (.slice none 0 0), (.slice none 0 0)]))[j % (Value.cells (.agg #[(.int .i64 0), (.bool false), (.bool false), (.int .i64 0), (.int .i64 0), (.string ⟨#[]⟩), (.slice none 0 0), (.int .i64 0), (.string ⟨#[]⟩), (.bool false), (.int .i64 0), (.bool false), (.string ⟨#[]⟩), (.slice none 0 0), (.int .i64 0), (.bool false), (.bool false), (.bool false), (.string ⟨#[]⟩), (.slice none 0 0), (.bool false), (.int .i64 0), (.slice none 0 0), (.slice none 0 0)])).size]!) [(0, .agg (pcell x).toArray)] = some (pcell x).toArray := by kernel_rfl
theorem wzj35 : (Tryd.prog.info? 44).map (fun i => (i.zero, i.size)) = some (some (.agg #[(.int .i64 0), (.bool false), (.bool false), (.int .i64 0), (.int .i64 0), (.string ⟨#[]⟩), (.slice none 0 0), (.int .i64 0), (.string ⟨#[]⟩), (.bool false), (.int .i64 0), (.bool false), (.string ⟨#[]⟩), (.slice none 0 0), (.int .i64 0), (.bool false), (.bool false), (.bool false), (.string ⟨#[]⟩), (.slice none 0 0), (.bool false), (.int .i64 0), (.slice none 0 0), (.slice none 0 0)]), 24) := by kernel_rfl
theorem pcell_one (x : Pc) : ∀ u ∈ pcell x, u.oneCell' = true := by simp [pcell, Value.oneCell']
theorem Ses.Like.trans {s t u : Ses} (h : s.Like t) (k : t.Like u) : s.Like u := ⟨k.im.trans h.im, k.gm.trans h.gm, k.cl.trans h.cl⟩
theorem PkAt.push {B : Nat} {w0 w w' : World} {A A' : Option Addr} {c c' : Nat} {l : List Pc} {x : Pc} (h : PkAt B w0 w A c l) (ap : App w w' 44 24 A l.length c (l.flatMap pcell) (pcell x) 1 A' c') (hw : w0.heap.size ≤ w.heap.size) (hB : B ≤ w0.heap.size) (hp : Pay B w x.A x.p.pay) : PkAt B w0 w' A' c' (l ++ [x]) := by
  have hm : Mod [44] [] B w w' := .of_app ap h.fr.own (fun a ha => Nat.le_trans hB (h.fr.from a ha)) (by simp)
  refine ⟨by simpa using ap.next h.fr hw, fun y hy => ?_⟩
  rcases List.mem_append.1 hy with hy | hy
  · exact (h.pay y hy).mod hm (by decide)
  obtain rfl := List.mem_singleton.1 hy
  exact hp.mod hm (by decide)
theorem SesAt.popped {B p : Nat} {w w' : World} {u : Ses} {A' : Option Addr} {c' : Nat} {r : List Mc} (h : SesAt B w p u) (hk : Mod [76] [] B w w') (HQ : QuAt B w' u.q A' c' r u.lost) : ∃ v : Ses, SesAt B w' p v ∧ v.abs = { u.abs with wait := r.map (·.m) } ∧ u.Like v ∧ v.fly = u.fly :=
  ⟨{ u with wait := r, QA := A', qc := c' }, ⟨h.top.mod hk (by decide), h.one, h.ids.mod hk (by decide) (by simp), HQ, h.fly.mod hk (by decide), h.got.mod hk (by simp), h.ne, h.lop, h.loi, h.lom, h.log, h.tk, h.perm, h.ats, h.idb⟩, rfl, ⟨rfl, rfl, rfl⟩, rfl⟩
theorem pop_got {l : List Mc} {x : Mc} {r : List Mc} (hnon : (!l.isEmpty) = true) (hor : l = x :: r ∨ l = [] ∧ r = []) : l = x :: r := by
  rcases hor with h | h
  · exact h
  rw [h.1] at hnon; cases hnon
def DrainPost (B p : Nat) (s : Ses) (now : Int) (w : World) (e : Ending) (w' : World) : Prop :=
  ∃ s' A c pks, e = .returned (.slice A pks.length c) ∧ SesAt B w' p s' ∧ s'.abs = (drainS s.abs now).1 ∧ pks.map (·.p) = (drainS s.abs now).2 ∧ s.Like s' ∧ Mod [56, 73, 67, 76] [s.im] B w w' ∧ PkAt B w w' A c pks
section
variable {B p : Nat} {s u v u2 : Ses} {now : Int} {w W : World} {x : Mc} {r : List Mc} {gk : Nat} {pks : List Pc} {A : Option Addr} {c : Nat}
theorem abs_fly (s : Ses) : s.abs.fly.length = s.fly.length := by simp [Ses.abs]
theorem drain_more (hab : u2.abs = riseS v.abs x.m now) (hva : v.abs = { u.abs with wait := r.map (·.m) }) (h : 4 < gk + u.fly.length) : 4 < gk - 1 + u2.fly.length := by
  have h1 : u2.abs.fly.length = u.fly.length + 1 := by rw [hab, hva]; simp [riseS, Ses.abs]
  rw [abs_fly] at h1
  omega
theorem drain_next (hab : u2.abs = riseS v.abs x.m now) (hva : v.abs = { u.abs with wait := r.map (·.m) }) (hwt : u.wait = x :: r) (h : 4 < gk + u.fly.length) (h4 : u.fly.length < 4) (pks : List Pc) {Ap : Option Addr} {cp : Nat} :
    ((drainN gk u.abs now).1, pks.map (·.p) ++ (drainN gk u.abs now).2) = ((drainN (gk - 1) u2.abs now).1, (pks ++ [(⟨riseP v.abs x.m, Ap, cp⟩ : Pc)]).map (·.p) ++ (drainN (gk - 1) u2.abs now).2) := by
  obtain ⟨k, rfl⟩ : ∃ k, gk = k + 1 := ⟨gk - 1, by omega⟩
  have h4' : u.abs.fly.length < 4 := by rw [abs_fly]; exact h4
  have hw : u.abs.wait = x.m :: r.map (·.m) := by simp [Ses.abs, hwt]
  rw [hab, hva, Nat.add_sub_cancel]
  rw [drainN, if_pos h4', hw]
  simp
theorem drain_a (hS : SesAt B w p s) (HS : SesAt B W p u) (hL : s.Like u) (hq : drainN 5 s.abs now = ((drainN gk u.abs now).1, pks.map (·.p) ++ (drainN gk u.abs now).2)) (PK : PkAt B w W A c pks) (HK : Mod [56, 73, 67, 76] [s.im] B w W) (h : ¬ u.fly.length < 4) :
    DrainPost B p s now w (.returned (.slice A pks.length c)) W := by
  have h0 : drainN gk u.abs now = (u.abs, []) := by
    cases gk with
    | zero => rfl
    | succ k => rw [drainN, if_neg (by rw [abs_fly]; exact h)]
  rw [h0, List.append_nil] at hq
  exact ⟨u, A, c, pks, rfl, HS, by rw [drainS, hq], by rw [drainS, hq], hL, HK, PK⟩
theorem drain_b (hS : SesAt B w p s) (HS : SesAt B W p v) (hL : s.Like v) (hva : v.abs = { u.abs with wait := r.map (·.m) }) (hemp : (!u.wait.isEmpty) = false) (hor : u.wait = x :: r ∨ u.wait = [] ∧ r = []) (hq : drainN 5 s.abs now = ((drainN gk u.abs now).1, pks.map (·.p) ++ (drainN gk u.abs now).2)) (PK : PkAt B w W A c pks) (HK : Mod [56, 73, 67, 76] [s.im] B w W) :
    DrainPost B p s now w (.returned (.slice A pks.length c)) W := by
  have hw : u.wait = [] ∧ r = [] := by
    rcases hor with h | h
    · rw [h] at hemp; cases hemp
    exact h
  have hv : v.abs = u.abs := by rw [hva, hw.2]; simp [Ses.abs, hw.1]
  have h0 : drainN gk u.abs now = (u.abs, []) := by
    cases gk with
    | zero => rfl
    | succ k =>
      rw [drainN, show u.abs.wait = [] by simp [Ses.abs, hw.1]]
      split <;> rfl
  rw [h0, List.append_nil] at hq
  exact ⟨v, A, c, pks, rfl, HS, by rw [drainS, hq, hv], by rw [drainS, hq], hL, HK, PK⟩
end
theorem drain_any (B p : Nat) (s : Ses) (now : Int) (w : World) (hS : SesAt B w p s) (hB : B ≤ w.heap.size) : Calls Tryd.prog 42 #[.pointer (some ⟨p, 0, none⟩), .int .i64 now] w (DrainPost B p s now w) := by
 have HK : Mod [56, 73, 67, 76] [s.im] B w w := .refl _ _ _ _
 refine C.enter Tryd.func42 rfl Tryd.ntmps42 rfl ?_
 intro a0 f0
 have f1 : Fr 32 a0 [(0, .pointer (some ⟨p, 0, none⟩)), (1, .int .i64 now)] := f0
 refine C.sk fun K0 hK0 => ?_
 refine L.ag f1 fun a2 f2 => ?_
 have f3 := f2.pk [0, 1, 4]
 refine wn hK0 (C.sk fun K1 hK1 => ?_)
 refine L.ag f3 fun a4 f4 => ?_
 refine wn hK1 ?_
 have f5 := f4.pk [0, 1, 4, 5]
 refine wp_seq_k fun K2 hK2 => ?_
 refine wp_block ?_
 clear f0 f1 a0 f2 f3 a2 f4
 refine C.loop (fun gk a W => ∃ (u : Ses) (Ao : Option Addr) (co : Nat) (pks : List Pc), SesAt B W p u ∧ s.Like u ∧ 4 < gk + u.fly.length ∧ drainN 5 s.abs now = ((drainN gk u.abs now).1, pks.map (·.p) ++ (drainN gk u.abs now).2) ∧ PkAt B w W Ao co pks ∧ pks.length + gk ≤ 5 ∧ Mod [56, 73, 67, 76] [s.im] B w W ∧ Fr 32 a [(0, .pointer (some ⟨p, 0, none⟩)), (1, .int .i64 now), (5, .slice Ao pks.length co)]) (5) ?_ ?_
 ·exact ⟨s, none, 0, [], hS, ⟨rfl, rfl, rfl⟩, by omega, rfl, PkAt.nil _ _ _, by simp, HK, f5.sub (sx (sx (sx sn)))⟩
 intro gk4 a6 w1 hI KL3 hKL3
 obtain ⟨u, Ao, co, pks, HS, hL, hgk, hq, PK, hpk, HK, f6⟩ := hI
 try clear f5
 have BP := HS.top
 have szw1x := HK.size
 have hu4 := HS.fly.len
 refine wp_seq_k fun K4 hK4 => C.sk fun K5 hK5 => ?_
 refine L.mv f6 fun a7 f7 => ?_
 refine L.va f7 (E.nilCheck f7 rfl) fun a8 f8 => ?_
 refine L.fa 3 f8 U56 rfl wsz54_i fun a9 f9 => ?_
 refine L.va f9 (E.load f9 U54 rfl rfl ((BP).cl rfl)) fun a10 f10 => ?_
 refine L.va f10 (E.lenL f10 U54 rfl) fun a11 f11 => ?_
 refine L.va f11 (E.lss f11 rfl rfl) fun a12 f12 => ?_
 refine wn hK5 ?_
 have f13 := f12.pk [0, 1, 5, 8, 9, 10, 11, 12, 13]
 clear f6 a6 f7 a7 f8 a8 f9 a9 f10 a10 f11 a11 f12
 refine f13.splitD 13 rfl (fun h0 f14 => ?_) (fun h0 f14 => ?_)
 ·have hlt := h0
  refine C.condT f14 rfl ?_
  refine wp_skip (hK4 _ _ ?_)
  have f15 := f14.pk [0, 1, 5, 8, 9, 10, 11, 12, 13]
  refine wp_block ?_
  refine C.sk fun K6 hK6 => ?_
  refine L.mv f15 fun a16 f16 => ?_
  refine L.va f16 (E.nilCheck f16 rfl) fun a17 f17 => ?_
  refine L.fa 4 f17 U56 rfl wsz51_i fun a18 f18 => ?_
  refine L.va f18 (E.load f18 U51 rfl rfl ((BP).cl rfl)) fun a19 f19 => ?_
  refine L.cl f19 (run_call Tryd.call56 (args1 f19 rfl)) (pop_any B u.q u.QA u.qc u.wait u.lost _ HS.qu (by omega)) ?_
  clear f13 f14 f15 a12 f16 a16 f17 a17 f18 a18
  rintro e w2 ⟨kc2, x, Aq, cq, r, rfl, HQ, HX, hor⟩
  obtain ⟨v, HV, hva, hvL, hvf⟩ := HS.popped kc2 HQ
  have HKp := Mod.refl [] [] B w2
  refine ⟨_, rfl, fun a20 f20 => ?_⟩
  have szw2 := kc2.size
  replace HK := HK.step kc2 (by decide) (by simp) (by omega)
  replace BP := BP.mod kc2 (by decide)
  replace PK := PK.mod kc2 (by decide)
  clear f19 a19 kc2
  refine L.mv f20 fun a21 f21 => ?_
  refine L.va f21 (E.extract f21 rfl rfl) fun a22 f22 => ?_
  refine L.va f22 (E.extract f22 rfl rfl) fun a23 f23 => ?_
  refine L.alloc f23 wantedN (by decide) (z := (.agg #[(.string ⟨#[]⟩), (.slice none 0 0), (.int .i64 0), (.bool false)])) (fun _ => by kernel_rfl) rfl fun a24 w3 g2 N2 f24 => ?_
  have Bg2 := N2.blk
  have kg2 := N2.kept
  have log2 := N2.lo
  have ltg2 := Bg2.lt
  have szw3 := kg2.size
  have frg2 : w.heap.size ≤ g2 := Nat.le_trans HK.size log2
  have nep_g2 : p ≠ g2 := by have := BP.lt; omega
  replace HK := HK.trans (.of_kept0 kg2)
  replace BP := BP.z kg2
  replace PK := PK.mod (Mod.of_kept0 (T := []) (M := []) (B := B) kg2) (by decide)
  replace HKp := HKp.trans (.of_kept0 kg2)
  replace HX := HX.mod (Mod.of_kept0 (T := []) (M := []) (B := B) kg2) (by decide)
  clear f20 a20 f21 a21 f22 a22 N2 kg2
  refine L.storeR f24 wantedN wsz38_i rfl rfl rfl Bg2 rfl rfl fun a25 w4 f25 NB4 ks4 => ?_
  have szw4 := ks4.size
  replace HK := HK.kept_new ks4 (by simp; omega)
  replace BP := BP.kept ks4 (by simp; omega)
  replace PK := PK.mod (Mod.of_blk1 (M := []) (B := B) ks4 Bg2 (by omega)) (by decide)
  replace HKp := HKp.kept_new ks4 (by simp; omega)
  replace HX := HX.mod (Mod.of_blk1 (M := []) (B := B) ks4 Bg2 (by omega)) (by decide)
  replace Bg2 := NB4
  clear f23 a23 ks4 f24 a24
  refine L.ag f25 fun a26 f26 => ?_
  refine wn hK6 ?_
  have f27 := f26.pk [0, 1, 5, 6, 7, 8, 9, 10, 11, 12, 13, 14, 15, 16, 17, 18, 19, 20, 21]
  refine wp_seq_k fun K7 hK7 => C.sk fun K8 hK8 => ?_
  refine L.mv f27 fun a28 f28 => ?_
  refine L.va f28 (E.not f28 rfl) fun a29 f29 => ?_
  refine wn hK8 ?_
  have f30 := f29.pk [0, 1, 5, 6, 7, 8, 9, 10, 11, 12, 13, 14, 15, 16, 17, 18, 19, 20, 21, 22, 23]
  clear f25 a25 f26 f27 a26 f28 a28 f29
  refine f30.splitNB 23 rfl (fun h1 f31 => ?_) (fun h1 f31 => ?_)
  ·have hemp := h1
   refine C.condT f31 rfl ?_
   refine wp_exit (hK2 _ _ ?_)
   have f32 := f31.pk [5]
   refine C.sk fun K9 hK9 => ?_
   refine L.mv f32 fun a33 f33 => ?_
   refine L.ag f33 fun a34 f34 => ?_
   have f35 := f34.pk [4]
   refine wn hK9 (wp_ret ?_); (try simp only [xt, xb]); refine C.ret f35 rfl rfl ?_
   exact drain_b hS (HV.mod HKp (by simp)) (hL.trans hvL) hva hemp hor hq PK HK
  have hnon := h1
  have hwt := pop_got hnon hor
  refine C.condF f31 rfl ?_
  refine wp_skip (hK7 _ _ ?_)
  have f32 := f31.pk [0, 1, 5, 6, 7, 8, 9, 10, 11, 12, 13, 14, 15, 16, 17, 18, 19, 20, 21, 22, 23]
  refine C.region ?_
  refine L.mv f32 fun a33 f33 => ?_
  refine L.mv f33 fun a34 f34 => ?_
  refine L.va f34 (E.loadB f34 U38 rfl wsz38_i rfl (Bg2) rfl) fun a35 f35 => ?_
  refine L.mv f35 fun a36 f36 => ?_
  refine L.cl f36 (run_call Tryd.call23 (args3 f36 rfl rfl rfl)) (rise_any B p v x.m x.A x.c now _ (HV.mod HKp (by simp)) HX (by omega) (by rw [hvf]; omega)) ?_
  clear f30 f31 f32 a29 f33 a33 f34 a34 f35 a35
  rintro e w5 ⟨u2, Ap, cp, rfl, HS2, hab, hL2, kc5, HR⟩
  replace kc5 : Mod [56, 73, 67] [v.im] B _ _ := kc5
  rw [hvL.im, hL.im] at kc5
  refine ⟨_, rfl, fun a37 f37 => ?_⟩
  have szw5 := kc5.size
  replace HK := HK.step kc5 (by decide) (by simp) (by omega)
  replace PK := PK.mod kc5 (by decide)
  replace Bg2 := Bg2.mod kc5 (by decide)
  clear f36 a36 kc5
  refine L.buildSlice f37 wantedN (by decide) (parts1 f37 rfl) U35 wzj35 rfl rfl (wpk1 _) fun a38 w6 g5 N5 f38 => ?_
  have Bg5 := N5.blk
  have kg5 := N5.kept
  have log5 := N5.lo
  have ltg5 := Bg5.lt
  have szw6 := kg5.size
  have frg5 : w.heap.size ≤ g5 := Nat.le_trans HK.size log5
  have neg2_g5 : g2 ≠ g5 := by have := Bg2.lt; omega
  replace HK := HK.trans (.of_kept0 kg5)
  replace PK := PK.mod (Mod.of_kept0 (T := []) (M := []) (B := B) kg5) (by decide)
  replace Bg2 := Bg2.z kg5
  replace HS2 := HS2.mod (Mod.of_kept0 (T := []) (M := []) (B := B) kg5) (by decide)
  replace HR := HR.mod (Mod.of_kept0 (T := []) (M := []) (B := B) kg5) (by decide)
  clear N5 kg5
  refine L.append f38 wantedN (by decide) U35 wzib44_i rfl rfl rfl rfl (PK.fr.own) ((show Sl _ _ 1 24 (pcell ⟨riseP v.abs x.m, Ap, cp⟩) from sl_blk Bg5 rfl)) (pcell_one _) (by unfold maxLen; omega) (by omega) fun a39 w7 A2 c2 AP7 f39 => ?_
  have kap7 : Mod [44] [] B w6 w7 := .of_app AP7 PK.fr.own (fun a ha => Nat.le_trans hB (PK.fr.from a ha)) (by simp)
  have PK2 := PK.push (x := ⟨riseP v.abs x.m, Ap, cp⟩) AP7 HK.size hB HR
  replace HK := HK.app_new AP7 PK.fr
  have szw7 := kap7.size
  replace Bg2 := Bg2.mod kap7 (by decide)
  replace HS2 := HS2.mod kap7 (by decide)
  clear f37 a37 f38 a38 kap7
  refine L.ag f39 fun a40 f40 => ?_
  clear f39 a39
  refine wpList_nil (hKL3 _ _ (gk4 - 1) ?_ ?_)
  ·omega
  exact ⟨u2, A2, c2, pks ++ [⟨riseP v.abs x.m, Ap, cp⟩], HS2, (hL.trans hvL).trans hL2, drain_more hab hva hgk, by rw [hq]; exact drain_next hab hva hwt hgk (by omega) pks, by simpa using PK2, by simp; omega, HK, by simpa using f40.sub (sx (sx (sx sn)))⟩
 have hge := h0
 refine C.condF f14 rfl ?_
 refine wp_exit (hK2 _ _ ?_)
 have f15 := f14.pk [5]
 refine C.sk fun K10 hK10 => ?_
 refine L.mv f15 fun a16 f16 => ?_
 refine L.ag f16 fun a17 f17 => ?_
 have f18 := f17.pk [4]
 refine wn hK10 (wp_ret ?_); (try simp only [xt, xb]); refine C.ret f18 rfl rfl ?_
 exact drain_a hS HS hL hq PK HK (by omega)
end Go.Proofs.YtdfllmiokgoekaaDoor
namespace Go.Proofs.YtdfllmiokgoekaaDoor
open Go.RowKit Go.Hub
theorem wsz3_j : (Tryd.prog.info? 3).map (·.size) = some 1 := by kernel_rfl
theorem wsz49_j : (Tryd.prog.info? 49).map (·.size) = some 1 := by kernel_rfl
theorem wsz54_j : (Tryd.prog.info? 54).map (·.size) = some 1 := by kernel_rfl
theorem wsz67_j : (Tryd.prog.info? 67).map (·.size) = some 7 := by kernel_rfl
theorem far_map {w : World} {e : TypeId} {size n c im : Nat} {A : Option Addr} {xs : List Value} (h : Own w e size (.slice A n c) n xs) (hm : MapB w im) : Far A [im] := fun a ha hx => by
  obtain ⟨_, cs, h2⟩ := h.blk a.block (by rw [ha]; rfl)
  simp only [List.mem_singleton] at hx
  rw [hx] at h2
  exact (Typ.not_map (T := [e]) ⟨cs, e, _, h2, by simp⟩) hm
theorem fly_cell {w : World} {A : Option Addr} {l : List Fc} {b off i o : Nat} {f : Fc} (SL : Sl w A l.length 7 (l.flatMap fcell)) (hA : A = some ⟨b, off, none⟩) (hf : l[i]? = some f) (j : Nat) {v : Value} (hv : (fcell f)[j]? = some v) (ho : o = off + i * 7 + j) : w.cell? ⟨b, o, none⟩ = some v := by
  subst ho
  have h := (List.getElem?_eq_some_iff.1 hf).1
  rw [Nat.add_assoc]
  exact SL.cell (by omega) hA (flat_at fcell 7 (fun _ => rfl) l i f hf j v hv)
theorem del_A (B : Nat) (A : Option Addr) (c i : Nat) (l : List Fc) (w : World) (O : Own w 67 7 (.slice A l.length c) l.length (l.flatMap fcell)) (hi : i < l.length) (hB : ∀ a, A = some a → B ≤ a.block) :
    Calls Tryd.prog 41 #[.slice A l.length c, .int .i64 i, .int .i64 (i + 1)] w fun e w' => e = .returned (.slice A (l.eraseIdx i).length c) ∧ Own w' 67 7 (.slice A (l.eraseIdx i).length c) (l.eraseIdx i).length ((l.eraseIdx i).flatMap fcell) ∧ Mod [67] [] B w w' := by
  obtain ⟨b, off, hA⟩ := (Sl.of_own O).addr (by omega)
  subst hA
  have h1 : ∀ u ∈ l.flatMap fcell, u.oneCell' = true := fun u hu => by
    obtain ⟨f, _, hu⟩ := List.mem_flatMap.1 hu
    simp only [fcell, List.mem_cons, List.not_mem_nil, or_false] at hu
    rcases hu with rfl | rfl | rfl | rfl | rfl | rfl | rfl <;> rfl
  refine (del_any b off l.length c i _ w O h1 hi).mono ?_
  rintro e w' ⟨rfl, h2, h3⟩
  have hl : (l.eraseIdx i).length = l.length - 1 := List.length_eraseIdx_of_lt hi
  have hx : (l.eraseIdx i).flatMap fcell = (l.flatMap fcell).take (i * 7) ++ (l.flatMap fcell).drop ((i + 1) * 7) := by
    rw [List.eraseIdx_eq_take_drop_succ, List.flatMap_append, flat_take fcell 7 (fun _ => rfl) l i, flat_drop fcell 7 (fun _ => rfl) l (i + 1)]
  rw [hl, hx]
  exact ⟨rfl, h2, .of_own1 rfl h3 O hB (by simp)⟩
theorem erase_perm {α : Type} {l : List α} {i : Nat} (h : i < l.length) : l.Perm (l[i] :: l.eraseIdx i) := by
  rw [List.eraseIdx_eq_take_drop_succ]
  have h1 : l = l.take i ++ l[i] :: l.drop (i + 1) := by rw [← List.drop_eq_getElem_cons h, List.take_append_drop]
  exact (List.Perm.of_eq h1).trans List.perm_middle
theorem erase_map {α β : Type} (f : α → β) (l : List α) (i : Nat) : (l.eraseIdx i).map f = (l.map f).eraseIdx i := by
  rw [List.eraseIdx_eq_take_drop_succ, List.eraseIdx_eq_take_drop_succ, List.map_append, List.map_take, List.map_drop]
theorem done_ses {B p i : Nat} {s : Ses} {f : Fc} {w W : World} (hS : SesAt B w p s) (hf : s.fly[i]? = some f) (HK : Mod [56, 73, 67] [s.im] B w W)
    (BP : Blk W p 56 #[.string s.cl, s.sv, .pointer (some ⟨s.ip, 0, none⟩), .slice s.FA (s.fly.eraseIdx i).length s.fc, .pointer (some ⟨s.q, 0, none⟩), .map (some s.gm)]) (IDN : IdsAt W s.ip s.im (s.used.erase f.id) 65535 s.taken)
    (RX : Own W 67 7 (.slice s.FA (s.fly.eraseIdx i).length s.fc) (s.fly.eraseIdx i).length ((s.fly.eraseIdx i).flatMap fcell)) : SesAt B W p { s with used := s.used.erase f.id, fly := s.fly.eraseIdx i } := by
  have hi := (List.getElem?_eq_some_iff.1 hf).1
  have hsub : ∀ g ∈ s.fly.eraseIdx i, g ∈ s.fly := fun g hg => List.mem_of_mem_eraseIdx hg
  refine ⟨BP, hS.one, IDN, hS.qu.mod HK (by decide), ⟨RX, fun g hg => (hS.fly.pay g (hsub g hg)).mod HK (by decide), hS.fly.loA, ?_⟩, hS.got.mod HK (by simpa using Ne.symm hS.ne), hS.ne, hS.lop, hS.loi, hS.lom, hS.log, hS.tk, ?_, fun g hg => hS.ats g (hsub g hg), fun g hg => hS.idb g (hsub g hg)⟩
  · have := hS.fly.len
    show (s.fly.eraseIdx i).length ≤ 4
    rw [List.length_eraseIdx_of_lt hi]
    omega
  show (s.used.erase f.id).Perm ((s.fly.eraseIdx i).map (·.id))
  have h1 : (s.fly.map (·.id)).Perm (f.id :: (s.fly.eraseIdx i).map (·.id)) := by
    obtain ⟨h2, h3⟩ := List.getElem?_eq_some_iff.1 hf
    have h4 : s.fly.Perm (s.fly[i] :: s.fly.eraseIdx i) := erase_perm h2
    rw [h3] at h4
    exact h4.map (·.id)
  have h5 := ((hS.perm.trans h1).erase f.id)
  simpa using h5
theorem done_abs {s : Ses} {i : Nat} {f : Fc} {now : Int} (hf : s.fly[i]? = some f) : drainS (Ses.abs { s with used := s.used.erase f.id, fly := s.fly.eraseIdx i }) now = doneS s.abs i f.id now := by
  unfold doneS Ses.abs
  simp [erase_map]
def DonePost (B p : Nat) (s : Ses) (i : Nat) (id now : Int) (w : World) (e : Ending) (w' : World) : Prop :=
  ∃ s' A c pks, e = .returned (.slice A pks.length c) ∧ SesAt B w' p s' ∧ s'.abs = (doneS s.abs i id now).1 ∧ pks.map (·.p) = (doneS s.abs i id now).2 ∧ s.Like s' ∧ Mod [56, 73, 67, 76] [s.im] B w w' ∧ PkAt B w w' A c pks
theorem done_any (B p : Nat) (s : Ses) (i : Nat) (f : Fc) (now : Int) (w : World) (hS : SesAt B w p s) (hf : s.fly[i]? = some f) (hB : B ≤ w.heap.size) : Calls Tryd.prog 27 #[.pointer (some ⟨p, 0, none⟩), .int .i64 i, .int .i64 now] w (DonePost B p s i f.id now w) := by
 have HK : Mod [56, 73, 67, 76] [s.im] B w w := .refl _ _ _ _
 have HK1 : Mod [56, 73, 67] [s.im] B w w := .refl _ _ _ _
 have BP := hS.top
 have OWN := hS.fly.own
 have ID := hS.ids
 have SLF := Sl.of_own hS.fly.own
 have hi4 : i < s.fly.length := (List.getElem?_eq_some_iff.1 hf).1
 have hl4 := hS.fly.len
 obtain ⟨b, off, hA⟩ := SLF.addr (by omega)
 have hmap := hS.ids.set.map
 have hpim : p ≠ s.im := fun h => hS.top.not_map (h ▸ hmap)
 have hfar : Far s.FA [s.im] := far_map hS.fly.own hmap
 have hidb := hS.idb f (List.mem_of_getElem? hf)
 refine C.enter Tryd.func27 rfl Tryd.ntmps27 rfl ?_
 intro a0 f0
 have f1 : Fr 34 a0 [(0, .pointer (some ⟨p, 0, none⟩)), (1, .int .i64 i), (2, .int .i64 now)] := f0
 refine C.sk fun K0 hK0 => ?_
 refine L.ag f1 fun a2 f2 => ?_
 refine wn hK0 ?_
 have f3 := f2.pk [0, 1, 2, 6]
 refine wp_seq_k fun K1 hK1 => ?_
 refine R.begin (S := fun W => Kept [s.im] w W) (by kernel_rfl) (by exact (Kept.refl _ _).drewN 1) ?_
 have hS1 : Kept [s.im] w (w.drewN 1) := (Kept.refl _ _).drewN 1
 have hd1 : Kept [] w (w.drewN 1) := (Kept.refl _ _).drewN 1
 obtain ⟨w1, hww1⟩ : ∃ W, W = w.drewN 1 := ⟨_, rfl⟩
 rw [← hww1] at hS1 hd1 ⊢
 clear f0 f1 a0 f2 hww1
 have szw1 := hS1.size
 replace ID := ID.kept hd1 (by simp) (by simp)
 refine R.mv 0 f3 rfl hS1 fun a4 f4 => ?_
 refine R.t 1 f4 rfl hS1 (fun W hW => (E.nilCheck f4 rfl)) fun a5 f5 => ?_
 refine R.t 2 f5 rfl hS1 (fun W hW => (E.fa 2 f5 U56 rfl wsz49_j)) fun a6 f6 => ?_
 refine R.t 3 f6 rfl hS1 (fun W hW => (E.load f6 U49 rfl rfl ((BP.kept hW (by simpa using hpim)).cl rfl))) fun a7 f7 => ?_
 refine R.mv 4 f7 rfl hS1 fun a8 f8 => ?_
 refine R.t 5 f8 rfl hS1 (fun W hW => (E.nilCheck f8 rfl)) fun a9 f9 => ?_
 refine R.t 6 f9 rfl hS1 (fun W hW => (E.fa 3 f9 U56 rfl wsz54_j)) fun a10 f10 => ?_
 clear f3 a2 f4 a4 f5 a5 f6 a6 f7 a7 f8 a8 f9 a9
 refine R.t 7 f10 rfl hS1 (fun W hW => (E.load f10 U54 rfl rfl ((BP.kept hW (by simpa using hpim)).cl rfl))) fun a11 f11 => ?_
 refine R.mv 8 f11 rfl hS1 fun a12 f12 => ?_
 refine R.t 9 f12 rfl hS1 (fun W hW => (E.indexA f12 (by assumption) U54 wsz67_j rfl rfl (by omega) (by omega))) fun a13 f13 => ?_
 refine R.t 10 f13 rfl hS1 (fun W hW => (E.fa 4 f13 U67 rfl wsz3_j)) fun a14 f14 => ?_
 refine R.t 11 f14 rfl hS1 (fun W hW => (E.load f14 U3 rfl rfl (fly_cell (SLF.keptF hW hfar) hA hf 4 rfl (show off + i * 7 + 4 = _ by omega)))) fun a15 f15 => ?_
 refine R.call 12 f15 rfl rfl (by decide) (by kernel_rfl) wantedN (run_call Tryd.call40 (args2 f15 rfl rfl)) (idsFree_any s.ip s.im s.used 65535 s.taken f.id _ ID (wf64 (by omega))) ?_
 clear f10 a10 f11 a11 f12 a12 f13 a13 f14 a14
 rintro e w2 ⟨rfl, kc2, IDN⟩
 replace hS1 := hS1.trans kc2 (by simp)
 refine ⟨_, rfl, hS1, fun a16 f16 => ?_⟩
 have szw2 := kc2.size
 clear f15 a15 kc2
 have szw2r := hS1.size
 have KM : Mod [] [s.im] B w w2 := Mod.of_kept hS1 (fun x hx _ => by obtain rfl := List.mem_singleton.1 hx; exact ⟨hS.lom, .inr ⟨hmap, by simp⟩⟩)
 replace HK := HK.step KM (by decide) (by simp) (by omega)
 replace HK1 := HK1.step KM (by decide) (by simp) (by omega)
 replace BP := BP.kept hS1 (by simpa using hpim)
 replace OWN := OWN.mod KM (by decide)
 clear hS1
 refine R.done (by kernel_rfl) (hK1 _ _ ?_)
 have f17 := f16.pk [0, 1, 2, 6]
 refine C.sk fun K2 hK2 => ?_
 refine L.mv f17 fun a18 f18 => ?_
 refine L.mv f18 fun a19 f19 => ?_
 refine L.va f19 (E.nilCheck f19 rfl) fun a20 f20 => ?_
 refine L.fa 3 f20 U56 rfl wsz54_j fun a21 f21 => ?_
 refine L.va f21 (E.load f21 U54 rfl rfl ((BP).cl rfl)) fun a22 f22 => ?_
 refine L.mv f22 fun a23 f23 => ?_
 refine L.mv f23 fun a24 f24 => ?_
 clear f16 f17 a16 f18 a18 f19 a19 f20 a20 f21 a21 f22 a22 f23 a23
 refine L.va f24 (E.add f24 rfl rfl (IntWalk.i64_in _ (by omega))) fun a25 f25 => ?_
 refine L.cl f25 (run_call Tryd.call41 (args3 f25 rfl rfl rfl)) (del_A B s.FA s.fc i s.fly _ OWN hi4 hS.fly.loA) ?_
 clear f24 a24
 rintro e w3 ⟨rfl, RX, kc3⟩
 refine ⟨_, rfl, fun a26 f26 => ?_⟩
 have szw3 := kc3.size
 replace HK := HK.step kc3 (by decide) (by simp) (by omega)
 replace HK1 := HK1.step kc3 (by decide) (by simp) (by omega)
 replace BP := BP.mod kc3 (by decide)
 replace IDN := IDN.mod kc3 (by decide) (by simp)
 clear f25 a25 kc3
 refine L.va f26 (E.nilCheck f26 rfl) fun a27 f27 => ?_
 refine L.fa 3 f27 U56 rfl wsz54_j fun a28 f28 => ?_
 refine L.store f28 wantedN wsz54_j rfl rfl rfl BP (by (simp [Value.cells]; done)) fun a29 w4 f29 NB4 ks4 => ?_
 have szw4 := ks4.size
 have KM := (Mod.of_blk (T := [56]) (M := []) (B := B) ks4 BP hS.lop (by simp))
 replace HK := HK.step KM (by decide) (by simp) (by omega)
 replace HK1 := HK1.step KM (by decide) (by simp) (by omega)
 replace IDN := IDN.mod KM (by decide) (by simp)
 replace RX := RX.mod KM (by decide)
 replace BP := NB4
 simp only [Value.cells, List.setIfInBounds_toArray, List.set_cons_zero, List.set_cons_succ, Nat.reduceAdd, Nat.zero_add] at BP
 clear f26 a26 f27 a27 ks4 f28 a28
 have f30 := f29.pk [0, 2, 6]
 refine wn hK2 (C.sk fun K3 hK3 => ?_)
 refine L.mv f30 fun a31 f31 => ?_
 refine L.mv f31 fun a32 f32 => ?_
 have HD := done_ses hS hf HK1 BP IDN RX
 refine L.cl f32 (run_call Tryd.call42 (args2 f32 rfl rfl)) (drain_any B p _ now _ HD (by omega)) ?_
 clear f29 f30 a29 f31 a31
 rintro e w5 ⟨s2, A2, c2, pks, rfl, HS2, hab, hpp, hL2, kc5, PK⟩
 replace kc5 : Mod [56, 73, 67, 76] [s.im] B _ _ := kc5
 refine ⟨_, rfl, fun a33 f33 => ?_⟩
 have szw5 := kc5.size
 replace HK := HK.step kc5 (by decide) (by simp) (by omega)
 clear f32 a32 kc5
 refine L.ag f33 fun a34 f34 => ?_
 have f35 := f34.pk [6]
 refine wn hK3 (wp_ret ?_); (try simp only [xt, xb]); refine C.ret f35 rfl rfl ?_
 exact ⟨s2, A2, c2, pks, rfl, HS2, by rw [hab, done_abs hf], by rw [hpp, done_abs hf], ⟨hL2.im, hL2.gm, hL2.cl⟩, HK, PK.lower (by omega)⟩
end Go.Proofs.YtdfllmiokgoekaaDoor
