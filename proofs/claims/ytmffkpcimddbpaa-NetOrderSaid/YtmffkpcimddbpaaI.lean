/- NetOrder: the walk. -/
import Derived.Test.YtmffkpcimddbpaaH
import Derived.Test.YtmffkpcimddbpaaLits
import Derived.Test.YtmffkpcimddbpaaArgs
set_option linter.all false
namespace Go.Proofs.Ytmffkpcimddbpaa
open Go.RowKit Go.Hub

def fl (k : Nat) : F := ⟨0, 1, [UInt8.ofNat k]⟩
def nums (L : List Nat) : List Value := L.map fun k : Nat => .int .i64 (k : Int)
/-- the net holds the flights L, the law's own row their numbers -/
def St (B : Nat) (w wr : World) (b : Nat) (L : List Nat) (v lv : Value) : Prop :=
  IsN B wr b v 0 (L.map fl) ∧ Own wr 3 1 lv L.length (nums L) ∧ (∀ k, lv.ownBlock = some k → B ≤ k) ∧ Same [5] B w wr
theorem nums_one (L : List Nat) : ∀ u ∈ nums L, u.oneCell' = true := fun u hu => by
  unfold nums at hu
  simp at hu
  obtain ⟨x, _, rfl⟩ := hu
  rfl
theorem apart_left {B b n : Nat} {v lv : Value} {mask : Int} {ms : List F} {w : World} {xs : List Value} (hN : IsN B w b v mask ms) (ho : Own w 3 1 lv n xs) : ∀ k, lv.ownBlock = some k → k ∉ b :: v.ownBlock.toList := by
  intro k hk hx
  obtain ⟨hb, _, _, ys, hr, _⟩ := hN
  obtain ⟨_, cs, hcs⟩ := ho.blk k hk
  simp at hx
  rcases hx with rfl | hx
  · exact row_ne_struct (t := 44) hcs hb (by decide) rfl
  · obtain ⟨_, cs', hcs'⟩ := hr.blk k hx
    rw [hcs] at hcs'
    injection hcs' with h1
    injection h1 with _ h2
    revert h2; decide
theorem info3 : (Try.prog.info? 3).map (fun i => (i.zero, i.size, i.bytes)) = some (some (.int .i64 0), 1, 8) := by kernel_rfl

set_option maxRecDepth 100000 in
set_option maxHeartbeats 4000000 in
theorem order_any (n : Int) (A : Option Addr) (c : Nat) (l : List UInt8) (w : World) (hn : 0 ≤ n ∧ n ≤ 255) (hm : l.length ≤ maxLen) (h : Bs [5] w.heap.size w A l.length l) :
    Calls Try.prog 4 #[.int .u8 n, .slice A l.length c] w fun e w' => e = .returned (.bool true) ∧ Below w.heap.size w w' := by
  obtain ⟨i0, hi0, hz0, hz1, hz2⟩ := info_parts info3
  have HH := hid h
  clear h
  go_enter Try.func4, Try.ntmps4
  go_wp2_with fail
  refine (known_any w).mono ?_
  rintro e w1 ⟨rfl, hb1⟩
  by_cases hl : l.length ≤ 40
  · have hl2 : decide ((40 : Int) < (l.length : Int)) = false := by simp; omega
    have hl3 : ¬ ((40 : Int) < (l.length : Int)) := by omega
    go_wp2_with fail
    refine (new_any w.heap.size w1 hb1.size).mono ?_
    rintro e w2 ⟨rfl, q2, b2⟩
    obtain ⟨b, hb⟩ : ∃ b, b = w1.heap.size := ⟨_, rfl⟩
    rw [← hb] at q2 ⊢
    obtain ⟨many, hmany, hm30⟩ : ∃ k : Nat, n % 30 = k ∧ k < 30 := ⟨(n % 30).toNat, by omega, by omega⟩
    have HS := hid (And.intro q2 ((Same.of_below (E := [5]) (B := w.heap.size) hb1).trans (.of_below b2)))
    clear q2 b2 hb1 hb
    go_wp2_with fail
    rw [hmany]
    clear hmany hn
    go_loopg [7, 8] many (fun g lv iv wr => ∃ (i : Nat) (v : Value), i + g = many ∧ iv = .int .i64 i ∧ St w.heap.size w wr b (List.range i) v lv)
    case atStart => exact ⟨0, _, by omega, rfl, HS.out.1, (Own.nil w2 3 1 : Own w2 3 1 (.slice none 0 0) 0 []), by simp [Value.ownBlock], HS.out.2⟩
    case round =>
      obtain ⟨i, v, hi, rfl, hst⟩ := hrel
      obtain ⟨ko, rfl⟩ : ∃ ko : Nat, ko = gk := ⟨_, rfl⟩
      obtain ⟨wo, rfl⟩ : ∃ wo : World, wo = wr := ⟨_, rfl⟩
      clear HS
      obtain ⟨lA, lc, rfl, hlc1, hlc2⟩ := hst.2.1.form
      have hrl : (List.range i).length = i := by simp
      rw [hrl] at hst hlc1 ⊢
      by_cases hlt : i < many
      · have hi2 : (i : Int) < (many : Int) := by omega
        have hw8 : IntKind.u8.wrap (i : Int) = (i : Int) := by rw [IntKind.wrap_u8]; omega
        have HI := hid hi
        have HT := hid hst
        clear hi hst
        go_wp2_with fail
        have hst := HT.out
        have SA : Same [5] w.heap.size wo (wo.alloc (.cells #[.int .u8 i] 5)) := (Same.refl _ _ _).alloc _
        have bA : Below wo.heap.size wo (wo.alloc (.cells #[.int .u8 i] 5)) := (Below.refl _ _).alloc (Nat.le_refl _) _
        have hszo : w.heap.size ≤ wo.heap.size := hst.2.2.2.size
        have hbs : Bs [5] w.heap.size (wo.alloc (.cells #[.int .u8 i] 5)) (some ⟨wo.heap.size, 0, none⟩) (fl i).b.length (fl i).b := bs_new w.heap.size wo [(i : Int)] (by simp; omega) (0, 0)
        have hown := hst.2.1.kept (Kept.of_below bA []) (by simp)
        rw [hrl] at hown
        have hap := apart_left (hst.1.old bA) hown
        refine (send_any w.heap.size b v 0 ((List.range i).map fl) (some ⟨wo.heap.size, 0, none⟩) 1 (fl i) _ (hst.1.old bA) hbs (by simp [fl]) (by simp; omega) (by simp; omega)).mono ?_
        rintro e w3 ⟨rfl, v3, q3, k3, s3, a3⟩
        have ho3 := (hown.kept k3 hap).alloc (.cells #[.int .i64 i] 3)
        have q3' := q3.old ((Below.refl w3.heap.size w3).alloc (Nat.le_refl _) (.cells #[.int .i64 i] 3))
        have S3 : Same [5] w.heap.size w (w3.alloc (.cells #[.int .i64 i] 3)) := ((hst.2.2.2.trans SA).trans s3).alloc _
        have hlb := hst.2.2.1
        have r1 := Rds.boxed w3 #[.int .i64 i] 3 1 rfl
        have h63 : i + 1 ≤ maxLen := by unfold maxLen; omega
        have hby : (i + 1) * 8 ≤ 140737488355328 := by omega
        have HQ := hid (And.intro q3' (And.intro S3 hlb))
        clear hst SA bA hszo hbs hown hap k3 s3 a3 q3 q3' S3 hlb
        go_wp2_with (first
          | (at_builtin
             refine wpList_append_own' _ rfl (.tmp 35) (.tmp 37) _ rfl 3 i0 _ 1 8 Try.underlying41 hi0 hz0 hz1 hz2 rfl (by omega) (.slice lA i lc) i _ rfl ho3 _ _ _ _ _ rfl r1 (by simp [Value.oneCell']) h63 hby ?_
             intro v4 w4 o4 k4 a4
             obtain ⟨A4, c4, hv4, _, _⟩ := o4.form
             subst hv4))
        have F : St w.heap.size w w4 b (List.range (i + 1)) v3 (.slice A4 (i + 1) c4) := by
          obtain ⟨q3', S3, hlb⟩ := HQ.out
          have hx : ∀ x ∈ (Value.slice lA i lc).ownBlock.toList, x < (w3.alloc (.cells #[.int .i64 i] 3)).heap.size → w.heap.size ≤ x ∧ ¬ Typ (w3.alloc (.cells #[.int .i64 i] 3)) x [5] := fun x hx _ => by
            have hx' : (Value.slice lA i lc).ownBlock = some x := by simpa using hx
            obtain ⟨_, cs, hcs⟩ := ho3.blk x hx'
            exact ⟨hlb x hx', not_typ_of hcs (by decide)⟩
          have s4 : Same [5] w.heap.size (w3.alloc (.cells #[.int .i64 i] 3)) w4 := .of_kept k4 hx
          have hap := apart_left q3' ho3
          have q4 := q3'.kept k4 s4 (fun x hx hy => hap x (by simpa using hy) hx)
          refine ⟨?_, ?_, fun k hk => ?_, S3.trans s4⟩
          · rw [show (List.range (i + 1)).map fl = (List.range i).map fl ++ [fl i] from by rw [List.range_succ]; simp]
            exact q4
          · rw [show (List.range (i + 1)).length = i + 1 from by simp, show nums (List.range (i + 1)) = nums (List.range i) ++ [.int .i64 i] from by unfold nums; rw [List.range_succ]; simp]
            exact o4
          · rcases a4 k hk with h | h
            · exact hlb k h
            · have := S3.size; omega
        have HF := hid F
        clear F o4 k4 a4 ho3 HQ
        go_wp2
        go_roundg (ko - 1)
        case measure => have := HI.out; omega
        case rel => exact ⟨i + 1, v3, by have := HI.out; omega, by go_num, HF.out⟩
      · have hi2 : ¬ (i : Int) < (many : Int) := by omega
        obtain rfl : i = many := by omega
        have HT := hid hst
        clear hi hst
        go_wp2_with fail
        go_loopg [7, 9] l.length (fun g lv iv wr => ∃ (t : Nat) (L : List Nat) (v : Value), t + g = l.length ∧ iv = .int .i64 t ∧ L.length ≤ 30 ∧ (∀ x ∈ L, x < 30) ∧ St w.heap.size w wr b L v lv)
        case atStart => exact ⟨0, List.range i, v, by omega, rfl, by simp; omega, fun x hx => by simp at hx; omega, HT.out⟩
        case round =>
          clear HT hi2 hlt hlc1 hrl hm30
          obtain ⟨t, L, v, hi, rfl, hL1, hL2, hst⟩ := hrel
          obtain ⟨ko, rfl⟩ : ∃ ko : Nat, ko = gk := ⟨_, rfl⟩
          obtain ⟨wo, rfl⟩ : ∃ wo : World, wo = wr := ⟨_, rfl⟩
          obtain ⟨lA, lc, rfl, hlc1, hlc2⟩ := hst.2.1.form
          by_cases hlt : t < l.length
          · have ht2 : (t : Int) < (l.length : Int) := by omega
            by_cases hne : 0 < L.length
            · have hne2 : (0 : Int) < (L.length : Int) := by omega
              obtain ⟨x, hx⟩ : ∃ x, l[t]? = some x := ⟨l[t], by simp [hlt]⟩
              obtain ⟨g1, off1, rfl, _, _, hc1⟩ := (HH.out.same hst.2.2.2).2 (by omega)
              have hcx := hc1 t x hx
              obtain ⟨z, hz⟩ : ∃ z : Int, z = (x.toNat : Int) := ⟨_, rfl⟩
              unfold u8 at hcx
              rw [← hz] at hcx
              have hzb : 0 ≤ z ∧ z < 256 := by have := x.toNat_lt; omega
              obtain ⟨k, hk, hkl⟩ : ∃ k : Nat, z % (L.length : Int) = k ∧ k < L.length := by
                have h1 := Int.emod_nonneg z (show (L.length : Int) ≠ 0 by omega)
                have h2 := Int.emod_lt_of_pos z hne2
                exact ⟨(z % (L.length : Int)).toNat, by omega, by omega⟩
              obtain ⟨y, hy⟩ : ∃ y, L[k]? = some y := ⟨L[k], by simp [hkl]⟩
              have hy30 := hL2 y (List.mem_of_getElem? hy)
              have HI := hid (And.intro hi (And.intro hL1 hL2))
              have HT := hid hst
              clear hi hst hc1 hL1 hL2 hx hz
              go_wp2_with fail
              refine (arrive_in w.heap.size b v 0 (L.map fl) k (fl y) wo HT.out.1 (by simp [hy]) HT.out.2.2.2.size (by simp [fl]) (by have := HI.out.2.1; simp; omega)).mono ?_
              rintro e w3 ⟨⟨A3, c3, rfl, h3⟩, v3, q3, k3, s3, a3⟩
              rw [show (sideL 0 (fl y).f == sideL 0 (fl y).t) = true from by simp only [fl]; decide +kernel]
              have ho3 := HT.out.2.1.kept k3 (apart_left HT.out.1 HT.out.2.1)
              obtain ⟨W, hW⟩ : ∃ W, W = w3.alloc (.cells #[.int .i64 (fl y).f, .int .i64 (fl y).t, .slice A3 (fl y).b.length c3] 33) := ⟨_, rfl⟩
              have bW : Below w3.heap.size w3 W := by rw [hW]; exact (Below.refl _ _).alloc (Nat.le_refl _) _
              have xW : Blk W w3.heap.size 33 #[.int .i64 (fl y).f, .int .i64 (fl y).t, .slice A3 (fl y).b.length c3] := by rw [hW]; exact Blk.new _ _ _
              go_wp2_with fail
              rw [← hW]
              clear hW
              have hoW := ho3.kept (Kept.of_below bW []) (by simp)
              have qW := q3.old bW
              have SW : Same [5] w.heap.size w W := (HT.out.2.2.2.trans s3).trans (.of_below bW)
              have hblk := HT.out.2.2.1
              obtain ⟨g7, off7, rfl, _, _, hc7⟩ := (h3.same (.of_below bW)).2 (by simp [fl])
              have u7 : W.cell? ⟨g7, off7, none⟩ = some (.int .u8 (y : Int)) := by
                have := hc7 0 (UInt8.ofNat y) (by simp [fl])
                rw [Nat.add_zero] at this
                rw [this]
                unfold u8
                rw [UInt8.toNat_ofNat']
                congr 2
                omega
              obtain ⟨gl, offl, rfl, hgl, hcl⟩ := hoW.rds.2 (by omega)
              have ul : W.cell? ⟨gl, offl + k, none⟩ = some (.int .i64 (y : Int)) := hcl k _ (by unfold nums; simp [hy])
              have y2 : W.cell? ⟨w3.heap.size, 2, none⟩ = some (.slice (some ⟨g7, off7, none⟩) 1 c3) := xW.cell_ (i := 2) rfl
              have HQ := hid (And.intro qW (And.intro SW (And.intro hblk hoW)))
              have hkb : (k : Int) < (L.length : Int) := by omega
              have hkc : k < lc := by omega
              clear q3 k3 s3 a3 h3 ho3 bW xW hoW qW SW hblk hc7 hcl hcx
              go_wp2_with fail
              go_quiet (fail)
              go_wp2_with fail
              have oW := HQ.out.2.2.2
              have rW := oW.rds
              have hr1 : Rds (W.drewN nq).drew W.heap.size 1 (some ⟨gl, offl, none⟩) k ((nums L).take (k * 1)) := rW.head (by omega)
              have hr2 : Rds (W.drewN nq).drew W.heap.size 1 (if lc = k + 1 then some ⟨gl, offl, none⟩ else some ⟨gl, offl + (k + 1), none⟩) (L.length - (k + 1)) ((nums L).drop (k + 1)) := by
                have := rW.cut (k := k + 1) (cap := lc) (by omega) (by omega)
                simp only [Option.map_some, add_none, Nat.mul_one] at this
                exact this
              have n1 : ∀ u ∈ (nums L).take (k * 1), u.oneCell' = true := fun u hu => nums_one L u (List.mem_of_mem_take hu)
              have n2 : ∀ u ∈ (nums L).drop (k + 1), u.oneCell' = true := fun u hu => nums_one L u (List.mem_of_mem_drop hu)
              have hLL := HI.out.2.1
              have hb1 : 0 + k ≤ maxLen := by unfold maxLen; omega
              have hb2 : (0 + k) * 8 ≤ 140737488355328 := by omega
              have hb3 : k + (L.length - (k + 1)) ≤ maxLen := by unfold maxLen; omega
              have hb4 : (k + (L.length - (k + 1))) * 8 ≤ 140737488355328 := by omega
              have HR := hid (And.intro (And.intro hr1 hr2) (And.intro n1 n2))
              clear oW rW hr1 hr2 n1 n2 u7 ul y2 hk
              have hm1 : (0 : Int) ≤ (k : Int) + 1 := by omega
              have hm2 : (k : Int) + 1 ≤ (L.length : Int) := by omega
              have hm3 : (k : Int) ≤ (lc : Int) := by omega
              have hm4 : ((k : Int) + 1).toNat = k + 1 := by omega
              have hm5 : IntKind.i64.wrap ((k : Int) + 1) = (k : Int) + 1 := IntWalk.i64_in _ (by omega)
              have hm6 : (L.length : Int) ≤ (lc : Int) := by omega
              go_region_held3 (fun w' => True) (trivial) (first
                | (refine step_append_own _ rfl (.const (.slice none 0 0)) (.tmp 91) _ rfl 3 i0 _ 1 8 Try.underlying41 hi0 hz0 hz1 hz2 rfl (by omega) (.slice none 0 0) 0 [] rfl (Own.nil _ _ _) _ _ _ _ _ rfl HR.out.1.1 HR.out.2.1 hb1 hb2 ?_; intro v11 w11 o11 k11 a11; rw [Nat.zero_add, List.nil_append] at o11; obtain ⟨A11, c11, hv11, _, _⟩ := o11.form; subst hv11)
                | (refine step_append_own _ rfl (.tmp 92) (.tmp 96) _ rfl 3 i0 _ 1 8 Try.underlying41 hi0 hz0 hz1 hz2 rfl (by omega) (.slice A11 k c11) k _ rfl o11 _ _ _ _ _ rfl (HR.out.1.2.keep (fun p hp => Below.cell (Kept.below0 k11) hp)) HR.out.2.2 hb3 hb4 ?_; intro v12 w12 o12 k12 a12; obtain ⟨A12, c12, hv12, _, _⟩ := o12.form; subst hv12))
              have F : ∃ lv, lv = (Value.slice A12 (k + (L.length - (k + 1))) c12) ∧ St w.heap.size w w12 b (delL L k) v3 lv ∧ (delL L k).length ≤ 30 ∧ ∀ x ∈ delL L k, x < 30 := by
                obtain ⟨qW, SW, _, _⟩ := HQ.out
                obtain ⟨kk, ff⟩ := join_fresh k11 k12 a11 a12
                have kkW : Kept [] W w12 := ⟨kk.os, kk.tape, kk.output, kk.size, kk.block⟩
                have bk : Below W.heap.size W w12 := kkW.below0
                have el : (delL L k).length = k + (L.length - (k + 1)) := by rw [delL_len L k hkl]; omega
                refine ⟨_, rfl, ⟨?_, ?_, fun k hk => ?_, SW.trans (.of_below bk)⟩, by omega, fun x hx => HI.out.2.2 x ?_⟩
                · have e : (delL L k).map fl = delL (L.map fl) k := by unfold delL; simp
                  rw [e]
                  exact qW.old bk
                · rw [el]
                  have e : nums (delL L k) = (nums L).take (k * 1) ++ (nums L).drop (k + 1) := by unfold nums delL; simp
                  rw [e]
                  exact o12
                · have h1 : W.heap.size ≤ k := ff k hk
                  have := SW.size; omega
                · unfold delL at hx
                  simp only [List.mem_append] at hx
                  rcases hx with hx | hx
                  · exact List.mem_of_mem_take hx
                  · exact List.mem_of_mem_drop hx
              obtain ⟨lv, hlv, F1, F2, F3⟩ := F
              rw [← hlv]
              have HF := hid (And.intro F1 (And.intro F2 F3))
              clear F1 F2 F3 o11 k11 a11 o12 k12 a12 hm1 hm2 hm3 hm4 hm5 hm6 HR hlv
              go_wp2
              all_goals
                go_roundg (ko - 1)
                case measure => have := HI.out.1; omega
                case rel => exact ⟨t + 1, delL L k, v3, by have := HI.out.1; omega, by go_num, HF.out.2.1, HF.out.2.2, HF.out.1⟩
            · have hL0 : (L.length : Int) ≤ 0 := by omega
              have HT := hid hst
              clear hst hi
              go_wp2_with fail
              refine (all_any w.heap.size b v 0 (L.map fl) wo HT.out.1 HT.out.2.2.2.size (by simp; omega) (fun m hm => by simp at hm; obtain ⟨k, _, rfl⟩ := hm; simp [fl])).mono ?_
              rintro e w5 ⟨A5, c5, rfl, ys, o5, y5, b5, _⟩
              rw [List.length_map] at o5 ⊢
              have oL := HT.out.2.1.kept (Kept.of_below b5 []) (by simp)
              have S5 := HT.out.2.2.2.trans (.of_below b5)
              have HE := hid (And.intro (And.intro o5.rds oL.rds) (And.intro y5 S5))
              clear o5 oL y5 b5 S5 HT
              go_wp2_with fail
              go_loopg [15] L.length (fun g iv wr => ∃ i : Nat, i + g = L.length ∧ iv = .int .i64 i ∧ ∃ kd, wr = w5.drewN kd)
              case atStart => exact ⟨0, by omega, rfl, 0, rfl⟩
              case round =>
                obtain ⟨j, hj, rfl, kd, rfl⟩ := hrel
                by_cases hjl : j < L.length
                · omega
                · have hj2 : ¬ (j : Int) < (L.length : Int) := by omega
                  clear hj
                  have fin : Below w.heap.size w (w5.drewN kd) := (HE.out.2.2.below (Nat.le_refl _)).trans ⟨rfl, rfl, rfl, Nat.le_refl _, fun _ _ => rfl⟩
                  have HF := hid fin
                  clear fin
                  go_wp2
                  go_ret
                  exact ⟨rfl, HF.out⟩
          · have ht2 : ¬ (t : Int) < (l.length : Int) := by omega
            have HT := hid hst
            clear hst hi
            go_wp2_with fail
            refine (all_any w.heap.size b v 0 (L.map fl) wo HT.out.1 HT.out.2.2.2.size (by simp; omega) (fun m hm => by simp at hm; obtain ⟨k, _, rfl⟩ := hm; simp [fl])).mono ?_
            rintro e w5 ⟨A5, c5, rfl, ys, o5, y5, b5, _⟩
            rw [List.length_map] at o5 ⊢
            have oL := HT.out.2.1.kept (Kept.of_below b5 []) (by simp)
            have S5 := HT.out.2.2.2.trans (.of_below b5)
            have HE := hid (And.intro (And.intro o5.rds oL.rds) (And.intro y5 S5))
            clear o5 oL y5 b5 S5 HT
            go_wp2_with fail
            go_loopg [15] L.length (fun g iv wr => ∃ i : Nat, i + g = L.length ∧ iv = .int .i64 i ∧ ∃ kd, wr = w5.drewN kd)
            case atStart => exact ⟨0, by omega, rfl, 0, rfl⟩
            case round =>
              obtain ⟨j, hj, rfl, kd, rfl⟩ := hrel
              by_cases hjl : j < L.length
              · obtain ⟨y, hy⟩ : ∃ y, L[j]? = some y := ⟨L[j], by simp [hjl]⟩
                have hy30 := hL2 y (List.mem_of_getElem? hy)
                obtain ⟨g, off, A1, c1, rfl, hg, _, _, x2, hb1⟩ := flight_cells (i := j) (m := fl y) (by simp) (HE.out.1.1.drewN kd) (HE.out.2.1.imp fun cs m h => (show relF [5] w.heap.size (w5.drewN kd) cs m from h)) (by simp [hy])
                obtain ⟨g7, off7, rfl, _, _, hc7⟩ := hb1.2 (by simp [fl])
                have u7 : (w5.drewN kd).cell? ⟨g7, off7, none⟩ = some (.int .u8 (y : Int)) := by
                  have := hc7 0 (UInt8.ofNat y) (by simp [fl])
                  rw [Nat.add_zero] at this
                  rw [this]
                  unfold u8
                  rw [UInt8.toNat_ofNat']
                  congr 2
                  omega
                rw [show (fl y).b.length = 1 from rfl] at x2
                obtain ⟨gl, offl, rfl, hgl, hcl⟩ := HE.out.1.2.2 (by omega)
                have ul : (w5.drewN kd).cell? ⟨gl, offl + j, none⟩ = some (.int .i64 (y : Int)) := hcl j _ (by unfold nums; simp [hy])
                have hj2 : (j : Int) < (L.length : Int) := by omega
                generalize hwx : w5.drewN kd = wx at x2 u7 ul ⊢
                have HJ := hid (And.intro hj hwx)
                clear hj hwx hb1 hc7 hcl hL2
                go_wp2_with fail
                go_quiet (fail)
                go_wp2
                go_roundg (gk - 1)
                case measure => have := HJ.out.1; omega
                case rel => exact ⟨j + 1, by have := HJ.out.1; omega, by go_num, kd + nq, by rw [← HJ.out.2]; simp [World.drewN, World.drew, Nat.add_assoc]⟩
              · have hj2 : ¬ (j : Int) < (L.length : Int) := by omega
                clear hj
                have fin : Below w.heap.size w (w5.drewN kd) := (HE.out.2.2.below (Nat.le_refl _)).trans ⟨rfl, rfl, rfl, Nat.le_refl _, fun _ _ => rfl⟩
                have HF := hid fin
                clear fin
                go_wp2
                go_ret
                exact ⟨rfl, HF.out⟩
  · have hl2 : decide ((40 : Int) < (l.length : Int)) = true := by simp; omega
    have hl3 : (40 : Int) < (l.length : Int) := by omega
    clear HH
    go_wp2
    go_ret
    exact ⟨rfl, hb1⟩
end Go.Proofs.Ytmffkpcimddbpaa
