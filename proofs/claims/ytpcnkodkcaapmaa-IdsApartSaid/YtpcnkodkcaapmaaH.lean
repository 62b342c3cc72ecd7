/- IdsApart: the walk. -/
import Derived.Test.YtpcnkodkcaapmaaG
set_option linter.all false
namespace Go.Proofs.Ytpcnkodkcaapmaa
open Go.RowKit Go.Hub Go.Ids

theorem takeFk (k : Int) (S : List Int) (t : Int) (h : (S.length : Int) < k) : takeN k S t = nxt S t ∧ takeT k S t = nxt S t ∧ takeS k S t = nxt S t :: S ∧ decide ((S.length : Int) < k) = true := by
  have : ¬ (k ≤ (S.length : Int)) := by omega
  simp only [takeN, takeT, takeS, if_neg this, true_and]
  simp; omega
theorem takeFfull (k : Int) (S : List Int) (t : Int) (h : ¬ (S.length : Int) < k) : takeN k S t = 0 ∧ takeT k S t = t ∧ takeS k S t = S ∧ decide ((S.length : Int) < k) = false := by
  have : (k ≤ (S.length : Int)) := by omega
  simp only [takeN, takeT, takeS, if_pos this, true_and]
  simp; omega

set_option maxRecDepth 100000 in
set_option maxHeartbeats 4000000 in
theorem apart_any (most : Int) (a : Option Addr) (len cap : Nat) (zs : List Int) (w : World) (hmost : 0 ≤ most ∧ most ≤ 255) (hz : Ints .u8 w w.heap.size a len zs) :
    Calls Try.prog 5 #[.int .u8 most, .slice a len cap] w fun e w' => e = .returned (.bool true) ∧ Below w.heap.size w w' := by
  have hlen := hz.2.1
  unfold maxLen at hlen
  obtain ⟨i0, hi0, hz0, hz1, hz2⟩ := info_parts intInfo
  go_enter Try.func5, Try.ntmps5
  go_wp2_with fail
  refine (known_any w).mono ?_
  rintro e w1 ⟨rfl, q1⟩
  have B1 : Below w.heap.size w w1 := q1.below (by simp) (Nat.le_refl _)
  by_cases hbig : 100 < len
  · have hb : (100 : Int) < (len : Int) := by omega
    go_wp2
    go_ret
    exact ⟨rfl, B1⟩
  · have hb : ¬ (100 : Int) < (len : Int) := by omega
    go_wp2_with fail
    refine (newIds _ _).mono ?_
    obtain ⟨k, hk⟩ : ∃ k, k = most % 20 := ⟨_, rfl⟩
    have hkb : 0 ≤ k ∧ k ≤ 19 := by omega
    rw [← hk]
    rw [show clamp k = k from by unfold clamp; omega]
    clear hk
    rintro e w2 ⟨rfl, h2, q2⟩
    obtain ⟨b, hb'⟩ : ∃ b, b = w1.heap.size + 1 := ⟨_, rfl⟩
    obtain ⟨m, hm⟩ : ∃ b, b = w1.heap.size := ⟨_, rfl⟩
    rw [← hb', ← hm] at h2
    rw [← hb']
    have B2 : Below w.heap.size w w2 := B1.trans (q2.below (by simp) B1.size)
    have hd : b < w2.heap.size ∧ m < w2.heap.size ∧ w.heap.size ≤ b ∧ w.heap.size ≤ m := by have := B1.size; have := h2.1.lt; omega
    clear hb' hm q2 B1 q1
    go_wp2_with fail
    go_loopg [7, 8] (len + 1) (fun g v iv wr => ∃ (i : Nat) (S L : List Int) (t : Int), i + g = len + 1 ∧ iv = .int .i64 i ∧ Apart w wr w2.heap.size b m k t S L v)
    case atStart => exact ⟨0, [], [], 0, by omega, rfl, h2, by omega, World.ownsRow_nil _ _ _ _, ⟨by simp, by simp, rfl, by simp; omega, by simp⟩, B2, Nat.le_refl _⟩
    case round =>
      obtain ⟨i, S, L, t, hik, rfl, hA⟩ := hrel
      clear h2 B2
      obtain ⟨A, c, rfl, hc1, hc2⟩ := own_form hA.2.2.1
      by_cases hi : i ≤ len
      · have HIK := hid hik
        clear hik
        go_wp2_with fail
        obtain ⟨wo, rfl⟩ : ∃ wo : World, wo = wr := ⟨_, rfl⟩
        obtain ⟨go, rfl⟩ : ∃ go : Nat, go = gk := ⟨_, rfl⟩
        have HA := hid hA
        clear hA
        have hSk0 : (S.length : Int) ≤ k := by have := HA.out.2.2.2.1.2.2.1; have := HA.out.2.2.2.1.2.2.2.1; omega
        go_loopg [7] (k + 1 - S.length).toNat (fun g v wr => ∃ (S L : List Int) (t : Int), (S.length : Int) + g = k + 1 ∧ Apart w wr w2.heap.size b m k t S L v)
        case atStart => exact ⟨S, L, t, by omega, HA.out⟩
        case round =>
          clear HA hc1 hc2 hSk0
          obtain ⟨S, L, t, hSk, hA⟩ := hrel
          obtain ⟨A, c, rfl, hc1, hc2⟩ := own_form hA.2.2.1
          have hLk : L.length ≤ 19 := by have := hA.2.2.2.1.2.2.2.1; omega
          have hSL : S.length = L.length := hA.2.2.2.1.2.2.1
          by_cases hfull : (S.length : Int) < k
          · have HSK := hid (And.intro hSk hSL)
            go_wp2_with fail
            refine (take_any _ _ _ _ _ _ hA.1 hA.2.1 (by omega)).mono ?_
            have e := takeFk k S t hfull
            have hx := nxt_spec S t hA.2.1.1 (by omega)
            obtain ⟨x, hxe⟩ : ∃ x, x = nxt S t := ⟨_, rfl⟩
            rw [e.1, e.2.1, e.2.2.1, e.2.2.2]
            rw [← hxe] at hx ⊢
            clear e hxe
            rintro e w7 ⟨rfl, h7, q7⟩
            have hlike := like_take hA.2.2.2.1 hx.1 hx.2 hfull
            have hno : ∀ j y, L[j]? = some y → (y == x) = false := fun j y hy => by
              have : y ∈ S := (hA.2.2.2.1.1 y).2 (List.mem_of_getElem? hy)
              simp only [beq_eq_false_iff_ne]
              rintro rfl
              exact hx.1 this
            have hown := own_kept hA.2.2.1 q7 (by simp; omega)
            have hbel := hA.2.2.2.2.1.trans (q7.below (by simp; omega) hA.2.2.2.2.1.size)
            have hsz : w2.heap.size ≤ w7.heap.size := Nat.le_trans hA.2.2.2.2.2 q7.size
            have HH := hid (And.intro hlike (And.intro h7 hno))
            have hx1 := hx.2
            clear hA hlike h7 hno hx q7 hSk hSL
            go_wp2_with fail
            obtain ⟨wo, rfl⟩ : ∃ wo : World, wo = wr := ⟨_, rfl⟩
            obtain ⟨gp, rfl⟩ : ∃ gp : Nat, gp = gk := ⟨_, rfl⟩
            go_loopg [11] L.length (fun g v wr => ∃ j : Nat, j + g = L.length ∧ v = .int .i64 j ∧ wr = w7)
            case atStart => exact ⟨0, by omega, rfl, rfl⟩
            case round =>
              obtain ⟨j, hjk, rfl, rfl⟩ := hrel
              by_cases hj : j < L.length
              · obtain ⟨g, rfl, hcell⟩ := own_int_at (j := j) (x := L[j]) hown rfl (by simp [hj])
                have hne := HH.out.2.2 j L[j] (by simp [hj])
                have hj2 : (j : Int) < (L.length : Int) := by omega
                obtain ⟨y, hy⟩ : ∃ y, y = L[j] := ⟨_, rfl⟩
                rw [← hy] at hcell hne
                have HJ := hid hjk
                clear hy hjk
                go_wp2
                go_roundg (gk - 1)
                case measure => have := HJ.out; omega
                case rel => exact ⟨j + 1, by have := HJ.out; omega, by go_num, rfl⟩
              · obtain rfl : j = L.length := by omega
                have hj2 : ¬ ((L.length : Int) < (L.length : Int)) := by omega
                have hx2 : ¬ (x < 1) := by omega
                have hx3 : ¬ (65535 < x) := by omega
                have hx4 : ¬ (k < (L.length : Int) + 1) := by have := HSK.out.2; omega
                clear hjk
                have hrd : Rds (wr.alloc (.cells #[.int .i64 x] 3)) (wr.heap.size + 1) 1 (some ⟨wr.heap.size, 0, none⟩) 1 [.int .i64 x] := ⟨rfl, fun _ => ⟨wr.heap.size, 0, rfl, by omega, fun j u hu => by
                  match j, hu with
                  | 0, hu => simp at hu; subst hu; simp⟩⟩
                go_wp2_with (first
                  | (at_builtin
                     refine wpList_append_rds _ rfl (.tmp 48) (.tmp 50) _ rfl w2.heap.size 3 i0 _ 1 8 Try.underlying22 hi0 hz0 hz1 hz2 rfl (by omega) _ _ _ rfl
                       (hown.alloc _) _ _ _ _ _ rfl hrd (by simp [Value.oneCell']) (by unfold maxLen; omega) (by omega) (by simp; omega) ?_
                     intro v1 w8 hown1 hg1 hat1
                     obtain ⟨A1, c1, hv1, hc11, hc12⟩ := own_form hown1
                     subst hv1))
                have F : Apart w w8 w2.heap.size b m k x (x :: S) (L ++ [x]) (.slice A1 (L.length + 1) c1) := by
                  have hk8 := grown_kept hg1
                  have hrow := own_row hown
                  refine ⟨(HH.out.2.1.kept ((Kept.refl [] _).alloc _) (by simp) (by simp)).kept hk8 (fun hb => ?_) (fun hb => ?_), by omega, ?_, HH.out.1, ?_, ?_⟩
                  · have := hrow _ hb; omega
                  · have := hrow _ hb; omega
                  · simpa using hown1
                  · exact (hbel.alloc hbel.size _).trans (hk8.below (fun y hy => by have := hrow _ hy; omega) (by have := hbel.size; simp; omega))
                  · have := hk8.size; simp at this; omega
                have HF := hid F
                clear F hown1 hg1 hat1 hown hbel
                go_wp2
                go_roundg (gp - 1)
                case measure => have := HSK.out.1; omega
                case rel => exact ⟨_, _, _, by have := HSK.out.1; simp; omega, HF.out⟩
          · have hke : (S.length : Int) = k := by have := hA.2.2.2.1.2.2.2.1; omega
            go_wp2_with fail
            refine (take_any _ _ _ _ _ _ hA.1 hA.2.1 (by omega)).mono ?_
            have e := takeFfull k S t (by omega)
            rw [e.1, e.2.1, e.2.2.1, e.2.2.2]
            clear e
            rintro e w7 ⟨rfl, h7, q7⟩
            have F := hA.kept q7 (by omega) h7 hA.2.1 hA.2.2.2.1
            have hL : ((L.length : Int) != k) = false := by simp; omega
            have hS2 : ((S.length : Int) != k) = false := by simp; omega
            have HSK := hid (And.intro hSk (And.intro hke hSL))
            clear hA h7 q7 hSk hke hSL
            go_wp2_with fail
            refine (len_any _ _ _ _ _ _ F.1).mono ?_
            rintro e w8 ⟨rfl, rfl⟩
            by_cases hi2 : i < len ∧ 0 < k
            · have hi3 : (i : Int) < len := by omega
              have hi4 : 0 < k := hi2.2
              obtain ⟨ab, off, ha, hab, hcl⟩ := hz.2.2.2 (by omega)
              obtain ⟨z, hz3, hz4, _⟩ := hz.at_ hi2.1
              have hzb := bd_u8 hz4
              have hcz : w7.cell? ⟨ab, off + i, none⟩ = some (.int .u8 z) := by rw [F.2.2.2.2.1.cell (p := ⟨ab, off + i, none⟩) hab, hcl i hi2.1, hz3]
              subst ha
              clear hcl hz3 hz4 hi2
              obtain ⟨n, hn⟩ : ∃ n : Nat, z % k = (n : Int) := ⟨(z % k).toNat, by have := Int.emod_nonneg z (show k ≠ 0 by omega); omega⟩
              have hnk : n < L.length := by have := Int.emod_lt_of_pos z hi4; have := HSK.out; omega
              obtain ⟨x, hx⟩ : ∃ x, L[n]? = some x := ⟨L[n], by simp [hnk]⟩
              obtain ⟨g, rfl, hcell⟩ := own_int_at F.2.2.1 rfl hx
              have hxL : x ∈ L := List.mem_of_getElem? hx
              have hxb := F.2.2.2.1.2.2.2.2 x hxL
              have hxS : decide (x ∈ S) = true := by simpa using (F.2.2.2.1.1 x).2 hxL
              have hnod := F.1.2.1.nodup
              have hlike := like_free F.2.2.2.1 hnod hx
              have hnot : decide (x ∈ S.erase x) = false := by simp [hnod.mem_erase_iff]
              go_wp2_with fail
              refine (free_any _ _ _ _ _ _ (wfi (by omega)) _ F.1).mono ?_
              rw [hxS]
              rintro e w9 ⟨rfl, h9, q9⟩
              have hown := own_kept F.2.2.1 q9 (by simp; omega)
              have hbel := F.2.2.2.2.1.trans (q9.below (by simp; omega) F.2.2.2.2.1.size)
              have hsz : w2.heap.size ≤ w9.heap.size := Nat.le_trans F.2.2.2.2.2 q9.size
              have hrd := Rds.of_own hown
              have hcell9 : w9.cell? ⟨g, n, none⟩ = some (.int .i64 x) := by
                obtain ⟨g', hg', hc'⟩ := own_int_at hown rfl hx
                injection hg' with hg'
                injection hg' with hg'
                subst hg'
                exact hc'
              have HH := hid (And.intro hlike h9)
              have h9b := h9
              have ht := F.2.1
              clear hcz hcell F hlike h9 q9 hnod hxL
              go_wp2_with fail
              refine (has_any _ _ _ _ _ _ (wfi (by omega)) _ h9b).mono ?_
              rw [hnot]
              rintro e w10 ⟨rfl, rfl⟩
              clear h9b
              go_wp2_with fail
              have hn1 : n ≤ c := by omega
              have hn2 : n + 1 ≤ c := by omega
              have hn3 : n + 1 ≤ L.length := by omega
              have hrd1 : Rds w9.drew w9.heap.size 1 (some ⟨g, 0, none⟩) n ((L.map (Value.int .i64)).take (n * 1)) := hrd.head (by omega)
              have hrd2 : Rds w9.drew w9.heap.size 1 (if c = n + 1 then some ⟨g, 0, none⟩ else some ⟨g, n + 1, none⟩) (L.length - (n + 1)) ((L.map (Value.int .i64)).drop (n + 1)) := by
                have := (hrd.tail (k := n + 1) (by omega) hc1).drew
                rwa [Nat.zero_add] at this
              have ho1 : ∀ u ∈ ((L.map (Value.int .i64)).take (n * 1)), u.oneCell' = true := fun u hu => by
                have := List.mem_of_mem_take hu
                simp at this
                obtain ⟨x, _, rfl⟩ := this
                rfl
              have ho2 : ∀ u ∈ ((L.map (Value.int .i64)).drop (n + 1)), u.oneCell' = true := fun u hu => by
                have := List.mem_of_mem_drop hu
                simp at this
                obtain ⟨x, _, rfl⟩ := this
                rfl
              have hR := hid (And.intro (And.intro hrd1 hrd2) (And.intro ho1 ho2))
              have hb1 : 0 + n ≤ maxLen := by unfold maxLen; omega
              have hb2 : (0 + n) * 8 ≤ 140737488355328 := by omega
              have hb3 : 0 + n + (L.length - (n + 1)) ≤ maxLen := by unfold maxLen; omega
              have hb4 : (0 + n + (L.length - (n + 1))) * 8 ≤ 140737488355328 := by omega
              clear hrd1 hrd2 hrd hown ho1 ho2
              have hm1 : (0 : Int) ≤ (n : Int) + 1 := by omega
              have hm2 : (n : Int) + 1 ≤ (L.length : Int) := by omega
              have hm3 : (n : Int) + 1 ≤ (c : Int) := by omega
              have hm4 : ((n : Int) + 1).toNat = n + 1 := by omega
              have hm5 : IntKind.i64.wrap ((n : Int) + 1) = (n : Int) + 1 := IntWalk.i64_in _ (by omega)
              go_region_held3 (fun w' => True) (trivial) (first
                | (refine step_append_rds _ rfl (.const (.slice none 0 0)) (.tmp 106) _ rfl w9.heap.size 3 i0 _ 1 8 Try.underlying22 hi0 hz0 hz1 hz2 rfl (by omega) (.slice none 0 0) 0 [] rfl (World.ownsRow_nil _ _ _ _) _ _ _ _ _ rfl hR.out.1.1 hR.out.2.1 hb1 hb2 (Nat.le_refl _) ?_; intro v1 w11 hown1 hg1 hat1)
                | (refine step_append_rds _ rfl (.tmp 107) (.tmp 111) _ rfl w9.heap.size 3 i0 _ 1 8 Try.underlying22 hi0 hz0 hz1 hz2 rfl (by omega) v1 (0 + n) _ rfl hown1 _ _ _ _ _ rfl (hR.out.1.2.grown hg1 (Nat.le_refl _) (by simp [Value.ownBlock])) hR.out.2.2 hb3 hb4 hg1.size ?_; intro v2 w12 hown2 hg2 hat2))
              clear hm1 hm2 hm3 hm4 hm5
              have F : Apart w w12 w2.heap.size b m k t (S.erase x) (L.take n ++ L.drop (n + 1)) v2 := by
                have hk1 : Kept [] w9 w11 := (grown_kept hg1).of_drew
                have hk2 := grown_kept hg2
                have hv1 := own_row hown1
                have hkk : Kept [] w9 w12 := hk1.trans hk2 (fun y hy hlt => by have := hv1 y hy; omega)
                have hown3 : w12.ownsRow w9.heap.size 3 1 v2 (L.take n ++ L.drop (n + 1)).length ((L.take n ++ L.drop (n + 1)).map (Value.int .i64)) := by
                  have e1 : (L.take n ++ L.drop (n + 1)).length = 0 + n + (L.length - (n + 1)) := by simp; omega
                  rw [e1]
                  simpa using hown2
                refine ⟨HH.out.2.kept hkk (by simp) (by simp), ht, ⟨hown3.1, ?_⟩, HH.out.1, hbel.trans (hkk.below (by simp) hbel.size), by have := hkk.size; omega⟩
                rcases hown3.2 with h | ⟨g', cap', cur, h1, h2, h3⟩
                · exact .inl h
                · exact .inr ⟨g', cap', cur, h1, by omega, h3⟩
              have HF := hid F
              clear F hown1 hown2 hg1 hg2 hat1 hat2 hbel
              go_wp2
              all_goals
                go_roundg (go - 1)
                case measure => have := HIK.out; omega
                case rel => exact ⟨i + 1, _, _, _, by have := HIK.out; omega, by go_num, HF.out⟩
            · have HF := hid F
              have hi3 : (i : Int) < len → ¬ (0 < k) := by omega
              by_cases hi4 : (i : Int) < len
              · have hi5 := hi3 hi4
                clear hi3 F hi2
                go_wp2
                go_roundg (go - 1)
                case measure => have := HIK.out; omega
                case rel => exact ⟨i + 1, _, _, _, by have := HIK.out; omega, by go_num, HF.out⟩
              · clear hi3 F hi2
                go_wp2
                go_roundg (go - 1)
                case measure => have := HIK.out; omega
                case rel => exact ⟨i + 1, _, _, _, by have := HIK.out; omega, by go_num, HF.out⟩
      · have hi2 : ¬ (i : Int) ≤ len := by omega
        have HF := hid hA
        clear hA hik
        go_wp2
        go_ret
        exact ⟨rfl, HF.out.2.2.2.2.1⟩
end Go.Proofs.Ytpcnkodkcaapmaa
