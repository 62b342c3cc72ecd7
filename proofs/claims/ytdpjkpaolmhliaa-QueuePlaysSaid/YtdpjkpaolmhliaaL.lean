/- QueuePlays: the round's pieces. -/
import Derived.Test.YtdpjkpaolmhliaaK2
set_option linter.all false
namespace Go.Proofs.Ytdpjkpaolmhliaa
open Go.RowKit Go.Hub

set_option maxRecDepth 100000 in
set_option maxHeartbeats 4000000 in
theorem plays_any (most : Int) (A Ap : Option Addr) (len cap lenp capp : Nat) (xs xp : List Value) (am : List M) (ps : List Bool) (w : World) (hmost : (Lit.int .i64 most).wf = true)
    (hcap : len ≤ cap) (hcm : cap ≤ maxLen) (hal : am.length = len) (hrd : Rds w w.heap.size 4 A len xs) (hsq : Seq 4 (relA w) xs am)
    (hcapp : lenp ≤ capp) (hcmp : capp ≤ maxLen) (hpl : ps.length = lenp) (hrp : Rds w w.heap.size 1 Ap lenp xp) (hsp : Seq 1 relB xp ps) :
    Calls Try.prog 3 #[.int .i64 most, .slice A len cap, .slice Ap lenp capp] w fun e w' => e = .returned (.bool true) ∧ Below w.heap.size w w' := by
  unfold maxLen at hcm hcmp
  have HA := hid (And.intro (And.intro hal (And.intro hrd hsq)) (And.intro hpl (And.intro hrp hsp)))
  clear hal hrd hsq hpl hrp hsp
  go_enter Try.func3, Try.ntmps3
  go_wp2_with fail
  refine (known_any w).mono ?_
  rintro e w1 ⟨rfl, b1⟩
  by_cases hbig : 60 < len ∨ lenp < len
  · by_cases h1 : 60 < len
    · have h1' : (60 : Int) < (len : Int) := by omega
      go_wp2
      go_ret
      exact ⟨rfl, b1⟩
    · have h1' : ¬ (60 : Int) < (len : Int) := by omega
      have h2' : (lenp : Int) < (len : Int) := by omega
      go_wp2
      go_ret
      exact ⟨rfl, b1⟩
  · have h1' : ¬ (60 : Int) < (len : Int) := by omega
    have h2' : ¬ (lenp : Int) < (len : Int) := by omega
    have hd2 : decide (lenp < len) = false := by simp; omega
    have hd1 : decide ((60 : Int) < (len : Int)) = false := by simp; omega
    have hlen : len ≤ 60 := by omega
    have hlp : len ≤ lenp := by omega
    clear hbig
    go_wp2_with fail
    go_loopg [7] len (fun g v wr => ∃ i : Nat, i + g = len ∧ v = .int .i64 i ∧ w1 = wr ∧ ∀ j m, j < i → am[j]? = some m → m.p.length ≤ 30)
    case atStart => exact ⟨0, by omega, rfl, rfl, fun j m hj => by omega⟩
    case round =>
      obtain ⟨i, hi, rfl, rfl, hall⟩ := hrel
      by_cases hlt : i < len
      · have hi2 : (i : Int) < (len : Int) := by omega
        obtain ⟨m, hm⟩ : ∃ m, am[i]? = some m := ⟨am[i]'(by have := HA.out.1.1; omega), by simp [HA.out.1.1, hlt]⟩
        have hA1 : ∃ g off A1 c1, A = some ⟨g, off, none⟩ ∧ g < w.heap.size ∧ w1.cell? ⟨g, off + i * 4, none⟩ = some (.string m.t) ∧ w1.cell? ⟨g, off + i * 4 + 1, none⟩ = some (.slice A1 m.p.length c1) ∧ m.t.size ≤ maxLen ∧ m.p.length ≤ maxLen := by
          obtain ⟨g, off, A1, c1, e, hg, x0, x1, x2, x3, hb⟩ := msg_cells (B := w.heap.size) (c := cap) HA.out.1.1.symm (HA.out.1.2.1.below b1) ((HA.out.1.2.2.imp fun cs m h => h.1).imp fun cs m h => h.same (.of_below b1)) hm
          obtain ⟨cs, hr, _⟩ := HA.out.1.2.2.at_ hm
          exact ⟨g, off, A1, c1, e, hg, x0, x1, hr.2.1, hr.2.2⟩
        obtain ⟨g, off, A1, c1, rfl, hg, x0, x1, ht1, ht2⟩ := hA1
        unfold maxLen at ht1 ht2
        have HI := hid (And.intro hi (And.intro hall hm))
        clear hi hall hm
        by_cases hp : m.t.size ≤ 30 ∧ m.p.length ≤ 30
        · have hp1 : ¬ (30 : Int) < (m.t.size : Int) := by omega
          have hp2 : ¬ (30 : Int) < (m.p.length : Int) := by omega
          go_wp2
          go_roundg (gk - 1)
          case measure => have := HI.out.1; omega
          case rel =>
            refine ⟨i + 1, by have := HI.out.1; omega, by go_num, rfl, fun j m' hj hm' => ?_⟩
            by_cases hji : j = i
            · subst hji
              have := HI.out.2.2
              rw [hm'] at this
              injection this with this
              subst this
              exact hp.2
            · exact HI.out.2.1 j m' (by omega) hm'
        · by_cases hp1 : m.t.size ≤ 30
          · have hp1' : ¬ (30 : Int) < (m.t.size : Int) := by omega
            have hp2' : (30 : Int) < (m.p.length : Int) := by omega
            go_wp2
            go_ret
            exact ⟨rfl, b1⟩
          · have hp1' : (30 : Int) < (m.t.size : Int) := by omega
            go_wp2
            go_ret
            exact ⟨rfl, b1⟩
      · obtain rfl : i = len := by omega
        have hi2 : ¬ (i : Int) < (i : Int) := by omega
        have hsmall : ∀ m ∈ am, m.p.length ≤ 30 := fun m hm => by
          obtain ⟨j, hj⟩ := List.getElem?_of_mem hm
          have hjl := (List.getElem?_eq_some_iff.1 hj).1
          exact hall j m (by have := HA.out.1.1; omega) hj
        have HS := hid hsmall
        clear hi hall hsmall
        go_wp2_with fail
        refine (place_any most 9 (by omega) (by omega) _).mono ?_
        rintro e w2 ⟨rfl, rfl⟩
        go_wp2_with fail
        obtain ⟨W, hW⟩ : ∃ W, W = w1.alloc (Obj.cells #[Value.int IntKind.i64 most, Value.int IntKind.i64 (most % 9)] 3) := ⟨_, rfl⟩
        rw [← hW]
        obtain ⟨n1, hn1⟩ : ∃ n1, n1 = w1.heap.size := ⟨_, rfl⟩
        rw [← hn1]
        have BW : Below w.heap.size w W := by rw [hW]; exact b1.alloc (by have := b1.size; omega) _
        have hbn : Blk W n1 3 #[Value.int IntKind.i64 most, Value.int IntKind.i64 (most % 9)] := by rw [hW, hn1]; exact Blk.new _ _ _
        have H := hid (And.intro BW hbn)
        clear hW hn1 BW hbn b1
        go_loopg [56] 2 (fun k j wr => ∃ t : Nat, t + k = 2 ∧ j = .int .i64 t ∧ Below W.heap.size W wr)
        case atStart => exact ⟨0, rfl, rfl, Below.refl _ _⟩
        case round =>
          obtain ⟨t, htk, rfl, hbr⟩ := hrel
          obtain ⟨wo, rfl⟩ : ∃ wo : World, wo = wr := ⟨_, rfl⟩
          obtain ⟨ko, rfl⟩ : ∃ ko : Nat, ko = gk := ⟨_, rfl⟩
          by_cases ht : t < 2
          · obtain ⟨K, hK⟩ : ∃ K, wo.cell? ⟨n1, t, none⟩ = some (.int .i64 K) := by
              have hb2 := H.out.2.below hbr H.out.2.lt
              match t, ht with
              | 0, _ => exact ⟨_, hb2.cell_ rfl⟩
              | 1, _ => exact ⟨_, hb2.cell_ rfl⟩
            have ht2 : (t : Int) < 2 := by omega
            have HT := hid htk
            clear htk
            go_wp2_with fail
            refine (newQ W.heap.size K _ hbr.size).mono ?_
            rintro e w3 ⟨rfl, q3, b3⟩
            go_wp2_with fail
            refine (newR W.heap.size K _ (Nat.le_trans hbr.size b3.size)).mono ?_
            rintro e w4 ⟨rfl, r4, b4⟩
            have q4 := q3.kept (Kept.of_below b4 []) (.of_below b4) (by simp)
            have hlt34 := q3.1.lt
            obtain ⟨b, hb⟩ : ∃ b, b = wo.heap.size := ⟨_, rfl⟩
            obtain ⟨b2, hb2⟩ : ∃ b, b = w3.heap.size := ⟨_, rfl⟩
            rw [← hb] at q4
            rw [← hb2] at r4
            rw [← hb, ← hb2]
            have hfk := far16_bd K
            have T0 : Two W w4 b b2 (.slice none 0 0) (.slice none 0 0) (far16 K) 0 [] 0 :=
              ⟨q4, r4, by intro x hx; simp [Value.ownBlock] at hx ⊢; omega, ⟨(b4.os.trans b3.os).trans hbr.os, (b4.tape.trans b3.tape).trans hbr.tape, (b4.output.trans b3.output).trans hbr.output, Nat.le_trans hbr.size (Nat.le_trans b3.size b4.size), fun x hx _ => (b4.block x (by have := hbr.size; have := b3.size; omega)).trans ((b3.block x (by have := hbr.size; omega)).trans (hbr.block x hx))⟩, by simp, Nat.le_refl _, by omega⟩
            clear q3 q4 r4 b3 b4 hb hb2 hlt34 hK hbr
            generalize far16 K = kk at *
            go_wp2_with fail
            go_loopg [12] i (fun g x wr => ∃ (j : Nat) (v v2 : Value) (lost : Int) (ms : List M), j + g = i ∧ x = .int .i64 j ∧ Two W wr b b2 v v2 kk lost ms j)
            case atStart => exact ⟨0, _, _, _, _, by omega, rfl, T0⟩
            case round =>
              clear T0
              obtain ⟨j, v, v2, lost, ms, hjk, rfl, T⟩ := hrel
              by_cases hj : j < i
              · have hj2 : (j : Int) < (i : Int) := by omega
                have HJ := hid hjk
                clear hjk
                obtain ⟨m, hm⟩ : ∃ m, am[j]? = some m := ⟨am[j]'(by have := HA.out.1.1; omega), by simp [HA.out.1.1, hj]⟩
                have hmp := HS.out m (List.mem_of_getElem? hm)
                have hwW := H.out.1.size
                have SW : Same [5] w.heap.size w W := .of_kept (Kept.of_below H.out.1 []) (by simp)
                have hcel : ∃ g off A1 c1, A = some ⟨g, off, none⟩ ∧ g < W.heap.size ∧ wr.cell? ⟨g, off + j * 4, none⟩ = some (.string m.t) ∧ wr.cell? ⟨g, off + j * 4 + 1, none⟩ = some (.slice A1 m.p.length c1) ∧ wr.cell? ⟨g, off + j * 4 + 2, none⟩ = some (.int .i64 m.q) ∧ wr.cell? ⟨g, off + j * 4 + 3, none⟩ = some (.bool m.r) ∧ Bs [5] W.heap.size wr A1 m.p.length m.p := by
                  obtain ⟨g, off, A1, c1, e, hg, x0, x1, x2, x3, hb⟩ := msg_cells (B := w.heap.size) (c := cap) HA.out.1.1.symm (HA.out.1.2.1.below H.out.1) ((HA.out.1.2.2.imp fun cs m h => h.1).imp fun cs m h => h.same SW) hm
                  have bw := T.s.below (Nat.le_refl _)
                  have hg2 : g < W.heap.size := by omega
                  exact ⟨g, off, A1, c1, e, hg2, (bw.cell (p := ⟨g, off + j * 4, none⟩) hg2).trans x0, (bw.cell (p := ⟨g, off + j * 4 + 1, none⟩) hg2).trans x1, (bw.cell (p := ⟨g, off + j * 4 + 2, none⟩) hg2).trans x2, (bw.cell (p := ⟨g, off + j * 4 + 3, none⟩) hg2).trans x3, (hb.more hwW).same T.s⟩
                obtain ⟨g, off, A1, c1, rfl, hg, x0, x1, x2, x3, hmb⟩ := hcel
                have hfl : ∃ gp op fl, Ap = some ⟨gp, op, none⟩ ∧ gp < W.heap.size ∧ W.cell? ⟨gp, op + j, none⟩ = some (.bool fl) := by
                  obtain ⟨gp, op, e, hgp, hcp⟩ := HA.out.2.2.1.2 (by omega)
                  obtain ⟨fl, hfl⟩ : ∃ fl, ps[j]? = some fl := ⟨ps[j]'(by have := HA.out.2.1; omega), List.getElem?_eq_getElem _⟩
                  obtain ⟨cs, hcs, hxc⟩ := HA.out.2.2.2.at_ hfl
                  unfold relB at hcs
                  subst hcs
                  have := hcp (j * 1 + 0) _ (hxc 0 _ rfl)
                  rw [Nat.mul_one, Nat.add_zero] at this
                  exact ⟨gp, op, fl, e, by omega, (H.out.1.cell (p := ⟨gp, op + j, none⟩) hgp).trans this⟩
                obtain ⟨gp, op, fl, rfl, hgp, hcfl⟩ := hfl
                have hjp : (j : Int) < (lenp : Int) := by omega
                clear SW hm
                have TT := hid T
                have q0 := T.q.drew
                have r0 := T.r.drew
                have hsz0 := T.s.size
                have hl0 := T.l
                have hg0 := T.g
                have hmb0 := hmb.drew
                have hlk : kk ≤ 65536 := hfk.2
                have hml : m.p.length ≤ 1000000 := by omega
                have hgl : 0 ≤ lost ∧ lost ≤ 1000000 := by omega
                clear T hmb
                go_wp2_with fail
                go_region_held3 (fun w' => w'.cell? ⟨g, off + j * 4, none⟩ = some (.string m.t) ∧ w'.cell? ⟨g, off + j * 4 + 1, none⟩ = some (.slice A1 m.p.length c1) ∧ w'.cell? ⟨g, off + j * 4 + 2, none⟩ = some (.int .i64 m.q) ∧ w'.cell? ⟨g, off + j * 4 + 3, none⟩ = some (.bool m.r))
                  (first | go_keep | exact ⟨y0, y1, y2, y3⟩ | exact ⟨z0, z1, z2, z3⟩)
                  (first
                    | (go_at_call 9; refine (push_any W.heap.size b v kk lost ms A1 c1 m _ q0 hmb0 hml hsz0 hlk hgl).mono ?_; rintro e w5 ⟨rfl, v5, q5, k5, s5, a5⟩; have r5 := r0.kept k5 s5 (fun x hx => TT.out.a.symm x hx); have bw5 := s5.below hsz0; have y0 := (bw5.cell (p := ⟨g, off + j * 4, none⟩) hg).trans x0; have y1 := (bw5.cell (p := ⟨g, off + j * 4 + 1, none⟩) hg).trans x1; have y2 := (bw5.cell (p := ⟨g, off + j * 4 + 2, none⟩) hg).trans x2; have y3 := (bw5.cell (p := ⟨g, off + j * 4 + 3, none⟩) hg).trans x3)
                    | (go_at_call 10; refine (pushR_any W.heap.size b2 v2 kk lost ms A1 c1 m _ r5 (hmb0.same s5) (Nat.le_trans hsz0 s5.size) hlk hgl).mono ?_; rintro e w6 ⟨rfl, v6, r6, k6, s6, a6⟩; have ap5 := apt_turn TT.out.a (fun x hx => (TT.out.r.foot x hx).2) a5; have q6 := q5.kept k6 s6 ap5; have bw6 := s6.below (Nat.le_trans hsz0 s5.size); have z0 := (bw6.cell (p := ⟨g, off + j * 4, none⟩) hg).trans y0; have z1 := (bw6.cell (p := ⟨g, off + j * 4 + 1, none⟩) hg).trans y1; have z2 := (bw6.cell (p := ⟨g, off + j * 4 + 2, none⟩) hg).trans y2; have z3 := (bw6.cell (p := ⟨g, off + j * 4 + 3, none⟩) hg).trans y3))
                have T6 : Two W w6 b b2 v5 v6 kk (pushN kk ms lost) (pushL kk ms m) (j + 1) := by
                  have ap6 := (apt_turn ap5.symm (fun x hx => (q5.foot x hx).2) a6).symm
                  exact ⟨q6, r6, ap6, (⟨(s5.os.trans rfl).trans TT.out.s.os, s5.tape.trans TT.out.s.tape, s5.output.trans TT.out.s.output, Nat.le_trans TT.out.s.size s5.size, fun x hx hc => (s5.block x (Nat.lt_of_lt_of_le hx TT.out.s.size) (hc.imp id fun h => h.of_eq (TT.out.s.block x hx hc))).trans (TT.out.s.block x hx hc)⟩ : Same [5] W.heap.size W w5).trans s6, pushL_mem TT.out.p hmp, pushL_len TT.out.l, pushN_bd TT.out.g⟩
                have T6' := hid T6
                clear q0 r0 hmb0 q5 k5 s5 a5 r5 bw5 y0 y1 y2 y3 r6 k6 s6 a6 ap5 q6 bw6 z0 z1 z2 z3 T6 x0 x1 x2 x3 TT
                have cfl : w6.cell? ⟨gp, op + j, none⟩ = some (.bool fl) := ((T6'.out.s.below (Nat.le_refl _)).cell (p := ⟨gp, op + j, none⟩) hgp).trans hcfl
                clear hcfl
                rename_i hHx
                clear hHx
                generalize hms : pushL kk ms m = ms6 at *
                generalize hlo : pushN kk ms lost = lo6 at *
                clear hms hlo
                cases fl with
                | false =>
                  have TX := T6'.out
                  have TX' := hid TX
                  have qX := TX.q.drew
                  have szX := TX.s.size
                  obtain ⟨rbX, _, _, xsX, hoX, hsX⟩ := TX.r
                  obtain ⟨AX, cX, rfl, hcX, _⟩ := hoX.form
                  have dX1 := rbX.cell_ (i := 1) rfl
                  have dX2 := rbX.cell_ (i := 2) rfl
                  have rltX := rbX.lt
                  have hlX : (ms6).length ≤ 65536 := by have := TX.l; omega
                  have hpX : ∀ m ∈ (ms6), m.p.length ≤ 1000000 := fun m hm => by have := TX.p m hm; omega
                  have rX := hid (And.intro hoX hsX)
                  clear rbX hoX hsX TX
                  go_wp2_with fail
                  clear cfl
                  go_region_held3 (fun w' => w'.cell? ⟨b2, 1, none⟩ = some (.int .i64 (lo6)) ∧ w'.cell? ⟨b2, 2, none⟩ = some (.slice AX (ms6).length cX))
                    (first | go_keep | exact ⟨f1, f2⟩ | exact ⟨g1, g2⟩)
                    (first
                      | (go_at_call 14; refine (len_any W.heap.size b _ kk _ _ _ qX).mono ?_; rintro e w7 ⟨rfl, rfl⟩)
                      | (go_at_call 15; refine (lost_any W.heap.size b _ kk _ _ _ qX).mono ?_; rintro e w7 ⟨rfl, rfl⟩)
                      | (go_at_call 17; refine (all_any W.heap.size b _ kk _ _ _ qX szX hlX hpX).mono ?_; rintro e w8 ⟨A8, c8, rfl, ys8, o8, y8, b8, r8⟩; have f1 := (b8.cell (p := ⟨b2, 1, none⟩) rltX).trans dX1; have f2 := (b8.cell (p := ⟨b2, 2, none⟩) rltX).trans dX2; have bz8 := b8.size; have x8 : Rds w8 w8.heap.size 4 AX _ xsX := ((rX.out.1.rds).below (undrew b8)).more bz8; have h8 := rX.out.2.imp (fun cs m h => h.same (Same.of_below (undrew b8))))
                      | (go_at_call 16; refine (msgs_any W.heap.size _ _ _ _ _ _ ys8 xsX _ _ rfl rfl (by omega) o8.rds y8 x8 h8 (Nat.le_trans szX bz8)).mono ?_; rintro e w9 ⟨rfl, b9⟩; have g1 := (b9.cell (p := ⟨b2, 1, none⟩) (Nat.lt_of_lt_of_le rltX bz8)).trans f1; have g2 := (b9.cell (p := ⟨b2, 2, none⟩) (Nat.lt_of_lt_of_le rltX bz8)).trans f2))
                  have T9 := (TX'.out.below (undrew b8)).below b9
                  have HT9 := hid T9
                  clear T9 qX dX1 dX2 o8 y8 b8 r8 f1 f2 x8 h8 b9 g1 g2
                  go_wp2
                  go_roundg (gk - 1)
                  case measure => have := HJ.out; omega
                  case rel => exact ⟨j + 1, _, _, _, _, by have := HJ.out; omega, by go_num, HT9.out⟩
                | true =>
                  cases ms6 with
                  | nil =>
                    go_wp2_with fail
                    refine (pop_none W.heap.size b v5 kk lo6 _ T6'.out.q T6'.out.s.size).mono ?_
                    rintro e w7 ⟨rfl, _, b7⟩
                    have T7 := T6'.out.below b7
                    unfold zeroAgg
                    clear cfl b7
                    go_wp2_with fail
                    have bl7 : Below w7.heap.size w7 (w7.alloc (.cells #[.string ⟨#[]⟩, .slice none 0 0, .int .i64 0, .bool false] 27)) := (Below.refl _ _).alloc (Nat.le_refl _) _
                    have T8 := T7.below bl7
                    have L8 := Blk.new w7 27 #[.string ⟨#[]⟩, .slice none 0 0, .int .i64 0, .bool false]
                    clear T7 bl7
                    generalize w7.alloc (.cells #[.string ⟨#[]⟩, .slice none 0 0, .int .i64 0, .bool false] 27) = w8 at *
                    refine (popR_none W.heap.size b2 v6 kk lo6 w8 T8.r T8.s.size).mono ?_
                    rintro e w9 ⟨rfl, _, b9⟩
                    have T9 := T8.below b9
                    have L9 := L8.below b9 L8.lt
                    have l9 := L9.lt
                    unfold zeroAgg
                    have x0 := L9.cell_ (i := 0) rfl
                    have x1 := L9.cell_ (i := 1) rfl
                    have x2 := L9.cell_ (i := 2) rfl
                    have x3 := L9.cell_ (i := 3) rfl
                    clear T8 L8 L9 b9
                    go_wp2_with fail
                    have bl9 : Below w9.heap.size w9 (w9.alloc (.cells #[.string ⟨#[]⟩, .slice none 0 0, .int .i64 0, .bool false] 27)) := (Below.refl _ _).alloc (Nat.le_refl _) _
                    have T10 := T9.below bl9
                    refine (msg_any W.heap.size none none 0 0 ⟨⟨#[]⟩, [], 0, false⟩ _ (Bs.nil _ _ _ _) (Bs.nil _ _ _ _)).mono ?_
                    rintro e w10 ⟨rfl, b10⟩
                    have TX := T10.below b10
                    clear T9 T10 bl9 b10 x0 x1 x2 x3
                    have TX' := hid TX
                    have qX := TX.q.drew
                    have szX := TX.s.size
                    obtain ⟨rbX, _, _, xsX, hoX, hsX⟩ := TX.r
                    obtain ⟨AX, cX, rfl, hcX, _⟩ := hoX.form
                    have dX1 := rbX.cell_ (i := 1) rfl
                    have dX2 := rbX.cell_ (i := 2) rfl
                    have rltX := rbX.lt
                    have hlX : (([] : List M)).length ≤ 65536 := by have := TX.l; omega
                    have hpX : ∀ m ∈ (([] : List M)), m.p.length ≤ 1000000 := fun m hm => by have := TX.p m hm; omega
                    have rX := hid (And.intro hoX hsX)
                    clear rbX hoX hsX TX
                    go_wp2_with fail
                    go_region_held3 (fun w' => w'.cell? ⟨b2, 1, none⟩ = some (.int .i64 (lo6)) ∧ w'.cell? ⟨b2, 2, none⟩ = some (.slice AX (([] : List M)).length cX))
                      (first | go_keep | exact ⟨f1, f2⟩ | exact ⟨g1, g2⟩)
                      (first
                        | (go_at_call 14; refine (len_any W.heap.size b _ kk _ _ _ qX).mono ?_; rintro e w7 ⟨rfl, rfl⟩)
                        | (go_at_call 15; refine (lost_any W.heap.size b _ kk _ _ _ qX).mono ?_; rintro e w7 ⟨rfl, rfl⟩)
                        | (go_at_call 17; refine (all_any W.heap.size b _ kk _ _ _ qX szX hlX hpX).mono ?_; rintro e w8 ⟨A8, c8, rfl, ys8, o8, y8, b8, r8⟩; have f1 := (b8.cell (p := ⟨b2, 1, none⟩) rltX).trans dX1; have f2 := (b8.cell (p := ⟨b2, 2, none⟩) rltX).trans dX2; have bz8 := b8.size; have x8 : Rds w8 w8.heap.size 4 AX _ xsX := ((rX.out.1.rds).below (undrew b8)).more bz8; have h8 := rX.out.2.imp (fun cs m h => h.same (Same.of_below (undrew b8))))
                        | (go_at_call 16; refine (msgs_any W.heap.size _ _ _ _ _ _ ys8 xsX _ _ rfl rfl (by omega) o8.rds y8 x8 h8 (Nat.le_trans szX bz8)).mono ?_; rintro e w9 ⟨rfl, b9⟩; have g1 := (b9.cell (p := ⟨b2, 1, none⟩) (Nat.lt_of_lt_of_le rltX bz8)).trans f1; have g2 := (b9.cell (p := ⟨b2, 2, none⟩) (Nat.lt_of_lt_of_le rltX bz8)).trans f2))
                    have T9 := (TX'.out.below (undrew b8)).below b9
                    have HT9 := hid T9
                    clear T9 qX dX1 dX2 o8 y8 b8 r8 f1 f2 x8 h8 b9 g1 g2
                    go_wp2
                    go_roundg (gk - 1)
                    case measure => have := HJ.out; omega
                    case rel => exact ⟨j + 1, _, _, _, _, by have := HJ.out; omega, by go_num, HT9.out⟩
                  | cons m' r =>
                    have hrl : r.length ≤ 65536 := by have := T6'.out.l; simp at this; omega
                    go_wp2_with fail
                    refine (pop_some W.heap.size b v5 kk lo6 m' r _ T6'.out.q T6'.out.s.size).mono ?_
                    rintro e w7 ⟨⟨A7, c7, rfl, hm7⟩, v7, q7, k7, s7, a7⟩
                    simp only [Bool.false_eq_true, if_false] at q7
                    have r7 := T6'.out.r.kept k7 s7 (fun x hx => T6'.out.a.symm x hx)
                    clear cfl
                    go_wp2_with fail
                    have bl7 : Below w7.heap.size w7 (w7.alloc (.cells #[.string m'.t, .slice A7 m'.p.length c7, .int .i64 m'.q, .bool m'.r] 27)) := (Below.refl _ _).alloc (Nat.le_refl _) _
                    have q8 := q7.kept (Kept.of_below bl7 []) (.of_below bl7) (by simp)
                    have r8 := r7.kept (Kept.of_below bl7 []) (.of_below bl7) (by simp)
                    have k8 := k7.alloc (.cells #[.string m'.t, .slice A7 m'.p.length c7, .int .i64 m'.q, .bool m'.r] 27)
                    have s8 := s7.alloc (.cells #[.string m'.t, .slice A7 m'.p.length c7, .int .i64 m'.q, .bool m'.r] 27)
                    have hm8 := hm7.same (.of_below bl7)
                    have L8 := Blk.new w7 27 #[.string m'.t, .slice A7 m'.p.length c7, .int .i64 m'.q, .bool m'.r]
                    have f7 := r7.foot
                    clear q7 r7 bl7 hm7 k7 s7
                    generalize w7.alloc (.cells #[.string m'.t, .slice A7 m'.p.length c7, .int .i64 m'.q, .bool m'.r] 27) = w8 at *
                    refine (popR_some W.heap.size b2 v6 kk lo6 m' r w8 r8 (Nat.le_trans T6'.out.s.size s8.size) hrl).mono ?_
                    rintro e w9 ⟨⟨A9, c9, rfl, hm9⟩, v9, r9, k9, s9, a9⟩
                    simp only [if_true] at r9
                    have L9 := L8.kept k9 (fun hx => by have := (f7 _ hx).2; omega)
                    have l9 := L9.lt
                    have T9 := T6'.out.pop q8 k8 s8 a7 r9 k9 s9 a9
                    have hm10 := hm8.same s9
                    have x0 := L9.cell_ (i := 0) rfl
                    have x1 := L9.cell_ (i := 1) rfl
                    have x2 := L9.cell_ (i := 2) rfl
                    have x3 := L9.cell_ (i := 3) rfl
                    clear q8 r8 k8 s8 L8 L9 r9 k9 s9 a9 a7 f7 hm8
                    go_wp2_with fail
                    have bl9 : Below w9.heap.size w9 (w9.alloc (.cells #[.string m'.t, .slice A9 m'.p.length c9, .int .i64 m'.q, .bool m'.r] 27)) := (Below.refl _ _).alloc (Nat.le_refl _) _
                    have T10 := T9.below bl9
                    refine (msg_any W.heap.size A7 A9 c7 c9 m' _ (hm10.same (.of_below bl9)) (hm9.same (.of_below bl9))).mono ?_
                    rintro e w10 ⟨rfl, b10⟩
                    have TX := T10.below b10
                    clear T9 T10 bl9 b10 x0 x1 x2 x3 hm9 hm10
                    have TX' := hid TX
                    have qX := TX.q.drew
                    have szX := TX.s.size
                    obtain ⟨rbX, _, _, xsX, hoX, hsX⟩ := TX.r
                    obtain ⟨AX, cX, rfl, hcX, _⟩ := hoX.form
                    have dX1 := rbX.cell_ (i := 1) rfl
                    have dX2 := rbX.cell_ (i := 2) rfl
                    have rltX := rbX.lt
                    have hlX : (r).length ≤ 65536 := by have := TX.l; omega
                    have hpX : ∀ m ∈ (r), m.p.length ≤ 1000000 := fun m hm => by have := TX.p m hm; omega
                    have rX := hid (And.intro hoX hsX)
                    clear rbX hoX hsX TX
                    go_wp2_with fail
                    go_region_held3 (fun w' => w'.cell? ⟨b2, 1, none⟩ = some (.int .i64 (lo6)) ∧ w'.cell? ⟨b2, 2, none⟩ = some (.slice AX (r).length cX))
                      (first | go_keep | exact ⟨f1, f2⟩ | exact ⟨g1, g2⟩)
                      (first
                        | (go_at_call 14; refine (len_any W.heap.size b _ kk _ _ _ qX).mono ?_; rintro e w7 ⟨rfl, rfl⟩)
                        | (go_at_call 15; refine (lost_any W.heap.size b _ kk _ _ _ qX).mono ?_; rintro e w7 ⟨rfl, rfl⟩)
                        | (go_at_call 17; refine (all_any W.heap.size b _ kk _ _ _ qX szX hlX hpX).mono ?_; rintro e w8 ⟨A8, c8, rfl, ys8, o8, y8, b8, r8⟩; have f1 := (b8.cell (p := ⟨b2, 1, none⟩) rltX).trans dX1; have f2 := (b8.cell (p := ⟨b2, 2, none⟩) rltX).trans dX2; have bz8 := b8.size; have x8 : Rds w8 w8.heap.size 4 AX _ xsX := ((rX.out.1.rds).below (undrew b8)).more bz8; have h8 := rX.out.2.imp (fun cs m h => h.same (Same.of_below (undrew b8))))
                        | (go_at_call 16; refine (msgs_any W.heap.size _ _ _ _ _ _ ys8 xsX _ _ rfl rfl (by omega) o8.rds y8 x8 h8 (Nat.le_trans szX bz8)).mono ?_; rintro e w9 ⟨rfl, b9⟩; have g1 := (b9.cell (p := ⟨b2, 1, none⟩) (Nat.lt_of_lt_of_le rltX bz8)).trans f1; have g2 := (b9.cell (p := ⟨b2, 2, none⟩) (Nat.lt_of_lt_of_le rltX bz8)).trans f2))
                    have T9 := (TX'.out.below (undrew b8)).below b9
                    have HT9 := hid T9
                    clear T9 qX dX1 dX2 o8 y8 b8 r8 f1 f2 x8 h8 b9 g1 g2
                    go_wp2
                    go_roundg (gk - 1)
                    case measure => have := HJ.out; omega
                    case rel => exact ⟨j + 1, _, _, _, _, by have := HJ.out; omega, by go_num, HT9.out⟩
              · obtain rfl : j = i := by omega
                have hj2 : ¬ (j : Int) < (j : Int) := by omega
                have HB := hid (T.s.below (Nat.le_refl _))
                clear T hjk
                go_wp2
                go_roundg (ko - 1)
                case measure => have := HT.out; omega
                case rel => exact ⟨t + 1, by have := HT.out; omega, by go_num, HB.out⟩
          · have ht2 : t = 2 := by omega
            subst ht2
            have hh := hid (H.out.1.trans (hbr.mono H.out.1.size))
            clear hbr
            go_wp2
            go_ret
            exact ⟨rfl, hh.out⟩

theorem plays_law (most : Int) (v1 v2 : Value) (w : World) (hmost : (Lit.int .i64 most).wf = true)
    (h1 : ∃ A len cap xs ms, v1 = .slice A len cap ∧ len ≤ cap ∧ cap ≤ maxLen ∧ ms.length = len ∧ Rds w w.heap.size 4 A len xs ∧ Seq 4 (relA w) xs ms)
    (h2 : ∃ A len cap xs ms, v2 = .slice A len cap ∧ len ≤ cap ∧ cap ≤ maxLen ∧ ms.length = len ∧ Rds w w.heap.size 1 A len xs ∧ Seq 1 relB xs ms) :
    Calls Try.prog 3 #[.int .i64 most, v1, v2] w fun e w' => e = .returned (.bool true) ∧ Below w.heap.size w w' := by
  obtain ⟨A, len, cap, xs, ms, rfl, a1, a2, a3, a4, a5⟩ := h1
  obtain ⟨A', len', cap', xs', ms', rfl, b1, b2, b3, b4, b5⟩ := h2
  exact plays_any most A A' len cap len' cap' xs xs' ms ms' w hmost a1 a2 a3 a4 a5 b1 b2 b3 b4 b5
end Go.Proofs.Ytdpjkpaolmhliaa
