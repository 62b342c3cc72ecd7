/- UtfJoins: the walk. -/
import Derived.Test.YtpjapcgidjoliaaDoorP
import Derived.Test.YtpjapcgidjoliaaDoorQ
set_option linter.all false
attribute [local go_sem ↓] Go.wp_at_zero Go.wp_at_succ
namespace Go.Hub
open Go.RowKit
section
variable {P : Program} {w : World}
/-- an append that is guarded, and wanted -/
theorem wpList_append_ownG {ops : Array Oper} {rest : List Oper} {o : Oper} {a : Act} {Q : Exit → Act → World → Prop} (hw : Region.wanted o (yielded ops a.tmps) = true) (s x : Operand) (t : TypeId)
    (ho : o.op = .call { callee := .builtin .append, args := #[s, x], argTypes := #[t, t] })
    (e : TypeId) (i : TypeInfo) (z : Value) (size bytes : Nat) (ht : P.underlying t = some (.slice e)) (hi : P.info? e = some i) (hz : i.zero = some z)
    (hsize : i.size = size) (hby : i.bytes = bytes) (hzs : z.cells.size = size) (hsz : 0 < size)
    (v : Value) (n : Nat) (xs : List Value) (hs : a.eval s = v) (hown : Own w e size v n xs)
    (B : Nat) (A : Option Addr) (m c : Nat) (news : List Value) (hx : a.eval x = .slice A m c) (hr : Rds w B size A m news) (h1 : ∀ u ∈ news, u.oneCell' = true)
    (h63 : n + m ≤ maxLen) (hbytes : (n + m) * bytes ≤ 140737488355328)
    (h : ∀ v' w', Own w' e size v' (n + m) (xs ++ news) → Kept v.ownBlock.toList w w' → (∀ k, v'.ownBlock = some k → v.ownBlock = some k ∨ w.heap.size ≤ k) → wpList P ops Q rest (a.put o.dst v') w') : wpList P ops Q (o :: rest) a w :=
  wpList_step fun K hK => by
    rw [if_pos hw]
    exact wp_append_own w s x t ho e i z size bytes ht hi hz hsize hby hzs hsz v n xs hs hown B A m c news hx hr h1 h63 hbytes fun v' w' h2 h3 h4 => hK _ _ (h v' w' h2 h3 h4)
end
end Go.Hub
namespace Go.Proofs.YtpjapcgidjoliaaDoor
open Go.RowKit Go.Hub Go.Lib

theorem i32s_one (ns : List Int) : ∀ u ∈ i32s ns, u.oneCell' = true := fun u hu => by
  simp only [i32s, List.mem_map] at hu
  obtain ⟨x, _, rfl⟩ := hu
  rfl
set_option maxRecDepth 100000 in
set_option maxHeartbeats 2000000 in
theorem joins_walk (v0 v1 : Value) (ns : List Int) (p : List UInt8) (w : World) (hT : Tabs w) (h0 : Sr w v0 ns) (h1 : Sl w.heap.size w v1 p) :
    Calls Tryd.prog 6 #[v0, v1] w fun e w' => e = .returned (.bool true) ∧ Below w.heap.size w w' := by
  obtain ⟨i0, hi0, hz0, hz1, hz2⟩ := info_parts info21
  have h0' := h0
  have h1' := h1
  obtain ⟨A0, c0, rfl, hb0, hi32⟩ := h0
  obtain ⟨A1, c1, rfl, hb1, hc1, hm1⟩ := h1
  have CB := hid (fun (W : World) (hb : Below w.heap.size w W) => back_any A0 c0 ns W ((hb0.below hb).more hb.size))
  have HB1 := hid hb1
  have HT := hid hT
  clear hb0 hb1 h0' h1' hT hi32
  go_enter Tryd.func6, Tryd.ntmps6
  go_wp2_with fail
  refine (known_any w HT.out).mono ?_
  rintro e w1 ⟨rfl, b1⟩
  have B1 := hid b1
  by_cases g1 : (60 : Int) < (ns.length : Int)
  · have g1b : decide ((60 : Int) < (ns.length : Int)) = true := by simpa using g1
    clear b1
    go_wp2
    go_ret
    exact ⟨rfl, B1.out⟩
  have g1b : decide ((60 : Int) < (ns.length : Int)) = false := by simpa using g1
  by_cases g2 : (40 : Int) < (p.length : Int)
  · have g2b : decide ((40 : Int) < (p.length : Int)) = true := by simpa using g2
    clear b1
    go_wp2
    go_ret
    exact ⟨rfl, B1.out⟩
  have g2b : decide ((40 : Int) < (p.length : Int)) = false := by simpa using g2
  have hpl : p.length ≤ 40 := by omega
  have hnl : ns.length ≤ 60 := by omega
  clear b1
  have CM := hid (fun (W : World) (hb : Below w.heap.size w W) => mixed_any [5] w.heap.size A1 c1 p W (HB1.out.same (.of_below hb)) (by omega))
  go_wp2_with fail
  have pd : Below w.heap.size w w1.drew := B1.out.drew
  go_region_with (first
    | (go_at_call 21; refine (CB.out _ (by assumption)).mono ?_; rintro e wb ⟨rfl, rfl⟩)
    | (go_at_call 10; refine (CM.out _ (by assumption)).mono ?_; rintro e w2 ⟨b2, v2, m, rfl, hml, o2, _⟩; obtain ⟨A2, c2, rfl, _, _⟩ := o2.form; have p2 := pd.trans (b2.mono pd.size); have cm := (Bs.of_own (E := [5]) (B := w.heap.size) o2 (by simp)).conv (P := Tryd.prog) (c := c2) Tryd.underlying22 Tryd.underlying5 Tryd.underlying9; clear o2 b2))
  obtain ⟨sa, hsa⟩ : ∃ s : ByteArray, s = ⟨(encs ns).toArray⟩ := ⟨_, rfl⟩
  obtain ⟨sb, hsb⟩ : ∃ s : ByteArray, s = ⟨m.toArray⟩ := ⟨_, rfl⟩
  have hel := encs_len ns
  have hza : sa.size = (encs ns).length := by rw [hsa, ext_size]
  have hzb : sb.size = m.length := by rw [hsb, ext_size]
  have hda : sa.data.toList = encs ns := by rw [hsa]
  have hdb : sb.data.toList = m := by rw [hsb]
  have hdab : (sa ++ sb).data.toList = encs ns ++ m := by rw [ByteArray.data_append, Array.toList_append, hda, hdb]
  have hzab : (sa ++ sb).size = sa.size + sb.size := ByteArray.size_append ..
  have hma : sa.size ≤ 240 := by omega
  have hmb : sb.size ≤ 160 := by omega
  have hadd := run_string_add_sum (P := Tryd.prog) (w := w2) sa sb (by omega)
  have hrm : (rwl m).length ≤ 160 := by have := rw_len_le m; omega
  obtain ⟨R, hR⟩ : ∃ R, R = (rwl m).length := ⟨_, rfl⟩
  have ha0 : (rwl (encs ns)).length = ns.length := count_encs ns
  have D1 := hid (fun (W : World) => show Calls Tryd.prog 14 #[.string (sa ++ sb)] W fun e w' => e = .returned (.int .i64 ((ns.length : Int) + (R : Int))) ∧ Below W.heap.size W w' from by
    have := count_any (sa ++ sb) W (by unfold maxLen; omega)
    rwa [hdab, count_enc, ← hR, Int.natCast_add] at this)
  have D2 := hid (fun (W : World) => show Calls Tryd.prog 14 #[.string sb] W fun e w' => e = .returned (.int .i64 (R : Int)) ∧ Below W.heap.size W w' from by
    have := count_any sb W (by unfold maxLen; omega)
    rwa [hdb, ← hR] at this)
  have D3 := hid (fun (W : World) => show Calls Tryd.prog 16 #[.string (sa ++ sb)] W (RunesPost (encs ns ++ m) W) from by
    have := runes_any (sa ++ sb) W (by omega)
    rwa [hdab] at this)
  have D4 := hid (fun (W : World) => show Calls Tryd.prog 16 #[.string sa] W (RunesPost (encs ns) W) from by
    have := runes_any sa W (by omega)
    rwa [hda] at this)
  have D5 := hid (fun (W : World) => show Calls Tryd.prog 16 #[.string sb] W (RunesPost m W) from by
    have := runes_any sb W (by omega)
    rwa [hdb] at this)
  have D6 := hid (fun (W : World) => show Calls Tryd.prog 19 #[.string (sa ++ sb), .int .i64 (ns.length : Int)] W fun e w' => e = .returned (.string sa) ∧ Below W.heap.size W w' from by
    have := cut_any (sa ++ sb) ns.length W (by unfold maxLen; omega)
    rwa [hdab, show cutI (encs ns ++ m) (ns.length : Int) = encs ns by unfold cutI; rw [if_neg (by omega), Int.toNat_natCast, cut_enc], ← hsa] at this)
  have hRb : R ≤ 160 := by omega
  have HRS := hid (runes_app ns m)
  have HL := hid (And.intro (count_enc ns m) (And.intro ha0 hR))
  have hab : (sa.size : Int) + (sb.size : Int) ≤ 9223372036854775807 := by omega
  rw [← hsa, ← hsb]
  rw [← hsb] at cm
  clear hsa hsb hel hza hzb hda hdb hdab hzab ha0 hR cm hadd hrm
  go_simp
  go_wp2_with fail
  refine (D1.out _).mono ?_
  rintro e w3 ⟨rfl, b3⟩
  have q3 := p2.trans (b3.mono p2.size)
  clear b3 p2
  go_wp2_with fail
  refine (D2.out _).mono ?_
  rintro e w4 ⟨rfl, b4⟩
  have q4 := q3.trans (b4.mono q3.size)
  clear b4 q3
  go_wp2_with fail
  refine (D3.out _).mono ?_
  rintro e w5 ⟨b5, v5, rfl, o5, _⟩
  obtain ⟨A5, c5, rfl, _, _⟩ := o5.form
  have q5 := q4.trans (b5.mono q4.size)
  have r5 := o5.rds
  clear b5 q4 o5
  go_wp2_with fail
  refine (D4.out _).mono ?_
  rintro e w6 ⟨b6, v6, rfl, o6, k6⟩
  obtain ⟨A6, c6, rfl, _, _⟩ := o6.form
  have q6 := q5.trans (b6.mono q5.size)
  have r6 := r5.below b6
  have s5 := q5.size
  have hlt6 : ∀ k, (Value.slice A6 (rwl (encs ns)).length c6).ownBlock = some k → k < w6.heap.size := fun k hk => (o6.blk k hk).1
  clear q5 r5
  go_wp2_with fail
  refine (D5.out _).mono ?_
  rintro e w7 ⟨b7, v7, rfl, o7, _⟩
  obtain ⟨A7, c7, rfl, _, _⟩ := o7.form
  have q7 := q6.trans (b7.mono q6.size)
  have r7 := r6.below (b7.mono b6.size)
  have s7 : w5.heap.size ≤ w7.heap.size := Nat.le_trans b6.size b7.size
  have o67 := o6.of_eq (w' := w7) (fun k hk => b7.block k (hlt6 k hk))
  have r77 := o7.rds
  have hk67 : ∀ k, (Value.slice A6 (rwl (encs ns)).length c6).ownBlock = some k → w5.heap.size ≤ k := k6
  clear b7 q6 r6 o6 o7 hlt6 k6
  have n1 : (rwl (encs ns)).length ≤ 60 := by have := HL.out.2.1; omega
  have n2 : (rwl m).length ≤ 160 := by have := HL.out.2.2; omega
  go_wp2_with (first
    | (at_builtin
       refine wpList_append_ownG (by first | rfl | simp [Region.wanted, yielded, go_sem]) (.tmp 38) (.tmp 40) _ rfl 21 i0 _ 1 4 Tryd.underlying26 hi0 hz0 hz1 hz2 rfl (by omega) (.slice A6 (rwl (encs ns)).length c6) _ _ rfl o67 _ _ _ _ _ rfl r77 (i32s_one _) (by unfold maxLen; omega) (by omega) ?_
       intro v8 w8 o8 k8 a8; obtain ⟨A8, c8, rfl, _, _⟩ := o8.form))
  have b8 : Below w5.heap.size w7 w8 := k8.below (fun x hx => hk67 x (by simpa using hx)) s7
  have r8 := (r7.below b8).more (Nat.le_trans s7 b8.size)
  have r88 := o8.rds
  have q8 := q7.trans (b8.mono s5)
  have e8 : i32s (runesL (encs ns)) ++ i32s (runesL m) = i32s (runesL (encs ns ++ m)) := by rw [HRS.out]; simp [i32s]
  rw [e8] at r88
  clear e8 o8 k8 a8 b8 r7 r77 o67 q7 hk67 s5 s7
  refine (same_any A5 A8 c5 c8 _ _ (runesL (encs ns ++ m)) w8 (runes_len _).symm (by rw [runes_len, HL.out.1, HL.out.2.1]) (by rw [runes_len, HL.out.1]; omega) r8 r88).mono ?_
  rintro e w9 ⟨rfl, b9⟩
  have q9 := q8.trans (b9.mono q8.size)
  clear b9 q8 r8 r88
  go_wp2_with fail
  refine (D6.out _).mono ?_
  rintro e w10 ⟨rfl, b10⟩
  have HQ := hid (q9.trans (b10.mono q9.size))
  clear b10 q9
  go_wp2
  go_ret
  exact ⟨rfl, HQ.out⟩
end Go.Proofs.YtpjapcgidjoliaaDoor
