/- The contract of hubbubseat.Packet, a message. -/
import Derived.Test.YtagcfmmbbcnkbaaPackA
set_option linter.all false
namespace Go.Proofs.Ytagcfmmbbcnkbaa
open Go.RowKit Go.Hub

theorem builtP (t : ByteArray) (x : List UInt8) (A : Option Addr) (cx : Nat) (q : Int) (r : Bool) : Try.prog.built 28 [(0, .int .i64 3), (5, .string t), (6, .slice A x.length cx), (3, .int .i64 q), (2, .bool r)] = some (Pk.cells { kind := 3, topic := t, pay := x, qos := q, retain := r } { s0 with pa := A, pc := cx }) := by kernel_rfl
theorem _root_.Go.Hub.Pk.setI (p : Pk) (s : Ad) (i : Int) (d : Bool) : ((p.cells s).setIfInBounds 4 (.int .i64 i)).setIfInBounds 1 (.bool d) = Pk.cells { p with id := i, dup := d } s := by simp [Pk.cells]
set_option maxRecDepth 100000 in
set_option maxHeartbeats 4000000 in
theorem packet_msg (B : Nat) (k a b c : Int) (x : List UInt8) (A : Option Addr) (cx : Nat) (w : World) (hq : k % 15 = 0 ∨ k % 15 = 1 ∨ k % 15 = 2 ∨ k % 15 = 3) (hk0 : 0 ≤ k) (hk1 : k ≤ 255) (ha : 0 ≤ a ∧ a ≤ 255) (hb : 0 ≤ b ∧ b ≤ 255) (hc : 0 ≤ c ∧ c ≤ 255) (hx : Bs EP B w A x.length x) (hl : x.length ≤ 60) (hB : B ≤ w.heap.size) :
    Calls Try.prog 8 #[.int .u8 k, .int .u8 a, .int .u8 b, .int .u8 c, .slice A x.length cx] w (PkRet B w) := by
  have z := Blk.new w 28 zeroPk
  have b0 : Below w.heap.size w (w.alloc (.cells zeroPk 28)) := (Below.refl _ _).alloc (Nat.le_refl _) _
  have HH := hid (And.intro ha (And.intro z (And.intro b0 (hx.same (.of_below b0)))))
  obtain ⟨hb0, hb1⟩ := hb
  obtain ⟨hc0, hc1⟩ := hc
  clear hx ha z b0
  rcases hq with hq | hq | hq | hq
  all_goals
    go_enter Try.func8, Try.ntmps8
    go_wp2_with fail
    refine (topic_any a HH.out.1 _).mono ?_
    rintro e w1 ⟨tp, rfl, htp, b1⟩
    obtain ⟨P1, hP1⟩ : ∃ P : Pk, P = { kind := 3, topic := tp, pay := x, qos := b % 3, retain := (c % 2 == 0) } := ⟨_, rfl⟩
    obtain ⟨s1, hs1⟩ : ∃ s : Ad, s = { s0 with pa := A, pc := cx } := ⟨_, rfl⟩
    have hbt : Try.prog.built 28 [(0, .int .i64 3), (5, .string tp), (6, .slice A x.length cx), (3, .int .i64 (b % 3)), (2, .bool (c % 2 == 0))] = some (P1.cells s1) := by rw [hP1, hs1]; exact builtP _ _ _ _ _ _
    have z1 := HH.out.2.1.below b1 HH.out.2.1.lt
    have bb := HH.out.2.2.1.trans (b1.mono HH.out.2.2.1.size)
    have F := fresh_row w1 28 (P1.cells s1) rfl
    have b3 := bb.trans (F.2.mono bb.size)
    have hx3 := (HH.out.2.2.2.same (.of_below b1)).same (.of_below F.2)
    have hok : P1.Ok EP B ((w1.alloc (.cells zeroPk 28)).setRow w1.heap.size (P1.cells s1)) s1 := by
      rw [hP1, hs1]
      exact ⟨by rw [hP1, hs1] at hx3; exact hx3, Bs.nil _ _ _ _, Bs.nil _ _ _ _, Cs.nil _ _ _ _ _, Cs.nil _ _ _ _ _⟩
    have hlt : Light P1 := by rw [hP1]; unfold Light; simp; omega
    have hM : Mk B w w.heap.size w1.heap.size ((w1.alloc (.cells zeroPk 28)).setRow w1.heap.size (P1.cells s1)) := ⟨P1, s1, F.1, z1.below F.2 z1.lt, hok, hlt, b3⟩
    have hg : w.heap.size < w1.heap.size := z1.lt
    have HM := hid (And.intro hM hg)
    have zn := Blk.new w1 28 zeroPk
    clear hP1 hs1 z1 bb F b3 hx3 hok hlt hM b1
    go_upto_region 8 with (first
      | (refine wpList_build_any rfl 28 _ rfl [(0, .int .i64 3), (5, .string tp), (6, .slice A x.length cx), (3, .int .i64 (b % 3)), (2, .bool (c % 2 == 0))] rfl _ hbt ?_)
      | (refine wpList_store_row rfl 28 (.tmp 12) (.tmp 34) rfl w1.heap.size (P1.cells s1) rfl rfl 28 zeroPk zn sz28 rfl (P1.cells_one s1) ?_)
      | fail)
    obtain ⟨W3, hW3⟩ : ∃ W, W = (w1.alloc (.cells zeroPk 28)).setRow w1.heap.size (P1.cells s1) := ⟨_, rfl⟩
    obtain ⟨g, hgg⟩ : ∃ g, g = w1.heap.size := ⟨_, rfl⟩
    rw [← hW3, ← hgg] at HM
    rw [← hW3, ← hgg]
    clear hW3 hgg zn hbt
    go_simp
    obtain ⟨⟨p, s, y1, y0, ho, hl2, hb⟩, hrg⟩ := HM.out
    have c3 := y1.cell_ (i := 3) (v := .int .i64 p.qos) rfl
    have c4 := y1.cell_ (i := 4) (v := .int .i64 p.id) rfl
    have c1 := y1.cell_ (i := 1) (v := .bool p.dup) rfl
    have f4 := y1.frozen 4
    have f1 := y1.frozen 1
    have HY := hid (And.intro y1 (And.intro y0 (And.intro ho (And.intro hl2 hb))))
    clear y1 y0 ho hl2 hb
    go_upto_if 37 with fail
    go_cut [] from 35 to 46 (fun wx => Hid (Mk B w w.heap.size g wx))
    case first =>
      go_wp2
      all_goals go_meet
      · have K := ((Kept.refl [g] W3).setCell (p := ⟨g, 4, none⟩) (by simp) (.int .i64 (c % 5 + 1))).setCell (p := ⟨g, 1, none⟩) (by simp) (.bool (c % 7 == 0))
        have T := (HY.out.1.set_ 4 (.int .i64 (c % 5 + 1))).set_ 1 (.bool (c % 7 == 0))
        rw [Pk.setI] at T
        exact hid (mk_put (p' := { p with id := c % 5 + 1, dup := c % 7 == 0 }) HY.out.1 HY.out.2.1 HY.out.2.2.2.1 ⟨HY.out.2.2.1.pay, HY.out.2.2.1.wp, HY.out.2.2.1.pass, HY.out.2.2.1.subs, HY.out.2.2.1.codes⟩ HY.out.2.2.2.2 T K (by omega) (by omega) (by omega))
      · exact hid HM.out.1
    case rest =>
      obtain ⟨p, s, y1, y0, ho, hl2, hb⟩ := hcut.out
      have K := (Kept.refl [w.heap.size] wc).setRow (g := w.heap.size) (by simp) (p.cells s)
      have S := Same.of_kept (E := EP) (B := B) K (fun x hx _ => by
        simp at hx; subst hx
        exact ⟨hB, y0.not_typ (by decide)⟩)
      have HF := hid (And.intro (y0.setRow (p.cells s)) (And.intro (ho.same S) (And.intro hl2 (hb.trans (K.below (B := w.heap.size) (by simp) hb.size)))))
      clear K S ho hl2 hb HM hcut HY c3 c4 c1 f4 f1
      go_wp2_with (first
        | (refine wpList_load_row rfl 28 (.tmp 12) rfl g rfl 28 (p.cells s) (0, 0) _ y1 Try.underlying28 rfl sz28 ?_)
        | (refine wpList_store_row rfl 28 (.tmp 10) (.tmp 47) rfl w.heap.size (p.cells s) rfl rfl 28 zeroPk y0 sz28 rfl (p.cells_one s) ?_)
        | fail)
      exact ret_cell (g := w.heap.size) rfl _ rfl HF.out.1 Try.underlying28 rfl sz28 rfl ⟨p, s, rfl, HF.out.2.1, HF.out.2.2.1, HF.out.2.2.2⟩
end Go.Proofs.Ytagcfmmbbcnkbaa
