/- The contract of hubbubseat.Connect: some packet, small. -/
import Derived.Test.YtagcfmmbbcnkbaaSets
import Derived.Deep.Cut
import Derived.Deep.CutRange
import Derived.Deep.CutBlock
set_option linter.all false
namespace Go.Proofs.Ytagcfmmbbcnkbaa
open Go.RowKit Go.Hub

/-- some packet's cells, all of it small -/
def PkRet (B : Nat) (w : World) (e : Ending) (w' : World) : Prop := ∃ p s, e = .returned (.agg (Pk.cells p s)) ∧ p.Ok EP B w' s ∧ Light p ∧ Below w.heap.size w w'
/-- under way: the packet in block g, the result's in block r -/
def Mk (B : Nat) (w : World) (r g : Nat) (wx : World) : Prop := ∃ p s, Blk wx g 28 (Pk.cells p s) ∧ Blk wx r 28 zeroPk ∧ p.Ok EP B wx s ∧ Light p ∧ Below w.heap.size w wx
theorem mk_put {B : Nat} {w wx wy : World} {r g : Nat} {p p' : Pk} {s s' : Ad} (y1 : Blk wx g 28 (p.cells s)) (y0 : Blk wx r 28 zeroPk) (hl : Light p') (ho : p'.Ok EP B wx s') (hb : Below w.heap.size w wx) (T : Blk wy g 28 (p'.cells s')) (K : Kept [g] wx wy) (hne : r ≠ g) (hB : B ≤ g) (hw : w.heap.size ≤ g) : Mk B w r g wy :=
  ⟨p', s', T, y0.kept K (by simpa using hne), ho.same (Same.of_kept (E := EP) (B := B) K (fun x hx _ => by
    simp at hx; subst hx
    exact ⟨hB, y1.not_typ (by decide)⟩)), hl, hb.trans (K.below (B := w.heap.size) (by simpa using hw) hb.size)⟩
theorem Mk.old {B : Nat} {w wx wy : World} {r g : Nat} (h : Mk B w r g wx) (hb : Below wx.heap.size wx wy) : Mk B w r g wy := by
  obtain ⟨p, s, y1, y0, ho, hl, hw⟩ := h
  exact ⟨p, s, y1.below hb y1.lt, y0.below hb y0.lt, ho.old hb, hl, hw.trans (hb.mono hw.size)⟩
abbrev clients : Array Value := #[.string ⟨#[107]⟩, .string ⟨#[108]⟩, .string ⟨#[109]⟩, .string ⟨#[195, 169]⟩, .string ⟨#[]⟩]
theorem client_at (q : Nat) (h : q < 5) : ∃ s : ByteArray, clients[q]? = some (.string s) := by
  match q, h with
  | 0, _ => exact ⟨_, rfl⟩
  | 1, _ => exact ⟨_, rfl⟩
  | 2, _ => exact ⟨_, rfl⟩
  | 3, _ => exact ⟨_, rfl⟩
  | 4, _ => exact ⟨_, rfl⟩
  | k + 5, h => omega
theorem builtC (c : ByteArray) (b : Bool) (k : Int) : Try.prog.built 28 [(0, .int .i64 1), (7, .int .i64 4), (8, .string c), (9, .bool b), (10, .int .i64 k)] = some (Pk.cells { kind := 1, level := 4, client := c, clean := b, keep := k } s0) := by kernel_rfl
theorem builtW (t : ByteArray) (A : Option Addr) (n c : Nat) (q : Int) (r : Bool) : Try.prog.built 24 [(0, .string t), (1, .slice A n c), (2, .int .i64 q), (3, .bool r)] = some #[.string t, .slice A n c, .int .i64 q, .bool r] := by kernel_rfl
set_option maxRecDepth 100000 in
set_option maxHeartbeats 4000000 in
theorem connect_any (B : Nat) (a b c : Int) (x : List UInt8) (A : Option Addr) (cx : Nat) (w : World) (ha : 0 ≤ a ∧ a ≤ 255) (hb : 0 ≤ b ∧ b ≤ 255) (hc : 0 ≤ c ∧ c ≤ 255) (hx : Bs EP B w A x.length x) (hl : x.length ≤ 60) (hB : B ≤ w.heap.size) :
    Calls Try.prog 19 #[.int .u8 a, .int .u8 b, .int .u8 c, .slice A x.length cx] w (PkRet B w) := by
  obtain ⟨ha0, ha1⟩ := ha
  obtain ⟨hb0, hb1⟩ := hb
  have hc' := hc
  obtain ⟨hc0, hc1⟩ := hc
  have HX := hid hx
  clear hx
  obtain ⟨q, hq⟩ : ∃ q : Nat, a % 5 = (q : Int) := ⟨(a % 5).toNat, by omega⟩
  have hq5 : q < 5 := by omega
  obtain ⟨cl, hcl⟩ := client_at q hq5
  have hrow : ((w.alloc (.cells zeroPk 28)).alloc (.cells clients 9)).cell? ⟨w.heap.size + 1, q, none⟩ = some (.string cl) := by
    have := World.cell?_alloc_new (w.alloc (.cells zeroPk 28)) clients 9 q
    rw [World.size_alloc] at this
    rw [this]; exact hcl
  have HROW := hid hrow
  have hq0 : (0 : Int) ≤ (q : Int) := by omega
  have hq1 : (q : Int) < 5 := by omega
  clear hrow hcl
  go_enter Try.func19, Try.ntmps19
  obtain ⟨P1, hP1⟩ : ∃ P : Pk, P = { kind := 1, level := 4, client := cl, clean := (b % 2 == 0), keep := c % 5 } := ⟨_, rfl⟩
  have hbt : Try.prog.built 28 [(0, .int .i64 1), (7, .int .i64 4), (8, .string cl), (9, .bool (b % 2 == 0)), (10, .int .i64 (c % 5))] = some (P1.cells s0) := by rw [hP1]; exact builtC _ _ _
  have hok : ∀ (E : Nat) (w' : World), P1.Ok EP E w' s0 := fun E w' => ok0 P1 (by rw [hP1]) (by rw [hP1]) (by rw [hP1]) (by rw [hP1]) (by rw [hP1]) E w'
  have hlt : Light P1 := by rw [hP1]; unfold Light; simp
  have HP := hid (And.intro hok hlt)
  clear hP1 hok hlt
  have r0 := Blk.new w 28 zeroPk
  have r2 := (r0.alloc (.cells clients 9)).alloc (.cells zeroPk 28)
  have zn := Blk.new ((w.alloc (.cells zeroPk 28)).alloc (.cells clients 9)) 28 zeroPk
  rw [World.size_alloc, World.size_alloc] at zn
  have bb : Below w.heap.size w (((w.alloc (.cells zeroPk 28)).alloc (.cells clients 9)).alloc (.cells zeroPk 28)) := (((Below.refl _ _).alloc (Nat.le_refl _) _).alloc (by simp) _).alloc (by simp; omega) _
  have K := (Kept.refl [w.heap.size + 1 + 1] (((w.alloc (.cells zeroPk 28)).alloc (.cells clients 9)).alloc (.cells zeroPk 28))).setRow (g := w.heap.size + 1 + 1) (by simp) (P1.cells s0)
  have HM := hid (And.intro (zn.setRow (P1.cells s0)) (And.intro (r2.kept K (by simp; omega)) (bb.trans (K.below (B := w.heap.size) (by simp; omega) bb.size))))
  have HZN := hid zn
  clear r0 r2 zn bb K
  go_upto_region 2 with (first
    | (refine wpList_load_cell rfl 9 (.tmp 13) rfl ⟨w.heap.size + 1, q, none⟩ rfl (.string cl) HROW.out (Try.isAgg9 _) ?_)
    | (refine wpList_build_any rfl 28 _ rfl [(0, .int .i64 1), (7, .int .i64 4), (8, .string cl), (9, .bool (b % 2 == 0)), (10, .int .i64 (c % 5))] rfl _ hbt ?_)
    | (refine wpList_store_row rfl 28 (.tmp 9) (.tmp 21) rfl (w.heap.size + 1 + 1) (P1.cells s0) rfl rfl 28 zeroPk HZN.out sz28 rfl (P1.cells_one s0) ?_)
    | fail)
  obtain ⟨W3, hW3⟩ : ∃ W, W = (((w.alloc (.cells zeroPk 28)).alloc (.cells clients 9)).alloc (.cells zeroPk 28)).setRow (w.heap.size + 1 + 1) (P1.cells s0) := ⟨_, rfl⟩
  rw [← hW3] at HM ⊢
  clear hW3
  have hM0 : Mk B w w.heap.size (w.heap.size + 1 + 1) W3 := ⟨P1, s0, HM.out.1, HM.out.2.1, HP.out.1 B W3, HP.out.2, HM.out.2.2⟩
  have HM0 := hid hM0
  clear HM hM0 HROW HZN HP hbt
  go_simp
  -- the greeting without a name
  obtain ⟨p, s, y1, y0, ho, hl2, hb⟩ := HM0.out
  have c8 := y1.cell_ (i := 8) (v := .string p.client) rfl
  have c9 := y1.cell_ (i := 9) (v := .bool p.clean) rfl
  have f9 := y1.frozen 9
  have HY := hid (And.intro y1 (And.intro y0 (And.intro ho (And.intro hl2 hb))))
  clear y1 y0 ho hl2 hb
  go_upto_if 24 with fail
  go_cut [] from 22 to 28 (fun wx => Hid (Mk B w w.heap.size (w.heap.size + 1 + 1) wx))
  case first =>
    go_wp2
    all_goals go_meet
    · have K := (Kept.refl [w.heap.size + 1 + 1] W3).setCell (p := ⟨w.heap.size + 1 + 1, 9, none⟩) (by simp) (.bool (decide (0 < b % 9)))
      have T := HY.out.1.set_ 9 (.bool (decide (0 < b % 9)))
      rw [Pk.set9] at T
      exact hid (mk_put (p' := { p with clean := decide (0 < b % 9) }) HY.out.1 HY.out.2.1 HY.out.2.2.2.1 ⟨HY.out.2.2.1.pay, HY.out.2.2.1.wp, HY.out.2.2.1.pass, HY.out.2.2.1.subs, HY.out.2.2.1.codes⟩ HY.out.2.2.2.2 T K (by omega) (by omega) (by omega))
    · exact HM0
  case rest =>
    have HM1 := hcut
    clear HM0 hcut HY c8 c9 f9
    go_upto_if 31 with fail
    go_cut [] from 29 to 43 (fun wx => Hid (Mk B w w.heap.size (w.heap.size + 1 + 1) wx))
    case first =>
      by_cases hc3 : (c % 3 == 0) = true
      · go_wp2_with fail
        refine (topic_any c hc' wc).mono ?_
        rintro e w5 ⟨tp, rfl, htp, b5⟩
        obtain ⟨p, s, y1, y0, ho, hl2, hb⟩ := HM1.out.old b5
        have hx5 := HX.out.same (.of_below (show Below w.heap.size w w5 from hb))
        have c11 := y1.cell_ (i := 11) (v := .bool p.hasWill) rfl
        have c12 := y1.cell_ (i := 12) (v := .string p.wt) rfl
        have c13 := y1.cell_ (i := 13) (v := .slice s.wa p.wp.length s.wc) rfl
        have c14 := y1.cell_ (i := 14) (v := .int .i64 p.wq) rfl
        have c15 := y1.cell_ (i := 15) (v := .bool p.wr) rfl
        have f11 := y1.frozen 11
        have f12 := y1.frozen 12
        have f13 := y1.frozen 13
        have f14 := y1.frozen 14
        have f15 := y1.frozen 15
        have HY := hid (And.intro y1 (And.intro y0 (And.intro ho (And.intro hl2 (And.intro hb hx5)))))
        clear y1 y0 ho hl2 hb hx5 b5
        go_wp2_with (first
          | (refine wpList_build_any rfl 24 _ rfl [(0, .string tp), (1, .slice A x.length cx), (2, .int .i64 (a % 3)), (3, .bool (b % 3 == 0))] rfl _ (builtW _ _ _ _ _ _) ?_)
          | fail)
        go_meet
        have K := (((((Kept.refl [w.heap.size + 1 + 1] w5).setCell (p := ⟨w.heap.size + 1 + 1, 11, none⟩) (by simp) (.bool true)).setCell (p := ⟨w.heap.size + 1 + 1, 12, none⟩) (by simp) (.string tp)).setCell (p := ⟨w.heap.size + 1 + 1, 13, none⟩) (by simp) (.slice A x.length cx)).setCell (p := ⟨w.heap.size + 1 + 1, 14, none⟩) (by simp) (.int .i64 (a % 3))).setCell (p := ⟨w.heap.size + 1 + 1, 15, none⟩) (by simp) (.bool (b % 3 == 0))
        have T := ((((HY.out.1.set_ 11 (.bool true)).set_ 12 (.string tp)).set_ 13 (.slice A x.length cx)).set_ 14 (.int .i64 (a % 3))).set_ 15 (.bool (b % 3 == 0))
        rw [Pk.setW] at T
        exact hid (mk_put (s' := { s with wa := A, wc := cx }) (p' := { p with hasWill := true, wt := tp, wp := x, wq := a % 3, wr := b % 3 == 0 }) HY.out.1 HY.out.2.1 ⟨HY.out.2.2.2.1.1, by show x.length ≤ 300; omega, HY.out.2.2.2.1.2.2⟩ ⟨HY.out.2.2.1.pay, HY.out.2.2.2.2.2, HY.out.2.2.1.pass, HY.out.2.2.1.subs, HY.out.2.2.1.codes⟩ HY.out.2.2.2.2.1 T K (by omega) (by omega) (by omega))
      · have hc3' : (c % 3 == 0) = false := by simpa using hc3
        go_wp2
        go_meet
        exact HM1
    case rest =>
      have HM2 := hcut
      clear HM1 hcut
      go_upto_if 46 with fail
      go_cut [] from 44 to 47 (fun wx => Hid (Mk B w w.heap.size (w.heap.size + 1 + 1) wx))
      case first =>
        obtain ⟨p, s, y1, y0, ho, hl2, hb⟩ := HM2.out
        have c7 := y1.cell_ (i := 7) (v := .int .i64 p.level) rfl
        have f7 := y1.frozen 7
        have HY := hid (And.intro y1 (And.intro y0 (And.intro ho (And.intro hl2 hb))))
        clear y1 y0 ho hl2 hb
        go_wp2
        all_goals go_meet
        · have K := (Kept.refl [w.heap.size + 1 + 1] wc).setCell (p := ⟨w.heap.size + 1 + 1, 7, none⟩) (by simp) (.int .i64 3)
          have T := HY.out.1.set_ 7 (.int .i64 3)
          rw [Pk.set7] at T
          exact hid (mk_put (p' := { p with level := 3 }) HY.out.1 HY.out.2.1 HY.out.2.2.2.1 ⟨HY.out.2.2.1.pay, HY.out.2.2.1.wp, HY.out.2.2.1.pass, HY.out.2.2.1.subs, HY.out.2.2.1.codes⟩ HY.out.2.2.2.2 T K (by omega) (by omega) (by omega))
        · exact HM2
      case rest =>
        have HM3 := hcut
        clear HM2 hcut
        go_upto_if 50 with fail
        go_cut [] from 48 to 55 (fun wx => Hid (Mk B w w.heap.size (w.heap.size + 1 + 1) wx))
        case first =>
          obtain ⟨p, s, y1, y0, ho, hl2, hb⟩ := HM3.out
          have hx5 := HX.out.same (.of_below (show Below w.heap.size w wc from hb))
          have c16 := y1.cell_ (i := 16) (v := .bool p.hasUser) rfl
          have c17 := y1.cell_ (i := 17) (v := .bool p.hasPass) rfl
          have c18 := y1.cell_ (i := 18) (v := .string p.user) rfl
          have c19 := y1.cell_ (i := 19) (v := .slice s.sa p.pass.length s.sc) rfl
          have f16 := y1.frozen 16
          have f17 := y1.frozen 17
          have f18 := y1.frozen 18
          have f19 := y1.frozen 19
          have HY := hid (And.intro y1 (And.intro y0 (And.intro ho (And.intro hl2 (And.intro hb hx5)))))
          clear y1 y0 ho hl2 hb hx5
          go_wp2
          all_goals go_meet
          · have K := ((((Kept.refl [w.heap.size + 1 + 1] wc).setCell (p := ⟨w.heap.size + 1 + 1, 16, none⟩) (by simp) (.bool true)).setCell (p := ⟨w.heap.size + 1 + 1, 18, none⟩) (by simp) (.string ⟨#[117]⟩)).setCell (p := ⟨w.heap.size + 1 + 1, 17, none⟩) (by simp) (.bool true)).setCell (p := ⟨w.heap.size + 1 + 1, 19, none⟩) (by simp) (.slice A x.length cx)
            have T := (((HY.out.1.set_ 16 (.bool true)).set_ 18 (.string ⟨#[117]⟩)).set_ 17 (.bool true)).set_ 19 (.slice A x.length cx)
            rw [Pk.setU] at T
            exact hid (mk_put (s' := { s with sa := A, sc := cx }) (p' := { p with hasUser := true, user := ⟨#[117]⟩, hasPass := true, pass := x }) HY.out.1 HY.out.2.1 ⟨HY.out.2.2.2.1.1, HY.out.2.2.2.1.2.1, by show x.length ≤ 300; omega, HY.out.2.2.2.1.2.2.2⟩ ⟨HY.out.2.2.1.pay, HY.out.2.2.1.wp, HY.out.2.2.2.2.2, HY.out.2.2.1.subs, HY.out.2.2.1.codes⟩ HY.out.2.2.2.2.1 T K (by omega) (by omega) (by omega))
          · exact HM3
        case rest =>
          obtain ⟨p, s, y1, y0, ho, hl2, hb⟩ := hcut.out
          have K := (Kept.refl [w.heap.size] wc).setRow (g := w.heap.size) (by simp) (p.cells s)
          have S := Same.of_kept (E := EP) (B := B) K (fun x hx _ => by
            simp at hx; subst hx
            exact ⟨hB, y0.not_typ (by decide)⟩)
          have HF := hid (And.intro (y0.setRow (p.cells s)) (And.intro (ho.same S) (And.intro hl2 (hb.trans (K.below (B := w.heap.size) (by simp) hb.size)))))
          clear K S ho hl2 hb HM3 hcut
          go_wp2_with (first
            | (refine wpList_load_row rfl 28 (.tmp 9) rfl (w.heap.size + 1 + 1) rfl 28 (p.cells s) (0, 0) _ y1 Try.underlying28 rfl sz28 ?_)
            | (refine wpList_store_row rfl 28 (.tmp 8) (.tmp 56) rfl w.heap.size (p.cells s) rfl rfl 28 zeroPk y0 sz28 rfl (p.cells_one s) ?_)
            | fail)
          exact ret_cell (g := w.heap.size) rfl _ rfl HF.out.1 Try.underlying28 rfl sz28 rfl ⟨p, s, rfl, HF.out.2.1, HF.out.2.2.1, HF.out.2.2.2⟩
end Go.Proofs.Ytagcfmmbbcnkbaa
