/- Helps for the other laws: '[]byte(s)' of whatever string; rune slices. -/
import Derived.Test.YtpjapcgidjoliaaDoorLaid
set_option linter.all false
namespace Go.Proofs.YtpjapcgidjoliaaDoor
open Go.RowKit Go.Hub Go.Lib Go.ChangeShapes Go.WideShapes Go.Deep

theorem conv_bytes (B : Nat) (l : List UInt8) (w : World) (hs : l.length ≤ maxLen) : ∃ W cap, (convert 9 22 (.string ⟨l.toArray⟩)).run Tryd.prog w = .ok (.slice (some ⟨w.heap.size, 0, none⟩) l.length cap) W ∧
    Bs [5] B W (some ⟨w.heap.size, 0, none⟩) l.length l ∧ l.length ≤ cap ∧ cap ≤ maxLen ∧ Below w.heap.size w W := by
  have hsz : (⟨l.toArray⟩ : ByteArray).size = l.length := by show l.toArray.size = _; simp
  have kconv := run_bytes_of_string w 9 22 5 ⟨l.toArray⟩ Tryd.underlying9 Tryd.underlying22 Tryd.underlying5
  rw [hsz] at kconv
  refine ⟨_, _, kconv, bs_conv [5] B w ⟨l.toArray⟩ 5 (by simp) _ _, grownCap_ge w l.length 0 5, grownCap_le_maxLen w l.length 0 5 hs, ((Below.refl _ _).drew).alloc (Nat.le_refl _) _⟩
def I32 (ns : List Int) : Prop := ∀ n ∈ ns, -2147483648 ≤ n ∧ n ≤ 2147483647
/-- a rune slice, known -/
def Sr (w : World) (v : Value) (ns : List Int) : Prop := ∃ A c, v = .slice A ns.length c ∧ Rds w w.heap.size 1 A ns.length (i32s ns) ∧ I32 ns
theorem Sr.old {w w' : World} {v : Value} {ns : List Int} (h : Sr w v ns) (hb : Below w.heap.size w w') : Sr w' v ns := by
  obtain ⟨A, c, e, h1, h2⟩ := h
  exact ⟨A, c, e, (h1.below hb).more hb.size, h2⟩
theorem Sr.of_own {w : World} {v : Value} {ns : List Int} (h : Own w 21 1 v ns.length (i32s ns)) (hb : I32 ns) : Sr w v ns := by
  obtain ⟨A, c, rfl, h1, h2⟩ := h.form
  exact ⟨A, c, rfl, h.rds, hb⟩
def RTwo (w : World) (G : Nat) : Prop := G < w.heap.size ∧ ∀ k, k < 2 → ∃ v ns, w.cell? ⟨G, k, none⟩ = some v ∧ Sr w v ns ∧ ns.length ≤ 1000
theorem RTwo.old {w w' : World} {G : Nat} (h : RTwo w G) (hb : Below w.heap.size w w') : RTwo w' G :=
  ⟨Nat.lt_of_lt_of_le h.1 hb.size, fun k hk => by
    obtain ⟨v, l, h1, h2, h3⟩ := h.2 k hk
    exact ⟨v, l, (hb.cell (p := ⟨G, k, none⟩) h.1).trans h1, h2.old hb, h3⟩⟩
theorem rtwo_new {w : World} {v v' : Value} {l l' : List Int} (h : Sr w v l) (h' : Sr w v' l') (hl : l.length ≤ 1000) (hl' : l'.length ≤ 1000) : RTwo (w.alloc (.cells #[v, v'] 26)) w.heap.size := by
  have hb : Below w.heap.size w (w.alloc (.cells #[v, v'] 26)) := (Below.refl _ _).alloc (Nat.le_refl _) _
  refine ⟨by simp, fun k hk => ?_⟩
  match k, hk with
  | 0, _ => exact ⟨v, l, by rw [World.cell?_alloc_new]; rfl, h.old hb, hl⟩
  | 1, _ => exact ⟨v', l', by rw [World.cell?_alloc_new]; rfl, h'.old hb, hl'⟩
theorem app_end {w wr W w2 : World} {v v2 : Value} {B : Nat} (hb : Below B w wr) (hB : B ≤ wr.heap.size) (hk : ∀ k, v.ownBlock = some k → B ≤ k) (k1 : Kept [] wr W) (k2 : Kept v.ownBlock.toList W w2)
    (at2 : ∀ k, v2.ownBlock = some k → v.ownBlock = some k ∨ W.heap.size ≤ k) : Below B w w2 ∧ ∀ k, v2.ownBlock = some k → B ≤ k := by
  refine ⟨(hb.trans (k1.below (by simp) hB)).trans (k2.below (fun x hx => hk x (by simpa using hx)) (by have := k1.size; omega)), fun k hkk => ?_⟩
  rcases at2 k hkk with h | h
  · exact hk k h
  · have := k1.size; omega
section
variable {H : Type} {enc : TypeId × Value → H} {w : World} {spare : Nat → Bool} {held : Bool}
/-- an argument that is a rune slice -/
theorem arg_sr {b0 : Nat} {r : Reach} {v : Value} {d : DataW H} {p : List MemPlace} (hv : Value.okWide Tryd.prog w r b0 26 v) (h : DataW.Trod enc Tryd.prog w 0 spare held 26 v d p) : ∃ ns, Sr w v ns := by
  obtain ⟨A, len, cap, xs, ms, rfl, h1, h2, h3, hr, hs⟩ := open_seq (rel := fun cs (x : Int) => cs = [.int .i32 x] ∧ -2147483648 ≤ x ∧ x ≤ 2147483647) (show Tryd.prog.cellsOf 21 = 1 by kernel_rfl) (by omega) Tryd.underlying26 (okWide_slice Tryd.underlying26 hv) h (fun n cs y hy => by
    obtain ⟨z, e1, _, hz⟩ := DataW.trod_int Tryd.underlying21 hy
    have hb : -2147483648 ≤ z ∧ z ≤ 2147483647 := by simpa [Lit.wf, IntKind.min, IntKind.max, IntKind.signed, IntKind.bits] using hz
    exact ⟨z, e1, hb⟩)
  refine ⟨ms, A, cap, by rw [h3], ⟨by simp [i32s], fun hn => ?_⟩, fun n hn => ?_⟩
  · obtain ⟨b, off, e, hb, hc⟩ := hr.2 (by omega)
    refine ⟨b, off, e, hb, fun j u hu => ?_⟩
    simp only [i32s, List.getElem?_map, Option.map_eq_some_iff] at hu
    obtain ⟨x, hx, rfl⟩ := hu
    have h1 := (hs.2 j x hx).1
    refine hc j _ ?_
    have h2 : ((xs.drop (j * 1)).take 1)[0]? = some (.int .i32 x) := by rw [h1]; rfl
    simpa using h2
  · obtain ⟨j, hj⟩ := List.getElem?_of_mem hn
    exact (hs.2 j n hj).2
end
end Go.Proofs.YtpjapcgidjoliaaDoor
