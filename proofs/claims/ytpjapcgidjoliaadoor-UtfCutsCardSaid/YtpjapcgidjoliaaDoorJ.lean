/- The contract of 'mixed': bytes, at most four a pick. -/
import Derived.Test.YtpjapcgidjoliaaDoorI
import Derived.Lib.AppendStr
set_option linter.all false
namespace Go.Proofs.YtpjapcgidjoliaaDoor
open Go.RowKit Go.Hub Go.Lib

def pieces : Array Value := #[.string ⟨#[97]⟩, .string ⟨#[195, 169]⟩, .string ⟨#[226, 130, 172]⟩, .string ⟨#[240, 159, 152, 128]⟩, .string ⟨#[0]⟩, .string ⟨#[255]⟩, .string ⟨#[195]⟩, .string ⟨#[226, 130]⟩, .string ⟨#[240, 159, 152]⟩, .string ⟨#[237, 160, 128]⟩, .string ⟨#[192, 128]⟩, .string ⟨#[244, 144, 128, 128]⟩, .string ⟨#[128]⟩, .string ⟨#[47]⟩, .string ⟨#[239, 191, 191]⟩, .string ⟨#[248]⟩, .string ⟨#[224, 128, 128]⟩]
theorem piece_at (q : Nat) (h : q < 17) : ∃ s : ByteArray, pieces[q]? = some (.string s) ∧ s.size ≤ 4 := by
  match q, h with
  | 0, _ => exact ⟨_, rfl, by decide⟩
  | 1, _ => exact ⟨_, rfl, by decide⟩
  | 2, _ => exact ⟨_, rfl, by decide⟩
  | 3, _ => exact ⟨_, rfl, by decide⟩
  | 4, _ => exact ⟨_, rfl, by decide⟩
  | 5, _ => exact ⟨_, rfl, by decide⟩
  | 6, _ => exact ⟨_, rfl, by decide⟩
  | 7, _ => exact ⟨_, rfl, by decide⟩
  | 8, _ => exact ⟨_, rfl, by decide⟩
  | 9, _ => exact ⟨_, rfl, by decide⟩
  | 10, _ => exact ⟨_, rfl, by decide⟩
  | 11, _ => exact ⟨_, rfl, by decide⟩
  | 12, _ => exact ⟨_, rfl, by decide⟩
  | 13, _ => exact ⟨_, rfl, by decide⟩
  | 14, _ => exact ⟨_, rfl, by decide⟩
  | 15, _ => exact ⟨_, rfl, by decide⟩
  | 16, _ => exact ⟨_, rfl, by decide⟩
  | k + 17, h => omega
def MixedPost (n : Nat) (w : World) (e : Ending) (w' : World) : Prop :=
  Below w.heap.size w w' ∧ ∃ v l, e = .returned v ∧ (l : List UInt8).length ≤ 4 * n ∧ Own w' 5 1 v l.length (l.map u8) ∧ ∀ k, v.ownBlock = some k → w.heap.size ≤ k
theorem strCells_u8 (s : ByteArray) : strCells s = s.data.toList.map u8 := by
  unfold strCells
  rfl
set_option maxRecDepth 100000 in
set_option maxHeartbeats 1000000 in
theorem mixed_any (E : List TypeId) (B : Nat) (A : Option Addr) (c : Nat) (p : List UInt8) (w : World) (h : Bs E B w A p.length p) (hl : p.length ≤ 100000) :
    Calls Tryd.prog 10 #[.slice A p.length c] w (MixedPost p.length w) := by
  obtain ⟨i0, hi0, hz0, hz1, hz2⟩ := info_parts info5
  have HH := hid h
  have B0 := hid (And.intro (Blk.new w 9 pieces) ((Below.refl w.heap.size w).alloc (Nat.le_refl _) (.cells pieces 9)))
  clear h
  go_enter Tryd.func10, Tryd.ntmps10
  go_wp2
  go_loopg [4, 5] p.length (fun g v iv wr => ∃ (i n : Nat) (l : List UInt8), i + g = p.length ∧ iv = .int .i64 i ∧ n = l.length ∧ n ≤ 4 * i ∧ wr.ownsRow (w.heap.size + 1) 5 1 v n (l.map u8) ∧ Below w.heap.size w wr ∧ Blk wr w.heap.size 9 pieces)
  case atStart => exact ⟨0, 0, [], by omega, rfl, rfl, by omega, World.ownsRow_nil _ _ _ _, B0.out.2, B0.out.1⟩
  case round =>
    obtain ⟨i, n, l, hi, rfl, hnl, hn4, ho, hb, hbk⟩ := hrel
    have HN := hid hnl
    clear hnl
    by_cases hlt : i < p.length
    · obtain ⟨b, off, rfl, hcl⟩ := Bs_cells (HH.out.same (.of_below hb)) (by omega)
      have hcell := hcl i hlt
      obtain ⟨z, hz⟩ : ∃ z, z = (p.getD i 0).toNat := ⟨_, rfl⟩
      have hzb : (p.getD i 0).toNat < 256 := (p.getD i 0).toNat_lt
      rw [← hz] at hcell hzb
      obtain ⟨q, hq⟩ : ∃ q, q = z % 17 := ⟨_, rfl⟩
      have hq17 : q < 17 := by omega
      have hzq : (z : Int) % 17 = (q : Int) := by omega
      obtain ⟨s, hs, hs4⟩ := piece_at q hq17
      have hrow := hbk.cell_ hs
      have hq0 : (0 : Int) ≤ (q : Int) := by omega
      have hq1 : (q : Int) < 17 := by omega
      have hi2 : (i : Int) < (p.length : Int) := by omega
      have HI := hid hi
      have HO := hid (And.intro ho (And.intro hb hbk))
      have hbs : w.heap.size + 1 ≤ wr.heap.size := by have := hbk.lt; omega
      clear hz hq hs hi hcl hbk hb hlt
      go_wp2_with (first
        | (at_builtin
           refine Lib.wpList_append_own_string _ rfl (.tmp 13) (.tmp 24) 22 9 rfl (w.heap.size + 1) 5 i0 Tryd.underlying22 Tryd.underlying9 hi0 hz0 hz1 hz2 _ n _ rfl ho s rfl (by unfold maxLen; omega) (by omega) hbs ?_
           intro v2 w2 o2 g2 e2))
      clear e2
      have hnw : wr.heap.size ≤ w2.heap.size := (grown_kept g2).size
      have HF := hid (show w2.ownsRow (w.heap.size + 1) 5 1 v2 (n + s.size) ((l ++ s.data.toList).map Go.Hub.u8) ∧ Below w.heap.size w w2 ∧ Blk w2 w.heap.size 9 pieces from by
        refine ⟨by rw [List.map_append, ← strCells_u8]; exact o2, HO.out.2.1.trans ((grown_kept g2).below (fun x hx => by have := own_row HO.out.1 x hx; omega) HO.out.2.1.size), HO.out.2.2.kept (grown_kept g2) (fun hx => by have := own_row HO.out.1 _ hx; omega)⟩)
      clear o2 g2 ho
      go_wp2
      go_roundg (gk - 1)
      case measure => have := HI.out; omega
      case rel => exact ⟨i + 1, n + s.size, l ++ s.data.toList, by have := HI.out; omega, by go_num, by rw [List.length_append, HN.out, Lib.size_eq], by omega, HF.out.1, HF.out.2.1, HF.out.2.2⟩
    · have hi2 : ¬ (i : Int) < (p.length : Int) := by omega
      have HF := hid (And.intro ho (And.intro hb hi))
      clear ho hb hi hbk
      go_wp2
      go_ret
      have h1 := HF.out.1
      rw [HN.out] at h1 hn4
      exact ⟨HF.out.2.1, _, l, rfl, by have := HF.out.2.2; omega, Own.of_row h1, fun k hk => by have := own_row h1 k (by simpa using hk); omega⟩
end Go.Proofs.YtpjapcgidjoliaaDoor
