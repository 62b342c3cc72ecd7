/- Contracts: publish. -/
import Derived.Test.YtdfllmiokgoekaaSd
set_option linter.all false
namespace Go.Proofs.Ytdfllmiokgoekaa
open Go.RowKit Go.Hub
theorem wsz3_e : (Try.prog.info? 3).map (·.size) = some 1 := by kernel_rfl
theorem wsz4_e : (Try.prog.info? 4).map (·.size) = some 1 := by kernel_rfl
theorem wsz9_e : (Try.prog.info? 9).map (·.size) = some 1 := by kernel_rfl
theorem wsz22_e : (Try.prog.info? 22).map (·.size) = some 1 := by kernel_rfl
theorem wsz35_e : (Try.prog.info? 35).map (·.size) = some 24 := by kernel_rfl
theorem wbl35_0_5_6_3_2_4_1_e (x0 : Int) (x1 : ByteArray) (x2 : Option Addr) (y2 z2 : Nat) (x3 : Int) (x4 : Bool) (x5 : Int) (x6 : Bool) : Try.prog.built 35 [(0, .int .i64 x0), (5, .string x1), (6, .slice x2 y2 z2), (3, .int .i64 x3), (2, .bool x4), (4, .int .i64 x5), (1, .bool x6)] = some #[.int .i64 x0, .bool x6, .bool x4, .int .i64 x3, .int .i64 x5, .string x1, .slice x2 y2 z2, (.int .i64 0), (.string ⟨#[]⟩), (.bool false), (.int .i64 0), (.bool false), (.string ⟨#[]⟩), (.slice none 0 0), (.int .i64 0), (.bool false), (.bool false), (.bool false), (.string ⟨#[]⟩), (.slice none 0 0), (.bool false), (.int .i64 0), (.slice none 0 0), (.slice none 0 0)] := by kernel_rfl

def pubCells (tp : ByteArray) (A : Option Addr) (n c : Nat) (qos : Int) (ret : Bool) (id : Int) (dup : Bool) : Array Value := #[(.int .i64 3), (.bool dup), (.bool ret), (.int .i64 qos), (.int .i64 id), (.string tp), (.slice A n c), (.int .i64 0), (.string ⟨#[]⟩), (.bool false), (.int .i64 0), (.bool false), (.string ⟨#[]⟩), (.slice none 0 0), (.int .i64 0), (.bool false), (.bool false), (.bool false), (.string ⟨#[]⟩), (.slice none 0 0), (.bool false), (.int .i64 0), (.slice none 0 0), (.slice none 0 0)]
theorem seg_all : ∀ (xs cs : List Value), xs.length = cs.length → setSeg xs 0 cs = cs := fun xs cs h => by
  apply List.ext_getElem?
  intro i
  rw [setSeg_at cs xs 0 i (by omega)]
  split
  · simp
  · rename_i hn
    rw [List.getElem?_eq_none (by omega), List.getElem?_eq_none (by omega)]
def PubPost (tp : ByteArray) (n : Nat) (xs : List Value) (qos : Int) (ret : Bool) (id : Int) (dup : Bool) (w : World) (e : Ending) (w' : World) : Prop := Kept [] w w' ∧ ∃ A c, e = .returned (.agg (pubCells tp A n c qos ret id dup)) ∧ Fresh w w' 5 1 A n c xs

set_option maxHeartbeats 1000000 in
theorem publish_any (tp : ByteArray) (A : Option Addr) (n c : Nat) (xs : List Value) (qos : Int) (ret : Bool) (id : Int) (dup : Bool) (w : World) (A1 : Sl w A n 1 xs) (h1 : ∀ u ∈ xs, u.oneCell' = true) (hm : n ≤ 1000000000) : Calls Try.prog 28 #[.agg #[.string tp, .slice A n c, .int .i64 qos, .bool ret], .int .i64 id, .bool dup] w (PubPost tp n xs qos ret id dup w) := by
  have HK : Kept [] w w := Kept.refl [] w
  refine C.enter Try.func28 rfl Try.ntmps28 rfl ?_
  intro a0 f0
  have f1 : Fr 19 a0 [(0, .agg #[.string tp, .slice A n c, .int .i64 qos, .bool ret]), (1, .int .i64 id), (2, .bool dup)] := f0
  clear f0
  refine wp_seq_k fun K0 hK0 => ?_
  refine C.region ?_
  refine L.box f1 wantedN (by decide) rfl rfl fun a2 w1 g0 N0 f2 => ?_
  have Bg0 := N0.blk
  have kg0 := N0.kept
  have log0 := N0.lo
  have ltg0 := Bg0.lt
  have szw1 := kg0.size
  have frg0 : w.heap.size ≤ g0 := Nat.le_trans HK.size log0
  replace HK := HK.trans kg0 (by simp)
  clear N0 kg0
  clear f1 a0
  refine L.alloc f2 wantedN (by decide) (z := (.agg #[(.int .i64 0), (.bool false), (.bool false), (.int .i64 0), (.int .i64 0), (.string ⟨#[]⟩), (.slice none 0 0), (.int .i64 0), (.string ⟨#[]⟩), (.bool false), (.int .i64 0), (.bool false), (.string ⟨#[]⟩), (.slice none 0 0), (.int .i64 0), (.bool false), (.bool false), (.bool false), (.string ⟨#[]⟩), (.slice none 0 0), (.bool false), (.int .i64 0), (.slice none 0 0), (.slice none 0 0)])) (fun _ => by kernel_rfl) rfl fun a3 w2 g1 N1 f3 => ?_
  have Bg1 := N1.blk
  have kg1 := N1.kept
  have log1 := N1.lo
  have ltg1 := Bg1.lt
  have szw2 := kg1.size
  have frg1 : w.heap.size ≤ g1 := Nat.le_trans HK.size log1
  have neg0_g1 : g0 ≠ g1 := by have := Bg0.lt; omega
  replace HK := HK.trans kg1 (by simp)
  replace Bg0 := Bg0.kept kg1 (by simp)
  clear N1 kg1
  clear f2 a2
  refine wpList_nil (hK0 _ _ ?_)
  try clear hK0 K0
  have f4 := f3.sub (sub_cons (i := 1) rfl (sub_cons (i := 2) rfl (sub_cons (i := 3) rfl (sub_cons (i := 6) rfl sub_nil))))
  clear f3
  refine wp_seq_k fun K1 hK1 => ?_
  have KN := Kept.refl [] w2
  refine R.begin (S := fun W => Kept [g1] w2 W) (by kernel_rfl) (by exact (Kept.refl _ _).drewN 1) ?_
  have hS1 : Kept [g1] w2 (w2.drewN 1) := (Kept.refl _ _).drewN 1
  have hd1 : Kept [] w2 (w2.drewN 1) := (Kept.refl _ _).drewN 1
  obtain ⟨w3, hww3⟩ : ∃ W, W = w2.drewN 1 := ⟨_, rfl⟩
  rw [← hww3] at hS1 hd1 ⊢
  clear hww3
  have szw3 := hS1.size
  replace KN := KN.trans hd1 (by simp)
  refine R.take 0 f4 rfl rfl (by decide) (by kernel_rfl) (by kernel_rfl) (by kernel_rfl) (fun _ _ _ _ h => h) wantedN hS1 (fun W hW => (E.fieldAddr f4 Try.underlying43 rfl rfl wsz9_e)) fun a5 f5 => ?_
  clear f4 a3
  refine R.take 1 f5 rfl rfl (by decide) (by kernel_rfl) (by kernel_rfl) (by kernel_rfl) (fun _ _ _ _ h => h) wantedN hS1 (fun W hW => (by first | exact E.load f5 Try.underlying9 rfl rfl ((Bg0.kept hW (by simp; omega)).cl rfl) | exact E.load f5 Try.underlying9 rfl rfl ((Bg1.kept hW (by simp; omega)).cl rfl))) fun a6 f6 => ?_
  clear f5 a5
  refine R.take 2 f6 rfl rfl (by decide) (by kernel_rfl) (by kernel_rfl) (by kernel_rfl) (fun _ _ _ _ h => h) wantedN hS1 (fun W hW => (E.fieldAddr f6 Try.underlying43 rfl rfl wsz22_e)) fun a7 f7 => ?_
  clear f6 a6
  refine R.take 3 f7 rfl rfl (by decide) (by kernel_rfl) (by kernel_rfl) (by kernel_rfl) (fun _ _ _ _ h => h) wantedN hS1 (fun W hW => (by first | exact E.load f7 Try.underlying22 rfl rfl ((Bg0.kept hW (by simp; omega)).cl rfl) | exact E.load f7 Try.underlying22 rfl rfl ((Bg1.kept hW (by simp; omega)).cl rfl))) fun a8 f8 => ?_
  clear f7 a7
  refine R.take 5 f8 rfl rfl (by decide) (by kernel_rfl) (by kernel_rfl) (by kernel_rfl) (fun _ _ _ _ h => h) wantedN hS1 (fun W hW => (E.fieldAddr f8 Try.underlying43 rfl rfl wsz3_e)) fun a9 f9 => ?_
  clear f8 a8
  refine R.take 6 f9 rfl rfl (by decide) (by kernel_rfl) (by kernel_rfl) (by kernel_rfl) (fun _ _ _ _ h => h) wantedN hS1 (fun W hW => (by first | exact E.load f9 Try.underlying3 rfl rfl ((Bg0.kept hW (by simp; omega)).cl rfl) | exact E.load f9 Try.underlying3 rfl rfl ((Bg1.kept hW (by simp; omega)).cl rfl))) fun a10 f10 => ?_
  clear f9 a9
  refine R.take 7 f10 rfl rfl (by decide) (by kernel_rfl) (by kernel_rfl) (by kernel_rfl) (fun _ _ _ _ h => h) wantedN hS1 (fun W hW => (E.fieldAddr f10 Try.underlying43 rfl rfl wsz4_e)) fun a11 f11 => ?_
  clear f10 a10
  refine R.take 8 f11 rfl rfl (by decide) (by kernel_rfl) (by kernel_rfl) (by kernel_rfl) (fun _ _ _ _ h => h) wantedN hS1 (fun W hW => (by first | exact E.load f11 Try.underlying4 rfl rfl ((Bg0.kept hW (by simp; omega)).cl rfl) | exact E.load f11 Try.underlying4 rfl rfl ((Bg1.kept hW (by simp; omega)).cl rfl))) fun a12 f12 => ?_
  clear f11 a11
  refine R.take 9 f12 rfl rfl (by decide) (by kernel_rfl) (by kernel_rfl) (by kernel_rfl) (fun _ _ _ _ h => h) wantedN hS1 (fun W hW => (E.move f12 rfl)) fun a13 f13 => ?_
  clear f12 a12
  refine R.take 10 f13 rfl rfl (by decide) (by kernel_rfl) (by kernel_rfl) (by kernel_rfl) (fun _ _ _ _ h => h) wantedN hS1 (fun W hW => (E.move f13 rfl)) fun a14 f14 => ?_
  clear f13 a13
  refine R.call 4 f14 rfl rfl (by decide) (by kernel_rfl) wantedN (run_call Try.call37 (args1 f14 rfl)) (clone_any A n c xs _ (A1.kept (HK.trans KN (by simp))) h1 hm) ?_
  rintro e w4 ⟨kc4, Ac, cc, rfl, FC⟩
  replace hS1 := hS1.trans kc4 (by simp)
  refine ⟨_, rfl, hS1, fun a15 f15 => ?_⟩
  clear f14 a14
  have szw4 := kc4.size
  replace KN := KN.trans kc4 (by simp)
  clear kc4
  refine R.take 11 f15 rfl rfl (by decide) (by kernel_rfl) (by kernel_rfl) (by kernel_rfl) (fun _ _ _ _ h => h) wantedN hS1 (fun W hW => (E.build f15 (parts7 f15 rfl rfl rfl rfl rfl rfl rfl) (wbl35_0_5_6_3_2_4_1_e _ _ _ _ _ _ _ _ _))) fun a16 f16 => ?_
  clear f15 a15
  refine R.one 12 (by kernel_rfl) ?_
  refine O.storeSeg f16 rfl wantedN wsz35_e rfl rfl rfl (xs := [(.int .i64 0), (.bool false), (.bool false), (.int .i64 0), (.int .i64 0), (.string ⟨#[]⟩), (.slice none 0 0), (.int .i64 0), (.string ⟨#[]⟩), (.bool false), (.int .i64 0), (.bool false), (.string ⟨#[]⟩), (.slice none 0 0), (.int .i64 0), (.bool false), (.bool false), (.bool false), (.string ⟨#[]⟩), (.slice none 0 0), (.bool false), (.int .i64 0), (.slice none 0 0), (.slice none 0 0)]) (Bg1.kept KN (by simp)) (by simp) rfl (fun _ hk => hS1.trans hk (by simp)) fun a17 w5 f17 NB ks => ?_
  have BR : Blk w5 g1 35 (pubCells tp Ac n cc qos ret id dup) := by
      rw [seg_all _ _ (by simp)] at NB
      exact NB
  have FR := FC.kept ks (fun b hb hx => by simp at hx; subst hx; have := FC.lo _ hb; omega)
  replace hS1 := hS1.trans ks (by simp)
  have szw5 := ks.size
  clear f16 a16 ks NB
  have szw5r := hS1.size
  replace HK := HK.trans hS1 (by intro x hx hlt; simp at hx; subst hx; first | (exfalso; omega) | simp)
  clear hS1
  refine R.done (by kernel_rfl) (hK1 _ _ ?_)
  try clear hK1 K1
  have f18 := f17.sub (sub_cons (i := 6) rfl sub_nil)
  clear f17
  refine wp_ret ?_
  try simp only [Exit.inBlock, Exit.then]
  refine C.retC (P := Try.prog) (fn := Try.f28) f18 rfl rfl BR Try.underlying35 rfl wsz35_e ?_
  exact ⟨HK, Ac, cc, rfl, FR.lower (by omega)⟩

end Go.Proofs.Ytdfllmiokgoekaa
