/- Contracts: ids and queue, the small ones. -/
import Derived.Test.YtdfllmiokgoekaaRows
import Derived.Test.YtdfllmiokgoekaaMp
set_option linter.all false
namespace Go.Proofs.Ytdfllmiokgoekaa
open Go.RowKit Go.Hub
theorem wbl69_0_1_a (x0 : Option Nat) (x1 : Int) : Try.prog.built 69 [(0, .map x0), (1, .int .i64 x1)] = some #[.map x0, .int .i64 x1, (.int .i64 0)] := by kernel_rfl
theorem wsz54_a : (Try.prog.info? 54).map (·.size) = some 1 := by kernel_rfl
theorem wbl72_1_a (x0 : Int) : Try.prog.built 72 [(1, .int .i64 x0)] = some #[(.slice none 0 0), .int .i64 x0, (.int .i64 0)] := by kernel_rfl
theorem wsz70_a : (Try.prog.info? 70).map (·.size) = some 1 := by kernel_rfl
theorem wsz3_a : (Try.prog.info? 3).map (·.size) = some 1 := by kernel_rfl

/-- the ids at block p, their map at block im -/
structure IdsAt (w : World) (p im : Nat) (S : List Int) (most taken : Int) : Prop where
  top : Blk w p 69 #[.map (some im), .int .i64 most, .int .i64 taken]
  set : IsSet Try.prog 3 4 w im S
  ne : im ≠ p
theorem IdsAt.kept {w w' : World} {p im : Nat} {S : List Int} {most taken : Int} {L : List Nat} (h : IdsAt w p im S most taken) (hk : Kept L w w') (h1 : p ∉ L) (h2 : im ∉ L) : IdsAt w' p im S most taken := ⟨h.top.kept hk h1, h.set.kept hk h2, h.ne⟩
def mostI (most hi : Int) : Int := Min.min (Max.max most 0) hi
def nearI (x : Int) : Int := Min.min (Max.max x (-1099511627776)) 1099511627776
def IdsNewPost (most : Int) (w : World) (e : Ending) (w' : World) : Prop := ∃ p im, e = .returned (.pointer (some ⟨p, 0, none⟩)) ∧ Kept [] w w' ∧ IdsAt w' p im [] (mostI most 65535) 0 ∧ w.heap.size ≤ p ∧ w.heap.size ≤ im
def QuNewPost (most : Int) (w : World) (e : Ending) (w' : World) : Prop := ∃ q, e = .returned (.pointer (some ⟨q, 0, none⟩)) ∧ Kept [] w w' ∧ Blk w' q 72 #[.slice none 0 0, .int .i64 (mostI most 65536), .int .i64 0] ∧ w.heap.size ≤ q

set_option maxHeartbeats 1000000 in
theorem idsNew_any (most : Int) (w : World) : Calls Try.prog 21 #[.int .i64 most] w (IdsNewPost most w) := by
  have HK : Kept [] w w := Kept.refl [] w
  refine C.enter Try.func21 rfl Try.ntmps21 rfl ?_
  intro a0 f0
  have f1 : Fr 9 a0 [(0, .int .i64 most)] := f0
  clear f0
  refine wp_seq_k fun K0 hK0 => ?_
  refine C.region ?_
  refine L.val f1 wantedN rfl (by decide) (E.assign f1 rfl) fun a2 f2 => ?_
  clear f1 a0
  refine wpList_nil (hK0 _ _ ?_)
  try clear hK0 K0
  have f3 := f2.sub (sub_cons (i := 0) rfl (sub_cons (i := 2) rfl sub_nil))
  clear f2
  refine wp_seq_k fun K1 hK1 => ?_
  refine C.region ?_
  refine L.makeMap f3 wantedN (by decide) 3 4 fun a4 w1 g0 Ig0 kg0 log0 f4 => ?_
  have ltg0 := Ig0.lt
  have szw1 := kg0.size
  have frg0 : w.heap.size ≤ g0 := Nat.le_trans HK.size log0
  replace HK := HK.trans kg0 (by simp)
  clear f3 kg0 a2
  refine L.val f4 wantedN rfl (by decide) (E.move f4 rfl) fun a5 f5 => ?_
  clear f4 a4
  refine L.val f5 wantedN rfl (by decide) (E.max f5 rfl rfl) fun a6 f6 => ?_
  clear f5 a5
  refine L.val f6 wantedN rfl (by decide) (E.min f6 rfl rfl) fun a7 f7 => ?_
  clear f6 a6
  refine L.val f7 wantedN rfl (by decide) (E.build f7 (parts2 f7 rfl rfl) (wbl69_0_1_a _ _)) fun a8 f8 => ?_
  clear f7 a7
  refine L.box f8 wantedN (by decide) rfl rfl fun a9 w2 g1 N1 f9 => ?_
  have Bg1 := N1.blk
  have kg1 := N1.kept
  have log1 := N1.lo
  have ltg1 := Bg1.lt
  have szw2 := kg1.size
  have frg1 : w.heap.size ≤ g1 := Nat.le_trans HK.size log1
  have neg0_g1 : g0 ≠ g1 := by have := Ig0.lt; omega
  replace HK := HK.trans kg1 (by simp)
  replace Ig0 := Ig0.kept kg1 (by simp)
  clear N1 kg1
  clear f8 a8
  refine L.val f9 wantedN rfl (by decide) (E.assign f9 rfl) fun a10 f10 => ?_
  clear f9 a9
  refine wpList_nil (hK1 _ _ ?_)
  try clear hK1 K1
  have f11 := f10.sub (sub_cons (i := 2) rfl sub_nil)
  clear f10
  refine wp_ret ?_
  try simp only [Exit.inBlock, Exit.then]
  refine C.ret (P := Try.prog) (fn := Try.f21) f11 rfl rfl ?_
  exact ⟨_, _, rfl, HK, ⟨Bg1, Ig0, neg0_g1⟩, frg1, frg0⟩

set_option maxHeartbeats 1000000 in
theorem idsFree_any (p im : Nat) (S : List Int) (most taken : Int) (x : Int) (w : World) (A : IdsAt w p im S most taken) (hx : (Lit.int .i64 x).wf = true) : Calls Try.prog 35 #[.pointer (some ⟨p, 0, none⟩), .int .i64 x] w (fun e w' => e = .returned (.bool (decide (x ∈ S))) ∧ Kept [im] w w' ∧ IdsAt w' p im (S.erase x) most taken) := by
  have BP := A.top
  have IS := A.set
  have hne := A.ne
  have hne2 : p ≠ im := fun h => hne h.symm
  have HK : Kept [im] w w := Kept.refl _ w
  refine C.enter Try.func35 rfl Try.ntmps35 rfl ?_
  intro a0 f0
  have f1 : Fr 18 a0 [(0, .pointer (some ⟨p, 0, none⟩)), (1, .int .i64 x)] := f0
  clear f0
  refine wp_seq_k fun K0 hK0 => ?_
  refine C.region ?_
  refine L.val f1 wantedN rfl (by decide) (E.assign f1 rfl) fun a2 f2 => ?_
  clear f1 a0
  refine wpList_nil (hK0 _ _ ?_)
  try clear hK0 K0
  have f3 := f2.sub (sub_cons (i := 0) rfl (sub_cons (i := 1) rfl (sub_cons (i := 4) rfl sub_nil)))
  clear f2
  refine wp_seq_k fun K1 hK1 => ?_
  refine C.region ?_
  refine L.val f3 wantedN rfl (by decide) (E.move f3 rfl) fun a4 f4 => ?_
  clear f3 a2
  refine L.val f4 wantedN rfl (by decide) (E.nilCheck f4 rfl) fun a5 f5 => ?_
  clear f4 a4
  refine L.val f5 wantedN rfl (by decide) (E.fieldAddr f5 Try.underlying69 rfl rfl wsz54_a) fun a6 f6 => ?_
  clear f5 a5
  refine L.val f6 wantedN rfl (by decide) (by exact E.load f6 Try.underlying54 rfl rfl ((BP).cl rfl)) fun a7 f7 => ?_
  clear f6 a6
  refine L.val f7 wantedN rfl (by decide) (E.move f7 rfl) fun a8 f8 => ?_
  clear f7 a7
  refine L.val f8 wantedN rfl (by decide) (E.look f8 IS Try.underlying3 Try.underlying4 Try.underlying54 (fun _ => by kernel_rfl) rfl rfl (by assumption)) fun a9 f9 => ?_
  clear f8 a8
  refine L.val f9 wantedN rfl (by decide) (E.assign f9 rfl) fun a10 f10 => ?_
  clear f9 a9
  refine wpList_nil (hK1 _ _ ?_)
  try clear hK1 K1
  have f11 := f10.sub (sub_cons (i := 0) rfl (sub_cons (i := 1) rfl (sub_cons (i := 4) rfl (sub_cons (i := 5) rfl sub_nil))))
  clear f10
  refine wp_seq_k fun K2 hK2 => ?_
  refine C.region ?_
  refine L.val f11 wantedN rfl (by decide) (E.move f11 rfl) fun a12 f12 => ?_
  clear f11 a10
  refine L.val f12 wantedN rfl (by decide) (E.nilCheck f12 rfl) fun a13 f13 => ?_
  clear f12 a12
  refine L.val f13 wantedN rfl (by decide) (E.fieldAddr f13 Try.underlying69 rfl rfl wsz54_a) fun a14 f14 => ?_
  clear f13 a13
  refine L.val f14 wantedN rfl (by decide) (by exact E.load f14 Try.underlying54 rfl rfl ((BP).cl rfl)) fun a15 f15 => ?_
  clear f14 a14
  refine L.val f15 wantedN rfl (by decide) (E.move f15 rfl) fun a16 f16 => ?_
  clear f15 a15
  refine L.mapDrop f16 wantedN IS Try.underlying3 Try.underlying54 rfl rfl (by assumption) fun a17 w1 IN ks f17 => ?_
  have szw1 := ks.size
  replace HK := HK.trans ks (by simp)
  replace BP := BP.kept ks (by simp; omega)
  replace IS := IN
  clear ks f16 a16
  refine wpList_nil (hK2 _ _ ?_)
  try clear hK2 K2
  have f18 := f17.sub (sub_cons (i := 4) rfl (sub_cons (i := 5) rfl sub_nil))
  clear f17
  refine wp_seq_k fun K3 hK3 => ?_
  refine C.region ?_
  refine L.val f18 wantedN rfl (by decide) (E.move f18 rfl) fun a19 f19 => ?_
  clear f18 a17
  refine L.val f19 wantedN rfl (by decide) (E.assign f19 rfl) fun a20 f20 => ?_
  clear f19 a19
  refine wpList_nil (hK3 _ _ ?_)
  try clear hK3 K3
  have f21 := f20.sub (sub_cons (i := 4) rfl sub_nil)
  clear f20
  refine wp_ret ?_
  try simp only [Exit.inBlock, Exit.then]
  refine C.ret (P := Try.prog) (fn := Try.f35) f21 rfl rfl ?_
  exact ⟨rfl, HK, ⟨BP, IS, hne⟩⟩

set_option maxHeartbeats 1000000 in
theorem quNew_any (most : Int) (w : World) : Calls Try.prog 22 #[.int .i64 most] w (QuNewPost most w) := by
  have HK : Kept [] w w := Kept.refl [] w
  refine C.enter Try.func22 rfl Try.ntmps22 rfl ?_
  intro a0 f0
  have f1 : Fr 8 a0 [(0, .int .i64 most)] := f0
  clear f0
  refine wp_seq_k fun K0 hK0 => ?_
  refine C.region ?_
  refine L.val f1 wantedN rfl (by decide) (E.assign f1 rfl) fun a2 f2 => ?_
  clear f1 a0
  refine wpList_nil (hK0 _ _ ?_)
  try clear hK0 K0
  have f3 := f2.sub (sub_cons (i := 0) rfl (sub_cons (i := 2) rfl sub_nil))
  clear f2
  refine wp_seq_k fun K1 hK1 => ?_
  refine C.region ?_
  refine L.val f3 wantedN rfl (by decide) (E.move f3 rfl) fun a4 f4 => ?_
  clear f3 a2
  refine L.val f4 wantedN rfl (by decide) (E.max f4 rfl rfl) fun a5 f5 => ?_
  clear f4 a4
  refine L.val f5 wantedN rfl (by decide) (E.min f5 rfl rfl) fun a6 f6 => ?_
  clear f5 a5
  refine L.val f6 wantedN rfl (by decide) (E.build f6 (parts1 f6 rfl) (wbl72_1_a _)) fun a7 f7 => ?_
  clear f6 a6
  refine L.box f7 wantedN (by decide) rfl rfl fun a8 w1 g0 N0 f8 => ?_
  have Bg0 := N0.blk
  have kg0 := N0.kept
  have log0 := N0.lo
  have ltg0 := Bg0.lt
  have szw1 := kg0.size
  have frg0 : w.heap.size ≤ g0 := Nat.le_trans HK.size log0
  replace HK := HK.trans kg0 (by simp)
  clear N0 kg0
  clear f7 a7
  refine L.val f8 wantedN rfl (by decide) (E.assign f8 rfl) fun a9 f9 => ?_
  clear f8 a8
  refine wpList_nil (hK1 _ _ ?_)
  try clear hK1 K1
  have f10 := f9.sub (sub_cons (i := 2) rfl sub_nil)
  clear f9
  refine wp_ret ?_
  try simp only [Exit.inBlock, Exit.then]
  refine C.ret (P := Try.prog) (fn := Try.f22) f10 rfl rfl ?_
  exact ⟨_, rfl, HK, Bg0, frg0⟩

set_option maxHeartbeats 1000000 in
theorem quLen_any (q : Nat) (A : Option Addr) (n c : Nat) (most lost : Int) (w : World) (BP : Blk w q 72 #[.slice A n c, .int .i64 most, .int .i64 lost]) : Calls Try.prog 29 #[.pointer (some ⟨q, 0, none⟩)] w (fun e w' => w = w' ∧ e = .returned (.int .i64 n)) := by
  refine C.enter Try.func29 rfl Try.ntmps29 rfl ?_
  intro a0 f0
  have f1 : Fr 8 a0 [(0, .pointer (some ⟨q, 0, none⟩))] := f0
  clear f0
  refine wp_seq_k fun K0 hK0 => ?_
  refine C.region ?_
  refine L.val f1 wantedN rfl (by decide) (E.assign f1 rfl) fun a2 f2 => ?_
  clear f1 a0
  refine wpList_nil (hK0 _ _ ?_)
  try clear hK0 K0
  have f3 := f2.sub (sub_cons (i := 0) rfl (sub_cons (i := 2) rfl sub_nil))
  clear f2
  refine wp_seq_k fun K1 hK1 => ?_
  refine C.region ?_
  refine L.val f3 wantedN rfl (by decide) (E.move f3 rfl) fun a4 f4 => ?_
  clear f3 a2
  refine L.val f4 wantedN rfl (by decide) (E.nilCheck f4 rfl) fun a5 f5 => ?_
  clear f4 a4
  refine L.val f5 wantedN rfl (by decide) (E.fieldAddr f5 Try.underlying72 rfl rfl wsz70_a) fun a6 f6 => ?_
  clear f5 a5
  refine L.val f6 wantedN rfl (by decide) (by exact E.load f6 Try.underlying70 rfl rfl ((BP).cl rfl)) fun a7 f7 => ?_
  clear f6 a6
  refine L.val f7 wantedN rfl (by decide) (E.lenL f7 Try.underlying70 rfl) fun a8 f8 => ?_
  clear f7 a7
  refine L.val f8 wantedN rfl (by decide) (E.assign f8 rfl) fun a9 f9 => ?_
  clear f8 a8
  refine wpList_nil (hK1 _ _ ?_)
  try clear hK1 K1
  have f10 := f9.sub (sub_cons (i := 2) rfl sub_nil)
  clear f9
  refine wp_ret ?_
  try simp only [Exit.inBlock, Exit.then]
  refine C.ret (P := Try.prog) (fn := Try.f29) f10 rfl rfl ?_
  exact ⟨rfl, rfl⟩

set_option maxHeartbeats 1000000 in
theorem quLost_any (q : Nat) (A : Option Addr) (n c : Nat) (most lost : Int) (w : World) (BP : Blk w q 72 #[.slice A n c, .int .i64 most, .int .i64 lost]) : Calls Try.prog 32 #[.pointer (some ⟨q, 0, none⟩)] w (fun e w' => w = w' ∧ e = .returned (.int .i64 lost)) := by
  refine C.enter Try.func32 rfl Try.ntmps32 rfl ?_
  intro a0 f0
  have f1 : Fr 7 a0 [(0, .pointer (some ⟨q, 0, none⟩))] := f0
  clear f0
  refine wp_seq_k fun K0 hK0 => ?_
  refine C.region ?_
  refine L.val f1 wantedN rfl (by decide) (E.assign f1 rfl) fun a2 f2 => ?_
  clear f1 a0
  refine wpList_nil (hK0 _ _ ?_)
  try clear hK0 K0
  have f3 := f2.sub (sub_cons (i := 0) rfl (sub_cons (i := 2) rfl sub_nil))
  clear f2
  refine wp_seq_k fun K1 hK1 => ?_
  refine C.region ?_
  refine L.val f3 wantedN rfl (by decide) (E.move f3 rfl) fun a4 f4 => ?_
  clear f3 a2
  refine L.val f4 wantedN rfl (by decide) (E.nilCheck f4 rfl) fun a5 f5 => ?_
  clear f4 a4
  refine L.val f5 wantedN rfl (by decide) (E.fieldAddr f5 Try.underlying72 rfl rfl wsz3_a) fun a6 f6 => ?_
  clear f5 a5
  refine L.val f6 wantedN rfl (by decide) (by exact E.load f6 Try.underlying3 rfl rfl ((BP).cl rfl)) fun a7 f7 => ?_
  clear f6 a6
  refine L.val f7 wantedN rfl (by decide) (E.assign f7 rfl) fun a8 f8 => ?_
  clear f7 a7
  refine wpList_nil (hK1 _ _ ?_)
  try clear hK1 K1
  have f9 := f8.sub (sub_cons (i := 2) rfl sub_nil)
  clear f8
  refine wp_ret ?_
  try simp only [Exit.inBlock, Exit.then]
  refine C.ret (P := Try.prog) (fn := Try.f32) f9 rfl rfl ?_
  exact ⟨rfl, rfl⟩

set_option maxHeartbeats 1000000 in
theorem near_any (x : Int) (w : World) : Calls Try.prog 27 #[.int .i64 x] w (fun e w' => w = w' ∧ e = .returned (.int .i64 (nearI x))) := by
  refine C.enter Try.func27 rfl Try.ntmps27 rfl ?_
  intro a0 f0
  have f1 : Fr 6 a0 [(0, .int .i64 x)] := f0
  clear f0
  refine wp_seq_k fun K0 hK0 => ?_
  refine C.region ?_
  refine L.val f1 wantedN rfl (by decide) (E.assign f1 rfl) fun a2 f2 => ?_
  clear f1 a0
  refine wpList_nil (hK0 _ _ ?_)
  try clear hK0 K0
  have f3 := f2.sub (sub_cons (i := 0) rfl (sub_cons (i := 2) rfl sub_nil))
  clear f2
  refine wp_seq_k fun K1 hK1 => ?_
  refine C.region ?_
  refine L.val f3 wantedN rfl (by decide) (E.move f3 rfl) fun a4 f4 => ?_
  clear f3 a2
  refine L.val f4 wantedN rfl (by decide) (E.max f4 rfl rfl) fun a5 f5 => ?_
  clear f4 a4
  refine L.val f5 wantedN rfl (by decide) (E.min f5 rfl rfl) fun a6 f6 => ?_
  clear f5 a5
  refine L.val f6 wantedN rfl (by decide) (E.assign f6 rfl) fun a7 f7 => ?_
  clear f6 a6
  refine wpList_nil (hK1 _ _ ?_)
  try clear hK1 K1
  have f8 := f7.sub (sub_cons (i := 2) rfl sub_nil)
  clear f7
  refine wp_ret ?_
  try simp only [Exit.inBlock, Exit.then]
  refine C.ret (P := Try.prog) (fn := Try.f27) f8 rfl rfl ?_
  exact ⟨rfl, rfl⟩

end Go.Proofs.Ytdfllmiokgoekaa
