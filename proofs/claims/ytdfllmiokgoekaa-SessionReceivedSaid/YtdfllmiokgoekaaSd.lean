/- Contracts: reply, Client, Flying, Waiting, Lost. -/
import Derived.Test.YtdfllmiokgoekaaSc
set_option linter.all false
namespace Go.Proofs.Ytdfllmiokgoekaa
open Go.RowKit Go.Hub
theorem wzi35_d : (Try.prog.info? 35).map (fun i => (i.zero, i.size)) = some (some (.agg #[(.int .i64 0), (.bool false), (.bool false), (.int .i64 0), (.int .i64 0), (.string ⟨#[]⟩), (.slice none 0 0), (.int .i64 0), (.string ⟨#[]⟩), (.bool false), (.int .i64 0), (.bool false), (.string ⟨#[]⟩), (.slice none 0 0), (.int .i64 0), (.bool false), (.bool false), (.bool false), (.string ⟨#[]⟩), (.slice none 0 0), (.bool false), (.int .i64 0), (.slice none 0 0), (.slice none 0 0)]), 24) := by kernel_rfl
theorem wbs27_1_d (x0_0 x0_1 x0_2 x0_3 x0_4 x0_5 x0_6 x0_7 x0_8 x0_9 x0_10 x0_11 x0_12 x0_13 x0_14 x0_15 x0_16 x0_17 x0_18 x0_19 x0_20 x0_21 x0_22 x0_23 : Value) : Instr.fill (fun i => some (i * 24, 24)) ((Array.range (1 * 24)).map fun j => (Value.cells (.agg #[(.int .i64 0), (.bool false), (.bool false), (.int .i64 0), (.int .i64 0), (.string ⟨#[]⟩), (.slice none 0 0), (.int .i64 0), (.string ⟨#[]⟩), (.bool false), (.int .i64 0), (.bool false), (.string ⟨#[]⟩), (.slice none 0 0), (.int .i64 0), (.bool false), (.bool false), (.bool false), (.string ⟨#[]⟩), (.slice none 0 0), (.bool false), (.int .i64 0), (.slice none 0 0), (.slice none 0 0)]))[j % (Value.cells (.agg #[(.int .i64 0), (.bool false), (.bool false), (.int .i64 0), (.int .i64 0), (.string ⟨#[]⟩), (.slice none 0 0), (.int .i64 0), (.string ⟨#[]⟩), (.bool false), (.int .i64 0), (.bool false), (.string ⟨#[]⟩), (.slice none 0 0), (.int .i64 0), (.bool false), (.bool false), (.bool false), (.string ⟨#[]⟩), (.slice none 0 0), (.bool false), (.int .i64 0), (.slice none 0 0), (.slice none 0 0)])).size]!) [(0, .agg #[x0_0, x0_1, x0_2, x0_3, x0_4, x0_5, x0_6, x0_7, x0_8, x0_9, x0_10, x0_11, x0_12, x0_13, x0_14, x0_15, x0_16, x0_17, x0_18, x0_19, x0_20, x0_21, x0_22, x0_23])] = some #[x0_0, x0_1, x0_2, x0_3, x0_4, x0_5, x0_6, x0_7, x0_8, x0_9, x0_10, x0_11, x0_12, x0_13, x0_14, x0_15, x0_16, x0_17, x0_18, x0_19, x0_20, x0_21, x0_22, x0_23] := by kernel_rfl
theorem wbl35_0_4_d (x0 : Int) (x1 : Int) : Try.prog.built 35 [(0, .int .i64 x0), (4, .int .i64 x1)] = some #[.int .i64 x0, (.bool false), (.bool false), (.int .i64 0), .int .i64 x1, (.string ⟨#[]⟩), (.slice none 0 0), (.int .i64 0), (.string ⟨#[]⟩), (.bool false), (.int .i64 0), (.bool false), (.string ⟨#[]⟩), (.slice none 0 0), (.int .i64 0), (.bool false), (.bool false), (.bool false), (.string ⟨#[]⟩), (.slice none 0 0), (.bool false), (.int .i64 0), (.slice none 0 0), (.slice none 0 0)] := by kernel_rfl
theorem wsz9_d : (Try.prog.info? 9).map (·.size) = some 1 := by kernel_rfl
theorem wsz55_d : (Try.prog.info? 55).map (·.size) = some 1 := by kernel_rfl
theorem wsz52_d : (Try.prog.info? 52).map (·.size) = some 1 := by kernel_rfl

def ackCells (k id : Int) : Array Value := #[(.int .i64 k), (.bool false), (.bool false), (.int .i64 0), (.int .i64 id), (.string ⟨#[]⟩), (.slice none 0 0), (.int .i64 0), (.string ⟨#[]⟩), (.bool false), (.int .i64 0), (.bool false), (.string ⟨#[]⟩), (.slice none 0 0), (.int .i64 0), (.bool false), (.bool false), (.bool false), (.string ⟨#[]⟩), (.slice none 0 0), (.bool false), (.int .i64 0), (.slice none 0 0), (.slice none 0 0)]
def ReplyPost (k id : Int) (w : World) (e : Ending) (w' : World) : Prop := ∃ g, e = .returned (.slice (some ⟨g, 0, none⟩) 1 1) ∧ Kept [] w w' ∧ Blk w' g 35 (ackCells k id) ∧ w.heap.size ≤ g

set_option maxHeartbeats 1000000 in
theorem reply_any (k id : Int) (w : World) : Calls Try.prog 23 #[.int .i64 k, .int .i64 id] w (ReplyPost k id w) := by
  have HK : Kept [] w w := Kept.refl [] w
  refine C.enter Try.func23 rfl Try.ntmps23 rfl ?_
  intro a0 f0
  have f1 : Fr 9 a0 [(0, .int .i64 k), (1, .int .i64 id)] := f0
  clear f0
  refine wp_seq_k fun K0 hK0 => ?_
  refine C.region ?_
  refine L.val f1 wantedN rfl (by decide) (E.assign f1 rfl) fun a2 f2 => ?_
  clear f1 a0
  refine wpList_nil (hK0 _ _ ?_)
  try clear hK0 K0
  have f3 := f2.sub (sub_cons (i := 0) rfl (sub_cons (i := 1) rfl (sub_cons (i := 4) rfl sub_nil)))
  clear f2
  refine wp_seq_k fun K1 hK1 => ?_
  refine C.region ?_
  refine L.val f3 wantedN rfl (by decide) (E.move f3 rfl) fun a4 f4 => ?_
  clear f3 a2
  refine L.val f4 wantedN rfl (by decide) (E.move f4 rfl) fun a5 f5 => ?_
  clear f4 a4
  refine L.val f5 wantedN rfl (by decide) (E.build f5 (parts2 f5 rfl rfl) (wbl35_0_4_d _ _)) fun a6 f6 => ?_
  clear f5 a5
  refine L.buildSlice f6 wantedN (by decide) (parts1 f6 rfl) Try.underlying27 wzi35_d rfl rfl (wbs27_1_d _ _ _ _ _ _ _ _ _ _ _ _ _ _ _ _ _ _ _ _ _ _ _ _) fun a7 w1 g0 N0 f7 => ?_
  have Bg0 := N0.blk
  have kg0 := N0.kept
  have log0 := N0.lo
  have ltg0 := Bg0.lt
  have szw1 := kg0.size
  have frg0 : w.heap.size ≤ g0 := Nat.le_trans HK.size log0
  replace HK := HK.trans kg0 (by simp)
  clear N0 kg0
  clear f6 a6
  refine L.val f7 wantedN rfl (by decide) (E.assign f7 rfl) fun a8 f8 => ?_
  clear f7 a7
  refine wpList_nil (hK1 _ _ ?_)
  try clear hK1 K1
  have f9 := f8.sub (sub_cons (i := 4) rfl sub_nil)
  clear f8
  refine wp_ret ?_
  try simp only [Exit.inBlock, Exit.then]
  refine C.ret (P := Try.prog) (fn := Try.f23) f9 rfl rfl ?_
  exact ⟨g0, rfl, HK, Bg0, frg0⟩

set_option maxHeartbeats 1000000 in
theorem client_any (p : Nat) (cl : ByteArray) (v1 v2 v3 v4 v5 : Value) (w : World) (BP : Blk w p 57 #[.string cl, v1, v2, v3, v4, v5]) : Calls Try.prog 20 #[.pointer (some ⟨p, 0, none⟩)] w (fun e w' => w = w' ∧ e = .returned (.string cl)) := by
  refine C.enter Try.func20 rfl Try.ntmps20 rfl ?_
  intro a0 f0
  have f1 : Fr 7 a0 [(0, .pointer (some ⟨p, 0, none⟩))] := f0
  clear f0
  refine wp_seq_k fun K0 hK0 => ?_
  refine C.region ?_
  refine L.val f1 wantedN rfl (by decide) (E.assign f1 rfl) fun a2 f2 => ?_
  clear f1 a0
  refine wpList_nil (hK0 _ _ ?_)
  try clear hK0 K0
  have f3 := f2.sub (sub_cons (i := 0) rfl (sub_cons (i := 2) rfl sub_nil))
  clear f2
  refine wp_seq_k fun K1 hK1 => ?_
  refine C.region ?_
  refine L.val f3 wantedN rfl (by decide) (E.move f3 rfl) fun a4 f4 => ?_
  clear f3 a2
  refine L.val f4 wantedN rfl (by decide) (E.nilCheck f4 rfl) fun a5 f5 => ?_
  clear f4 a4
  refine L.val f5 wantedN rfl (by decide) (E.fieldAddr f5 Try.underlying57 rfl rfl wsz9_d) fun a6 f6 => ?_
  clear f5 a5
  refine L.val f6 wantedN rfl (by decide) (by exact E.load f6 Try.underlying9 rfl rfl ((BP).cl rfl)) fun a7 f7 => ?_
  clear f6 a6
  refine L.val f7 wantedN rfl (by decide) (E.assign f7 rfl) fun a8 f8 => ?_
  clear f7 a7
  refine wpList_nil (hK1 _ _ ?_)
  try clear hK1 K1
  have f9 := f8.sub (sub_cons (i := 2) rfl sub_nil)
  clear f8
  refine wp_ret ?_
  try simp only [Exit.inBlock, Exit.then]
  refine C.ret (P := Try.prog) (fn := Try.f20) f9 rfl rfl ?_
  exact ⟨rfl, rfl⟩

set_option maxHeartbeats 1000000 in
theorem flying_any (p : Nat) (n c : Nat) (A : Option Addr) (v0 v1 v2 v4 v5 : Value) (w : World) (BP : Blk w p 57 #[v0, v1, v2, .slice A n c, v4, v5]) : Calls Try.prog 14 #[.pointer (some ⟨p, 0, none⟩)] w (fun e w' => w = w' ∧ e = .returned (.int .i64 n)) := by
  refine C.enter Try.func14 rfl Try.ntmps14 rfl ?_
  intro a0 f0
  have f1 : Fr 8 a0 [(0, .pointer (some ⟨p, 0, none⟩))] := f0
  clear f0
  refine wp_seq_k fun K0 hK0 => ?_
  refine C.region ?_
  refine L.val f1 wantedN rfl (by decide) (E.assign f1 rfl) fun a2 f2 => ?_
  clear f1 a0
  refine wpList_nil (hK0 _ _ ?_)
  try clear hK0 K0
  have f3 := f2.sub (sub_cons (i := 0) rfl (sub_cons (i := 2) rfl sub_nil))
  clear f2
  refine wp_seq_k fun K1 hK1 => ?_
  refine C.region ?_
  refine L.val f3 wantedN rfl (by decide) (E.move f3 rfl) fun a4 f4 => ?_
  clear f3 a2
  refine L.val f4 wantedN rfl (by decide) (E.nilCheck f4 rfl) fun a5 f5 => ?_
  clear f4 a4
  refine L.val f5 wantedN rfl (by decide) (E.fieldAddr f5 Try.underlying57 rfl rfl wsz55_d) fun a6 f6 => ?_
  clear f5 a5
  refine L.val f6 wantedN rfl (by decide) (by exact E.load f6 Try.underlying55 rfl rfl ((BP).cl rfl)) fun a7 f7 => ?_
  clear f6 a6
  refine L.val f7 wantedN rfl (by decide) (E.lenL f7 Try.underlying55 rfl) fun a8 f8 => ?_
  clear f7 a7
  refine L.val f8 wantedN rfl (by decide) (E.assign f8 rfl) fun a9 f9 => ?_
  clear f8 a8
  refine wpList_nil (hK1 _ _ ?_)
  try clear hK1 K1
  have f10 := f9.sub (sub_cons (i := 2) rfl sub_nil)
  clear f9
  refine wp_ret ?_
  try simp only [Exit.inBlock, Exit.then]
  refine C.ret (P := Try.prog) (fn := Try.f14) f10 rfl rfl ?_
  exact ⟨rfl, rfl⟩

set_option maxHeartbeats 1000000 in
theorem waiting_any (p q : Nat) (n c : Nat) (A : Option Addr) (most lost : Int) (v0 v1 v2 v3 v5 : Value) (w : World) (BP : Blk w p 57 #[v0, v1, v2, v3, .pointer (some ⟨q, 0, none⟩), v5]) (BQ : Blk w q 72 #[.slice A n c, .int .i64 most, .int .i64 lost]) : Calls Try.prog 16 #[.pointer (some ⟨p, 0, none⟩)] w (fun e w' => w = w' ∧ e = .returned (.int .i64 n)) := by
  refine C.enter Try.func16 rfl Try.ntmps16 rfl ?_
  intro a0 f0
  have f1 : Fr 8 a0 [(0, .pointer (some ⟨p, 0, none⟩))] := f0
  clear f0
  refine wp_seq_k fun K0 hK0 => ?_
  refine C.region ?_
  refine L.val f1 wantedN rfl (by decide) (E.assign f1 rfl) fun a2 f2 => ?_
  clear f1 a0
  refine wpList_nil (hK0 _ _ ?_)
  try clear hK0 K0
  have f3 := f2.sub (sub_cons (i := 0) rfl (sub_cons (i := 2) rfl sub_nil))
  clear f2
  refine wp_seq_k fun K1 hK1 => ?_
  refine C.region ?_
  refine L.val f3 wantedN rfl (by decide) (E.move f3 rfl) fun a4 f4 => ?_
  clear f3 a2
  refine L.val f4 wantedN rfl (by decide) (E.nilCheck f4 rfl) fun a5 f5 => ?_
  clear f4 a4
  refine L.val f5 wantedN rfl (by decide) (E.fieldAddr f5 Try.underlying57 rfl rfl wsz52_d) fun a6 f6 => ?_
  clear f5 a5
  refine L.val f6 wantedN rfl (by decide) (by exact E.load f6 Try.underlying52 rfl rfl ((BP).cl rfl)) fun a7 f7 => ?_
  clear f6 a6
  refine L.call f7 wantedN rfl (by decide) (run_call Try.call29 (args1 f7 rfl)) (quLen_any _ _ _ _ _ _ _ BQ) ?_
  rintro e wx ⟨rfl, rfl⟩
  refine ⟨_, rfl, fun a8 f8 => ?_⟩
  clear f7 a7
  refine L.val f8 wantedN rfl (by decide) (E.assign f8 rfl) fun a9 f9 => ?_
  clear f8 a8
  refine wpList_nil (hK1 _ _ ?_)
  try clear hK1 K1
  have f10 := f9.sub (sub_cons (i := 2) rfl sub_nil)
  clear f9
  refine wp_ret ?_
  try simp only [Exit.inBlock, Exit.then]
  refine C.ret (P := Try.prog) (fn := Try.f16) f10 rfl rfl ?_
  exact ⟨rfl, rfl⟩

set_option maxHeartbeats 1000000 in
theorem lost_any (p q : Nat) (n c : Nat) (A : Option Addr) (most lost : Int) (v0 v1 v2 v3 v5 : Value) (w : World) (BP : Blk w p 57 #[v0, v1, v2, v3, .pointer (some ⟨q, 0, none⟩), v5]) (BQ : Blk w q 72 #[.slice A n c, .int .i64 most, .int .i64 lost]) : Calls Try.prog 17 #[.pointer (some ⟨p, 0, none⟩)] w (fun e w' => w = w' ∧ e = .returned (.int .i64 lost)) := by
  refine C.enter Try.func17 rfl Try.ntmps17 rfl ?_
  intro a0 f0
  have f1 : Fr 8 a0 [(0, .pointer (some ⟨p, 0, none⟩))] := f0
  clear f0
  refine wp_seq_k fun K0 hK0 => ?_
  refine C.region ?_
  refine L.val f1 wantedN rfl (by decide) (E.assign f1 rfl) fun a2 f2 => ?_
  clear f1 a0
  refine wpList_nil (hK0 _ _ ?_)
  try clear hK0 K0
  have f3 := f2.sub (sub_cons (i := 0) rfl (sub_cons (i := 2) rfl sub_nil))
  clear f2
  refine wp_seq_k fun K1 hK1 => ?_
  refine C.region ?_
  refine L.val f3 wantedN rfl (by decide) (E.move f3 rfl) fun a4 f4 => ?_
  clear f3 a2
  refine L.val f4 wantedN rfl (by decide) (E.nilCheck f4 rfl) fun a5 f5 => ?_
  clear f4 a4
  refine L.val f5 wantedN rfl (by decide) (E.fieldAddr f5 Try.underlying57 rfl rfl wsz52_d) fun a6 f6 => ?_
  clear f5 a5
  refine L.val f6 wantedN rfl (by decide) (by exact E.load f6 Try.underlying52 rfl rfl ((BP).cl rfl)) fun a7 f7 => ?_
  clear f6 a6
  refine L.call f7 wantedN rfl (by decide) (run_call Try.call32 (args1 f7 rfl)) (quLost_any _ _ _ _ _ _ _ BQ) ?_
  rintro e wx ⟨rfl, rfl⟩
  refine ⟨_, rfl, fun a8 f8 => ?_⟩
  clear f7 a7
  refine L.val f8 wantedN rfl (by decide) (E.assign f8 rfl) fun a9 f9 => ?_
  clear f8 a8
  refine wpList_nil (hK1 _ _ ?_)
  try clear hK1 K1
  have f10 := f9.sub (sub_cons (i := 2) rfl sub_nil)
  clear f9
  refine wp_ret ?_
  try simp only [Exit.inBlock, Exit.then]
  refine C.ret (P := Try.prog) (fn := Try.f17) f10 rfl rfl ?_
  exact ⟨rfl, rfl⟩

end Go.Proofs.Ytdfllmiokgoekaa
