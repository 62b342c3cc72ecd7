/- Merged by program (shrink.py): contracts and plain laws that the claim's statement uses, part 3. -/
import Derived.Test.YtigjafbbnocihaaDoorMg2
set_option linter.all false

namespace Go.Proofs.YtigjafbbnocihaaDoor
open Go.RowKit Go.Hub Go.Lib Go.Vl
theorem wzib5_wc : (Tryd.prog.info? 5).map (fun i => (i.zero, i.size, i.bytes)) = some (some (.int .u8 0), 1, 1) := by kernel_rfl
theorem wzi5_wc : (Tryd.prog.info? 5).map (fun i => (i.zero, i.size)) = some (some (.int .u8 0), 1) := by kernel_rfl
theorem wbs22_2_wc (x0 : Int) (x1 : Int) : Instr.fill (fun i => some (i * 1, 1)) ((Array.range (2 * 1)).map fun j => (Value.cells (.int .u8 0))[j % (Value.cells (.int .u8 0)).size]!) [(0, .int .u8 x0), (1, .int .u8 x1)] = some #[.int .u8 x0, .int .u8 x1] := by kernel_rfl
theorem wsz3_wc : (Tryd.prog.info? 3).map (·.size) = some 1 := by kernel_rfl
theorem wsz4_wc : (Tryd.prog.info? 4).map (·.size) = some 1 := by kernel_rfl
theorem wsz9_wc : (Tryd.prog.info? 9).map (·.size) = some 1 := by kernel_rfl
theorem wsz22_wc : (Tryd.prog.info? 22).map (·.size) = some 1 := by kernel_rfl
theorem wsz24_wc : (Tryd.prog.info? 24).map (·.size) = some 4 := by kernel_rfl
theorem wbs22_1_wc (x0 : Int) : Instr.fill (fun i => some (i * 1, 1)) ((Array.range (1 * 1)).map fun j => (Value.cells (.int .u8 0))[j % (Value.cells (.int .u8 0)).size]!) [(0, .int .u8 x0)] = some #[.int .u8 x0] := by kernel_rfl
theorem wsz25_wc : (Tryd.prog.info? 25).map (·.size) = some 1 := by kernel_rfl
theorem wsz26_wc : (Tryd.prog.info? 26).map (·.size) = some 1 := by kernel_rfl
theorem wsz28_wc : (Tryd.prog.info? 28).map (·.size) = some 24 := by kernel_rfl
theorem wsz70_wc : (Tryd.prog.info? 70).map (·.size) = some 2 := by kernel_rfl
def FB (w W : World) (A : Option Addr) (c : Nat) (l : List UInt8) : Prop := Fresh w W 5 1 A l.length c (l.map u8)
theorem FB.nil (w W : World) : FB w W none 0 [] := Fresh.nil _ _ _ _
section
variable {w W W' : World} {A A' : Option Addr} {c c' : Nat} {l b : List UInt8}
theorem FB.own (h : FB w W A c l) : Own W 5 1 (.slice A l.length c) l.length (l.map u8) := Fresh.own h
theorem FB.kept0 (h : FB w W A c l) (hk : Kept [] W W') : FB w W' A c l := Fresh.kept0 h hk
theorem FB.keptB {g : Nat} {t : TypeId} {cs : Array Value} (h : FB w W A c l) (hk : Kept [g] W W') (B : Blk W g t cs) (ht : t ≠ 5) : FB w W' A c l := Fresh.kept h hk fun b hb hx => by
  obtain rfl := List.mem_singleton.1 hx
  exact own_ne (Fresh.own h) B ht (by simpa using (own_block A l.length c b).2 hb)
theorem FB.rel {L : List Nat} (h : FB w W A c l) (hk : Kept L w W) (hk' : Kept (Value.slice A l.length c).ownBlock.toList W W') : Kept L w W' := hk.trans hk' fun x hx hlt => by
  have := Fresh.lo h x ((own_block A l.length c x).1 (by simpa using hx))
  omega
theorem _root_.Go.Hub.App.nextB {news : List Value} {m : Nat} (h : App W W' 5 1 A l.length c (l.map u8) news m A' c') (F : FB w W A c l) (hs : w.heap.size ≤ W.heap.size) (b : List UInt8) (hn : news = b.map u8) (hm : m = b.length) : FB w W' A' c' (l ++ b) := by
  subst hn hm
  have := h.next F hs
  unfold FB
  rw [List.length_append, List.map_append]
  exact this
theorem sl_lenF (F : FB w W A c (l ++ b)) {m : Nat} (hm : m = b.length) : Value.slice A (l.length + m) c = .slice A (l ++ b).length c := by rw [List.length_append, hm]
def BufPost (w W : World) (A : Option Addr) (c : Nat) (l b : List UInt8) (e : Ending) (w' : World) : Prop := ∃ A' c', e = .returned (.slice A' (l ++ b).length c') ∧ FB w w' A' c' (l ++ b) ∧ Kept (Value.slice A l.length c).ownBlock.toList W w'
theorem AppPost.buf {e : Ending} (h : AppPost W A l.length c (l.map u8) b e W') (F : FB w W A c l) (hs : w.heap.size ≤ W.heap.size) : BufPost w W A c l b e W' := by
  obtain ⟨A', c', rfl, ap⟩ := h
  exact ⟨A', c', by rw [List.length_append], Go.Hub.App.nextB ap F hs b rfl rfl, ap.kept⟩
theorem twoB (A : Option Addr) (c : Nat) (l : List UInt8) (n : Int) (w W : World) (F : FB w W A c l) (hs : w.heap.size ≤ W.heap.size) (hl : l.length ≤ 5000000000000) : Calls Tryd.prog 68 #[.slice A l.length c, .int .i64 n] W fun e w' => BufPost w W A c l (twoL n) e w' :=
  (two_any A l.length c _ n W F.own (by omega)).mono fun e w' h => AppPost.buf h F hs
theorem twoBR (A : Option Addr) (c : Nat) (l : List UInt8) (n : Int) (w W : World) (F : FB w W A c l) (hs : w.heap.size ≤ W.heap.size) (hl : l.length ≤ 5000000000000) : Calls Tryd.prog 72 #[.slice A l.length c, .int .i64 n] W fun e w' => BufPost w W A c l (twoL n) e w' :=
  (twoR_any A l.length c _ n W F.own (by omega)).mono fun e w' h => AppPost.buf h F hs
theorem lumpB (A : Option Addr) (c : Nat) (l : List UInt8) (b : ByteArray) (w W : World) (F : FB w W A c l) (hs : w.heap.size ≤ W.heap.size) (hl : l.length ≤ 5000000000000) (hb : b.size ≤ 1000000) : Calls Tryd.prog 66 #[.slice A l.length c, .string b] W fun e w' => BufPost w W A c l (lumpL b.toList) e w' :=
  (lump_any A l.length c _ b W F.own hl hb).mono fun e w' h => AppPost.buf h F hs
theorem lumpBR (A : Option Addr) (c : Nat) (l : List UInt8) (b : ByteArray) (w W : World) (F : FB w W A c l) (hs : w.heap.size ≤ W.heap.size) (hl : l.length ≤ 5000000000000) (hb : b.size ≤ 1000000) : Calls Tryd.prog 71 #[.slice A l.length c, .string b] W fun e w' => BufPost w W A c l (lumpL b.toList) e w' :=
  (lumpR_any A l.length c _ b W F.own hl hb).mono fun e w' h => AppPost.buf h F hs
theorem FB.lower {w0 : World} (h : FB w W A c l) (hs : w0.heap.size ≤ w.heap.size) : FB w0 W A c l := Fresh.lower h hs
theorem FB.short {r t : List UInt8} (_h : FB w W A c l) (hq : l ++ r = t) (ht : t.length ≤ 3000000000000) : l.length ≤ 3000000000000 := by
  have := congrArg List.length hq
  rw [List.length_append] at this
  omega
theorem NewB.blk {g : Nat} {cs : Array Value} {n : Nat} (HK : Kept [] w W) (B : Blk W g 5 cs) (fr : w.heap.size ≤ g) (hcs : cs.toList = b.map u8) (hl : b.length = n) (hm : n ≤ 1000000) : NewB b w (.returned (.slice (some ⟨g, 0, none⟩) n n)) W := by
  subst hl
  have hs : cs.size = b.length := by
    have := congrArg List.length hcs
    simpa using this
  refine ⟨HK, _, _, rfl, ⟨⟨by simp, .inr ⟨g, 0, b.length, cs, rfl, B, Nat.le_refl _, ?_, by omega, fun j u hu => ?_⟩⟩, fun x hx => by simp at hx; omega⟩⟩
  · unfold maxLen; omega
  rw [Nat.zero_add, ← Array.getElem?_toList, hcs]; exact hu
theorem NewB.of (HK : Kept [] w W) (F : FB w W A c l) (h : l = b) : NewB b w (.returned (.slice A l.length c)) W := by
  subst h
  exact ⟨HK, A, c, rfl, F⟩
theorem drop_out {α : Type} (l : List α) {k : Nat} (h : l.length ≤ k) : l.drop k = [] := List.drop_eq_nil_of_le h
theorem drop_at {α : Type} {l : List α} {k : Nat} {d : α} (hd : l[k]? = some d) : l.drop k = d :: l.drop (k + 1) := by
  obtain ⟨h, e⟩ := List.getElem?_eq_some_iff.1 hd
  rw [List.drop_eq_getElem_cons h, e]
theorem subL_len (k : Int) (x : ByteArray × Int) : (subL k x).length ≤ 3 + x.1.size := by unfold subL; rw [List.length_append, lumpL_len, bytes_len]; split <;> simp <;> omega
theorem flat_len_le : ∀ (k : Int) (l : List (ByteArray × Int)), (∀ x ∈ l, x.1.size ≤ 1000000) → (l.flatMap (subL k)).length ≤ l.length * 1000003
  | _, [], _ => by simp
  | k, x :: r, h => by
    have h1 := subL_len k x
    have h2 := h x (by simp)
    have h3 := flat_len_le k r fun y hy => h y (by simp [hy])
    rw [List.flatMap_cons, List.length_append, List.length_cons]
    omega
theorem connL_len {p : Pk} (hL : p.Len) : (connL p).length ≤ 10000000 := by
  obtain ⟨L1, L2, L3, L4, L5, L6, L7, L8, L9, L10⟩ := hL
  have e1 : mqtt.toList.length = 4 := by rw [bytes_len]; rfl
  unfold connL
  simp only [List.length_append, lumpL_len, twoL_len, bytes_len, List.length_cons, List.length_nil, e1]
  repeat' split
  all_goals simp only [List.length_append, lumpL_len, bytes_len, List.length_nil]
  all_goals have e2 : mqtt.size = 4 := rfl
  all_goals omega
theorem behindL_len {p : Pk} (hL : p.Len) : (behindL p).length ≤ 3000000000000 := by
  have hc := connL_len hL
  obtain ⟨L1, L2, L3, L4, L5, L6, L7, L8, L9, L10⟩ := hL
  have h3 := flat_len_le p.kind p.subs L10
  unfold behindL
  split
  · omega
  split
  · simp
  simp only [List.length_append, List.length_map]
  have : (if p.kind = 3 then lumpL p.topic.toList else []).length ≤ 1000002 := by split <;> simp [lumpL_len, bytes_len] <;> omega
  have : (if numB p = true then twoL p.id else []).length ≤ 2 := by split <;> simp [twoL_len]
  omega
theorem bodyR_len {p : Pk} (hL : p.Len) : (bodyR p).length ≤ 3000000000000 := by
  have hc := connL_len hL
  obtain ⟨L1, L2, L3, L4, L5, L6, L7, L8, L9, L10⟩ := hL
  have h3 := flat_len_le p.kind p.subs L10
  unfold bodyR
  split
  · omega
  split
  · simp
  split
  · simp only [List.length_append, lumpL_len, bytes_len]
    have : (if 0 < p.qos then twoL p.id else []).length ≤ 2 := by split <;> simp [twoL_len]
    omega
  split
  · simp
  simp only [List.length_append, List.length_map, twoL_len]
  omega
theorem bodyR_else {p : Pk} (h : ¬ p.kind = 1 ∧ ¬ p.kind = 2 ∧ ¬ p.kind = 3 ∧ ¬ p.kind = 12 ∧ ¬ p.kind = 13 ∧ ¬ p.kind = 14) : bodyR p = twoL p.id ++ p.subs.flatMap (subL p.kind) ++ p.codes.map b8 := by
  obtain ⟨h1, h2, h3, h4, h5, h6⟩ := h
  have : inB p.kind 12 14 = false := by simp [inB]; omega
  simp [bodyR, h1, h2, h3, this]
theorem sub_cell0 {A : Option Addr} {l : List (ByteArray × Int)} {w : World} (h : Sl w A l.length 2 (subCells l)) {b off i : Nat} {x : ByteArray × Int} (hA : A = some ⟨b, off, none⟩) (hx : l[i]? = some x) : w.cell? ⟨b, off + (i : Int).toNat * 2 + 0, none⟩ = some (.string x.1) := by
  have := sub_row h hA hx 0 (.string x.1) rfl
  simpa using this
theorem sub_cell1 {A : Option Addr} {l : List (ByteArray × Int)} {w : World} (h : Sl w A l.length 2 (subCells l)) {b off i : Nat} {x : ByteArray × Int} (hA : A = some ⟨b, off, none⟩) (hx : l[i]? = some x) : w.cell? ⟨b, off + (i : Int).toNat * 2 + 1, none⟩ = some (.int .i64 x.2) := by
  have := sub_row h hA hx 1 (.int .i64 x.2) rfl
  simpa using this
theorem bytes_arr (l : List UInt8) : (⟨l.toArray⟩ : ByteArray).size = l.length := by simp [ByteArray.size]
end
set_option maxHeartbeats 1000000 in
theorem conn_any (p : Pk) (s : Ad) (w : World) (IP : p.In w s) (hL : p.Len) (hq : 0 ≤ p.wq ∧ p.wq ≤ 2) : Calls Tryd.prog 64 #[.agg (p.cells s)] w (fun e w' => NewB (connL p) w e w') := by
 have HK : Kept [] w w := Kept.refl [] w
 have hBL : (connL p).length ≤ 3000000000000 := by have := connL_len hL; omega
 obtain ⟨L1, L2, L3, L4, L5, L6, L7, L8, L9, L10⟩ := hL
 have hf1 := flg_bd p.clean 2 (by omega)
 have hf2 := flg_bd p.hasWill 4 (by omega)
 have hf3 := flg_bd p.wr 32 (by omega)
 have hf4 := flg_bd p.hasPass 64 (by omega)
 have hf5 := flg_bd p.hasUser 128 (by omega)
 have F0 : FB w w none 0 [] := FB.nil _ _
 refine C.enter Tryd.func64 rfl Tryd.ntmps64 rfl ?_
 intro a0 f0
 have f1 : Fr 69 a0 [(0, .agg (p.cells s))] := f0
 refine C.sk fun K0 hK0 => ?_
 refine L.box f1 wantedN (by decide) rfl rfl fun a2 w1 g0 N0 f2 => ?_
 have Bg0 := N0.blk
 have kg0 := N0.kept
 have log0 := N0.lo
 have ltg0 := Bg0.lt
 have szw1 := kg0.size
 have frg0 : w.heap.size ≤ g0 := Nat.le_trans HK.size log0
 replace HK := HK.trans kg0 (by simp)
 replace F0 := F0.kept0 kg0
 clear f0 N0 kg0
 refine L.ag f2 fun a3 f3 => ?_
 refine wpList_nil (hK0 _ _ ?_)
 have f4 := f3.sub (sc 1 sn)
 refine wp_seq_k fun K1 hK1 => ?_
 have hd1 : Kept [] w1 (w1.drewN 1) := (Kept.refl _ _).drewN 1
 refine R.beginT (S := fun W => (Kept [] w W) ∧ (Blk W g0 28 (p.cells s))) (by kernel_rfl) (by kernel_rfl) ⟨HK.trans hd1 (by simp), Bg0.kept hd1 (by simp)⟩ fun ht => ?_
 obtain ⟨w2, hww2⟩ : ∃ W, W = w1.drewN 1 := ⟨_, rfl⟩
 rw [← hww2] at hd1 ⊢
 clear f1 a0 f2 a2 f3 hww2
 have szw2 := hd1.size
 replace HK := HK.trans hd1 (by simp)
 replace F0 := F0.kept0 hd1
 replace Bg0 := Bg0.kept hd1 (by simp)
 clear hd1
 refine R.u 1 f4 rfl ht ⟨HK, Bg0⟩ (fun W hW => (E.fa 7 f4 U28 rfl wsz3_wc)) fun a5 f5 => ?_
 refine R.u 2 f5 rfl ht ⟨HK, Bg0⟩ (fun W hW => (by exact E.ld f5 U3 (hW.2))) fun a6 f6 => ?_
 refine R.u 3 f6 rfl ht ⟨HK, Bg0⟩ (fun W hW => (E.conv f6 U3 U5 rfl (wrap_u8 _))) fun a7 f7 => ?_
 refine R.u 4 f7 rfl ht ⟨HK, Bg0⟩ (fun W hW => (E.fa 9 f7 U28 rfl wsz4_wc)) fun a8 f8 => ?_
 refine R.u 5 f8 rfl ht ⟨HK, Bg0⟩ (fun W hW => (by exact E.ld f8 U4 (hW.2))) fun a9 f9 => ?_
 refine R.u 7 f9 rfl ht ⟨HK, Bg0⟩ (fun W hW => (E.fa 11 f9 U28 rfl wsz4_wc)) fun a10 f10 => ?_
 refine R.u 8 f10 rfl ht ⟨HK, Bg0⟩ (fun W hW => (by exact E.ld f10 U4 (hW.2))) fun a11 f11 => ?_
 clear f4 a3 f5 a5 f6 a6 f7 a7 f8 a8 f9 a9 f10 a10
 refine R.u 11 f11 rfl ht ⟨HK, Bg0⟩ (fun W hW => (E.fa 12 f11 U28 rfl wsz24_wc)) fun a12 f12 => ?_
 refine R.u 12 f12 rfl ht ⟨HK, Bg0⟩ (fun W hW => (E.fa 2 f12 U24 rfl wsz3_wc)) fun a13 f13 => ?_
 refine R.u 13 f13 rfl ht ⟨HK, Bg0⟩ (fun W hW => (by exact E.ld f13 U3 (hW.2))) fun a14 f14 => ?_
 refine R.u 14 f14 rfl ht ⟨HK, Bg0⟩ (fun W hW => (E.mul f14 rfl rfl (IntWalk.i64_in _ (by omega)))) fun a15 f15 => ?_
 refine R.u 16 f15 rfl ht ⟨HK, Bg0⟩ (fun W hW => (E.fa 12 f15 U28 rfl wsz24_wc)) fun a16 f16 => ?_
 refine R.u 17 f16 rfl ht ⟨HK, Bg0⟩ (fun W hW => (E.fa 3 f16 U24 rfl wsz4_wc)) fun a17 f17 => ?_
 refine R.u 18 f17 rfl ht ⟨HK, Bg0⟩ (fun W hW => (by exact E.ld f17 U4 (hW.2))) fun a18 f18 => ?_
 clear f11 a11 f12 a12 f13 a13 f14 a14 f15 a15 f16 a16 f17 a17
 refine R.u 21 f18 rfl ht ⟨HK, Bg0⟩ (fun W hW => (E.fa 17 f18 U28 rfl wsz4_wc)) fun a19 f19 => ?_
 refine R.u 22 f19 rfl ht ⟨HK, Bg0⟩ (fun W hW => (by exact E.ld f19 U4 (hW.2))) fun a20 f20 => ?_
 refine R.u 25 f20 rfl ht ⟨HK, Bg0⟩ (fun W hW => (E.fa 16 f20 U28 rfl wsz4_wc)) fun a21 f21 => ?_
 refine R.u 26 f21 rfl ht ⟨HK, Bg0⟩ (fun W hW => (by exact E.ld f21 U4 (hW.2))) fun a22 f22 => ?_
 have hC3 := fun b hb => lumpB _ _ _ b w _ F0 HK.size (by (simp [lumpL_len, twoL_len, bytes_len, maxLen]; done)) hb
 refine R.call 0 f22 rfl rfl (by decide) (by kernel_rfl) wantedN (run_call Tryd.call66 (args2 f22 rfl rfl)) (hC3 _ (by decide)) ?_
 clear f18 a18 f19 a19 f20 a20 f21 a21
 rintro e w3 ⟨A3, c3, rfl, FN3, kc3⟩
 have szw3 := kc3.size
 replace HK := F0.rel HK kc3
 replace Bg0 := Bg0.kept kc3 (own_ne F0.own Bg0 (by decide))
 refine ⟨_, rfl, ⟨HK, Bg0⟩, fun a23 f23 => ?_⟩
 clear f22 a22 kc3
 clear F0 hC3
 refine R.call 6 f23 rfl rfl (by decide) (by kernel_rfl) wantedN (run_call Tryd.call65 (args2 f23 rfl rfl)) (flag_any _ _ _) ?_
 rintro e w3x ⟨rfl, rfl⟩
 refine ⟨_, rfl, ⟨HK, Bg0⟩, fun a24 f24 => ?_⟩
 refine R.call 9 f24 rfl rfl (by decide) (by kernel_rfl) wantedN (run_call Tryd.call65 (args2 f24 rfl rfl)) (flag_any _ _ _) ?_
 clear f23 a23
 rintro e w3x ⟨rfl, rfl⟩
 refine ⟨_, rfl, ⟨HK, Bg0⟩, fun a25 f25 => ?_⟩
 refine R.u 10 f25 rfl ht ⟨HK, Bg0⟩ (fun W hW => (E.add f25 rfl rfl (IntWalk.i64_in _ (by omega)))) fun a26 f26 => ?_
 refine R.u 15 f26 rfl ht ⟨HK, Bg0⟩ (fun W hW => (E.add f26 rfl rfl (IntWalk.i64_in _ (by omega)))) fun a27 f27 => ?_
 refine R.call 19 f27 rfl rfl (by decide) (by kernel_rfl) wantedN (run_call Tryd.call65 (args2 f27 rfl rfl)) (flag_any _ _ _) ?_
 clear f24 a24 f25 a25 f26 a26
 rintro e w3x ⟨rfl, rfl⟩
 refine ⟨_, rfl, ⟨HK, Bg0⟩, fun a28 f28 => ?_⟩
 refine R.u 20 f28 rfl ht ⟨HK, Bg0⟩ (fun W hW => (E.add f28 rfl rfl (IntWalk.i64_in _ (by omega)))) fun a29 f29 => ?_
 refine R.call 23 f29 rfl rfl (by decide) (by kernel_rfl) wantedN (run_call Tryd.call65 (args2 f29 rfl rfl)) (flag_any _ _ _) ?_
 clear f27 a27 f28 a28
 rintro e w3x ⟨rfl, rfl⟩
 refine ⟨_, rfl, ⟨HK, Bg0⟩, fun a30 f30 => ?_⟩
 refine R.u 24 f30 rfl ht ⟨HK, Bg0⟩ (fun W hW => (E.add f30 rfl rfl (IntWalk.i64_in _ (by omega)))) fun a31 f31 => ?_
 refine R.call 27 f31 rfl rfl (by decide) (by kernel_rfl) wantedN (run_call Tryd.call65 (args2 f31 rfl rfl)) (flag_any _ _ _) ?_
 clear f29 a29 f30 a30
 rintro e w3x ⟨rfl, rfl⟩
 refine ⟨_, rfl, ⟨HK, Bg0⟩, fun a32 f32 => ?_⟩
 refine R.u 28 f32 rfl ht ⟨HK, Bg0⟩ (fun W hW => (E.add f32 rfl rfl (IntWalk.i64_in _ (by omega)))) fun a33 f33 => ?_
 refine R.u 29 f33 rfl ht ⟨HK, Bg0⟩ (fun W hW => (E.conv f33 U3 U5 rfl (wrap_u8 _))) fun a34 f34 => ?_
 refine R.one 30 (by kernel_rfl) ?_
 refine O.buildSlice f34 rfl wantedN (by decide) (parts2 f34 rfl rfl) U22 wzi5_wc rfl rfl (wbs22_2_wc _ _) (fun _ hk => ⟨HK.trans hk (by simp), Bg0.kept hk (by simp)⟩) fun a35 w4 g3 N3 hSn f35 => ?_
 clear f31 a31 f32 a32 f33 a33 hSn
 have Bg3 := N3.blk
 have kg3 := N3.kept
 have log3 := N3.lo
 have ltg3 := Bg3.lt
 have szw4 := kg3.size
 have frg3 : w.heap.size ≤ g3 := Nat.le_trans HK.size log3
 have neg0_g3 : g0 ≠ g3 := by have := Bg0.lt; omega
 replace HK := HK.trans kg3 (by simp)
 replace Bg0 := Bg0.kept kg3 (by simp)
 replace FN3 := FN3.kept0 kg3
 clear N3 kg3
 refine R.one 31 (by kernel_rfl) ?_
 refine O.append f35 rfl wantedN (by decide) U22 wzib5_wc rfl rfl rfl rfl FN3.own (Blk.sl1 Bg3 rfl) (by intro u hu; simp at hu; rcases hu with rfl | rfl <;> rfl) (by (simp [lumpL_len, twoL_len, bytes_len, maxLen]; done)) (by (simp [lumpL_len, twoL_len, bytes_len, maxLen]; done)) fun a36 w5 A5 c5 AP5 => ?_
 have FN5 := AP5.nextB FN3 HK.size ([b8 p.level, b8 (flagsI p)]) (by simp [u8_b8, flagsI]) (by simp)
 have kap5 := AP5.kept
 have szw5 := kap5.size
 replace HK := FN3.rel HK kap5
 replace Bg0 := Bg0.kept kap5 (own_ne FN3.own Bg0 (by decide))
 refine ⟨⟨HK, Bg0⟩, fun f36 => ?_⟩
 clear f34 a34 f35 a35 kap5 AP5 FN3
 have f37 := f36.as (i := 35) rfl (sl_lenF FN5 (by simp))
 refine R.u 32 f37 rfl ht ⟨HK, Bg0⟩ (fun W hW => (E.assign f37 rfl)) fun a38 f38 => ?_
 refine R.done (by kernel_rfl) (hK1 _ _ ?_)
 have f39 := f38.sub (sc 1 (sc 3 sn))
 obtain ⟨J3, hJ3⟩ : ∃ J : Act → World → Prop, J = fun a W => ∃ (A : Option Addr) (c : Nat) (l : List UInt8), l ++ ((if p.hasWill then lumpL p.wt.toList ++ lumpL p.wp else []) ++ ((if p.hasUser then lumpL p.user.toList else []) ++ (if p.hasPass then lumpL p.pass else []))) = connL p ∧ Kept [] w W ∧ Blk W g0 28 (p.cells s) ∧ FB w W A c l ∧ Fr 69 a [(1, .pointer (some ⟨g0, 0, none⟩)), (3, .slice A l.length c)] := ⟨_, rfl⟩
 clear f36 f37 a36 f38
 refine C.cut J3 ?_ ?_
 ·skip
  have hd2 : Kept [] w5 (w5.drewN 1) := (Kept.refl _ _).drewN 1
  refine R.beginT (S := fun W => (Kept [] w W) ∧ (Blk W g0 28 (p.cells s))) (by kernel_rfl) (by kernel_rfl) ⟨HK.trans hd2 (by simp), Bg0.kept hd2 (by simp)⟩ fun ht => ?_
  obtain ⟨w6, hww6⟩ : ∃ W, W = w5.drewN 1 := ⟨_, rfl⟩
  rw [← hww6] at hd2 ⊢
  clear hww6
  have szw6 := hd2.size
  replace HK := HK.trans hd2 (by simp)
  replace Bg0 := Bg0.kept hd2 (by simp)
  replace FN5 := FN5.kept0 hd2
  clear hd2
  refine R.u 0 f39 rfl ht ⟨HK, Bg0⟩ (fun W hW => (E.move f39 rfl)) fun a40 f40 => ?_
  refine R.u 1 f40 rfl ht ⟨HK, Bg0⟩ (fun W hW => (E.fa 10 f40 U28 rfl wsz3_wc)) fun a41 f41 => ?_
  refine R.u 2 f41 rfl ht ⟨HK, Bg0⟩ (fun W hW => (by exact E.ld f41 U3 (hW.2))) fun a42 f42 => ?_
  refine R.u 4 f42 rfl ht ⟨HK, Bg0⟩ (fun W hW => (E.fa 8 f42 U28 rfl wsz9_wc)) fun a43 f43 => ?_
  refine R.u 5 f43 rfl ht ⟨HK, Bg0⟩ (fun W hW => (by exact E.ld f43 U9 (hW.2))) fun a44 f44 => ?_
  have hC7 := fun n => twoB _ _ _ n w _ FN5 HK.size (by (simp [lumpL_len, twoL_len, bytes_len, maxLen]; done))
  refine R.call 3 f44 rfl rfl (by decide) (by kernel_rfl) wantedN (run_call Tryd.call68 (args2 f44 rfl rfl)) (hC7 _) ?_
  clear f39 a38 f40 a40 f41 a41 f42 a42 f43 a43
  rintro e w7 ⟨A7, c7, rfl, FN7, kc7⟩
  have szw7 := kc7.size
  replace HK := FN5.rel HK kc7
  replace Bg0 := Bg0.kept kc7 (own_ne FN5.own Bg0 (by decide))
  refine ⟨_, rfl, ⟨HK, Bg0⟩, fun a45 f45 => ?_⟩
  clear f44 a44 kc7
  clear FN5 hC7
  have hC8 := fun b hb => lumpB _ _ _ b w _ FN7 HK.size (by (simp [lumpL_len, twoL_len, bytes_len, maxLen]; done)) hb
  refine R.call 6 f45 rfl rfl (by decide) (by kernel_rfl) wantedN (run_call Tryd.call66 (args2 f45 rfl rfl)) (hC8 _ (by omega)) ?_
  rintro e w8 ⟨A8, c8, rfl, FN8, kc8⟩
  have szw8 := kc8.size
  replace HK := FN7.rel HK kc8
  replace Bg0 := Bg0.kept kc8 (own_ne FN7.own Bg0 (by decide))
  refine ⟨_, rfl, ⟨HK, Bg0⟩, fun a46 f46 => ?_⟩
  clear f45 a45 kc8
  clear FN7 hC8
  refine R.u 7 f46 rfl ht ⟨HK, Bg0⟩ (fun W hW => (E.assign f46 rfl)) fun a47 f47 => ?_
  exact R.done (by kernel_rfl) (then_of (J := J3) (Q := fun _ _ _ => True) (by rw [hJ3]; exact ⟨_, _, _, by rw [connL_eq]; simp, HK, Bg0, FN8, f47.sub (sub_cons rfl (sub_cons rfl sn))⟩))
 intro a40 w6 hj
 rw [hJ3] at hj
 clear hJ3 J3
 obtain ⟨AB, cB, lb, hq, HK, Bg0, FL, f40⟩ := hj
 try clear f39
 have hll := FB.short FL hq hBL
 obtain ⟨J5, hJ5⟩ : ∃ J : Act → World → Prop, J = fun a W => ∃ (A : Option Addr) (c : Nat) (l : List UInt8), l ++ ((if p.hasUser then lumpL p.user.toList else []) ++ (if p.hasPass then lumpL p.pass else [])) = connL p ∧ Kept [] w W ∧ Blk W g0 28 (p.cells s) ∧ FB w W A c l ∧ Fr 69 a [(1, .pointer (some ⟨g0, 0, none⟩)), (3, .slice A l.length c)] := ⟨_, rfl⟩
 refine C.cut J5 ?_ ?_
 ·skip
  refine C.sk fun K2 hK2 => ?_
  refine L.fa 11 f40 U28 rfl wsz4_wc fun a41 f41 => ?_
  refine L.ld f41 U4 Bg0 fun a42 f42 => ?_
  refine wpList_nil (hK2 _ _ ?_)
  have f43 := f42.sub (sc 1 (sc 3 (sc 44 sn)))
  clear f40 a40 f41 a41 f42
  refine f43.split 44 rfl (fun h0 f44 => ?_) (fun h0 f44 => ?_)
  ·have hw44 := h0
   refine C.condT f44 rfl ?_
   have hd4 : Kept [] w6 (w6.drewN 1) := (Kept.refl _ _).drewN 1
   refine R.beginT (S := fun W => (Kept [] w W) ∧ (Blk W g0 28 (p.cells s))) (by kernel_rfl) (by kernel_rfl) ⟨HK.trans hd4 (by simp), Bg0.kept hd4 (by simp)⟩ fun ht => ?_
   obtain ⟨w7, hww7⟩ : ∃ W, W = w6.drewN 1 := ⟨_, rfl⟩
   rw [← hww7] at hd4 ⊢
   clear f43 hww7
   have szw7 := hd4.size
   replace HK := HK.trans hd4 (by simp)
   replace Bg0 := Bg0.kept hd4 (by simp)
   replace FL := FL.kept0 hd4
   clear hd4
   refine R.u 0 f44 rfl ht ⟨HK, Bg0⟩ (fun W hW => (E.move f44 rfl)) fun a45 f45 => ?_
   refine R.u 1 f45 rfl ht ⟨HK, Bg0⟩ (fun W hW => (E.fa 12 f45 U28 rfl wsz24_wc)) fun a46 f46 => ?_
   refine R.u 2 f46 rfl ht ⟨HK, Bg0⟩ (fun W hW => (E.fa 0 f46 U24 rfl wsz9_wc)) fun a47 f47 => ?_
   refine R.u 3 f47 rfl ht ⟨HK, Bg0⟩ (fun W hW => (by exact E.ld f47 U9 (hW.2))) fun a48 f48 => ?_
   refine R.u 5 f48 rfl ht ⟨HK, Bg0⟩ (fun W hW => (E.fa 12 f48 U28 rfl wsz24_wc)) fun a49 f49 => ?_
   refine R.u 6 f49 rfl ht ⟨HK, Bg0⟩ (fun W hW => (E.fa 1 f49 U24 rfl wsz22_wc)) fun a50 f50 => ?_
   refine R.u 7 f50 rfl ht ⟨HK, Bg0⟩ (fun W hW => (by exact E.ld f50 U22 (hW.2))) fun a51 f51 => ?_
   clear f44 a42 f45 a45 f46 a46 f47 a47 f48 a48 f49 a49 f50 a50
   refine R.u 8 f51 rfl ht ⟨HK, Bg0⟩ (fun W hW => (E.toStr f51 rfl U22 U5 U9 (IP.wp.kept hW.1))) fun a52 f52 => ?_
   have hC8 := fun b hb => lumpB _ _ _ b w _ FL HK.size (by omega) hb
   refine R.call 4 f52 rfl rfl (by decide) (by kernel_rfl) wantedN (run_call Tryd.call66 (args2 f52 rfl rfl)) (hC8 _ (by omega)) ?_
   clear f51 a51
   rintro e w8 ⟨A8, c8, rfl, FN8, kc8⟩
   have szw8 := kc8.size
   replace HK := FL.rel HK kc8
   replace Bg0 := Bg0.kept kc8 (own_ne FL.own Bg0 (by decide))
   refine ⟨_, rfl, ⟨HK, Bg0⟩, fun a53 f53 => ?_⟩
   clear f52 a52 kc8
   clear FL hC8
   have hC9 := fun b hb => lumpB _ _ _ b w _ FN8 HK.size (by (simp [lumpL_len, twoL_len, bytes_len, maxLen]; omega)) hb
   refine R.call 9 f53 rfl rfl (by decide) (by kernel_rfl) wantedN (run_call Tryd.call66 (args2 f53 rfl rfl)) (hC9 _ (by simpa [bytes_arr] using L2)) ?_
   rintro e w9 ⟨A9, c9, rfl, FN9, kc9⟩
   have szw9 := kc9.size
   replace HK := FN8.rel HK kc9
   replace Bg0 := Bg0.kept kc9 (own_ne FN8.own Bg0 (by decide))
   refine ⟨_, rfl, ⟨HK, Bg0⟩, fun a54 f54 => ?_⟩
   clear f53 a53 kc9
   clear FN8 hC9
   refine R.u 10 f54 rfl ht ⟨HK, Bg0⟩ (fun W hW => (E.assign f54 rfl)) fun a55 f55 => ?_
   exact R.done (by kernel_rfl) (then_of (J := J5) (Q := fun _ _ _ => True) (by rw [hJ5]; exact ⟨_, _, _, by rw [← hq]; simp [hw44], HK, Bg0, FN9, f55.sub (sub_cons rfl (sub_cons rfl sn))⟩))
  have hw44 := h0
  refine C.condF f44 rfl ?_
  exact wp_skip (then_of (J := J5) (Q := fun _ _ _ => True) (by rw [hJ5]; exact ⟨_, _, _, by rw [← hq]; simp [hw44], HK, Bg0, FL, f44.sub (sub_cons rfl (sub_cons rfl sn))⟩))
 intro a41 w7 hj
 rw [hJ5] at hj
 clear hJ5 J5
 obtain ⟨AB, cB, lb, hq, HK, Bg0, FL, f41⟩ := hj
 try clear f40
 have hll := FB.short FL hq hBL
 obtain ⟨J7, hJ7⟩ : ∃ J : Act → World → Prop, J = fun a W => ∃ (A : Option Addr) (c : Nat) (l : List UInt8), l ++ ((if p.hasPass then lumpL p.pass else [])) = connL p ∧ Kept [] w W ∧ Blk W g0 28 (p.cells s) ∧ FB w W A c l ∧ Fr 69 a [(1, .pointer (some ⟨g0, 0, none⟩)), (3, .slice A l.length c)] := ⟨_, rfl⟩
 refine C.cut J7 ?_ ?_
 ·skip
  refine C.sk fun K3 hK3 => ?_
  refine L.fa 16 f41 U28 rfl wsz4_wc fun a42 f42 => ?_
  refine L.ld f42 U4 Bg0 fun a43 f43 => ?_
  refine wpList_nil (hK3 _ _ ?_)
  have f44 := f43.sub (sc 1 (sc 3 (sc 56 sn)))
  clear f41 a41 f42 a42 f43
  refine f44.split 56 rfl (fun h1 f45 => ?_) (fun h1 f45 => ?_)
  ·have hw56 := h1
   refine C.condT f45 rfl ?_
   refine C.region ?_
   refine L.mv f45 fun a46 f46 => ?_
   refine L.fa 18 f46 U28 rfl wsz9_wc fun a47 f47 => ?_
   refine L.ld f47 U9 Bg0 fun a48 f48 => ?_
   have hC8 := fun b hb => lumpB _ _ _ b w _ FL HK.size (by omega) hb
   refine L.cl f48 (run_call Tryd.call66 (args2 f48 rfl rfl)) (hC8 _ (by omega)) ?_
   clear f44 f45 a43 f46 a46 f47 a47
   rintro e w8 ⟨A8, c8, rfl, FN8, kc8⟩
   refine ⟨_, rfl, fun a49 f49 => ?_⟩
   have szw8 := kc8.size
   replace HK := FL.rel HK kc8
   replace Bg0 := Bg0.kept kc8 (own_ne FL.own Bg0 (by decide))
   clear f48 a48 kc8
   clear FL hC8
   refine L.ag f49 fun a50 f50 => ?_
   exact wpList_nil (then_of (J := J7) (Q := fun _ _ _ => True) (by rw [hJ7]; exact ⟨_, _, _, by rw [← hq]; simp [hw56], HK, Bg0, FN8, f50.sub (sub_cons rfl (sub_cons rfl sn))⟩))
  have hw56 := h1
  refine C.condF f45 rfl ?_
  exact wp_skip (then_of (J := J7) (Q := fun _ _ _ => True) (by rw [hJ7]; exact ⟨_, _, _, by rw [← hq]; simp [hw56], HK, Bg0, FL, f45.sub (sub_cons rfl (sub_cons rfl sn))⟩))
 intro a42 w8 hj
 rw [hJ7] at hj
 clear hJ7 J7
 obtain ⟨AB, cB, lb, hq, HK, Bg0, FL, f42⟩ := hj
 try clear f41
 have hll := FB.short FL hq hBL
 refine wp_seq_k fun K4 hK4 => ?_
 refine C.sk fun K5 hK5 => ?_
 refine L.fa 17 f42 U28 rfl wsz4_wc fun a43 f43 => ?_
 refine L.ld f43 U4 Bg0 fun a44 f44 => ?_
 refine wpList_nil (hK5 _ _ ?_)
 have f45 := f44.sub (sc 1 (sc 3 (sc 62 sn)))
 clear f42 a42 f43 a43 f44
 refine f45.split 62 rfl (fun h2 f46 => ?_) (fun h2 f46 => ?_)
 ·have hw62 := h2
  refine C.condT f46 rfl ?_
  refine C.region ?_
  refine L.mv f46 fun a47 f47 => ?_
  refine L.fa 19 f47 U28 rfl wsz22_wc fun a48 f48 => ?_
  refine L.ld f48 U22 Bg0 fun a49 f49 => ?_
  refine L.va f49 (E.toStr f49 rfl U22 U5 U9 (IP.pass.kept HK)) fun a50 f50 => ?_
  have hC9 := fun b hb => lumpB _ _ _ b w _ FL HK.size (by omega) hb
  refine L.cl f50 (run_call Tryd.call66 (args2 f50 rfl rfl)) (hC9 _ (by simpa [bytes_arr] using L3)) ?_
  clear f45 f46 a44 f47 a47 f48 a48 f49 a49
  rintro e w9 ⟨A9, c9, rfl, FN9, kc9⟩
  refine ⟨_, rfl, fun a51 f51 => ?_⟩
  have szw9 := kc9.size
  replace HK := FL.rel HK kc9
  replace Bg0 := Bg0.kept kc9 (own_ne FL.own Bg0 (by decide))
  clear f50 a50 kc9
  clear FL hC9
  refine L.ag f51 fun a52 f52 => ?_
  refine wpList_nil (hK4 _ _ ?_)
  have f53 := f52.sub (sc 3 sn)
  refine C.sk fun K6 hK6 => ?_
  refine L.mv f53 fun a54 f54 => ?_
  refine L.ag f54 fun a55 f55 => ?_
  refine wpList_nil (hK6 _ _ ?_)
  have f56 := f55.sub (sc 2 sn)
  refine wp_ret ?_
  try simp only [Exit.inBlock, Exit.then]
  refine C.ret (P := Tryd.prog) (fn := Tryd.f64) f56 rfl rfl ?_
  exact NewB.of HK FN9 (by rw [← hq]; simp [hw62])
 have hw62 := h2
 refine C.condF f46 rfl ?_
 refine wp_skip (hK4 _ _ ?_)
 have f47 := f46.sub (sc 3 sn)
 refine C.sk fun K7 hK7 => ?_
 refine L.mv f47 fun a48 f48 => ?_
 refine L.ag f48 fun a49 f49 => ?_
 refine wpList_nil (hK7 _ _ ?_)
 have f50 := f49.sub (sc 2 sn)
 refine wp_ret ?_
 try simp only [Exit.inBlock, Exit.then]
 refine C.ret (P := Tryd.prog) (fn := Tryd.f64) f50 rfl rfl ?_
 exact NewB.of HK FL (by rw [← hq]; simp [hw62])
set_option maxHeartbeats 4000000 in
theorem behind_any (p : Pk) (s : Ad) (w : World) (IP : p.In w s) (hL : p.Len) (hq1 : p.kind = 1 → 0 ≤ p.wq ∧ p.wq ≤ 2) : Calls Tryd.prog 37 #[.agg (p.cells s)] w (fun e w' => NewB (behindL p) w e w') := by
 have HK : Kept [] w w := Kept.refl [] w
 have hBL := behindL_len hL
 obtain ⟨L1, L2, L3, L4, L5, L6, L7, L8, L9, L10⟩ := hL
 have F0 : FB w w none 0 [] := FB.nil _ _
 refine C.enter Tryd.func37 rfl Tryd.ntmps37 rfl ?_
 intro a0 f0
 have f1 : Fr 73 a0 [(0, .agg (p.cells s))] := f0
 refine C.sk fun K0 hK0 => ?_
 refine L.box f1 wantedN (by decide) rfl rfl fun a2 w1 g0 N0 f2 => ?_
 have Bg0 := N0.blk
 have kg0 := N0.kept
 have log0 := N0.lo
 have ltg0 := Bg0.lt
 have szw1 := kg0.size
 have frg0 : w.heap.size ≤ g0 := Nat.le_trans HK.size log0
 replace HK := HK.trans kg0 (by simp)
 replace F0 := F0.kept0 kg0
 clear f0 N0 kg0
 refine L.ag f2 fun a3 f3 => ?_
 refine wpList_nil (hK0 _ _ ?_)
 have f4 := f3.sub (sc 1 sn)
 refine C.sk fun K1 hK1 => ?_
 refine L.ag f4 fun a5 f5 => ?_
 refine wpList_nil (hK1 _ _ ?_)
 have f6 := f5.sub (sc 1 (sc 3 sn))
 obtain ⟨J9, hJ9⟩ : ∃ J : Act → World → Prop, J = fun a W => ∃ (A : Option Addr) (c : Nat) (l : List UInt8), l ++ ((if numB p then twoL p.id else []) ++ (p.subs.flatMap (subL p.kind) ++ (p.codes.map b8 ++ p.pay))) = behindL p ∧ Kept [] w W ∧ Blk W g0 28 (p.cells s) ∧ FB w W A c l ∧ Fr 73 a [(1, .pointer (some ⟨g0, 0, none⟩)), (3, .slice A l.length c)] := ⟨_, rfl⟩
 clear f1 a0 f2 a2 f3 f4 a3 f5
 refine C.cut J9 ?_ ?_
 ·skip
  refine C.sk fun K2 hK2 => ?_
  refine L.fa 0 f6 U28 rfl wsz3_wc fun a7 f7 => ?_
  refine L.ld f7 U3 Bg0 fun a8 f8 => ?_
  refine wpList_nil (hK2 _ _ ?_)
  have f9 := f8.sub (sc 1 (sc 3 (sc 9 sn)))
  refine wp_block ?_
  refine C.sk fun K3 hK3 => ?_
  refine L.va f9 (E.eq f9) fun a10 f10 => ?_
  refine L.ag f10 fun a11 f11 => ?_
  refine wpList_nil (hK3 _ _ ?_)
  have f12 := f11.sub (sc 1 (sc 3 (sc 9 (sc 10 sn))))
  clear f6 a5 f7 a7 f8 f9 a8 f10 a10 f11
  refine f12.splitD 10 rfl (fun h0 f13 => ?_) (fun h0 f13 => ?_)
  ·refine C.condT f13 rfl ?_
   refine C.sk fun K4 hK4 => ?_
   refine L.va f13 (by exact E.loadB f13 U28 rfl wsz28_wc rfl (Bg0) rfl) fun a14 f14 => ?_
   refine L.cl f14 (run_call Tryd.call64 (args1 f14 rfl)) (conn_any p s _ (IP.kept HK) ⟨L1, L2, L3, L4, L5, L6, L7, L8, L9, L10⟩ (hq1 (by assumption))) ?_
   clear f12 f13 a11
   rintro e w2 ⟨kc2, A2, c2, rfl, F2⟩
   have FC := FB.lower F2 HK.size
   refine ⟨_, rfl, fun a15 f15 => ?_⟩
   have szw2 := kc2.size
   replace HK := HK.trans kc2 (by simp)
   replace F0 := F0.kept0 kc2
   replace Bg0 := Bg0.kept kc2 (by simp)
   clear f14 a14 kc2
   clear F2
   refine L.ag f15 fun a16 f16 => ?_
   refine wpList_nil (hK4 _ _ ?_)
   have f17 := f16.sub (sc 2 sn)
   refine wp_ret ?_
   try simp only [Exit.inBlock, Exit.then]
   refine C.ret (P := Tryd.prog) (fn := Tryd.f37) f17 rfl rfl ?_
   exact NewB.of HK FC (by simp [behindL, *])
  refine C.condF f13 rfl ?_
  refine C.sk fun K5 hK5 => ?_
  refine L.va f13 (E.eq f13) fun a14 f14 => ?_
  refine L.ag f14 fun a15 f15 => ?_
  refine wpList_nil (hK5 _ _ ?_)
  have f16 := f15.sub (sc 1 (sc 3 (sc 9 (sc 14 sn))))
  clear f12 f13 a11 f14 a14 f15
  refine f16.splitD 14 rfl (fun h1 f17 => ?_) (fun h1 f17 => ?_)
  ·refine C.condT f17 rfl ?_
   refine wp_seq_k fun K6 hK6 => ?_
   have hd6 : Kept [] w1 (w1.drewN 1) := (Kept.refl _ _).drewN 1
   refine R.beginT (S := fun W => (Kept [] w W) ∧ (Blk W g0 28 (p.cells s))) (by kernel_rfl) (by kernel_rfl) ⟨HK.trans hd6 (by simp), Bg0.kept hd6 (by simp)⟩ fun ht => ?_
   obtain ⟨w2, hww2⟩ : ∃ W, W = w1.drewN 1 := ⟨_, rfl⟩
   rw [← hww2] at hd6 ⊢
   clear f16 hww2
   have szw2 := hd6.size
   replace HK := HK.trans hd6 (by simp)
   replace F0 := F0.kept0 hd6
   replace Bg0 := Bg0.kept hd6 (by simp)
   clear hd6
   refine R.u 0 f17 rfl ht ⟨HK, Bg0⟩ (fun W hW => (E.fa 20 f17 U28 rfl wsz4_wc)) fun a18 f18 => ?_
   refine R.u 1 f18 rfl ht ⟨HK, Bg0⟩ (fun W hW => (by exact E.ld f18 U4 (hW.2))) fun a19 f19 => ?_
   refine R.u 4 f19 rfl ht ⟨HK, Bg0⟩ (fun W hW => (E.fa 21 f19 U28 rfl wsz3_wc)) fun a20 f20 => ?_
   refine R.u 5 f20 rfl ht ⟨HK, Bg0⟩ (fun W hW => (by exact E.ld f20 U3 (hW.2))) fun a21 f21 => ?_
   refine R.u 6 f21 rfl ht ⟨HK, Bg0⟩ (fun W hW => (E.conv f21 U3 U5 rfl (wrap_u8 _))) fun a22 f22 => ?_
   refine R.call 2 f22 rfl rfl (by decide) (by kernel_rfl) wantedN (run_call Tryd.call65 (args2 f22 rfl rfl)) (flag_any _ _ _) ?_
   clear f17 a15 f18 a18 f19 a19 f20 a20 f21 a21
   rintro e w2x ⟨rfl, rfl⟩
   refine ⟨_, rfl, ⟨HK, Bg0⟩, fun a23 f23 => ?_⟩
   refine R.u 3 f23 rfl ht ⟨HK, Bg0⟩ (fun W hW => (E.conv f23 U3 U5 rfl (wrap_u8 _))) fun a24 f24 => ?_
   refine R.one 7 (by kernel_rfl) ?_
   refine O.buildSlice f24 rfl wantedN (by decide) (parts2 f24 rfl rfl) U22 wzi5_wc rfl rfl (wbs22_2_wc _ _) (fun _ hk => ⟨HK.trans hk (by simp), Bg0.kept hk (by simp)⟩) fun a25 w3 g2 N2 hSn f25 => ?_
   clear f22 a22 f23 a23 hSn
   have Bg2 := N2.blk
   have kg2 := N2.kept
   have log2 := N2.lo
   have ltg2 := Bg2.lt
   have szw3 := kg2.size
   have frg2 : w.heap.size ≤ g2 := Nat.le_trans HK.size log2
   have neg0_g2 : g0 ≠ g2 := by have := Bg0.lt; omega
   replace HK := HK.trans kg2 (by simp)
   replace F0 := F0.kept0 kg2
   replace Bg0 := Bg0.kept kg2 (by simp)
   clear N2 kg2
   refine R.u 8 f25 rfl ht ⟨HK, Bg0⟩ (fun W hW => (E.assign f25 rfl)) fun a26 f26 => ?_
   refine R.done (by kernel_rfl) (hK6 _ _ ?_)
   have f27 := f26.sub (sc 2 sn)
   refine wp_ret ?_
   try simp only [Exit.inBlock, Exit.then]
   refine C.ret (P := Tryd.prog) (fn := Tryd.f37) f27 rfl rfl ?_
   exact NewB.blk HK Bg2 frg2 (by simp [behindL, u8_b8, *]) (by simp [behindL, *]) (by decide)
  refine C.condF f17 rfl ?_
  refine C.sk fun K7 hK7 => ?_
  refine L.va f17 (E.eq f17) fun a18 f18 => ?_
  refine L.ag f18 fun a19 f19 => ?_
  refine wpList_nil (hK7 _ _ ?_)
  have f20 := f19.sub (sc 1 (sc 3 (sc 24 sn)))
  clear f16 f17 a15 f18 a18 f19
  refine f20.splitD 24 rfl (fun h2 f21 => ?_) (fun h2 f21 => ?_)
  ·refine C.condT f21 rfl ?_
   refine C.region ?_
   refine L.fa 5 f21 U28 rfl wsz9_wc fun a22 f22 => ?_
   refine L.ld f22 U9 Bg0 fun a23 f23 => ?_
   have hC2 := fun b hb => lumpB _ _ _ b w _ F0 HK.size (by (simp [lumpL_len, twoL_len, bytes_len, maxLen]; done)) hb
   refine L.cl f23 (run_call Tryd.call66 (args2 f23 rfl rfl)) (hC2 _ (by omega)) ?_
   clear f20 f21 a19 f22 a22
   rintro e w2 ⟨A2, c2, rfl, FN2, kc2⟩
   refine ⟨_, rfl, fun a24 f24 => ?_⟩
   have szw2 := kc2.size
   replace HK := F0.rel HK kc2
   replace Bg0 := Bg0.kept kc2 (own_ne F0.own Bg0 (by decide))
   clear f23 a23 kc2
   clear F0 hC2
   refine L.ag f24 fun a25 f25 => ?_
   exact wpList_nil (then_of (J := J9) (Q := fun _ _ _ => True) (by rw [hJ9]; exact ⟨_, _, _, by simp [behindL, *], HK, Bg0, FN2, f25.sub (sub_cons rfl (sub_cons rfl sn))⟩))
  refine C.condF f21 rfl ?_
  exact wp_skip (then_of (J := J9) (Q := fun _ _ _ => True) (by rw [hJ9]; exact ⟨_, _, _, by simp [behindL, *], HK, Bg0, F0, f21.sub (sub_cons rfl (sub_cons rfl sn))⟩))
 intro a7 w2 hj
 rw [hJ9] at hj
 clear hJ9 J9
 obtain ⟨AB, cB, lb, hq, HK, Bg0, FL, f7⟩ := hj
 try clear f6
 have hll := FB.short FL hq hBL
 obtain ⟨J11, hJ11⟩ : ∃ J : Act → World → Prop, J = fun a W => ∃ (A : Option Addr) (c : Nat) (l : List UInt8), l ++ (p.subs.flatMap (subL p.kind) ++ (p.codes.map b8 ++ p.pay)) = behindL p ∧ Kept [] w W ∧ Blk W g0 28 (p.cells s) ∧ FB w W A c l ∧ Fr 73 a [(1, .pointer (some ⟨g0, 0, none⟩)), (3, .slice A l.length c)] := ⟨_, rfl⟩
 refine C.cut J11 ?_ ?_
 ·skip
  refine C.sk fun K8 hK8 => ?_
  refine L.va f7 (by exact E.loadB f7 U28 rfl wsz28_wc rfl (Bg0) rfl) fun a8 f8 => ?_
  refine L.cl f8 (run_call Tryd.call67 (args1 f8 rfl)) (num_any p s _) ?_
  clear f7 a7
  rintro e w3 ⟨kc3, rfl⟩
  refine ⟨_, rfl, fun a9 f9 => ?_⟩
  have szw3 := kc3.size
  replace HK := HK.trans kc3 (by simp)
  replace Bg0 := Bg0.kept kc3 (by simp)
  replace FL := FL.kept0 kc3
  clear f8 a8 kc3
  refine f9.split 30 rfl (fun h3 f10 => ?_) (fun h3 f10 => ?_)
  ·have hn := h3
   refine wpList_nil (hK8 _ _ ?_)
   have f11 := f10.sub (sc 1 (sc 3 (sc 30 sn)))
   refine C.condT f11 rfl ?_
   refine C.region ?_
   refine L.mv f11 fun a12 f12 => ?_
   refine L.fa 4 f12 U28 rfl wsz3_wc fun a13 f13 => ?_
   refine L.ld f13 U3 Bg0 fun a14 f14 => ?_
   have hC4 := fun n => twoB _ _ _ n w _ FL HK.size (by omega)
   refine L.cl f14 (run_call Tryd.call68 (args2 f14 rfl rfl)) (hC4 _) ?_
   clear f9 f10 f11 a9 f12 a12 f13 a13
   rintro e w4 ⟨A4, c4, rfl, FN4, kc4⟩
   refine ⟨_, rfl, fun a15 f15 => ?_⟩
   have szw4 := kc4.size
   replace HK := FL.rel HK kc4
   replace Bg0 := Bg0.kept kc4 (own_ne FL.own Bg0 (by decide))
   clear f14 a14 kc4
   clear FL hC4
   refine L.ag f15 fun a16 f16 => ?_
   exact wpList_nil (then_of (J := J11) (Q := fun _ _ _ => True) (by rw [hJ11]; exact ⟨_, _, _, by rw [← hq]; simp [hn], HK, Bg0, FN4, f16.sub (sub_cons rfl (sub_cons rfl sn))⟩))
  have hn := h3
  refine wpList_nil (hK8 _ _ ?_)
  have f11 := f10.sub (sc 1 (sc 3 (sc 30 sn)))
  refine C.condF f11 rfl ?_
  exact wp_skip (then_of (J := J11) (Q := fun _ _ _ => True) (by rw [hJ11]; exact ⟨_, _, _, by rw [← hq]; simp [hn], HK, Bg0, FL, f11.sub (sub_cons rfl (sub_cons rfl sn))⟩))
 intro a8 w3 hj
 rw [hJ11] at hj
 clear hJ11 J11
 obtain ⟨AB, cB, lb, hq, HK, Bg0, FL, f8⟩ := hj
 try clear f7
 have hll := FB.short FL hq hBL
 refine wp_seq_k fun K9 hK9 => ?_
 refine C.sk fun K10 hK10 => ?_
 refine L.fa 22 f8 U28 rfl wsz25_wc fun a9 f9 => ?_
 refine L.ld f9 U25 Bg0 fun a10 f10 => ?_
 refine L.va f10 (E.lenL f10 U25 rfl) fun a11 f11 => ?_
 refine L.mv f11 fun a12 f12 => ?_
 refine wpList_nil (hK10 _ _ ?_)
 have f13 := f12.sub (sc 1 (sc 3 (sc 36 (sc 37 (sc 38 sn)))))
 refine wp_block ?_
 clear f8 a8 f9 a9 f10 a10 f11 a11 f12
 refine C.loop (fun gk a W => ∃ (k : Nat) (A : Option Addr) (c : Nat) (l : List UInt8), k + gk = p.subs.length ∧ Kept [] w W ∧ Blk W g0 28 (p.cells s) ∧ FB w W A c l ∧ l ++ ((p.subs.drop k).flatMap (subL p.kind) ++ p.codes.map b8 ++ p.pay) = behindL p ∧ Fr 73 a [(1, .pointer (some ⟨g0, 0, none⟩)), (3, .slice A l.length c), (36, .slice s.ua p.subs.length s.uc), (37, .int .i64 p.subs.length), (38, .int .i64 k)]) (p.subs.length) ?_ ?_
 ·exact ⟨0, _, _, _, by omega, HK, Bg0, FL, by rw [← hq]; simp, f13.sub (sub_cons rfl (sub_cons rfl (sub_cons rfl (sub_cons rfl (sub_cons rfl sn)))))⟩
 intro gk12 a14 w4 hI KL11 hKL11
 obtain ⟨k, A, c, l, hk, HK, Bg0, FL, hq, f14⟩ := hI
 try clear f13
 have hll := FB.short FL hq hBL
 have szL := HK.size
 refine C.sk fun K12 hK12 => ?_
 refine L.va f14 (E.lss f14 rfl rfl) fun a15 f15 => ?_
 refine wpList_nil (hK12 _ _ ?_)
 have f16 := f15.sub (sc 1 (sc 3 (sc 36 (sc 37 (sc 38 (sc 39 sn))))))
 refine wp_seq_k fun K13 hK13 => ?_
 clear f14 a14 f15
 refine f16.splitD 39 rfl (fun h4 f17 => ?_) (fun h4 f17 => ?_)
 ·obtain ⟨d, hd⟩ := some_at p.subs k (by omega)
  obtain ⟨bk, off, hA⟩ := IP.subs.addr (by omega)
  have hds := L10 d (List.mem_of_getElem? hd)
  refine C.condT f17 rfl ?_
  refine wp_skip (hK13 _ _ ?_)
  have f18 := f17.sub (sc 1 (sc 3 (sc 36 (sc 37 (sc 38 sn)))))
  refine wp_seq_k fun K14 hK14 => ?_
  refine wp_block ?_
  refine C.sk fun K15 hK15 => ?_
  refine L.va f18 (E.indexA f18 (by assumption) U25 wsz70_wc rfl rfl (by omega) (by omega)) fun a19 f19 => ?_
  refine L.va f19 (by exact E.loadR f19 U70 rfl wsz70_wc rfl (sub_row (IP.subs.kept HK) hA hd) rfl) fun a20 f20 => ?_
  refine L.alloc f20 wantedN (by decide) (z := (.agg #[(.string ⟨#[]⟩), (.int .i64 0)])) (fun _ => by kernel_rfl) rfl fun a21 w5 g4 N4 f21 => ?_
  have Bg4 := N4.blk
  have kg4 := N4.kept
  have log4 := N4.lo
  have ltg4 := Bg4.lt
  have szw5 := kg4.size
  have frg4 : w.heap.size ≤ g4 := Nat.le_trans HK.size log4
  have neg0_g4 : g0 ≠ g4 := by have := Bg0.lt; omega
  replace HK := HK.trans kg4 (by simp)
  replace Bg0 := Bg0.kept kg4 (by simp)
  replace FL := FL.kept0 kg4
  clear f16 f17 f18 a15 f19 a19 N4 kg4
  refine L.storeR f21 wantedN wsz70_wc rfl rfl rfl Bg4 rfl rfl fun a22 w6 f22 NB6 ks6 => ?_
  have szw6 := ks6.size
  replace HK := HK.trans ks6 (ktr (by omega))
  replace Bg0 := Bg0.kept ks6 (by simp; omega)
  replace FL := FL.keptB ks6 Bg4 (by decide)
  replace Bg4 := NB6
  clear f20 a20 ks6 f21 a21
  refine wpList_nil (hK15 _ _ ?_)
  have f23 := f22.sub (sc 1 (sc 3 (sc 5 (sc 36 (sc 37 (sc 38 sn))))))
  refine C.sk fun K16 hK16 => ?_
  refine L.mv f23 fun a24 f24 => ?_
  refine L.fa 0 f24 U70 rfl wsz9_wc fun a25 f25 => ?_
  refine L.ld f25 U9 Bg4 fun a26 f26 => ?_
  have hC7 := fun b hb => lumpB _ _ _ b w _ FL HK.size (by omega) hb
  refine L.cl f26 (run_call Tryd.call66 (args2 f26 rfl rfl)) (hC7 _ (by omega)) ?_
  clear f22 f23 a22 f24 a24 f25 a25
  rintro e w7 ⟨A7, c7, rfl, FN7, kc7⟩
  refine ⟨_, rfl, fun a27 f27 => ?_⟩
  have szw7 := kc7.size
  replace HK := FL.rel HK kc7
  replace Bg0 := Bg0.kept kc7 (own_ne FL.own Bg0 (by decide))
  replace Bg4 := Bg4.kept kc7 (own_ne FL.own Bg4 (by decide))
  clear f26 a26 kc7
  clear FL hC7
  refine L.ag f27 fun a28 f28 => ?_
  refine wpList_nil (hK16 _ _ ?_)
  have f29 := f28.sub (sc 1 (sc 3 (sc 5 (sc 36 (sc 37 (sc 38 sn))))))
  refine C.sk fun K17 hK17 => ?_
  refine L.fa 0 f29 U28 rfl wsz3_wc fun a30 f30 => ?_
  refine L.ld f30 U3 Bg0 fun a31 f31 => ?_
  refine L.va f31 (E.eq f31) fun a32 f32 => ?_
  refine wpList_nil (hK17 _ _ ?_)
  have f33 := f32.sub (sc 1 (sc 3 (sc 5 (sc 36 (sc 37 (sc 38 (sc 48 sn)))))))
  clear f27 a27 f28 f29 a28 f30 a30 f31 a31 f32
  refine f33.splitD 48 rfl (fun h5 f34 => ?_) (fun h5 f34 => ?_)
  ·refine C.condT f34 rfl ?_
   refine C.region ?_
   refine L.mv f34 fun a35 f35 => ?_
   refine L.fa 1 f35 U70 rfl wsz3_wc fun a36 f36 => ?_
   refine L.ld f36 U3 Bg4 fun a37 f37 => ?_
   refine L.va f37 (E.conv f37 U3 U5 rfl (wrap_u8 _)) fun a38 f38 => ?_
   refine L.buildSlice f38 wantedN (by decide) (parts1 f38 rfl) U22 wzi5_wc rfl rfl (wbs22_1_wc _) fun a39 w8 g7 N7 f39 => ?_
   have Bg7 := N7.blk
   have kg7 := N7.kept
   have log7 := N7.lo
   have ltg7 := Bg7.lt
   have szw8 := kg7.size
   have frg7 : w.heap.size ≤ g7 := Nat.le_trans HK.size log7
   have neg0_g7 : g0 ≠ g7 := by have := Bg0.lt; omega
   have neg4_g7 : g4 ≠ g7 := by have := Bg4.lt; omega
   replace HK := HK.trans kg7 (by simp)
   replace Bg0 := Bg0.kept kg7 (by simp)
   replace Bg4 := Bg4.kept kg7 (by simp)
   replace FN7 := FN7.kept0 kg7
   clear f33 f34 a32 f35 a35 f36 a36 f37 a37 N7 kg7
   refine L.append f39 wantedN (by decide) U22 wzib5_wc rfl rfl rfl rfl FN7.own (Blk.sl1 Bg7 rfl) (by intro u hu; simp at hu; subst hu; rfl) (by (simp [lumpL_len, twoL_len, bytes_len, maxLen]; omega)) (by (simp [lumpL_len, twoL_len, bytes_len, maxLen]; omega)) fun a40 w9 A9 c9 AP9 f40 => ?_
   have FN9 := AP9.nextB FN7 HK.size ([b8 d.2]) (by simp [u8_b8]) (by simp)
   have kap9 := AP9.kept
   have szw9 := kap9.size
   replace HK := FN7.rel HK kap9
   replace Bg0 := Bg0.kept kap9 (own_ne FN7.own Bg0 (by decide))
   replace Bg4 := Bg4.kept kap9 (own_ne FN7.own Bg4 (by decide))
   clear f38 a38 f39 a39 kap9 AP9 FN7
   have f41 := f40.as (i := 54) rfl (sl_lenF FN9 (by simp))
   refine L.ag f41 fun a42 f42 => ?_
   refine wpList_nil (hK14 _ _ ?_)
   have f43 := f42.sub (sc 1 (sc 3 (sc 36 (sc 37 (sc 38 sn)))))
   refine C.region ?_
   refine L.va f43 (E.add f43 rfl rfl (IntWalk.i64_in _ (by omega))) fun a44 f44 => ?_
   refine L.mv f44 fun a45 f45 => ?_
   clear f40 f41 a40 f42 f43 a42 f44 a44
   refine wpList_nil (hKL11 _ _ (gk12 - 1) ?_ ?_)
   ·omega
   exact ⟨k + 1, _, _, _, by omega, HK, Bg0, FN9, by rw [← hq, drop_at hd]; (simp [subL, *]; done), f45.sub (sub_cons rfl (sub_cons rfl (sub_cons rfl (sub_cons rfl (sub_cons rfl sn)))))⟩
  refine C.condF f34 rfl ?_
  refine wp_skip (hK14 _ _ ?_)
  have f35 := f34.sub (sc 1 (sc 3 (sc 36 (sc 37 (sc 38 sn)))))
  refine C.region ?_
  refine L.va f35 (E.add f35 rfl rfl (IntWalk.i64_in _ (by omega))) fun a36 f36 => ?_
  refine L.mv f36 fun a37 f37 => ?_
  clear f33 f34 f35 a32 f36 a36
  refine wpList_nil (hKL11 _ _ (gk12 - 1) ?_ ?_)
  ·omega
  exact ⟨k + 1, _, _, _, by omega, HK, Bg0, FN7, by rw [← hq, drop_at hd]; (simp [subL, *]; done), f37.sub (sub_cons rfl (sub_cons rfl (sub_cons rfl (sub_cons rfl (sub_cons rfl sn)))))⟩
 refine C.condF f17 rfl ?_
 refine wp_exit (hK9 _ _ ?_)
 have f18 := f17.sub (sc 1 (sc 3 sn))
 refine wp_seq_k fun K18 hK18 => ?_
 refine C.sk fun K19 hK19 => ?_
 refine L.fa 23 f18 U28 rfl wsz26_wc fun a19 f19 => ?_
 refine L.ld f19 U26 Bg0 fun a20 f20 => ?_
 refine L.va f20 (E.lenL f20 U26 rfl) fun a21 f21 => ?_
 refine L.mv f21 fun a22 f22 => ?_
 refine wpList_nil (hK19 _ _ ?_)
 have f23 := f22.sub (sc 1 (sc 3 (sc 57 (sc 58 (sc 59 sn)))))
 refine wp_block ?_
 clear f16 f17 f18 a15 f19 a19 f20 a20 f21 a21 f22
 refine C.loop (fun gk a W => ∃ (k : Nat) (A : Option Addr) (c : Nat) (l : List UInt8), k + gk = p.codes.length ∧ Kept [] w W ∧ Blk W g0 28 (p.cells s) ∧ FB w W A c l ∧ l ++ ((p.codes.drop k).map b8 ++ p.pay) = behindL p ∧ Fr 73 a [(1, .pointer (some ⟨g0, 0, none⟩)), (3, .slice A l.length c), (57, .slice s.ca p.codes.length s.cc), (58, .int .i64 p.codes.length), (59, .int .i64 k)]) (p.codes.length) ?_ ?_
 ·exact ⟨0, _, _, _, by omega, HK, Bg0, FL, by rw [← hq, drop_out p.subs (by omega)]; simp, f23.sub (sub_cons rfl (sub_cons rfl (sub_cons rfl (sub_cons rfl (sub_cons rfl sn)))))⟩
 intro gk21 a24 w5 hI KL20 hKL20
 obtain ⟨k, A, c, l, hk, HK, Bg0, FL, hq, f24⟩ := hI
 try clear f23
 have hll := FB.short FL hq hBL
 have szL := HK.size
 refine C.sk fun K21 hK21 => ?_
 refine L.va f24 (E.lss f24 rfl rfl) fun a25 f25 => ?_
 refine wpList_nil (hK21 _ _ ?_)
 have f26 := f25.sub (sc 1 (sc 3 (sc 57 (sc 58 (sc 59 (sc 60 sn))))))
 refine wp_seq_k fun K22 hK22 => ?_
 clear f24 a24 f25
 refine f26.splitD 60 rfl (fun h6 f27 => ?_) (fun h6 f27 => ?_)
 ·obtain ⟨d, hd⟩ := some_at p.codes k (by omega)
  obtain ⟨bk, off, hA⟩ := IP.codes.addr (by omega)
  refine C.condT f27 rfl ?_
  refine wp_skip (hK22 _ _ ?_)
  have f28 := f27.sub (sc 1 (sc 3 (sc 57 (sc 58 (sc 59 sn)))))
  refine wp_seq_k fun K23 hK23 => ?_
  refine wp_block ?_
  refine C.sk fun K24 hK24 => ?_
  refine L.va f28 (E.indexA f28 (by assumption) U26 wsz3_wc rfl rfl (by omega) (by omega)) fun a29 f29 => ?_
  refine L.va f29 (by exact E.load f29 U3 rfl rfl (code_cell1 (IP.codes.kept HK) hA hd)) fun a30 f30 => ?_
  refine L.ag f30 fun a31 f31 => ?_
  refine wpList_nil (hK24 _ _ ?_)
  have f32 := f31.sub (sc 1 (sc 3 (sc 7 (sc 57 (sc 58 (sc 59 sn))))))
  refine C.region ?_
  refine L.mv f32 fun a33 f33 => ?_
  refine L.mv f33 fun a34 f34 => ?_
  refine L.va f34 (E.conv f34 U3 U5 rfl (wrap_u8 _)) fun a35 f35 => ?_
  clear f26 f27 f28 a25 f29 a29 f30 a30 f31 f32 a31 f33 a33 f34 a34
  refine L.buildSlice f35 wantedN (by decide) (parts1 f35 rfl) U22 wzi5_wc rfl rfl (wbs22_1_wc _) fun a36 w6 g5 N5 f36 => ?_
  have Bg5 := N5.blk
  have kg5 := N5.kept
  have log5 := N5.lo
  have ltg5 := Bg5.lt
  have szw6 := kg5.size
  have frg5 : w.heap.size ≤ g5 := Nat.le_trans HK.size log5
  have neg0_g5 : g0 ≠ g5 := by have := Bg0.lt; omega
  replace HK := HK.trans kg5 (by simp)
  replace Bg0 := Bg0.kept kg5 (by simp)
  replace FL := FL.kept0 kg5
  clear N5 kg5
  refine L.append f36 wantedN (by decide) U22 wzib5_wc rfl rfl rfl rfl FL.own (Blk.sl1 Bg5 rfl) (by intro u hu; simp at hu; subst hu; rfl) (by (simp [lumpL_len, twoL_len, bytes_len, maxLen]; omega)) (by omega) fun a37 w7 A7 c7 AP7 f37 => ?_
  have FN7 := AP7.nextB FL HK.size ([b8 d]) (by simp [u8_b8]) (by simp)
  have kap7 := AP7.kept
  have szw7 := kap7.size
  replace HK := FL.rel HK kap7
  replace Bg0 := Bg0.kept kap7 (own_ne FL.own Bg0 (by decide))
  clear f35 a35 f36 a36 kap7 AP7 FL
  have f38 := f37.as (i := 67) rfl (sl_lenF FN7 (by simp))
  refine L.ag f38 fun a39 f39 => ?_
  refine wpList_nil (hK23 _ _ ?_)
  have f40 := f39.sub (sc 1 (sc 3 (sc 57 (sc 58 (sc 59 sn)))))
  refine C.region ?_
  refine L.va f40 (E.add f40 rfl rfl (IntWalk.i64_in _ (by omega))) fun a41 f41 => ?_
  refine L.mv f41 fun a42 f42 => ?_
  clear f37 f38 a37 f39 f40 a39 f41 a41
  refine wpList_nil (hKL20 _ _ (gk21 - 1) ?_ ?_)
  ·omega
  exact ⟨k + 1, _, _, _, by omega, HK, Bg0, FN7, by rw [← hq, drop_at hd]; (simp [subL, *]; done), f42.sub (sub_cons rfl (sub_cons rfl (sub_cons rfl (sub_cons rfl (sub_cons rfl sn)))))⟩
 refine C.condF f27 rfl ?_
 refine wp_exit (hK18 _ _ ?_)
 have f28 := f27.sub (sc 1 (sc 3 sn))
 refine C.sk fun K25 hK25 => ?_
 refine L.mv f28 fun a29 f29 => ?_
 refine L.fa 6 f29 U28 rfl wsz22_wc fun a30 f30 => ?_
 refine L.ld f30 U22 Bg0 fun a31 f31 => ?_
 refine L.append f31 wantedN (by decide) U22 wzib5_wc rfl rfl rfl rfl FL.own (IP.pay.kept HK) (u8_one) (by (simp [lumpL_len, twoL_len, bytes_len, maxLen]; omega)) (by omega) fun a32 w6 A6 c6 AP6 f32 => ?_
 have FN6 := AP6.nextB FL HK.size (p.pay) (rfl) (rfl)
 have kap6 := AP6.kept
 have szw6 := kap6.size
 replace HK := FL.rel HK kap6
 replace Bg0 := Bg0.kept kap6 (own_ne FL.own Bg0 (by decide))
 clear f26 f27 f28 a25 f29 a29 f30 a30 f31 a31 kap6 AP6 FL
 have f33 := f32.as (i := 72) rfl (sl_lenF FN6 (rfl))
 refine L.ag f33 fun a34 f34 => ?_
 refine wpList_nil (hK25 _ _ ?_)
 have f35 := f34.sub (sc 2 sn)
 refine wp_ret ?_
 try simp only [Exit.inBlock, Exit.then]
 refine C.ret (P := Tryd.prog) (fn := Tryd.f37) f35 rfl rfl ?_
 exact NewB.of HK FN6 (by rw [← hq, drop_out p.codes (by omega)]; simp)
set_option maxRecDepth 100000 in
set_option maxHeartbeats 4000000 in
theorem body_any (p : Pk) (s : Ad) (w : World) (IP : p.In w s) (hL : p.Len) (hq1 : p.kind = 1 → 0 ≤ p.wq ∧ p.wq ≤ 2) : Calls Tryd.prog 42 #[.agg (p.cells s)] w (fun e w' => NewB (bodyR p) w e w') := by
 have HK : Kept [] w w := Kept.refl [] w
 have hBL := bodyR_len hL
 obtain ⟨L1, L2, L3, L4, L5, L6, L7, L8, L9, L10⟩ := hL
 have hf1 := flg_bd p.clean 2 (by omega)
 have hf2 := flg_bd p.hasWill 4 (by omega)
 have hf3 := flg_bd p.wr 32 (by omega)
 have hf4 := flg_bd p.hasPass 64 (by omega)
 have hf5 := flg_bd p.hasUser 128 (by omega)
 have F0 : FB w w none 0 [] := FB.nil _ _
 have hBLc : (connL p).length ≤ 3000000000000 := by have := connL_len (p := p) ⟨L1, L2, L3, L4, L5, L6, L7, L8, L9, L10⟩; omega
 refine C.enter Tryd.func42 rfl Tryd.ntmps42 rfl ?_
 intro a0 f0
 have f1 : Fr 157 a0 [(0, .agg (p.cells s))] := f0
 refine C.sk fun K0 hK0 => ?_
 refine L.box f1 wantedN (by decide) rfl rfl fun a2 w1 g0 N0 f2 => ?_
 have Bg0 := N0.blk
 have kg0 := N0.kept
 have log0 := N0.lo
 have ltg0 := Bg0.lt
 have szw1 := kg0.size
 have frg0 : w.heap.size ≤ g0 := Nat.le_trans HK.size log0
 replace HK := HK.trans kg0 (by simp)
 replace F0 := F0.kept0 kg0
 clear f0 N0 kg0
 refine L.ag f2 fun a3 f3 => ?_
 refine wpList_nil (hK0 _ _ ?_)
 have f4 := f3.sub (sc 1 sn)
 refine C.sk fun K1 hK1 => ?_
 refine L.ag f4 fun a5 f5 => ?_
 refine wpList_nil (hK1 _ _ ?_)
 have f6 := f5.sub (sc 1 (sc 3 sn))
 refine wp_seq_k fun K2 hK2 => ?_
 refine C.sk fun K3 hK3 => ?_
 refine L.fa 0 f6 U28 rfl wsz3_wc fun a7 f7 => ?_
 refine L.ld f7 U3 Bg0 fun a8 f8 => ?_
 refine wpList_nil (hK3 _ _ ?_)
 have f9 := f8.sub (sc 1 (sc 3 (sc 7 sn)))
 refine wp_block ?_
 refine C.sk fun K4 hK4 => ?_
 refine L.va f9 (E.eq f9) fun a10 f10 => ?_
 clear f1 a0 f2 a2 f3 f4 a3 f5 f6 a5 f7 a7 f8 f9 a8
 refine L.ag f10 fun a11 f11 => ?_
 refine wpList_nil (hK4 _ _ ?_)
 have f12 := f11.sub (sc 1 (sc 3 (sc 7 (sc 8 sn))))
 clear f10 a10 f11
 refine f12.splitD 8 rfl (fun h0 f13 => ?_) (fun h0 f13 => ?_)
 ·refine C.condT f13 rfl ?_
  refine wp_seq_k fun K5 hK5 => ?_
  have hq := hq1 (by assumption)
  have hd4 : Kept [] w1 (w1.drewN 1) := (Kept.refl _ _).drewN 1
  refine R.beginT (S := fun W => (Kept [] w W) ∧ (Blk W g0 28 (p.cells s))) (by kernel_rfl) (by kernel_rfl) ⟨HK.trans hd4 (by simp), Bg0.kept hd4 (by simp)⟩ fun ht => ?_
  obtain ⟨w2, hww2⟩ : ∃ W, W = w1.drewN 1 := ⟨_, rfl⟩
  rw [← hww2] at hd4 ⊢
  clear f12 hww2
  have szw2 := hd4.size
  replace HK := HK.trans hd4 (by simp)
  replace F0 := F0.kept0 hd4
  replace Bg0 := Bg0.kept hd4 (by simp)
  clear hd4
  refine R.u 1 f13 rfl ht ⟨HK, Bg0⟩ (fun W hW => (E.fa 7 f13 U28 rfl wsz3_wc)) fun a14 f14 => ?_
  refine R.u 2 f14 rfl ht ⟨HK, Bg0⟩ (fun W hW => (by exact E.ld f14 U3 (hW.2))) fun a15 f15 => ?_
  refine R.u 3 f15 rfl ht ⟨HK, Bg0⟩ (fun W hW => (E.conv f15 U3 U5 rfl (wrap_u8 _))) fun a16 f16 => ?_
  refine R.u 4 f16 rfl ht ⟨HK, Bg0⟩ (fun W hW => (E.fa 9 f16 U28 rfl wsz4_wc)) fun a17 f17 => ?_
  refine R.u 5 f17 rfl ht ⟨HK, Bg0⟩ (fun W hW => (by exact E.ld f17 U4 (hW.2))) fun a18 f18 => ?_
  refine R.u 7 f18 rfl ht ⟨HK, Bg0⟩ (fun W hW => (E.fa 11 f18 U28 rfl wsz4_wc)) fun a19 f19 => ?_
  refine R.u 8 f19 rfl ht ⟨HK, Bg0⟩ (fun W hW => (by exact E.ld f19 U4 (hW.2))) fun a20 f20 => ?_
  clear f13 a11 f14 a14 f15 a15 f16 a16 f17 a17 f18 a18 f19 a19
  refine R.u 11 f20 rfl ht ⟨HK, Bg0⟩ (fun W hW => (E.fa 12 f20 U28 rfl wsz24_wc)) fun a21 f21 => ?_
  refine R.u 12 f21 rfl ht ⟨HK, Bg0⟩ (fun W hW => (E.fa 2 f21 U24 rfl wsz3_wc)) fun a22 f22 => ?_
  refine R.u 13 f22 rfl ht ⟨HK, Bg0⟩ (fun W hW => (by exact E.ld f22 U3 (hW.2))) fun a23 f23 => ?_
  refine R.u 14 f23 rfl ht ⟨HK, Bg0⟩ (fun W hW => (E.mul f23 rfl rfl (IntWalk.i64_in _ (by omega)))) fun a24 f24 => ?_
  refine R.u 16 f24 rfl ht ⟨HK, Bg0⟩ (fun W hW => (E.fa 12 f24 U28 rfl wsz24_wc)) fun a25 f25 => ?_
  refine R.u 17 f25 rfl ht ⟨HK, Bg0⟩ (fun W hW => (E.fa 3 f25 U24 rfl wsz4_wc)) fun a26 f26 => ?_
  refine R.u 18 f26 rfl ht ⟨HK, Bg0⟩ (fun W hW => (by exact E.ld f26 U4 (hW.2))) fun a27 f27 => ?_
  clear f20 a20 f21 a21 f22 a22 f23 a23 f24 a24 f25 a25 f26 a26
  refine R.u 21 f27 rfl ht ⟨HK, Bg0⟩ (fun W hW => (E.fa 17 f27 U28 rfl wsz4_wc)) fun a28 f28 => ?_
  refine R.u 22 f28 rfl ht ⟨HK, Bg0⟩ (fun W hW => (by exact E.ld f28 U4 (hW.2))) fun a29 f29 => ?_
  refine R.u 25 f29 rfl ht ⟨HK, Bg0⟩ (fun W hW => (E.fa 16 f29 U28 rfl wsz4_wc)) fun a30 f30 => ?_
  refine R.u 26 f30 rfl ht ⟨HK, Bg0⟩ (fun W hW => (by exact E.ld f30 U4 (hW.2))) fun a31 f31 => ?_
  have hC3 := fun b hb => lumpBR _ _ _ b w _ F0 HK.size (by (simp [lumpL_len, twoL_len, bytes_len, maxLen]; done)) hb
  refine R.call 0 f31 rfl rfl (by decide) (by kernel_rfl) wantedN (run_call Tryd.call71 (args2 f31 rfl rfl)) (hC3 _ (by decide)) ?_
  clear f27 a27 f28 a28 f29 a29 f30 a30
  rintro e w3 ⟨A3, c3, rfl, FN3, kc3⟩
  have szw3 := kc3.size
  replace HK := F0.rel HK kc3
  replace Bg0 := Bg0.kept kc3 (own_ne F0.own Bg0 (by decide))
  refine ⟨_, rfl, ⟨HK, Bg0⟩, fun a32 f32 => ?_⟩
  clear f31 a31 kc3
  clear F0 hC3
  refine R.call 6 f32 rfl rfl (by decide) (by kernel_rfl) wantedN (run_call Tryd.call41 (args2 f32 rfl rfl)) (bit_any _ _ _) ?_
  rintro e w3x ⟨rfl, rfl⟩
  refine ⟨_, rfl, ⟨HK, Bg0⟩, fun a33 f33 => ?_⟩
  refine R.call 9 f33 rfl rfl (by decide) (by kernel_rfl) wantedN (run_call Tryd.call41 (args2 f33 rfl rfl)) (bit_any _ _ _) ?_
  clear f32 a32
  rintro e w3x ⟨rfl, rfl⟩
  refine ⟨_, rfl, ⟨HK, Bg0⟩, fun a34 f34 => ?_⟩
  refine R.u 10 f34 rfl ht ⟨HK, Bg0⟩ (fun W hW => (E.add f34 rfl rfl (IntWalk.i64_in _ (by omega)))) fun a35 f35 => ?_
  refine R.u 15 f35 rfl ht ⟨HK, Bg0⟩ (fun W hW => (E.add f35 rfl rfl (IntWalk.i64_in _ (by omega)))) fun a36 f36 => ?_
  refine R.call 19 f36 rfl rfl (by decide) (by kernel_rfl) wantedN (run_call Tryd.call41 (args2 f36 rfl rfl)) (bit_any _ _ _) ?_
  clear f33 a33 f34 a34 f35 a35
  rintro e w3x ⟨rfl, rfl⟩
  refine ⟨_, rfl, ⟨HK, Bg0⟩, fun a37 f37 => ?_⟩
  refine R.u 20 f37 rfl ht ⟨HK, Bg0⟩ (fun W hW => (E.add f37 rfl rfl (IntWalk.i64_in _ (by omega)))) fun a38 f38 => ?_
  refine R.call 23 f38 rfl rfl (by decide) (by kernel_rfl) wantedN (run_call Tryd.call41 (args2 f38 rfl rfl)) (bit_any _ _ _) ?_
  clear f36 a36 f37 a37
  rintro e w3x ⟨rfl, rfl⟩
  refine ⟨_, rfl, ⟨HK, Bg0⟩, fun a39 f39 => ?_⟩
  refine R.u 24 f39 rfl ht ⟨HK, Bg0⟩ (fun W hW => (E.add f39 rfl rfl (IntWalk.i64_in _ (by omega)))) fun a40 f40 => ?_
  refine R.call 27 f40 rfl rfl (by decide) (by kernel_rfl) wantedN (run_call Tryd.call41 (args2 f40 rfl rfl)) (bit_any _ _ _) ?_
  clear f38 a38 f39 a39
  rintro e w3x ⟨rfl, rfl⟩
  refine ⟨_, rfl, ⟨HK, Bg0⟩, fun a41 f41 => ?_⟩
  refine R.u 28 f41 rfl ht ⟨HK, Bg0⟩ (fun W hW => (E.add f41 rfl rfl (IntWalk.i64_in _ (by omega)))) fun a42 f42 => ?_
  refine R.u 29 f42 rfl ht ⟨HK, Bg0⟩ (fun W hW => (E.conv f42 U3 U5 rfl (wrap_u8 _))) fun a43 f43 => ?_
  refine R.one 30 (by kernel_rfl) ?_
  refine O.buildSlice f43 rfl wantedN (by decide) (parts2 f43 rfl rfl) U22 wzi5_wc rfl rfl (wbs22_2_wc _ _) (fun _ hk => ⟨HK.trans hk (by simp), Bg0.kept hk (by simp)⟩) fun a44 w4 g3 N3 hSn f44 => ?_
  clear f40 a40 f41 a41 f42 a42 hSn
  have Bg3 := N3.blk
  have kg3 := N3.kept
  have log3 := N3.lo
  have ltg3 := Bg3.lt
  have szw4 := kg3.size
  have frg3 : w.heap.size ≤ g3 := Nat.le_trans HK.size log3
  have neg0_g3 : g0 ≠ g3 := by have := Bg0.lt; omega
  replace HK := HK.trans kg3 (by simp)
  replace Bg0 := Bg0.kept kg3 (by simp)
  replace FN3 := FN3.kept0 kg3
  clear N3 kg3
  refine R.one 31 (by kernel_rfl) ?_
  refine O.append f44 rfl wantedN (by decide) U22 wzib5_wc rfl rfl rfl rfl FN3.own (Blk.sl1 Bg3 rfl) (by intro u hu; simp at hu; rcases hu with rfl | rfl <;> rfl) (by (simp [lumpL_len, twoL_len, bytes_len, maxLen]; done)) (by (simp [lumpL_len, twoL_len, bytes_len, maxLen]; done)) fun a45 w5 A5 c5 AP5 => ?_
  have FN5 := AP5.nextB FN3 HK.size ([b8 p.level, b8 (flagsI p)]) (by simp [u8_b8, flagsI, Int.mul_comm]) (by simp)
  have kap5 := AP5.kept
  have szw5 := kap5.size
  replace HK := FN3.rel HK kap5
  replace Bg0 := Bg0.kept kap5 (own_ne FN3.own Bg0 (by decide))
  refine ⟨⟨HK, Bg0⟩, fun f45 => ?_⟩
  clear f43 a43 f44 a44 kap5 AP5 FN3
  have f46 := f45.as (i := 41) rfl (sl_lenF FN5 (by simp))
  refine R.u 32 f46 rfl ht ⟨HK, Bg0⟩ (fun W hW => (E.assign f46 rfl)) fun a47 f47 => ?_
  refine R.done (by kernel_rfl) (hK5 _ _ ?_)
  have f48 := f47.sub (sc 1 (sc 3 sn))
  obtain ⟨J6, hJ6⟩ : ∃ J : Act → World → Prop, J = fun a W => ∃ (A : Option Addr) (c : Nat) (l : List UInt8), l ++ ((if p.hasWill then lumpL p.wt.toList ++ lumpL p.wp else []) ++ ((if p.hasUser then lumpL p.user.toList else []) ++ (if p.hasPass then lumpL p.pass else []))) = connL p ∧ Kept [] w W ∧ Blk W g0 28 (p.cells s) ∧ FB w W A c l ∧ Fr 157 a [(1, .pointer (some ⟨g0, 0, none⟩)), (3, .slice A l.length c)] := ⟨_, rfl⟩
  clear f45 f46 a45 f47
  refine C.cut J6 ?_ ?_
  ·skip
   have hd5 : Kept [] w5 (w5.drewN 1) := (Kept.refl _ _).drewN 1
   refine R.beginT (S := fun W => (Kept [] w W) ∧ (Blk W g0 28 (p.cells s))) (by kernel_rfl) (by kernel_rfl) ⟨HK.trans hd5 (by simp), Bg0.kept hd5 (by simp)⟩ fun ht => ?_
   obtain ⟨w6, hww6⟩ : ∃ W, W = w5.drewN 1 := ⟨_, rfl⟩
   rw [← hww6] at hd5 ⊢
   clear hww6
   have szw6 := hd5.size
   replace HK := HK.trans hd5 (by simp)
   replace Bg0 := Bg0.kept hd5 (by simp)
   replace FN5 := FN5.kept0 hd5
   clear hd5
   refine R.u 0 f48 rfl ht ⟨HK, Bg0⟩ (fun W hW => (E.move f48 rfl)) fun a49 f49 => ?_
   refine R.u 1 f49 rfl ht ⟨HK, Bg0⟩ (fun W hW => (E.fa 10 f49 U28 rfl wsz3_wc)) fun a50 f50 => ?_
   refine R.u 2 f50 rfl ht ⟨HK, Bg0⟩ (fun W hW => (by exact E.ld f50 U3 (hW.2))) fun a51 f51 => ?_
   refine R.u 4 f51 rfl ht ⟨HK, Bg0⟩ (fun W hW => (E.fa 8 f51 U28 rfl wsz9_wc)) fun a52 f52 => ?_
   refine R.u 5 f52 rfl ht ⟨HK, Bg0⟩ (fun W hW => (by exact E.ld f52 U9 (hW.2))) fun a53 f53 => ?_
   have hC7 := fun n => twoBR _ _ _ n w _ FN5 HK.size (by (simp [lumpL_len, twoL_len, bytes_len, maxLen]; done))
   refine R.call 3 f53 rfl rfl (by decide) (by kernel_rfl) wantedN (run_call Tryd.call72 (args2 f53 rfl rfl)) (hC7 _) ?_
   clear f48 a47 f49 a49 f50 a50 f51 a51 f52 a52
   rintro e w7 ⟨A7, c7, rfl, FN7, kc7⟩
   have szw7 := kc7.size
   replace HK := FN5.rel HK kc7
   replace Bg0 := Bg0.kept kc7 (own_ne FN5.own Bg0 (by decide))
   refine ⟨_, rfl, ⟨HK, Bg0⟩, fun a54 f54 => ?_⟩
   clear f53 a53 kc7
   clear FN5 hC7
   have hC8 := fun b hb => lumpBR _ _ _ b w _ FN7 HK.size (by (simp [lumpL_len, twoL_len, bytes_len, maxLen]; done)) hb
   refine R.call 6 f54 rfl rfl (by decide) (by kernel_rfl) wantedN (run_call Tryd.call71 (args2 f54 rfl rfl)) (hC8 _ (by omega)) ?_
   rintro e w8 ⟨A8, c8, rfl, FN8, kc8⟩
   have szw8 := kc8.size
   replace HK := FN7.rel HK kc8
   replace Bg0 := Bg0.kept kc8 (own_ne FN7.own Bg0 (by decide))
   refine ⟨_, rfl, ⟨HK, Bg0⟩, fun a55 f55 => ?_⟩
   clear f54 a54 kc8
   clear FN7 hC8
   refine R.u 7 f55 rfl ht ⟨HK, Bg0⟩ (fun W hW => (E.assign f55 rfl)) fun a56 f56 => ?_
   exact R.done (by kernel_rfl) (then_of (J := J6) (Q := fun _ _ _ => True) (by rw [hJ6]; exact ⟨_, _, _, by rw [connL_eq]; simp, HK, Bg0, FN8, f56.sub (sub_cons rfl (sub_cons rfl sn))⟩))
  intro a49 w6 hj
  rw [hJ6] at hj
  clear hJ6 J6
  obtain ⟨AB, cB, lb, hq, HK, Bg0, FL, f49⟩ := hj
  try clear f48
  have hll := FB.short FL hq hBLc
  obtain ⟨J8, hJ8⟩ : ∃ J : Act → World → Prop, J = fun a W => ∃ (A : Option Addr) (c : Nat) (l : List UInt8), l ++ ((if p.hasUser then lumpL p.user.toList else []) ++ (if p.hasPass then lumpL p.pass else [])) = connL p ∧ Kept [] w W ∧ Blk W g0 28 (p.cells s) ∧ FB w W A c l ∧ Fr 157 a [(1, .pointer (some ⟨g0, 0, none⟩)), (3, .slice A l.length c)] := ⟨_, rfl⟩
  refine C.cut J8 ?_ ?_
  ·skip
   refine C.sk fun K6 hK6 => ?_
   refine L.fa 11 f49 U28 rfl wsz4_wc fun a50 f50 => ?_
   refine L.ld f50 U4 Bg0 fun a51 f51 => ?_
   refine wpList_nil (hK6 _ _ ?_)
   have f52 := f51.sub (sc 1 (sc 3 (sc 50 sn)))
   clear f49 a49 f50 a50 f51
   refine f52.split 50 rfl (fun h1 f53 => ?_) (fun h1 f53 => ?_)
   ·have hw50 := h1
    refine C.condT f53 rfl ?_
    have hd7 : Kept [] w6 (w6.drewN 1) := (Kept.refl _ _).drewN 1
    refine R.beginT (S := fun W => (Kept [] w W) ∧ (Blk W g0 28 (p.cells s))) (by kernel_rfl) (by kernel_rfl) ⟨HK.trans hd7 (by simp), Bg0.kept hd7 (by simp)⟩ fun ht => ?_
    obtain ⟨w7, hww7⟩ : ∃ W, W = w6.drewN 1 := ⟨_, rfl⟩
    rw [← hww7] at hd7 ⊢
    clear f52 hww7
    have szw7 := hd7.size
    replace HK := HK.trans hd7 (by simp)
    replace Bg0 := Bg0.kept hd7 (by simp)
    replace FL := FL.kept0 hd7
    clear hd7
    refine R.u 0 f53 rfl ht ⟨HK, Bg0⟩ (fun W hW => (E.move f53 rfl)) fun a54 f54 => ?_
    refine R.u 1 f54 rfl ht ⟨HK, Bg0⟩ (fun W hW => (E.fa 12 f54 U28 rfl wsz24_wc)) fun a55 f55 => ?_
    refine R.u 2 f55 rfl ht ⟨HK, Bg0⟩ (fun W hW => (E.fa 0 f55 U24 rfl wsz9_wc)) fun a56 f56 => ?_
    refine R.u 3 f56 rfl ht ⟨HK, Bg0⟩ (fun W hW => (by exact E.ld f56 U9 (hW.2))) fun a57 f57 => ?_
    refine R.u 5 f57 rfl ht ⟨HK, Bg0⟩ (fun W hW => (E.fa 12 f57 U28 rfl wsz24_wc)) fun a58 f58 => ?_
    refine R.u 6 f58 rfl ht ⟨HK, Bg0⟩ (fun W hW => (E.fa 1 f58 U24 rfl wsz22_wc)) fun a59 f59 => ?_
    refine R.u 7 f59 rfl ht ⟨HK, Bg0⟩ (fun W hW => (by exact E.ld f59 U22 (hW.2))) fun a60 f60 => ?_
    clear f53 a51 f54 a54 f55 a55 f56 a56 f57 a57 f58 a58 f59 a59
    refine R.u 8 f60 rfl ht ⟨HK, Bg0⟩ (fun W hW => (E.toStr f60 rfl U22 U5 U9 (IP.wp.kept hW.1))) fun a61 f61 => ?_
    have hC8 := fun b hb => lumpBR _ _ _ b w _ FL HK.size (by omega) hb
    refine R.call 4 f61 rfl rfl (by decide) (by kernel_rfl) wantedN (run_call Tryd.call71 (args2 f61 rfl rfl)) (hC8 _ (by omega)) ?_
    clear f60 a60
    rintro e w8 ⟨A8, c8, rfl, FN8, kc8⟩
    have szw8 := kc8.size
    replace HK := FL.rel HK kc8
    replace Bg0 := Bg0.kept kc8 (own_ne FL.own Bg0 (by decide))
    refine ⟨_, rfl, ⟨HK, Bg0⟩, fun a62 f62 => ?_⟩
    clear f61 a61 kc8
    clear FL hC8
    have hC9 := fun b hb => lumpBR _ _ _ b w _ FN8 HK.size (by (simp [lumpL_len, twoL_len, bytes_len, maxLen]; omega)) hb
    refine R.call 9 f62 rfl rfl (by decide) (by kernel_rfl) wantedN (run_call Tryd.call71 (args2 f62 rfl rfl)) (hC9 _ (by simpa [bytes_arr] using L2)) ?_
    rintro e w9 ⟨A9, c9, rfl, FN9, kc9⟩
    have szw9 := kc9.size
    replace HK := FN8.rel HK kc9
    replace Bg0 := Bg0.kept kc9 (own_ne FN8.own Bg0 (by decide))
    refine ⟨_, rfl, ⟨HK, Bg0⟩, fun a63 f63 => ?_⟩
    clear f62 a62 kc9
    clear FN8 hC9
    refine R.u 10 f63 rfl ht ⟨HK, Bg0⟩ (fun W hW => (E.assign f63 rfl)) fun a64 f64 => ?_
    exact R.done (by kernel_rfl) (then_of (J := J8) (Q := fun _ _ _ => True) (by rw [hJ8]; exact ⟨_, _, _, by rw [← hq]; simp [hw50], HK, Bg0, FN9, f64.sub (sub_cons rfl (sub_cons rfl sn))⟩))
   have hw50 := h1
   refine C.condF f53 rfl ?_
   exact wp_skip (then_of (J := J8) (Q := fun _ _ _ => True) (by rw [hJ8]; exact ⟨_, _, _, by rw [← hq]; simp [hw50], HK, Bg0, FL, f53.sub (sub_cons rfl (sub_cons rfl sn))⟩))
  intro a50 w7 hj
  rw [hJ8] at hj
  clear hJ8 J8
  obtain ⟨AB, cB, lb, hq, HK, Bg0, FL, f50⟩ := hj
  try clear f49
  have hll := FB.short FL hq hBLc
  obtain ⟨J10, hJ10⟩ : ∃ J : Act → World → Prop, J = fun a W => ∃ (A : Option Addr) (c : Nat) (l : List UInt8), l ++ ((if p.hasPass then lumpL p.pass else [])) = connL p ∧ Kept [] w W ∧ Blk W g0 28 (p.cells s) ∧ FB w W A c l ∧ Fr 157 a [(1, .pointer (some ⟨g0, 0, none⟩)), (3, .slice A l.length c)] := ⟨_, rfl⟩
  refine C.cut J10 ?_ ?_
  ·skip
   refine C.sk fun K7 hK7 => ?_
   refine L.fa 16 f50 U28 rfl wsz4_wc fun a51 f51 => ?_
   refine L.ld f51 U4 Bg0 fun a52 f52 => ?_
   refine wpList_nil (hK7 _ _ ?_)
   have f53 := f52.sub (sc 1 (sc 3 (sc 62 sn)))
   clear f50 a50 f51 a51 f52
   refine f53.split 62 rfl (fun h2 f54 => ?_) (fun h2 f54 => ?_)
   ·have hw62 := h2
    refine C.condT f54 rfl ?_
    refine C.region ?_
    refine L.mv f54 fun a55 f55 => ?_
    refine L.fa 18 f55 U28 rfl wsz9_wc fun a56 f56 => ?_
    refine L.ld f56 U9 Bg0 fun a57 f57 => ?_
    have hC8 := fun b hb => lumpBR _ _ _ b w _ FL HK.size (by omega) hb
    refine L.cl f57 (run_call Tryd.call71 (args2 f57 rfl rfl)) (hC8 _ (by omega)) ?_
    clear f53 f54 a52 f55 a55 f56 a56
    rintro e w8 ⟨A8, c8, rfl, FN8, kc8⟩
    refine ⟨_, rfl, fun a58 f58 => ?_⟩
    have szw8 := kc8.size
    replace HK := FL.rel HK kc8
    replace Bg0 := Bg0.kept kc8 (own_ne FL.own Bg0 (by decide))
    clear f57 a57 kc8
    clear FL hC8
    refine L.ag f58 fun a59 f59 => ?_
    exact wpList_nil (then_of (J := J10) (Q := fun _ _ _ => True) (by rw [hJ10]; exact ⟨_, _, _, by rw [← hq]; simp [hw62], HK, Bg0, FN8, f59.sub (sub_cons rfl (sub_cons rfl sn))⟩))
   have hw62 := h2
   refine C.condF f54 rfl ?_
   exact wp_skip (then_of (J := J10) (Q := fun _ _ _ => True) (by rw [hJ10]; exact ⟨_, _, _, by rw [← hq]; simp [hw62], HK, Bg0, FL, f54.sub (sub_cons rfl (sub_cons rfl sn))⟩))
  intro a51 w8 hj
  rw [hJ10] at hj
  clear hJ10 J10
  obtain ⟨AB, cB, lb, hq, HK, Bg0, FL, f51⟩ := hj
  try clear f50
  have hll := FB.short FL hq hBLc
  refine wp_seq_k fun K8 hK8 => ?_
  refine C.sk fun K9 hK9 => ?_
  refine L.fa 17 f51 U28 rfl wsz4_wc fun a52 f52 => ?_
  refine L.ld f52 U4 Bg0 fun a53 f53 => ?_
  refine wpList_nil (hK9 _ _ ?_)
  have f54 := f53.sub (sc 1 (sc 3 (sc 68 sn)))
  clear f51 a51 f52 a52 f53
  refine f54.split 68 rfl (fun h3 f55 => ?_) (fun h3 f55 => ?_)
  ·have hw68 := h3
   refine C.condT f55 rfl ?_
   refine C.region ?_
   refine L.mv f55 fun a56 f56 => ?_
   refine L.fa 19 f56 U28 rfl wsz22_wc fun a57 f57 => ?_
   refine L.ld f57 U22 Bg0 fun a58 f58 => ?_
   refine L.va f58 (E.toStr f58 rfl U22 U5 U9 (IP.pass.kept HK)) fun a59 f59 => ?_
   have hC9 := fun b hb => lumpBR _ _ _ b w _ FL HK.size (by omega) hb
   refine L.cl f59 (run_call Tryd.call71 (args2 f59 rfl rfl)) (hC9 _ (by simpa [bytes_arr] using L3)) ?_
   clear f54 f55 a53 f56 a56 f57 a57 f58 a58
   rintro e w9 ⟨A9, c9, rfl, FN9, kc9⟩
   refine ⟨_, rfl, fun a60 f60 => ?_⟩
   have szw9 := kc9.size
   replace HK := FL.rel HK kc9
   replace Bg0 := Bg0.kept kc9 (own_ne FL.own Bg0 (by decide))
   clear f59 a59 kc9
   clear FL hC9
   refine L.ag f60 fun a61 f61 => ?_
   refine wpList_nil (hK8 _ _ ?_)
   have f62 := f61.sub (sc 3 sn)
   refine C.sk fun K10 hK10 => ?_
   refine L.mv f62 fun a63 f63 => ?_
   refine L.ag f63 fun a64 f64 => ?_
   refine wpList_nil (hK10 _ _ ?_)
   have f65 := f64.sub (sc 2 sn)
   refine wp_ret ?_
   try simp only [Exit.inBlock, Exit.then]
   refine C.ret (P := Tryd.prog) (fn := Tryd.f42) f65 rfl rfl ?_
   exact NewB.of HK FN9 (by rw [show bodyR p = connL p by simp [bodyR, *], ← hq]; simp [hw68])
  have hw68 := h3
  refine C.condF f55 rfl ?_
  refine wp_skip (hK8 _ _ ?_)
  have f56 := f55.sub (sc 3 sn)
  refine C.sk fun K11 hK11 => ?_
  refine L.mv f56 fun a57 f57 => ?_
  refine L.ag f57 fun a58 f58 => ?_
  refine wpList_nil (hK11 _ _ ?_)
  have f59 := f58.sub (sc 2 sn)
  refine wp_ret ?_
  try simp only [Exit.inBlock, Exit.then]
  refine C.ret (P := Tryd.prog) (fn := Tryd.f42) f59 rfl rfl ?_
  exact NewB.of HK FL (by rw [show bodyR p = connL p by simp [bodyR, *], ← hq]; simp [hw68])
 refine C.condF f13 rfl ?_
 refine C.sk fun K12 hK12 => ?_
 refine L.va f13 (E.eq f13) fun a14 f14 => ?_
 refine L.ag f14 fun a15 f15 => ?_
 refine wpList_nil (hK12 _ _ ?_)
 have f16 := f15.sub (sc 1 (sc 3 (sc 7 (sc 75 sn))))
 clear f12 f13 a11 f14 a14 f15
 refine f16.splitD 75 rfl (fun h4 f17 => ?_) (fun h4 f17 => ?_)
 ·refine C.condT f17 rfl ?_
  refine wp_seq_k fun K13 hK13 => ?_
  have hd14 : Kept [] w1 (w1.drewN 1) := (Kept.refl _ _).drewN 1
  refine R.beginT (S := fun W => (Kept [] w W) ∧ (Blk W g0 28 (p.cells s))) (by kernel_rfl) (by kernel_rfl) ⟨HK.trans hd14 (by simp), Bg0.kept hd14 (by simp)⟩ fun ht => ?_
  obtain ⟨w2, hww2⟩ : ∃ W, W = w1.drewN 1 := ⟨_, rfl⟩
  rw [← hww2] at hd14 ⊢
  clear f16 hww2
  have szw2 := hd14.size
  replace HK := HK.trans hd14 (by simp)
  replace F0 := F0.kept0 hd14
  replace Bg0 := Bg0.kept hd14 (by simp)
  clear hd14
  refine R.u 0 f17 rfl ht ⟨HK, Bg0⟩ (fun W hW => (E.move f17 rfl)) fun a18 f18 => ?_
  refine R.u 1 f18 rfl ht ⟨HK, Bg0⟩ (fun W hW => (E.fa 20 f18 U28 rfl wsz4_wc)) fun a19 f19 => ?_
  refine R.u 2 f19 rfl ht ⟨HK, Bg0⟩ (fun W hW => (by exact E.ld f19 U4 (hW.2))) fun a20 f20 => ?_
  refine R.u 5 f20 rfl ht ⟨HK, Bg0⟩ (fun W hW => (E.fa 21 f20 U28 rfl wsz3_wc)) fun a21 f21 => ?_
  refine R.u 6 f21 rfl ht ⟨HK, Bg0⟩ (fun W hW => (by exact E.ld f21 U3 (hW.2))) fun a22 f22 => ?_
  refine R.u 7 f22 rfl ht ⟨HK, Bg0⟩ (fun W hW => (E.conv f22 U3 U5 rfl (wrap_u8 _))) fun a23 f23 => ?_
  refine R.call 3 f23 rfl rfl (by decide) (by kernel_rfl) wantedN (run_call Tryd.call41 (args2 f23 rfl rfl)) (bit_any _ _ _) ?_
  clear f17 a15 f18 a18 f19 a19 f20 a20 f21 a21 f22 a22
  rintro e w2x ⟨rfl, rfl⟩
  refine ⟨_, rfl, ⟨HK, Bg0⟩, fun a24 f24 => ?_⟩
  refine R.u 4 f24 rfl ht ⟨HK, Bg0⟩ (fun W hW => (E.conv f24 U3 U5 rfl (wrap_u8 _))) fun a25 f25 => ?_
  refine R.one 8 (by kernel_rfl) ?_
  refine O.buildSlice f25 rfl wantedN (by decide) (parts2 f25 rfl rfl) U22 wzi5_wc rfl rfl (wbs22_2_wc _ _) (fun _ hk => ⟨HK.trans hk (by simp), Bg0.kept hk (by simp)⟩) fun a26 w3 g2 N2 hSn f26 => ?_
  clear f23 a23 f24 a24 hSn
  have Bg2 := N2.blk
  have kg2 := N2.kept
  have log2 := N2.lo
  have ltg2 := Bg2.lt
  have szw3 := kg2.size
  have frg2 : w.heap.size ≤ g2 := Nat.le_trans HK.size log2
  have neg0_g2 : g0 ≠ g2 := by have := Bg0.lt; omega
  replace HK := HK.trans kg2 (by simp)
  replace F0 := F0.kept0 kg2
  replace Bg0 := Bg0.kept kg2 (by simp)
  clear N2 kg2
  refine R.one 9 (by kernel_rfl) ?_
  refine O.append f26 rfl wantedN (by decide) U22 wzib5_wc rfl rfl rfl rfl F0.own (Blk.sl1 Bg2 rfl) (by intro u hu; simp at hu; rcases hu with rfl | rfl <;> rfl) (by (simp [lumpL_len, twoL_len, bytes_len, maxLen]; done)) (by omega) fun a27 w4 A4 c4 AP4 => ?_
  have FN4 := AP4.nextB F0 HK.size ([b8 (flg p.present 1), b8 p.code]) (by simp [u8_b8]) (by simp)
  have kap4 := AP4.kept
  have szw4 := kap4.size
  replace HK := F0.rel HK kap4
  replace Bg0 := Bg0.kept kap4 (own_ne F0.own Bg0 (by decide))
  refine ⟨⟨HK, Bg0⟩, fun f27 => ?_⟩
  clear f25 a25 f26 a26 kap4 AP4 F0
  have f28 := f27.as (i := 86) rfl (sl_lenF FN4 (by simp))
  refine R.u 10 f28 rfl ht ⟨HK, Bg0⟩ (fun W hW => (E.assign f28 rfl)) fun a29 f29 => ?_
  refine R.done (by kernel_rfl) (hK13 _ _ ?_)
  have f30 := f29.sub (sc 2 sn)
  refine wp_ret ?_
  try simp only [Exit.inBlock, Exit.then]
  refine C.ret (P := Tryd.prog) (fn := Tryd.f42) f30 rfl rfl ?_
  exact NewB.of HK FN4 (by simp [bodyR, connL, *])
 refine C.condF f17 rfl ?_
 refine C.sk fun K14 hK14 => ?_
 refine L.va f17 (E.eq f17) fun a18 f18 => ?_
 refine L.ag f18 fun a19 f19 => ?_
 refine wpList_nil (hK14 _ _ ?_)
 have f20 := f19.sub (sc 1 (sc 3 (sc 7 (sc 87 sn))))
 clear f16 f17 a15 f18 a18 f19
 refine f20.splitD 87 rfl (fun h5 f21 => ?_) (fun h5 f21 => ?_)
 ·refine C.condT f21 rfl ?_
  refine C.sk fun K15 hK15 => ?_
  refine L.mv f21 fun a22 f22 => ?_
  refine L.fa 5 f22 U28 rfl wsz9_wc fun a23 f23 => ?_
  refine L.ld f23 U9 Bg0 fun a24 f24 => ?_
  have hC2 := fun b hb => lumpBR _ _ _ b w _ F0 HK.size (by (simp [lumpL_len, twoL_len, bytes_len, maxLen]; done)) hb
  refine L.cl f24 (run_call Tryd.call71 (args2 f24 rfl rfl)) (hC2 _ (by omega)) ?_
  clear f20 f21 a19 f22 a22 f23 a23
  rintro e w2 ⟨A2, c2, rfl, FN2, kc2⟩
  refine ⟨_, rfl, fun a25 f25 => ?_⟩
  have szw2 := kc2.size
  replace HK := F0.rel HK kc2
  replace Bg0 := Bg0.kept kc2 (own_ne F0.own Bg0 (by decide))
  clear f24 a24 kc2
  clear F0 hC2
  refine L.ag f25 fun a26 f26 => ?_
  refine wpList_nil (hK15 _ _ ?_)
  have f27 := f26.sub (sc 1 (sc 3 sn))
  refine wp_seq_k fun K16 hK16 => ?_
  refine C.sk fun K17 hK17 => ?_
  refine L.fa 3 f27 U28 rfl wsz3_wc fun a28 f28 => ?_
  refine L.ld f28 U3 Bg0 fun a29 f29 => ?_
  refine L.va f29 (E.gtr f29 rfl rfl) fun a30 f30 => ?_
  refine wpList_nil (hK17 _ _ ?_)
  have f31 := f30.sub (sc 1 (sc 3 (sc 95 sn)))
  clear f25 a25 f26 f27 a26 f28 a28 f29 a29 f30
  refine f31.splitD 95 rfl (fun h6 f32 => ?_) (fun h6 f32 => ?_)
  ·refine C.condT f32 rfl ?_
   refine C.region ?_
   refine L.mv f32 fun a33 f33 => ?_
   refine L.fa 4 f33 U28 rfl wsz3_wc fun a34 f34 => ?_
   refine L.ld f34 U3 Bg0 fun a35 f35 => ?_
   have hC3 := fun n => twoBR _ _ _ n w _ FN2 HK.size (by (simp [lumpL_len, twoL_len, bytes_len, maxLen]; omega))
   refine L.cl f35 (run_call Tryd.call72 (args2 f35 rfl rfl)) (hC3 _) ?_
   clear f31 f32 a30 f33 a33 f34 a34
   rintro e w3 ⟨A3, c3, rfl, FN3, kc3⟩
   refine ⟨_, rfl, fun a36 f36 => ?_⟩
   have szw3 := kc3.size
   replace HK := FN2.rel HK kc3
   replace Bg0 := Bg0.kept kc3 (own_ne FN2.own Bg0 (by decide))
   clear f35 a35 kc3
   clear FN2 hC3
   refine L.ag f36 fun a37 f37 => ?_
   refine wpList_nil (hK16 _ _ ?_)
   have f38 := f37.sub (sc 1 (sc 3 sn))
   refine C.sk fun K18 hK18 => ?_
   refine L.mv f38 fun a39 f39 => ?_
   refine L.fa 6 f39 U28 rfl wsz22_wc fun a40 f40 => ?_
   refine L.ld f40 U22 Bg0 fun a41 f41 => ?_
   refine L.append f41 wantedN (by decide) U22 wzib5_wc rfl rfl rfl rfl FN3.own (IP.pay.kept HK) (u8_one) (by (simp [lumpL_len, twoL_len, bytes_len, maxLen]; omega)) (by (simp [lumpL_len, twoL_len, bytes_len, maxLen]; omega)) fun a42 w4 A4 c4 AP4 f42 => ?_
   have FN4 := AP4.nextB FN3 HK.size (p.pay) (rfl) (rfl)
   have kap4 := AP4.kept
   have szw4 := kap4.size
   replace HK := FN3.rel HK kap4
   replace Bg0 := Bg0.kept kap4 (own_ne FN3.own Bg0 (by decide))
   clear f36 a36 f37 f38 a37 f39 a39 f40 a40 f41 a41 kap4 AP4 FN3
   have f43 := f42.as (i := 103) rfl (sl_lenF FN4 (rfl))
   refine L.ag f43 fun a44 f44 => ?_
   refine wpList_nil (hK18 _ _ ?_)
   have f45 := f44.sub (sc 2 sn)
   refine wp_ret ?_
   try simp only [Exit.inBlock, Exit.then]
   refine C.ret (P := Tryd.prog) (fn := Tryd.f42) f45 rfl rfl ?_
   exact NewB.of HK FN4 (by simp [bodyR, connL, *])
  refine C.condF f32 rfl ?_
  refine wp_skip (hK16 _ _ ?_)
  have f33 := f32.sub (sc 1 (sc 3 sn))
  refine C.sk fun K19 hK19 => ?_
  refine L.mv f33 fun a34 f34 => ?_
  refine L.fa 6 f34 U28 rfl wsz22_wc fun a35 f35 => ?_
  refine L.ld f35 U22 Bg0 fun a36 f36 => ?_
  refine L.append f36 wantedN (by decide) U22 wzib5_wc rfl rfl rfl rfl FN2.own (IP.pay.kept HK) (u8_one) (by (simp [lumpL_len, twoL_len, bytes_len, maxLen]; omega)) (by (simp [lumpL_len, twoL_len, bytes_len, maxLen]; omega)) fun a37 w3 A3 c3 AP3 f37 => ?_
  have FN3 := AP3.nextB FN2 HK.size (p.pay) (rfl) (rfl)
  have kap3 := AP3.kept
  have szw3 := kap3.size
  replace HK := FN2.rel HK kap3
  replace Bg0 := Bg0.kept kap3 (own_ne FN2.own Bg0 (by decide))
  clear f31 f32 f33 a30 f34 a34 f35 a35 f36 a36 kap3 AP3 FN2
  have f38 := f37.as (i := 103) rfl (sl_lenF FN3 (rfl))
  refine L.ag f38 fun a39 f39 => ?_
  refine wpList_nil (hK19 _ _ ?_)
  have f40 := f39.sub (sc 2 sn)
  refine wp_ret ?_
  try simp only [Exit.inBlock, Exit.then]
  refine C.ret (P := Tryd.prog) (fn := Tryd.f42) f40 rfl rfl ?_
  exact NewB.of HK FN3 (by simp [bodyR, connL, *])
 refine C.condF f21 rfl ?_
 refine wp_seq_k fun K20 hK20 => ?_
 refine C.sk fun K21 hK21 => ?_
 refine L.va f21 (E.eq f21) fun a22 f22 => ?_
 refine L.ag f22 fun a23 f23 => ?_
 refine wpList_nil (hK21 _ _ ?_)
 have f24 := f23.sub (sc 1 (sc 3 (sc 7 (sc 104 sn))))
 clear f20 f21 a19 f22 a22 f23
 refine f24.splitD 104 rfl (fun h7 f25 => ?_) (fun h7 f25 => ?_)
 ·refine C.condT f25 rfl ?_
  refine wp_skip (hK20 _ _ ?_)
  have f26 := f25.sub (sc 1 (sc 3 (sc 104 sn)))
  refine C.condT f26 rfl ?_
  refine C.sk fun K22 hK22 => ?_
  refine L.ag f26 fun a27 f27 => ?_
  refine wpList_nil (hK22 _ _ ?_)
  have f28 := f27.sub (sc 2 sn)
  refine wp_ret ?_
  try simp only [Exit.inBlock, Exit.then]
  refine C.ret (P := Tryd.prog) (fn := Tryd.f42) f28 rfl rfl ?_
  exact NewB.of HK F0 (by simp [bodyR, inB, *])
 refine C.condF f25 rfl ?_
 refine C.sk fun K23 hK23 => ?_
 refine L.va f25 (E.eq f25) fun a26 f26 => ?_
 refine L.ag f26 fun a27 f27 => ?_
 refine wpList_nil (hK23 _ _ ?_)
 have f28 := f27.sub (sc 1 (sc 3 (sc 7 (sc 104 sn))))
 clear f24 f25 a23 f26 a26 f27
 refine f28.splitD 104 rfl (fun h8 f29 => ?_) (fun h8 f29 => ?_)
 ·refine C.condT f29 rfl ?_
  refine wp_skip (hK20 _ _ ?_)
  have f30 := f29.sub (sc 1 (sc 3 (sc 104 sn)))
  refine C.condT f30 rfl ?_
  refine C.sk fun K24 hK24 => ?_
  refine L.ag f30 fun a31 f31 => ?_
  refine wpList_nil (hK24 _ _ ?_)
  have f32 := f31.sub (sc 2 sn)
  refine wp_ret ?_
  try simp only [Exit.inBlock, Exit.then]
  refine C.ret (P := Tryd.prog) (fn := Tryd.f42) f32 rfl rfl ?_
  exact NewB.of HK F0 (by simp [bodyR, inB, *])
 refine C.condF f29 rfl ?_
 refine C.region ?_
 refine L.va f29 (E.eq f29) fun a30 f30 => ?_
 refine L.ag f30 fun a31 f31 => ?_
 refine wpList_nil (hK20 _ _ ?_)
 have f32 := f31.sub (sc 1 (sc 3 (sc 104 sn)))
 clear f28 f29 a27 f30 a30 f31
 refine f32.splitD 104 rfl (fun h9 f33 => ?_) (fun h9 f33 => ?_)
 ·refine C.condT f33 rfl ?_
  refine C.sk fun K25 hK25 => ?_
  refine L.ag f33 fun a34 f34 => ?_
  refine wpList_nil (hK25 _ _ ?_)
  have f35 := f34.sub (sc 2 sn)
  refine wp_ret ?_
  try simp only [Exit.inBlock, Exit.then]
  refine C.ret (P := Tryd.prog) (fn := Tryd.f42) f35 rfl rfl ?_
  exact NewB.of HK F0 (by simp [bodyR, inB, *])
 refine C.condF f33 rfl ?_
 refine wp_skip (hK2 _ _ ?_)
 have f34 := f33.sub (sc 1 (sc 3 sn))
 refine C.sk fun K26 hK26 => ?_
 refine L.mv f34 fun a35 f35 => ?_
 refine L.fa 4 f35 U28 rfl wsz3_wc fun a36 f36 => ?_
 refine L.ld f36 U3 Bg0 fun a37 f37 => ?_
 have hC2 := fun n => twoBR _ _ _ n w _ F0 HK.size (by (simp [lumpL_len, twoL_len, bytes_len, maxLen]; done))
 refine L.cl f37 (run_call Tryd.call72 (args2 f37 rfl rfl)) (hC2 _) ?_
 clear f32 f33 f34 a31 f35 a35 f36 a36
 rintro e w2 ⟨A2, c2, rfl, FN2, kc2⟩
 refine ⟨_, rfl, fun a38 f38 => ?_⟩
 have szw2 := kc2.size
 replace HK := F0.rel HK kc2
 replace Bg0 := Bg0.kept kc2 (own_ne F0.own Bg0 (by decide))
 clear f37 a37 kc2
 clear F0 hC2
 refine L.ag f38 fun a39 f39 => ?_
 refine wpList_nil (hK26 _ _ ?_)
 have f40 := f39.sub (sc 1 (sc 3 sn))
 refine wp_seq_k fun K27 hK27 => ?_
 refine C.sk fun K28 hK28 => ?_
 refine L.ag f40 fun a41 f41 => ?_
 refine wpList_nil (hK28 _ _ ?_)
 have f42 := f41.sub (sc 1 (sc 3 (sc 4 sn)))
 refine wp_block ?_
 clear f38 a38 f39 f40 a39 f41
 refine C.loop (fun gk a W => ∃ (k : Nat) (A : Option Addr) (c : Nat) (l : List UInt8), k + gk = p.subs.length ∧ Kept [] w W ∧ Blk W g0 28 (p.cells s) ∧ FB w W A c l ∧ l ++ ((p.subs.drop k).flatMap (subL p.kind) ++ p.codes.map b8) = bodyR p ∧ Fr 157 a [(1, .pointer (some ⟨g0, 0, none⟩)), (3, .slice A l.length c), (4, .int .i64 k)]) (p.subs.length) ?_ ?_
 ·exact ⟨0, _, _, _, by omega, HK, Bg0, FN2, by rw [bodyR_else (by omega)]; simp, f42.sub (sub_cons rfl (sub_cons rfl (sub_cons rfl sn)))⟩
 intro gk30 a43 w3 hI KL29 hKL29
 obtain ⟨k, A, c, l, hk, HK, Bg0, FL, hq, f43⟩ := hI
 try clear f42
 have hll := FB.short FL hq hBL
 have szL := HK.size
 refine wp_seq_k fun K30 hK30 => ?_
 refine C.sk fun K31 hK31 => ?_
 refine L.mv f43 fun a44 f44 => ?_
 refine L.fa 22 f44 U28 rfl wsz25_wc fun a45 f45 => ?_
 refine L.ld f45 U25 Bg0 fun a46 f46 => ?_
 refine L.va f46 (E.lenL f46 U25 rfl) fun a47 f47 => ?_
 refine L.va f47 (E.lss f47 rfl rfl) fun a48 f48 => ?_
 refine wpList_nil (hK31 _ _ ?_)
 have f49 := f48.sub (sc 1 (sc 3 (sc 4 (sc 116 sn))))
 clear f43 a43 f44 a44 f45 a45 f46 a46 f47 a47 f48
 refine f49.splitD 116 rfl (fun h10 f50 => ?_) (fun h10 f50 => ?_)
 ·obtain ⟨d, hd⟩ := some_at p.subs k (by omega)
  obtain ⟨bk, off, hA⟩ := IP.subs.addr (by omega)
  have hds := L10 d (List.mem_of_getElem? hd)
  refine C.condT f50 rfl ?_
  refine wp_skip (hK30 _ _ ?_)
  have f51 := f50.sub (sc 1 (sc 3 (sc 4 sn)))
  refine wp_seq_k fun K32 hK32 => ?_
  refine wp_block ?_
  refine C.sk fun K33 hK33 => ?_
  refine L.mv f51 fun a52 f52 => ?_
  refine L.fa 22 f52 U28 rfl wsz25_wc fun a53 f53 => ?_
  refine L.ld f53 U25 Bg0 fun a54 f54 => ?_
  refine L.mv f54 fun a55 f55 => ?_
  refine L.va f55 (E.indexA f55 (by assumption) U25 wsz70_wc rfl rfl (by omega) (by omega)) fun a56 f56 => ?_
  refine L.fa 0 f56 U70 rfl wsz9_wc fun a57 f57 => ?_
  clear f49 f50 f51 a48 f52 a52 f53 a53 f54 a54 f55 a55 f56 a56
  refine L.va f57 (by exact E.load f57 U9 rfl rfl (sub_cell0 (IP.subs.kept HK) hA hd)) fun a58 f58 => ?_
  have hC4 := fun b hb => lumpBR _ _ _ b w _ FL HK.size (by omega) hb
  refine L.cl f58 (run_call Tryd.call71 (args2 f58 rfl rfl)) (hC4 _ (by omega)) ?_
  clear f57 a57
  rintro e w4 ⟨A4, c4, rfl, FN4, kc4⟩
  refine ⟨_, rfl, fun a59 f59 => ?_⟩
  have szw4 := kc4.size
  replace HK := FL.rel HK kc4
  replace Bg0 := Bg0.kept kc4 (own_ne FL.own Bg0 (by decide))
  clear f58 a58 kc4
  clear FL hC4
  refine L.ag f59 fun a60 f60 => ?_
  refine wpList_nil (hK33 _ _ ?_)
  have f61 := f60.sub (sc 1 (sc 3 (sc 4 sn)))
  refine C.sk fun K34 hK34 => ?_
  refine L.fa 0 f61 U28 rfl wsz3_wc fun a62 f62 => ?_
  refine L.ld f62 U3 Bg0 fun a63 f63 => ?_
  refine L.va f63 (E.eq f63) fun a64 f64 => ?_
  refine wpList_nil (hK34 _ _ ?_)
  have f65 := f64.sub (sc 1 (sc 3 (sc 4 (sc 129 sn))))
  clear f59 a59 f60 f61 a60 f62 a62 f63 a63 f64
  refine f65.splitD 129 rfl (fun h11 f66 => ?_) (fun h11 f66 => ?_)
  ·refine C.condT f66 rfl ?_
   refine C.region ?_
   refine L.mv f66 fun a67 f67 => ?_
   refine L.fa 22 f67 U28 rfl wsz25_wc fun a68 f68 => ?_
   refine L.ld f68 U25 Bg0 fun a69 f69 => ?_
   refine L.mv f69 fun a70 f70 => ?_
   refine L.va f70 (E.indexA f70 (by assumption) U25 wsz70_wc rfl rfl (by omega) (by omega)) fun a71 f71 => ?_
   refine L.fa 1 f71 U70 rfl wsz3_wc fun a72 f72 => ?_
   refine L.va f72 (by exact E.load f72 U3 rfl rfl (sub_cell1 (IP.subs.kept HK) hA hd)) fun a73 f73 => ?_
   clear f65 f66 a64 f67 a67 f68 a68 f69 a69 f70 a70 f71 a71 f72 a72
   refine L.va f73 (E.conv f73 U3 U5 rfl (wrap_u8 _)) fun a74 f74 => ?_
   refine L.buildSlice f74 wantedN (by decide) (parts1 f74 rfl) U22 wzi5_wc rfl rfl (wbs22_1_wc _) fun a75 w5 g4 N4 f75 => ?_
   have Bg4 := N4.blk
   have kg4 := N4.kept
   have log4 := N4.lo
   have ltg4 := Bg4.lt
   have szw5 := kg4.size
   have frg4 : w.heap.size ≤ g4 := Nat.le_trans HK.size log4
   have neg0_g4 : g0 ≠ g4 := by have := Bg0.lt; omega
   replace HK := HK.trans kg4 (by simp)
   replace Bg0 := Bg0.kept kg4 (by simp)
   replace FN4 := FN4.kept0 kg4
   clear f73 a73 N4 kg4
   refine L.append f75 wantedN (by decide) U22 wzib5_wc rfl rfl rfl rfl FN4.own (Blk.sl1 Bg4 rfl) (by intro u hu; simp at hu; subst hu; rfl) (by (simp [lumpL_len, twoL_len, bytes_len, maxLen]; omega)) (by (simp [lumpL_len, twoL_len, bytes_len, maxLen]; omega)) fun a76 w6 A6 c6 AP6 f76 => ?_
   have FN6 := AP6.nextB FN4 HK.size ([b8 d.2]) (by simp [u8_b8]) (by simp)
   have kap6 := AP6.kept
   have szw6 := kap6.size
   replace HK := FN4.rel HK kap6
   replace Bg0 := Bg0.kept kap6 (own_ne FN4.own Bg0 (by decide))
   clear f74 a74 f75 a75 kap6 AP6 FN4
   have f77 := f76.as (i := 139) rfl (sl_lenF FN6 (by simp))
   refine L.ag f77 fun a78 f78 => ?_
   refine wpList_nil (hK32 _ _ ?_)
   have f79 := f78.sub (sc 1 (sc 3 (sc 4 sn)))
   refine C.region ?_
   refine L.mv f79 fun a80 f80 => ?_
   refine L.va f80 (E.add f80 rfl rfl (IntWalk.i64_in _ (by omega))) fun a81 f81 => ?_
   refine L.ag f81 fun a82 f82 => ?_
   clear f76 f77 a76 f78 f79 a78 f80 a80 f81 a81
   refine wpList_nil (hKL29 _ _ (gk30 - 1) ?_ ?_)
   ·omega
   exact ⟨k + 1, _, _, _, by omega, HK, Bg0, FN6, by rw [← hq, drop_at hd]; (simp [subL, *]; done), f82.sub (sub_cons rfl (sub_cons rfl (sub_cons rfl sn)))⟩
  refine C.condF f66 rfl ?_
  refine wp_skip (hK32 _ _ ?_)
  have f67 := f66.sub (sc 1 (sc 3 (sc 4 sn)))
  refine C.region ?_
  refine L.mv f67 fun a68 f68 => ?_
  refine L.va f68 (E.add f68 rfl rfl (IntWalk.i64_in _ (by omega))) fun a69 f69 => ?_
  refine L.ag f69 fun a70 f70 => ?_
  clear f65 f66 f67 a64 f68 a68 f69 a69
  refine wpList_nil (hKL29 _ _ (gk30 - 1) ?_ ?_)
  ·omega
  exact ⟨k + 1, _, _, _, by omega, HK, Bg0, FN4, by rw [← hq, drop_at hd]; (simp [subL, *]; done), f70.sub (sub_cons rfl (sub_cons rfl (sub_cons rfl sn)))⟩
 refine C.condF f50 rfl ?_
 refine wp_exit (hK27 _ _ ?_)
 have f51 := f50.sub (sc 1 (sc 3 sn))
 refine wp_seq_k fun K35 hK35 => ?_
 refine C.sk fun K36 hK36 => ?_
 refine L.ag f51 fun a52 f52 => ?_
 refine wpList_nil (hK36 _ _ ?_)
 have f53 := f52.sub (sc 1 (sc 3 (sc 5 sn)))
 refine wp_block ?_
 clear f49 f50 f51 a48 f52
 refine C.loop (fun gk a W => ∃ (k : Nat) (A : Option Addr) (c : Nat) (l : List UInt8), k + gk = p.codes.length ∧ Kept [] w W ∧ Blk W g0 28 (p.cells s) ∧ FB w W A c l ∧ l ++ ((p.codes.drop k).map b8) = bodyR p ∧ Fr 157 a [(1, .pointer (some ⟨g0, 0, none⟩)), (3, .slice A l.length c), (5, .int .i64 k)]) (p.codes.length) ?_ ?_
 ·exact ⟨0, _, _, _, by omega, HK, Bg0, FL, by rw [← hq, drop_out p.subs (by omega)]; simp, f53.sub (sub_cons rfl (sub_cons rfl (sub_cons rfl sn)))⟩
 intro gk38 a54 w4 hI KL37 hKL37
 obtain ⟨k, A, c, l, hk, HK, Bg0, FL, hq, f54⟩ := hI
 try clear f53
 have hll := FB.short FL hq hBL
 have szL := HK.size
 refine wp_seq_k fun K38 hK38 => ?_
 refine C.sk fun K39 hK39 => ?_
 refine L.mv f54 fun a55 f55 => ?_
 refine L.fa 23 f55 U28 rfl wsz26_wc fun a56 f56 => ?_
 refine L.ld f56 U26 Bg0 fun a57 f57 => ?_
 refine L.va f57 (E.lenL f57 U26 rfl) fun a58 f58 => ?_
 refine L.va f58 (E.lss f58 rfl rfl) fun a59 f59 => ?_
 refine wpList_nil (hK39 _ _ ?_)
 have f60 := f59.sub (sc 1 (sc 3 (sc 5 (sc 144 sn))))
 clear f54 a54 f55 a55 f56 a56 f57 a57 f58 a58 f59
 refine f60.splitD 144 rfl (fun h12 f61 => ?_) (fun h12 f61 => ?_)
 ·obtain ⟨d, hd⟩ := some_at p.codes k (by omega)
  obtain ⟨bk, off, hA⟩ := IP.codes.addr (by omega)
  refine C.condT f61 rfl ?_
  refine wp_skip (hK38 _ _ ?_)
  have f62 := f61.sub (sc 1 (sc 3 (sc 5 sn)))
  refine wp_seq_k fun K40 hK40 => ?_
  refine wp_block ?_
  refine C.region ?_
  refine L.mv f62 fun a63 f63 => ?_
  refine L.fa 23 f63 U28 rfl wsz26_wc fun a64 f64 => ?_
  refine L.ld f64 U26 Bg0 fun a65 f65 => ?_
  refine L.mv f65 fun a66 f66 => ?_
  refine L.va f66 (E.indexA f66 (by assumption) U26 wsz3_wc rfl rfl (by omega) (by omega)) fun a67 f67 => ?_
  refine L.va f67 (by exact E.load f67 U3 rfl rfl (code_cell1 (IP.codes.kept HK) hA hd)) fun a68 f68 => ?_
  clear f60 f61 f62 a59 f63 a63 f64 a64 f65 a65 f66 a66 f67 a67
  refine L.va f68 (E.conv f68 U3 U5 rfl (wrap_u8 _)) fun a69 f69 => ?_
  refine L.buildSlice f69 wantedN (by decide) (parts1 f69 rfl) U22 wzi5_wc rfl rfl (wbs22_1_wc _) fun a70 w5 g4 N4 f70 => ?_
  have Bg4 := N4.blk
  have kg4 := N4.kept
  have log4 := N4.lo
  have ltg4 := Bg4.lt
  have szw5 := kg4.size
  have frg4 : w.heap.size ≤ g4 := Nat.le_trans HK.size log4
  have neg0_g4 : g0 ≠ g4 := by have := Bg0.lt; omega
  replace HK := HK.trans kg4 (by simp)
  replace Bg0 := Bg0.kept kg4 (by simp)
  replace FL := FL.kept0 kg4
  clear f68 a68 N4 kg4
  refine L.append f70 wantedN (by decide) U22 wzib5_wc rfl rfl rfl rfl FL.own (Blk.sl1 Bg4 rfl) (by intro u hu; simp at hu; subst hu; rfl) (by (simp [lumpL_len, twoL_len, bytes_len, maxLen]; omega)) (by omega) fun a71 w6 A6 c6 AP6 f71 => ?_
  have FN6 := AP6.nextB FL HK.size ([b8 d]) (by simp [u8_b8]) (by simp)
  have kap6 := AP6.kept
  have szw6 := kap6.size
  replace HK := FL.rel HK kap6
  replace Bg0 := Bg0.kept kap6 (own_ne FL.own Bg0 (by decide))
  clear f69 a69 f70 a70 kap6 AP6 FL
  have f72 := f71.as (i := 155) rfl (sl_lenF FN6 (by simp))
  refine L.ag f72 fun a73 f73 => ?_
  refine wpList_nil (hK40 _ _ ?_)
  have f74 := f73.sub (sc 1 (sc 3 (sc 5 sn)))
  refine C.region ?_
  refine L.mv f74 fun a75 f75 => ?_
  refine L.va f75 (E.add f75 rfl rfl (IntWalk.i64_in _ (by omega))) fun a76 f76 => ?_
  refine L.ag f76 fun a77 f77 => ?_
  clear f71 f72 a71 f73 f74 a73 f75 a75 f76 a76
  refine wpList_nil (hKL37 _ _ (gk38 - 1) ?_ ?_)
  ·omega
  exact ⟨k + 1, _, _, _, by omega, HK, Bg0, FN6, by rw [← hq, drop_at hd]; (simp [subL, *]; done), f77.sub (sub_cons rfl (sub_cons rfl (sub_cons rfl sn)))⟩
 refine C.condF f61 rfl ?_
 refine wp_exit (hK35 _ _ ?_)
 have f62 := f61.sub (sc 3 sn)
 refine C.sk fun K41 hK41 => ?_
 refine L.mv f62 fun a63 f63 => ?_
 refine L.ag f63 fun a64 f64 => ?_
 refine wpList_nil (hK41 _ _ ?_)
 have f65 := f64.sub (sc 2 sn)
 refine wp_ret ?_
 try simp only [Exit.inBlock, Exit.then]
 refine C.ret (P := Tryd.prog) (fn := Tryd.f42) f65 rfl rfl ?_
 exact NewB.of HK FL (by rw [← hq, drop_out p.codes (by omega)]; simp)
end Go.Proofs.YtigjafbbnocihaaDoor
namespace Go.Hub
theorem u8_clear_nat : ∀ x : Fin 256, bits .andNot .u8 (x.val : Int) 128 = ((x.val % 128 : Nat) : Int) := by decide +kernel
theorem u8_top_nat : ∀ x : Fin 256, bits .or .u8 (x.val : Int) 128 = ((x.val % 128 + 128 : Nat) : Int) := by decide +kernel
theorem u8_clear (x : Int) (h0 : 0 ≤ x) (h1 : x < 256) : bits .andNot .u8 x 128 = x % 128 := by
  obtain ⟨n, rfl⟩ := Int.eq_ofNat_of_zero_le h0
  have := u8_clear_nat ⟨n, by omega⟩
  simpa using this
theorem u8_top (x : Int) (h0 : 0 ≤ x) (h1 : x < 256) : bits .or .u8 x 128 = x % 128 + 128 := by
  obtain ⟨n, rfl⟩ := Int.eq_ofNat_of_zero_le h0
  have := u8_top_nat ⟨n, by omega⟩
  simpa using this
theorem wraps_i64 (n : Int) (h0 : 0 ≤ n) (h1 : n < 2 ^ 63) : IntKind.i64.wrap n = n := by rw [IntKind.wrap_i64]; omega
theorem i64_or (i : Nat) (a b : Int) (ha : 0 ≤ a) (ha1 : a < 2 ^ i) (hb : 0 ≤ b) (hb1 : b % 2 ^ i = 0) (hb2 : b < 2 ^ 62) (hi : a < 2 ^ 62) : bits .or .i64 a b = a + b := by
  have h := bits_join .i64 63 (by decide) wraps_i64 i b a hb hb1 (by omega) ha ha1 (by omega)
  obtain ⟨x, rfl⟩ := Int.eq_ofNat_of_zero_le ha
  obtain ⟨y, rfl⟩ := Int.eq_ofNat_of_zero_le hb
  have e1 := (bits_nat .i64 63 (by decide) wraps_i64 x y (by omega) (by omega)).2
  have e2 := (bits_nat .i64 63 (by decide) wraps_i64 y x (by omega) (by omega)).2
  rw [e1, Nat.or_comm, ← e2, h]
  omega
theorem i64_mask (i : Nat) (hi : i ≤ 63) (a : Int) (ha : 0 ≤ a) (ha1 : a < 2 ^ 63) : bits .and .i64 a (2 ^ i - 1) = a % 2 ^ i := bits_mask .i64 63 (by decide) wraps_i64 i hi a ha ha1
end Go.Hub
namespace Go.Proofs.YtigjafbbnocihaaDoor
open Go.RowKit Go.Hub Go.Vl
theorem szN_cases (n : Int) : (n < 0 ∧ szN n = 0) ∨ (¬ n < 0 ∧ 268435455 < n ∧ szN n = 0) ∨ (¬ n < 0 ∧ ¬ 268435455 < n ∧ n < 128 ∧ szN n = 1) ∨ (¬ n < 0 ∧ ¬ 268435455 < n ∧ ¬ n < 128 ∧ n < 16384 ∧ szN n = 2) ∨
    (¬ n < 0 ∧ ¬ 268435455 < n ∧ ¬ n < 128 ∧ ¬ n < 16384 ∧ n < 2097152 ∧ szN n = 3) ∨ (¬ n < 0 ∧ ¬ 268435455 < n ∧ ¬ n < 128 ∧ ¬ n < 16384 ∧ ¬ n < 2097152 ∧ szN n = 4) := by
  unfold szN; (repeat' split) <;> omega
set_option maxHeartbeats 400000 in
theorem size_any (n : Int) (w : World) : Calls Tryd.prog 69 #[.int .i64 n] w fun e w' => e = .returned (.int .i64 (szN n)) ∧ w = w' := by
  rcases szN_cases n with ⟨a, h⟩ | ⟨a, b, h⟩ | ⟨a, b, c, h⟩ | ⟨a, b, c, d, h⟩ | ⟨a, b, c, d, f, h⟩ | ⟨a, b, c, d, f, h⟩
  all_goals
    rw [h]
    clear h
    go_enter Tryd.func69, Tryd.ntmps69
    go_wp2
    go_ret
    exact ⟨rfl, rfl⟩
set_option maxHeartbeats 400000 in
theorem sizeR_any (n : Int) (w : World) : Calls Tryd.prog 73 #[.int .i64 n] w fun e w' => e = .returned (.int .i64 (szN n)) ∧ w = w' := by
  rcases szN_cases n with ⟨a, h⟩ | ⟨a, b, h⟩ | ⟨a, b, c, h⟩ | ⟨a, b, c, d, h⟩ | ⟨a, b, c, d, f, h⟩ | ⟨a, b, c, d, f, h⟩
  all_goals
    rw [h]
    clear h
    go_enter Tryd.func73, Tryd.ntmps73
    go_wp2
    go_ret
    exact ⟨rfl, rfl⟩
def rdTuple (l : List UInt8) : Value := .tuple #[.int .i64 (readL l).1, .int .i64 (readL l).2.1, .int .i64 (readL l).2.2]
theorem byte_at {w : World} {A : Option Addr} {n : Nat} {l : List UInt8} (h : Rds w w.heap.size 1 A n (l.map u8)) {i : Nat} {c : UInt8} (hc : l[i]? = some c) : ∃ g off, A = some ⟨g, off, none⟩ ∧ w.cell? ⟨g, off + i, none⟩ = some (.int .u8 (c.toNat : Int)) := by
  have hl : i < l.length := (List.getElem?_eq_some_iff.1 hc).1
  have := h.1
  simp at this
  obtain ⟨g, off, e, _, hx⟩ := h.2 (by omega)
  exact ⟨g, off, e, hx i _ (by simp [hc, u8])⟩
theorem rd_more {l : List UInt8} {i k : Nat} {acc : Int} {c : UInt8} (h : l[i]? = some c) (hc : ¬ c.toNat < 128) : rd l (k + 1) i acc = rd l k (i + 1) (acc + (c.toNat % 128 : Nat) * 128 ^ i) := by
  rw [rd, h]; simp only []; rw [if_neg hc]
set_option maxHeartbeats 1000000 in
theorem read_any (A : Option Addr) (n c : Nat) (l : List UInt8) (w : World) (hn : n = l.length) (hm : n ≤ maxLen) (h : Rds w w.heap.size 1 A n (l.map u8)) :
    Calls Tryd.prog 58 #[.slice A n c] w fun e w' => e = .returned (rdTuple l) ∧ w = w' := by
  subst hn
  unfold maxLen at hm
  have HR := hid (show rd l 4 0 0 = readL l from rfl)
  have HH := hid h
  clear h
  go_enter Tryd.func58, Tryd.ntmps58
  go_wp2
  go_loopg [5, 7] 4 (fun g a v wr => ∃ (i : Nat) (acc : Int), i + g = 4 ∧ i ≤ l.length ∧ v = .int .i64 i ∧ a = .int .i64 acc ∧ (0 ≤ acc ∧ acc < 128 ^ i) ∧ rd l g i acc = readL l ∧ w = wr)
  case atStart => exact ⟨0, 0, rfl, by omega, rfl, rfl, by omega, HR.out, rfl⟩
  case round =>
    obtain ⟨i, acc, hi, hil, rfl, rfl, ha, hr, rfl⟩ := hrel
    have HX := hid hr
    clear hr HR
    rcases (show (i = 0 ∧ gk = 4) ∨ (i = 1 ∧ gk = 3) ∨ (i = 2 ∧ gk = 2) ∨ (i = 3 ∧ gk = 1) ∨ (i = 4 ∧ gk = 0) by omega) with ⟨rfl, rfl⟩ | ⟨rfl, rfl⟩ | ⟨rfl, rfl⟩ | ⟨rfl, rfl⟩ | ⟨rfl, rfl⟩
    · have ha2 : 0 ≤ acc ∧ acc < 1 := by simpa using ha
      clear ha
      rcases hc : l[0]? with _ | c0
      · have hl0 : l.length = 0 := by have := List.getElem?_eq_none_iff.1 hc; omega
        have hne : ((0 : Int) == (l.length : Int)) = true := by rw [hl0]; rfl
        have HE := hid (show readL l = (0, 0, 20) by rw [← HX.out, rd, hc])
        clear hc hl0 hil
        go_wp2
        go_ret3
        exact ⟨by unfold rdTuple; rw [HE.out] <;> rfl, rfl⟩
      obtain ⟨g, off, rfl, hcell⟩ := byte_at HH.out hc
      have hl := (List.getElem?_eq_some_iff.1 hc).1
      have hl2 : (0 : Int) < (l.length : Int) := by omega
      have hne : ((0 : Int) == (l.length : Int)) = false := by simp; omega
      obtain ⟨z, hz⟩ : ∃ z : Int, z = (c0.toNat : Int) := ⟨_, rfl⟩
      rw [← hz] at hcell
      rw [Nat.add_zero] at hcell
      have hzb : 0 ≤ z ∧ z < 256 := by have := c0.toNat_lt; omega
      have hclr := u8_clear z hzb.1 hzb.2
      have hor : bits BinOp.or IntKind.i64 acc (z % 128) = acc + z % 128 := i64_or 0 acc (z % 128) (by omega) (by omega) (by omega) (by omega) (by omega) (by omega)
      have HC := hid (And.intro hc hz)
      clear hc hz hm hil
      by_cases hz1 : z < 128
      · have HE := hid (show readL l = (acc + z % 128, 1, 0) by rw [← HX.out, rd, HC.out.1]; simp only []; rw [if_pos (by have := HC.out.2; omega), if_neg (by have := HC.out.2; omega)]; simp; have := HC.out.2; omega)
        go_wp2
        go_ret3
        exact ⟨by unfold rdTuple; rw [HE.out] <;> rfl, rfl⟩
      have HE := hid (show rd l 3 1 (acc + z % 128) = readL l by rw [← HX.out, rd_more HC.out.1 (by have := HC.out.2; omega)]; congr 1; have := HC.out.2; simp; omega)
      have hdz : decide (z < 128) = false := by simp; omega
      go_wp2
      go_roundg 3
      case measure => omega
      case rel => exact ⟨1, acc + z % 128, rfl, by omega, rfl, rfl, by simp; omega, HE.out, rfl⟩
    · have ha2 : 0 ≤ acc ∧ acc < 128 := by simpa using ha
      clear ha
      rcases hc : l[1]? with _ | c0
      · have hl0 : l.length = 1 := by have := List.getElem?_eq_none_iff.1 hc; omega
        have hne : ((1 : Int) == (l.length : Int)) = true := by rw [hl0]; rfl
        have HE := hid (show readL l = (0, 0, 20) by rw [← HX.out, rd, hc])
        clear hc hl0 hil
        go_wp2
        go_ret3
        exact ⟨by unfold rdTuple; rw [HE.out] <;> rfl, rfl⟩
      obtain ⟨g, off, rfl, hcell⟩ := byte_at HH.out hc
      have hl := (List.getElem?_eq_some_iff.1 hc).1
      have hl2 : (1 : Int) < (l.length : Int) := by omega
      have hne : ((1 : Int) == (l.length : Int)) = false := by simp; omega
      obtain ⟨z, hz⟩ : ∃ z : Int, z = (c0.toNat : Int) := ⟨_, rfl⟩
      rw [← hz] at hcell
      have hzb : 0 ≤ z ∧ z < 256 := by have := c0.toNat_lt; omega
      have hclr := u8_clear z hzb.1 hzb.2
      have hor : bits BinOp.or IntKind.i64 acc (z % 128 * 128) = acc + z % 128 * 128 := i64_or 7 acc (z % 128 * 128) (by omega) (by omega) (by omega) (by omega) (by omega) (by omega)
      have HC := hid (And.intro hc hz)
      clear hc hz hm hil
      by_cases hz1 : z < 128
      · by_cases hz0 : z = 0
        · have hd : (z == 0) = true := by simp [hz0]
          have HE := hid (show readL l = (0, 0, 21) by rw [← HX.out, rd, HC.out.1]; simp only []; rw [if_pos (by have := HC.out.2; omega), if_pos ⟨by omega, by have := HC.out.2; omega⟩])
          clear hz0
          go_wp2
          go_ret3
          exact ⟨by unfold rdTuple; rw [HE.out] <;> rfl, rfl⟩
        have hd : (z == 0) = false := by simp [hz0]
        have HE := hid (show readL l = (acc + z % 128 * 128, 2, 0) by rw [← HX.out, rd, HC.out.1]; simp only []; rw [if_pos (by have := HC.out.2; omega), if_neg (by have := HC.out.2; omega)]; simp; have := HC.out.2; omega)
        go_wp2
        go_ret3
        exact ⟨by unfold rdTuple; rw [HE.out] <;> rfl, rfl⟩
      have HE := hid (show rd l 2 2 (acc + z % 128 * 128) = readL l by rw [← HX.out, rd_more HC.out.1 (by have := HC.out.2; omega)]; congr 1; have := HC.out.2; simp; omega)
      have hdz : decide (z < 128) = false := by simp; omega
      go_wp2
      go_roundg 2
      case measure => omega
      case rel => exact ⟨2, acc + z % 128 * 128, rfl, by omega, rfl, rfl, by simp; omega, HE.out, rfl⟩
    · have ha2 : 0 ≤ acc ∧ acc < 16384 := by simpa using ha
      clear ha
      rcases hc : l[2]? with _ | c0
      · have hl0 : l.length = 2 := by have := List.getElem?_eq_none_iff.1 hc; omega
        have hne : ((2 : Int) == (l.length : Int)) = true := by rw [hl0]; rfl
        have HE := hid (show readL l = (0, 0, 20) by rw [← HX.out, rd, hc])
        clear hc hl0 hil
        go_wp2
        go_ret3
        exact ⟨by unfold rdTuple; rw [HE.out] <;> rfl, rfl⟩
      obtain ⟨g, off, rfl, hcell⟩ := byte_at HH.out hc
      have hl := (List.getElem?_eq_some_iff.1 hc).1
      have hl2 : (2 : Int) < (l.length : Int) := by omega
      have hne : ((2 : Int) == (l.length : Int)) = false := by simp; omega
      obtain ⟨z, hz⟩ : ∃ z : Int, z = (c0.toNat : Int) := ⟨_, rfl⟩
      rw [← hz] at hcell
      have hzb : 0 ≤ z ∧ z < 256 := by have := c0.toNat_lt; omega
      have hclr := u8_clear z hzb.1 hzb.2
      have hor : bits BinOp.or IntKind.i64 acc (z % 128 * 16384) = acc + z % 128 * 16384 := i64_or 14 acc (z % 128 * 16384) (by omega) (by omega) (by omega) (by omega) (by omega) (by omega)
      have HC := hid (And.intro hc hz)
      clear hc hz hm hil
      by_cases hz1 : z < 128
      · by_cases hz0 : z = 0
        · have hd : (z == 0) = true := by simp [hz0]
          have HE := hid (show readL l = (0, 0, 21) by rw [← HX.out, rd, HC.out.1]; simp only []; rw [if_pos (by have := HC.out.2; omega), if_pos ⟨by omega, by have := HC.out.2; omega⟩])
          clear hz0
          go_wp2
          go_ret3
          exact ⟨by unfold rdTuple; rw [HE.out] <;> rfl, rfl⟩
        have hd : (z == 0) = false := by simp [hz0]
        have HE := hid (show readL l = (acc + z % 128 * 16384, 3, 0) by rw [← HX.out, rd, HC.out.1]; simp only []; rw [if_pos (by have := HC.out.2; omega), if_neg (by have := HC.out.2; omega)]; simp; have := HC.out.2; omega)
        go_wp2
        go_ret3
        exact ⟨by unfold rdTuple; rw [HE.out] <;> rfl, rfl⟩
      have HE := hid (show rd l 1 3 (acc + z % 128 * 16384) = readL l by rw [← HX.out, rd_more HC.out.1 (by have := HC.out.2; omega)]; congr 1; have := HC.out.2; simp; omega)
      have hdz : decide (z < 128) = false := by simp; omega
      go_wp2
      go_roundg 1
      case measure => omega
      case rel => exact ⟨3, acc + z % 128 * 16384, rfl, by omega, rfl, rfl, by simp; omega, HE.out, rfl⟩
    · have ha2 : 0 ≤ acc ∧ acc < 2097152 := by simpa using ha
      clear ha
      rcases hc : l[3]? with _ | c0
      · have hl0 : l.length = 3 := by have := List.getElem?_eq_none_iff.1 hc; omega
        have hne : ((3 : Int) == (l.length : Int)) = true := by rw [hl0]; rfl
        have HE := hid (show readL l = (0, 0, 20) by rw [← HX.out, rd, hc])
        clear hc hl0 hil
        go_wp2
        go_ret3
        exact ⟨by unfold rdTuple; rw [HE.out] <;> rfl, rfl⟩
      obtain ⟨g, off, rfl, hcell⟩ := byte_at HH.out hc
      have hl := (List.getElem?_eq_some_iff.1 hc).1
      have hl2 : (3 : Int) < (l.length : Int) := by omega
      have hne : ((3 : Int) == (l.length : Int)) = false := by simp; omega
      obtain ⟨z, hz⟩ : ∃ z : Int, z = (c0.toNat : Int) := ⟨_, rfl⟩
      rw [← hz] at hcell
      have hzb : 0 ≤ z ∧ z < 256 := by have := c0.toNat_lt; omega
      have hclr := u8_clear z hzb.1 hzb.2
      have hor : bits BinOp.or IntKind.i64 acc (z % 128 * 2097152) = acc + z % 128 * 2097152 := i64_or 21 acc (z % 128 * 2097152) (by omega) (by omega) (by omega) (by omega) (by omega) (by omega)
      have HC := hid (And.intro hc hz)
      clear hc hz hm hil
      by_cases hz1 : z < 128
      · by_cases hz0 : z = 0
        · have hd : (z == 0) = true := by simp [hz0]
          have HE := hid (show readL l = (0, 0, 21) by rw [← HX.out, rd, HC.out.1]; simp only []; rw [if_pos (by have := HC.out.2; omega), if_pos ⟨by omega, by have := HC.out.2; omega⟩])
          clear hz0
          go_wp2
          go_ret3
          exact ⟨by unfold rdTuple; rw [HE.out] <;> rfl, rfl⟩
        have hd : (z == 0) = false := by simp [hz0]
        have HE := hid (show readL l = (acc + z % 128 * 2097152, 4, 0) by rw [← HX.out, rd, HC.out.1]; simp only []; rw [if_pos (by have := HC.out.2; omega), if_neg (by have := HC.out.2; omega)]; simp; have := HC.out.2; omega)
        go_wp2
        go_ret3
        exact ⟨by unfold rdTuple; rw [HE.out] <;> rfl, rfl⟩
      have HE := hid (show rd l 0 4 (acc + z % 128 * 2097152) = readL l by rw [← HX.out, rd_more HC.out.1 (by have := HC.out.2; omega)]; congr 1; have := HC.out.2; simp; omega)
      have hdz : decide (z < 128) = false := by simp; omega
      go_wp2
      go_roundg 0
      case measure => omega
      case rel => exact ⟨4, acc + z % 128 * 2097152, rfl, by omega, rfl, rfl, by simp; omega, HE.out, rfl⟩
    have HE := hid (show readL l = (0, 0, 21) by rw [← HX.out, rd])
    clear hil ha
    go_wp2
    go_ret3
    exact ⟨by unfold rdTuple; rw [HE.out] <;> rfl, rfl⟩
end Go.Proofs.YtigjafbbnocihaaDoor
namespace Go.Proofs.YtigjafbbnocihaaDoor
open Go.RowKit Go.Hub Go.Vl
theorem info5 : (Tryd.prog.info? 5).map (fun i => (i.zero, i.size, i.bytes)) = some (some (.int .u8 0), 1, 1) := by kernel_rfl
def PutPost (n : Int) (w : World) (e : Ending) (w' : World) : Prop :=
  Below w.heap.size w w' ∧ ((szN n = 0 ∧ e = .returned (.tuple #[.slice none 0 0, .int .i64 31])) ∨
    (0 < szN n ∧ ∃ v, e = .returned (.tuple #[v, .int .i64 0]) ∧ Own w' 5 1 v (szN n) ((putL n).map u8) ∧ ∀ k, v.ownBlock = some k → w.heap.size ≤ k))
set_option maxHeartbeats 2000000 in
theorem put_1 (n : Int) (w : World) (hs : szN n = 1) (h0 : 0 ≤ n) (h1 : n < 128) : Calls Tryd.prog 38 #[.int .i64 n] w (PutPost n w) := by
  obtain ⟨i0, hi0, hz0, hz1, hz2⟩ := info_parts info5
  have HS := hid hs
  clear hs
  go_enter Tryd.func38, Tryd.ntmps38
  go_wp2_with fail
  refine (size_any n _).mono ?_
  rw [HS.out]
  rintro e w1 ⟨rfl, rfl⟩
  go_wp2_with fail
  go_loopg [5, 13] 1 (fun g v iv wr => ∃ i : Nat, i + g = 1 ∧ iv = .int .i64 i ∧ Own wr 5 1 v i (((putL n).take i).map u8) ∧ Below w.heap.size w wr ∧ ∀ k, v.ownBlock = some k → w.heap.size ≤ k)
  case atStart => exact ⟨0, rfl, rfl, Own.nil _ _ _, Below.refl _ _, by simp [Value.ownBlock]⟩
  case round =>
    obtain ⟨i, hi, rfl, ho, hb, hk⟩ := hrel
    obtain ⟨A, c, rfl, hc1, hc2⟩ := ho.form
    have HO := hid (And.intro ho (And.intro hb hk))
    clear ho hb hk
    rcases (show (i = 0 ∧ gk = 1) ∨ (i = 1 ∧ gk = 0) by omega) with ⟨rfl, rfl⟩ | ⟨rfl, rfl⟩
    · obtain ⟨z, hz⟩ : ∃ z : Int, z = n % 128 := ⟨_, rfl⟩
      have hcl : bits BinOp.andNot IntKind.u8 (n % 256) 128 = n % 128 := by rw [u8_clear _ (by omega) (by omega)]; omega
      have hcl2 : bits BinOp.andNot IntKind.u8 (n) 128 = n % 128 := u8_clear _ (by omega) (by omega)
      have hzu : u8 (byteN n 0 1) = .int .u8 z := by unfold u8; rw [byteN_toNat, hz]; unfold byteI; simp
      have htk : (putL n).take (0 + 1) = (putL n).take 0 ++ [byteN n 0 1] := by
        rw [List.take_succ, putL_at n 0 (by rw [HS.out]; omega), HS.out]; rfl
      have HT := hid (And.intro hzu htk)
      have hown := HO.out.1.alloc (.cells #[.int .u8 z] 5)
      have hrd := Rds.boxed wr #[.int .u8 z] 5 1 rfl
      clear hzu htk
      go_wp2_with (first
        | (at_builtin; simp only [← hz]
           refine wpList_append_own' _ rfl (.tmp 28) (.tmp 30) _ rfl 5 i0 _ 1 1 U22 hi0 hz0 hz1 hz2 rfl (by omega) (.slice A 0 c) 0 _ rfl hown _ _ _ _ _ rfl hrd (by simp [Value.oneCell']) (by unfold maxLen; omega) (by omega) ?_
           intro v2 w2 o2 k2 at2))
      have F : Own w2 5 1 v2 (0 + 1) (((putL n).take (0 + 1)).map u8) ∧ Below w.heap.size w w2 ∧ ∀ k, v2.ownBlock = some k → w.heap.size ≤ k := by
        rw [HT.out.2, List.map_append, List.map_cons, List.map_nil, HT.out.1]
        have hb := HO.out.2.1
        have k1 : Kept [] wr (wr.alloc (.cells #[.int .u8 z] 5)) := (Kept.refl _ _).alloc _
        refine ⟨o2, (hb.trans (k1.below (by simp) hb.size)).trans (k2.below (fun x hx => HO.out.2.2 x (by simpa using hx)) (by have := hb.size; simp; omega)), fun k hk => ?_⟩
        rcases at2 k hk with h | h
        · exact HO.out.2.2 k h
        have := hb.size; simp at h; omega
      have HF := hid F
      clear F o2 k2 at2 hown hrd
      go_wp2
      go_roundg 0
      case measure => omega
      case rel => exact ⟨1, rfl, rfl, HF.out⟩
    go_wp2
    go_ret2
    refine ⟨HO.out.2.1, .inr ⟨by rw [HS.out]; omega, _, rfl, ?_, HO.out.2.2⟩⟩
    have := HO.out.1
    rw [HS.out]
    rwa [List.take_of_length_le (by rw [putL_len, HS.out]; omega)] at this
set_option maxHeartbeats 2000000 in
theorem put_2 (n : Int) (w : World) (hs : szN n = 2) (h0 : 128 ≤ n) (h1 : n < 16384) : Calls Tryd.prog 38 #[.int .i64 n] w (PutPost n w) := by
  obtain ⟨i0, hi0, hz0, hz1, hz2⟩ := info_parts info5
  have HS := hid hs
  clear hs
  go_enter Tryd.func38, Tryd.ntmps38
  go_wp2_with fail
  refine (size_any n _).mono ?_
  rw [HS.out]
  rintro e w1 ⟨rfl, rfl⟩
  go_wp2_with fail
  go_loopg [5, 13] 2 (fun g v iv wr => ∃ i : Nat, i + g = 2 ∧ iv = .int .i64 i ∧ Own wr 5 1 v i (((putL n).take i).map u8) ∧ Below w.heap.size w wr ∧ ∀ k, v.ownBlock = some k → w.heap.size ≤ k)
  case atStart => exact ⟨0, rfl, rfl, Own.nil _ _ _, Below.refl _ _, by simp [Value.ownBlock]⟩
  case round =>
    obtain ⟨i, hi, rfl, ho, hb, hk⟩ := hrel
    obtain ⟨A, c, rfl, hc1, hc2⟩ := ho.form
    have HO := hid (And.intro ho (And.intro hb hk))
    clear ho hb hk
    rcases (show (i = 0 ∧ gk = 2) ∨ (i = 1 ∧ gk = 1) ∨ (i = 2 ∧ gk = 0) by omega) with ⟨rfl, rfl⟩ | ⟨rfl, rfl⟩ | ⟨rfl, rfl⟩
    · obtain ⟨z, hz⟩ : ∃ z : Int, z = n % 128 + 128 := ⟨_, rfl⟩
      have hcl : bits BinOp.andNot IntKind.u8 (n % 256) 128 = n % 128 := by rw [u8_clear _ (by omega) (by omega)]; omega
      have hor : bits BinOp.or IntKind.u8 (n % 128) 128 = n % 128 + 128 := by rw [u8_top _ (by omega) (by omega)]; omega
      have hzu : u8 (byteN n 0 2) = .int .u8 z := by unfold u8; rw [byteN_toNat, hz]; unfold byteI; simp
      have htk : (putL n).take (0 + 1) = (putL n).take 0 ++ [byteN n 0 2] := by
        rw [List.take_succ, putL_at n 0 (by rw [HS.out]; omega), HS.out]; rfl
      have HT := hid (And.intro hzu htk)
      have hown := HO.out.1.alloc (.cells #[.int .u8 z] 5)
      have hrd := Rds.boxed wr #[.int .u8 z] 5 1 rfl
      clear hzu htk
      go_wp2_with (first
        | (at_builtin; simp only [← hz]
           refine wpList_append_own' _ rfl (.tmp 28) (.tmp 30) _ rfl 5 i0 _ 1 1 U22 hi0 hz0 hz1 hz2 rfl (by omega) (.slice A 0 c) 0 _ rfl hown _ _ _ _ _ rfl hrd (by simp [Value.oneCell']) (by unfold maxLen; omega) (by omega) ?_
           intro v2 w2 o2 k2 at2))
      have F : Own w2 5 1 v2 (0 + 1) (((putL n).take (0 + 1)).map u8) ∧ Below w.heap.size w w2 ∧ ∀ k, v2.ownBlock = some k → w.heap.size ≤ k := by
        rw [HT.out.2, List.map_append, List.map_cons, List.map_nil, HT.out.1]
        have hb := HO.out.2.1
        have k1 : Kept [] wr (wr.alloc (.cells #[.int .u8 z] 5)) := (Kept.refl _ _).alloc _
        refine ⟨o2, (hb.trans (k1.below (by simp) hb.size)).trans (k2.below (fun x hx => HO.out.2.2 x (by simpa using hx)) (by have := hb.size; simp; omega)), fun k hk => ?_⟩
        rcases at2 k hk with h | h
        · exact HO.out.2.2 k h
        have := hb.size; simp at h; omega
      have HF := hid F
      clear F o2 k2 at2 hown hrd
      go_wp2
      go_roundg 1
      case measure => omega
      case rel => exact ⟨1, rfl, rfl, HF.out⟩
    · obtain ⟨z, hz⟩ : ∃ z : Int, z = n / 128 % 128 := ⟨_, rfl⟩
      have hcl : bits BinOp.andNot IntKind.u8 (n / 128 % 256) 128 = n / 128 % 128 := by rw [u8_clear _ (by omega) (by omega)]; omega
      have hcl2 : bits BinOp.andNot IntKind.u8 (n / 128) 128 = n / 128 % 128 := u8_clear _ (by omega) (by omega)
      have hzu : u8 (byteN n 1 2) = .int .u8 z := by unfold u8; rw [byteN_toNat, hz]; unfold byteI; simp
      have htk : (putL n).take (1 + 1) = (putL n).take 1 ++ [byteN n 1 2] := by
        rw [List.take_succ, putL_at n 1 (by rw [HS.out]; omega), HS.out]; rfl
      have HT := hid (And.intro hzu htk)
      have hown := HO.out.1.alloc (.cells #[.int .u8 z] 5)
      have hrd := Rds.boxed wr #[.int .u8 z] 5 1 rfl
      clear hzu htk
      go_wp2_with (first
        | (at_builtin; simp only [← hz]
           refine wpList_append_own' _ rfl (.tmp 28) (.tmp 30) _ rfl 5 i0 _ 1 1 U22 hi0 hz0 hz1 hz2 rfl (by omega) (.slice A 1 c) 1 _ rfl hown _ _ _ _ _ rfl hrd (by simp [Value.oneCell']) (by unfold maxLen; omega) (by omega) ?_
           intro v2 w2 o2 k2 at2))
      have F : Own w2 5 1 v2 (1 + 1) (((putL n).take (1 + 1)).map u8) ∧ Below w.heap.size w w2 ∧ ∀ k, v2.ownBlock = some k → w.heap.size ≤ k := by
        rw [HT.out.2, List.map_append, List.map_cons, List.map_nil, HT.out.1]
        have hb := HO.out.2.1
        have k1 : Kept [] wr (wr.alloc (.cells #[.int .u8 z] 5)) := (Kept.refl _ _).alloc _
        refine ⟨o2, (hb.trans (k1.below (by simp) hb.size)).trans (k2.below (fun x hx => HO.out.2.2 x (by simpa using hx)) (by have := hb.size; simp; omega)), fun k hk => ?_⟩
        rcases at2 k hk with h | h
        · exact HO.out.2.2 k h
        have := hb.size; simp at h; omega
      have HF := hid F
      clear F o2 k2 at2 hown hrd
      go_wp2
      go_roundg 0
      case measure => omega
      case rel => exact ⟨2, rfl, rfl, HF.out⟩
    go_wp2
    go_ret2
    refine ⟨HO.out.2.1, .inr ⟨by rw [HS.out]; omega, _, rfl, ?_, HO.out.2.2⟩⟩
    have := HO.out.1
    rw [HS.out]
    rwa [List.take_of_length_le (by rw [putL_len, HS.out]; omega)] at this
set_option maxHeartbeats 2000000 in
theorem put_3 (n : Int) (w : World) (hs : szN n = 3) (h0 : 16384 ≤ n) (h1 : n < 2097152) : Calls Tryd.prog 38 #[.int .i64 n] w (PutPost n w) := by
  obtain ⟨i0, hi0, hz0, hz1, hz2⟩ := info_parts info5
  have HS := hid hs
  clear hs
  go_enter Tryd.func38, Tryd.ntmps38
  go_wp2_with fail
  refine (size_any n _).mono ?_
  rw [HS.out]
  rintro e w1 ⟨rfl, rfl⟩
  go_wp2_with fail
  go_loopg [5, 13] 3 (fun g v iv wr => ∃ i : Nat, i + g = 3 ∧ iv = .int .i64 i ∧ Own wr 5 1 v i (((putL n).take i).map u8) ∧ Below w.heap.size w wr ∧ ∀ k, v.ownBlock = some k → w.heap.size ≤ k)
  case atStart => exact ⟨0, rfl, rfl, Own.nil _ _ _, Below.refl _ _, by simp [Value.ownBlock]⟩
  case round =>
    obtain ⟨i, hi, rfl, ho, hb, hk⟩ := hrel
    obtain ⟨A, c, rfl, hc1, hc2⟩ := ho.form
    have HO := hid (And.intro ho (And.intro hb hk))
    clear ho hb hk
    rcases (show (i = 0 ∧ gk = 3) ∨ (i = 1 ∧ gk = 2) ∨ (i = 2 ∧ gk = 1) ∨ (i = 3 ∧ gk = 0) by omega) with ⟨rfl, rfl⟩ | ⟨rfl, rfl⟩ | ⟨rfl, rfl⟩ | ⟨rfl, rfl⟩
    · obtain ⟨z, hz⟩ : ∃ z : Int, z = n % 128 + 128 := ⟨_, rfl⟩
      have hcl : bits BinOp.andNot IntKind.u8 (n % 256) 128 = n % 128 := by rw [u8_clear _ (by omega) (by omega)]; omega
      have hor : bits BinOp.or IntKind.u8 (n % 128) 128 = n % 128 + 128 := by rw [u8_top _ (by omega) (by omega)]; omega
      have hzu : u8 (byteN n 0 3) = .int .u8 z := by unfold u8; rw [byteN_toNat, hz]; unfold byteI; simp
      have htk : (putL n).take (0 + 1) = (putL n).take 0 ++ [byteN n 0 3] := by
        rw [List.take_succ, putL_at n 0 (by rw [HS.out]; omega), HS.out]; rfl
      have HT := hid (And.intro hzu htk)
      have hown := HO.out.1.alloc (.cells #[.int .u8 z] 5)
      have hrd := Rds.boxed wr #[.int .u8 z] 5 1 rfl
      clear hzu htk
      go_wp2_with (first
        | (at_builtin; simp only [← hz]
           refine wpList_append_own' _ rfl (.tmp 28) (.tmp 30) _ rfl 5 i0 _ 1 1 U22 hi0 hz0 hz1 hz2 rfl (by omega) (.slice A 0 c) 0 _ rfl hown _ _ _ _ _ rfl hrd (by simp [Value.oneCell']) (by unfold maxLen; omega) (by omega) ?_
           intro v2 w2 o2 k2 at2))
      have F : Own w2 5 1 v2 (0 + 1) (((putL n).take (0 + 1)).map u8) ∧ Below w.heap.size w w2 ∧ ∀ k, v2.ownBlock = some k → w.heap.size ≤ k := by
        rw [HT.out.2, List.map_append, List.map_cons, List.map_nil, HT.out.1]
        have hb := HO.out.2.1
        have k1 : Kept [] wr (wr.alloc (.cells #[.int .u8 z] 5)) := (Kept.refl _ _).alloc _
        refine ⟨o2, (hb.trans (k1.below (by simp) hb.size)).trans (k2.below (fun x hx => HO.out.2.2 x (by simpa using hx)) (by have := hb.size; simp; omega)), fun k hk => ?_⟩
        rcases at2 k hk with h | h
        · exact HO.out.2.2 k h
        have := hb.size; simp at h; omega
      have HF := hid F
      clear F o2 k2 at2 hown hrd
      go_wp2
      go_roundg 2
      case measure => omega
      case rel => exact ⟨1, rfl, rfl, HF.out⟩
    · obtain ⟨z, hz⟩ : ∃ z : Int, z = n / 128 % 128 + 128 := ⟨_, rfl⟩
      have hcl : bits BinOp.andNot IntKind.u8 (n / 128 % 256) 128 = n / 128 % 128 := by rw [u8_clear _ (by omega) (by omega)]; omega
      have hor : bits BinOp.or IntKind.u8 (n / 128 % 128) 128 = n / 128 % 128 + 128 := by rw [u8_top _ (by omega) (by omega)]; omega
      have hzu : u8 (byteN n 1 3) = .int .u8 z := by unfold u8; rw [byteN_toNat, hz]; unfold byteI; simp
      have htk : (putL n).take (1 + 1) = (putL n).take 1 ++ [byteN n 1 3] := by
        rw [List.take_succ, putL_at n 1 (by rw [HS.out]; omega), HS.out]; rfl
      have HT := hid (And.intro hzu htk)
      have hown := HO.out.1.alloc (.cells #[.int .u8 z] 5)
      have hrd := Rds.boxed wr #[.int .u8 z] 5 1 rfl
      clear hzu htk
      go_wp2_with (first
        | (at_builtin; simp only [← hz]
           refine wpList_append_own' _ rfl (.tmp 28) (.tmp 30) _ rfl 5 i0 _ 1 1 U22 hi0 hz0 hz1 hz2 rfl (by omega) (.slice A 1 c) 1 _ rfl hown _ _ _ _ _ rfl hrd (by simp [Value.oneCell']) (by unfold maxLen; omega) (by omega) ?_
           intro v2 w2 o2 k2 at2))
      have F : Own w2 5 1 v2 (1 + 1) (((putL n).take (1 + 1)).map u8) ∧ Below w.heap.size w w2 ∧ ∀ k, v2.ownBlock = some k → w.heap.size ≤ k := by
        rw [HT.out.2, List.map_append, List.map_cons, List.map_nil, HT.out.1]
        have hb := HO.out.2.1
        have k1 : Kept [] wr (wr.alloc (.cells #[.int .u8 z] 5)) := (Kept.refl _ _).alloc _
        refine ⟨o2, (hb.trans (k1.below (by simp) hb.size)).trans (k2.below (fun x hx => HO.out.2.2 x (by simpa using hx)) (by have := hb.size; simp; omega)), fun k hk => ?_⟩
        rcases at2 k hk with h | h
        · exact HO.out.2.2 k h
        have := hb.size; simp at h; omega
      have HF := hid F
      clear F o2 k2 at2 hown hrd
      go_wp2
      go_roundg 1
      case measure => omega
      case rel => exact ⟨2, rfl, rfl, HF.out⟩
    · obtain ⟨z, hz⟩ : ∃ z : Int, z = n / 16384 % 128 := ⟨_, rfl⟩
      have hcl : bits BinOp.andNot IntKind.u8 (n / 16384 % 256) 128 = n / 16384 % 128 := by rw [u8_clear _ (by omega) (by omega)]; omega
      have hcl2 : bits BinOp.andNot IntKind.u8 (n / 16384) 128 = n / 16384 % 128 := u8_clear _ (by omega) (by omega)
      have hzu : u8 (byteN n 2 3) = .int .u8 z := by unfold u8; rw [byteN_toNat, hz]; unfold byteI; simp
      have htk : (putL n).take (2 + 1) = (putL n).take 2 ++ [byteN n 2 3] := by
        rw [List.take_succ, putL_at n 2 (by rw [HS.out]; omega), HS.out]; rfl
      have HT := hid (And.intro hzu htk)
      have hown := HO.out.1.alloc (.cells #[.int .u8 z] 5)
      have hrd := Rds.boxed wr #[.int .u8 z] 5 1 rfl
      clear hzu htk
      go_wp2_with (first
        | (at_builtin; simp only [← hz]
           refine wpList_append_own' _ rfl (.tmp 28) (.tmp 30) _ rfl 5 i0 _ 1 1 U22 hi0 hz0 hz1 hz2 rfl (by omega) (.slice A 2 c) 2 _ rfl hown _ _ _ _ _ rfl hrd (by simp [Value.oneCell']) (by unfold maxLen; omega) (by omega) ?_
           intro v2 w2 o2 k2 at2))
      have F : Own w2 5 1 v2 (2 + 1) (((putL n).take (2 + 1)).map u8) ∧ Below w.heap.size w w2 ∧ ∀ k, v2.ownBlock = some k → w.heap.size ≤ k := by
        rw [HT.out.2, List.map_append, List.map_cons, List.map_nil, HT.out.1]
        have hb := HO.out.2.1
        have k1 : Kept [] wr (wr.alloc (.cells #[.int .u8 z] 5)) := (Kept.refl _ _).alloc _
        refine ⟨o2, (hb.trans (k1.below (by simp) hb.size)).trans (k2.below (fun x hx => HO.out.2.2 x (by simpa using hx)) (by have := hb.size; simp; omega)), fun k hk => ?_⟩
        rcases at2 k hk with h | h
        · exact HO.out.2.2 k h
        have := hb.size; simp at h; omega
      have HF := hid F
      clear F o2 k2 at2 hown hrd
      go_wp2
      go_roundg 0
      case measure => omega
      case rel => exact ⟨3, rfl, rfl, HF.out⟩
    go_wp2
    go_ret2
    refine ⟨HO.out.2.1, .inr ⟨by rw [HS.out]; omega, _, rfl, ?_, HO.out.2.2⟩⟩
    have := HO.out.1
    rw [HS.out]
    rwa [List.take_of_length_le (by rw [putL_len, HS.out]; omega)] at this
set_option maxHeartbeats 2000000 in
theorem put_4 (n : Int) (w : World) (hs : szN n = 4) (h0 : 2097152 ≤ n) (h1 : n < 268435456) : Calls Tryd.prog 38 #[.int .i64 n] w (PutPost n w) := by
  obtain ⟨i0, hi0, hz0, hz1, hz2⟩ := info_parts info5
  have HS := hid hs
  clear hs
  go_enter Tryd.func38, Tryd.ntmps38
  go_wp2_with fail
  refine (size_any n _).mono ?_
  rw [HS.out]
  rintro e w1 ⟨rfl, rfl⟩
  go_wp2_with fail
  go_loopg [5, 13] 4 (fun g v iv wr => ∃ i : Nat, i + g = 4 ∧ iv = .int .i64 i ∧ Own wr 5 1 v i (((putL n).take i).map u8) ∧ Below w.heap.size w wr ∧ ∀ k, v.ownBlock = some k → w.heap.size ≤ k)
  case atStart => exact ⟨0, rfl, rfl, Own.nil _ _ _, Below.refl _ _, by simp [Value.ownBlock]⟩
  case round =>
    obtain ⟨i, hi, rfl, ho, hb, hk⟩ := hrel
    obtain ⟨A, c, rfl, hc1, hc2⟩ := ho.form
    have HO := hid (And.intro ho (And.intro hb hk))
    clear ho hb hk
    rcases (show (i = 0 ∧ gk = 4) ∨ (i = 1 ∧ gk = 3) ∨ (i = 2 ∧ gk = 2) ∨ (i = 3 ∧ gk = 1) ∨ (i = 4 ∧ gk = 0) by omega) with ⟨rfl, rfl⟩ | ⟨rfl, rfl⟩ | ⟨rfl, rfl⟩ | ⟨rfl, rfl⟩ | ⟨rfl, rfl⟩
    · obtain ⟨z, hz⟩ : ∃ z : Int, z = n % 128 + 128 := ⟨_, rfl⟩
      have hcl : bits BinOp.andNot IntKind.u8 (n % 256) 128 = n % 128 := by rw [u8_clear _ (by omega) (by omega)]; omega
      have hor : bits BinOp.or IntKind.u8 (n % 128) 128 = n % 128 + 128 := by rw [u8_top _ (by omega) (by omega)]; omega
      have hzu : u8 (byteN n 0 4) = .int .u8 z := by unfold u8; rw [byteN_toNat, hz]; unfold byteI; simp
      have htk : (putL n).take (0 + 1) = (putL n).take 0 ++ [byteN n 0 4] := by
        rw [List.take_succ, putL_at n 0 (by rw [HS.out]; omega), HS.out]; rfl
      have HT := hid (And.intro hzu htk)
      have hown := HO.out.1.alloc (.cells #[.int .u8 z] 5)
      have hrd := Rds.boxed wr #[.int .u8 z] 5 1 rfl
      clear hzu htk
      go_wp2_with (first
        | (at_builtin; simp only [← hz]
           refine wpList_append_own' _ rfl (.tmp 28) (.tmp 30) _ rfl 5 i0 _ 1 1 U22 hi0 hz0 hz1 hz2 rfl (by omega) (.slice A 0 c) 0 _ rfl hown _ _ _ _ _ rfl hrd (by simp [Value.oneCell']) (by unfold maxLen; omega) (by omega) ?_
           intro v2 w2 o2 k2 at2))
      have F : Own w2 5 1 v2 (0 + 1) (((putL n).take (0 + 1)).map u8) ∧ Below w.heap.size w w2 ∧ ∀ k, v2.ownBlock = some k → w.heap.size ≤ k := by
        rw [HT.out.2, List.map_append, List.map_cons, List.map_nil, HT.out.1]
        have hb := HO.out.2.1
        have k1 : Kept [] wr (wr.alloc (.cells #[.int .u8 z] 5)) := (Kept.refl _ _).alloc _
        refine ⟨o2, (hb.trans (k1.below (by simp) hb.size)).trans (k2.below (fun x hx => HO.out.2.2 x (by simpa using hx)) (by have := hb.size; simp; omega)), fun k hk => ?_⟩
        rcases at2 k hk with h | h
        · exact HO.out.2.2 k h
        have := hb.size; simp at h; omega
      have HF := hid F
      clear F o2 k2 at2 hown hrd
      go_wp2
      go_roundg 3
      case measure => omega
      case rel => exact ⟨1, rfl, rfl, HF.out⟩
    · obtain ⟨z, hz⟩ : ∃ z : Int, z = n / 128 % 128 + 128 := ⟨_, rfl⟩
      have hcl : bits BinOp.andNot IntKind.u8 (n / 128 % 256) 128 = n / 128 % 128 := by rw [u8_clear _ (by omega) (by omega)]; omega
      have hor : bits BinOp.or IntKind.u8 (n / 128 % 128) 128 = n / 128 % 128 + 128 := by rw [u8_top _ (by omega) (by omega)]; omega
      have hzu : u8 (byteN n 1 4) = .int .u8 z := by unfold u8; rw [byteN_toNat, hz]; unfold byteI; simp
      have htk : (putL n).take (1 + 1) = (putL n).take 1 ++ [byteN n 1 4] := by
        rw [List.take_succ, putL_at n 1 (by rw [HS.out]; omega), HS.out]; rfl
      have HT := hid (And.intro hzu htk)
      have hown := HO.out.1.alloc (.cells #[.int .u8 z] 5)
      have hrd := Rds.boxed wr #[.int .u8 z] 5 1 rfl
      clear hzu htk
      go_wp2_with (first
        | (at_builtin; simp only [← hz]
           refine wpList_append_own' _ rfl (.tmp 28) (.tmp 30) _ rfl 5 i0 _ 1 1 U22 hi0 hz0 hz1 hz2 rfl (by omega) (.slice A 1 c) 1 _ rfl hown _ _ _ _ _ rfl hrd (by simp [Value.oneCell']) (by unfold maxLen; omega) (by omega) ?_
           intro v2 w2 o2 k2 at2))
      have F : Own w2 5 1 v2 (1 + 1) (((putL n).take (1 + 1)).map u8) ∧ Below w.heap.size w w2 ∧ ∀ k, v2.ownBlock = some k → w.heap.size ≤ k := by
        rw [HT.out.2, List.map_append, List.map_cons, List.map_nil, HT.out.1]
        have hb := HO.out.2.1
        have k1 : Kept [] wr (wr.alloc (.cells #[.int .u8 z] 5)) := (Kept.refl _ _).alloc _
        refine ⟨o2, (hb.trans (k1.below (by simp) hb.size)).trans (k2.below (fun x hx => HO.out.2.2 x (by simpa using hx)) (by have := hb.size; simp; omega)), fun k hk => ?_⟩
        rcases at2 k hk with h | h
        · exact HO.out.2.2 k h
        have := hb.size; simp at h; omega
      have HF := hid F
      clear F o2 k2 at2 hown hrd
      go_wp2
      go_roundg 2
      case measure => omega
      case rel => exact ⟨2, rfl, rfl, HF.out⟩
    · obtain ⟨z, hz⟩ : ∃ z : Int, z = n / 16384 % 128 + 128 := ⟨_, rfl⟩
      have hcl : bits BinOp.andNot IntKind.u8 (n / 16384 % 256) 128 = n / 16384 % 128 := by rw [u8_clear _ (by omega) (by omega)]; omega
      have hor : bits BinOp.or IntKind.u8 (n / 16384 % 128) 128 = n / 16384 % 128 + 128 := by rw [u8_top _ (by omega) (by omega)]; omega
      have hzu : u8 (byteN n 2 4) = .int .u8 z := by unfold u8; rw [byteN_toNat, hz]; unfold byteI; simp
      have htk : (putL n).take (2 + 1) = (putL n).take 2 ++ [byteN n 2 4] := by
        rw [List.take_succ, putL_at n 2 (by rw [HS.out]; omega), HS.out]; rfl
      have HT := hid (And.intro hzu htk)
      have hown := HO.out.1.alloc (.cells #[.int .u8 z] 5)
      have hrd := Rds.boxed wr #[.int .u8 z] 5 1 rfl
      clear hzu htk
      go_wp2_with (first
        | (at_builtin; simp only [← hz]
           refine wpList_append_own' _ rfl (.tmp 28) (.tmp 30) _ rfl 5 i0 _ 1 1 U22 hi0 hz0 hz1 hz2 rfl (by omega) (.slice A 2 c) 2 _ rfl hown _ _ _ _ _ rfl hrd (by simp [Value.oneCell']) (by unfold maxLen; omega) (by omega) ?_
           intro v2 w2 o2 k2 at2))
      have F : Own w2 5 1 v2 (2 + 1) (((putL n).take (2 + 1)).map u8) ∧ Below w.heap.size w w2 ∧ ∀ k, v2.ownBlock = some k → w.heap.size ≤ k := by
        rw [HT.out.2, List.map_append, List.map_cons, List.map_nil, HT.out.1]
        have hb := HO.out.2.1
        have k1 : Kept [] wr (wr.alloc (.cells #[.int .u8 z] 5)) := (Kept.refl _ _).alloc _
        refine ⟨o2, (hb.trans (k1.below (by simp) hb.size)).trans (k2.below (fun x hx => HO.out.2.2 x (by simpa using hx)) (by have := hb.size; simp; omega)), fun k hk => ?_⟩
        rcases at2 k hk with h | h
        · exact HO.out.2.2 k h
        have := hb.size; simp at h; omega
      have HF := hid F
      clear F o2 k2 at2 hown hrd
      go_wp2
      go_roundg 1
      case measure => omega
      case rel => exact ⟨3, rfl, rfl, HF.out⟩
    · obtain ⟨z, hz⟩ : ∃ z : Int, z = n / 2097152 % 128 := ⟨_, rfl⟩
      have hcl : bits BinOp.andNot IntKind.u8 (n / 2097152 % 256) 128 = n / 2097152 % 128 := by rw [u8_clear _ (by omega) (by omega)]; omega
      have hcl2 : bits BinOp.andNot IntKind.u8 (n / 2097152) 128 = n / 2097152 % 128 := u8_clear _ (by omega) (by omega)
      have hzu : u8 (byteN n 3 4) = .int .u8 z := by unfold u8; rw [byteN_toNat, hz]; unfold byteI; simp
      have htk : (putL n).take (3 + 1) = (putL n).take 3 ++ [byteN n 3 4] := by
        rw [List.take_succ, putL_at n 3 (by rw [HS.out]; omega), HS.out]; rfl
      have HT := hid (And.intro hzu htk)
      have hown := HO.out.1.alloc (.cells #[.int .u8 z] 5)
      have hrd := Rds.boxed wr #[.int .u8 z] 5 1 rfl
      clear hzu htk
      go_wp2_with (first
        | (at_builtin; simp only [← hz]
           refine wpList_append_own' _ rfl (.tmp 28) (.tmp 30) _ rfl 5 i0 _ 1 1 U22 hi0 hz0 hz1 hz2 rfl (by omega) (.slice A 3 c) 3 _ rfl hown _ _ _ _ _ rfl hrd (by simp [Value.oneCell']) (by unfold maxLen; omega) (by omega) ?_
           intro v2 w2 o2 k2 at2))
      have F : Own w2 5 1 v2 (3 + 1) (((putL n).take (3 + 1)).map u8) ∧ Below w.heap.size w w2 ∧ ∀ k, v2.ownBlock = some k → w.heap.size ≤ k := by
        rw [HT.out.2, List.map_append, List.map_cons, List.map_nil, HT.out.1]
        have hb := HO.out.2.1
        have k1 : Kept [] wr (wr.alloc (.cells #[.int .u8 z] 5)) := (Kept.refl _ _).alloc _
        refine ⟨o2, (hb.trans (k1.below (by simp) hb.size)).trans (k2.below (fun x hx => HO.out.2.2 x (by simpa using hx)) (by have := hb.size; simp; omega)), fun k hk => ?_⟩
        rcases at2 k hk with h | h
        · exact HO.out.2.2 k h
        have := hb.size; simp at h; omega
      have HF := hid F
      clear F o2 k2 at2 hown hrd
      go_wp2
      go_roundg 0
      case measure => omega
      case rel => exact ⟨4, rfl, rfl, HF.out⟩
    go_wp2
    go_ret2
    refine ⟨HO.out.2.1, .inr ⟨by rw [HS.out]; omega, _, rfl, ?_, HO.out.2.2⟩⟩
    have := HO.out.1
    rw [HS.out]
    rwa [List.take_of_length_le (by rw [putL_len, HS.out]; omega)] at this
set_option maxHeartbeats 2000000 in
theorem putR_1 (n : Int) (w : World) (hs : szN n = 1) (h0 : 0 ≤ n) (h1 : n < 128) : Calls Tryd.prog 43 #[.int .i64 n] w (PutPost n w) := by
  obtain ⟨i0, hi0, hz0, hz1, hz2⟩ := info_parts info5
  have HS := hid hs
  clear hs
  go_enter Tryd.func43, Tryd.ntmps43
  go_wp2_with fail
  refine (sizeR_any n _).mono ?_
  rw [HS.out]
  rintro e w1 ⟨rfl, rfl⟩
  go_wp2_with fail
  go_loopg [5, 6] 1 (fun g v iv wr => ∃ i : Nat, i + g = 1 ∧ iv = .int .i64 i ∧ Own wr 5 1 v i (((putL n).take i).map u8) ∧ Below w.heap.size w wr ∧ ∀ k, v.ownBlock = some k → w.heap.size ≤ k)
  case atStart => exact ⟨0, rfl, rfl, Own.nil _ _ _, Below.refl _ _, by simp [Value.ownBlock]⟩
  case round =>
    obtain ⟨i, hi, rfl, ho, hb, hk⟩ := hrel
    obtain ⟨A, c, rfl, hc1, hc2⟩ := ho.form
    have HO := hid (And.intro ho (And.intro hb hk))
    clear ho hb hk
    rcases (show (i = 0 ∧ gk = 1) ∨ (i = 1 ∧ gk = 0) by omega) with ⟨rfl, rfl⟩ | ⟨rfl, rfl⟩
    · obtain ⟨z, hz⟩ : ∃ z : Int, z = n % 128 := ⟨_, rfl⟩
      have hcl : bits BinOp.and IntKind.i64 (n) 127 = n % 128 := i64_mask 7 (by omega) _ (by omega) (by omega)
      have hzu : u8 (byteN n 0 1) = .int .u8 z := by unfold u8; rw [byteN_toNat, hz]; unfold byteI; simp
      have htk : (putL n).take (0 + 1) = (putL n).take 0 ++ [byteN n 0 1] := by
        rw [List.take_succ, putL_at n 0 (by rw [HS.out]; omega), HS.out]; rfl
      have HT := hid (And.intro hzu htk)
      have hown := HO.out.1.alloc (.cells #[.int .u8 z] 5)
      have hrd := Rds.boxed wr #[.int .u8 z] 5 1 rfl
      clear hzu htk
      go_wp2_with (first
        | (at_builtin; simp only [← hz]
           refine wpList_append_own' _ rfl (.tmp 29) (.tmp 31) _ rfl 5 i0 _ 1 1 U22 hi0 hz0 hz1 hz2 rfl (by omega) (.slice A 0 c) 0 _ rfl hown _ _ _ _ _ rfl hrd (by simp [Value.oneCell']) (by unfold maxLen; omega) (by omega) ?_
           intro v2 w2 o2 k2 at2))
      have F : Own w2 5 1 v2 (0 + 1) (((putL n).take (0 + 1)).map u8) ∧ Below w.heap.size w w2 ∧ ∀ k, v2.ownBlock = some k → w.heap.size ≤ k := by
        rw [HT.out.2, List.map_append, List.map_cons, List.map_nil, HT.out.1]
        have hb := HO.out.2.1
        have k1 : Kept [] wr (wr.alloc (.cells #[.int .u8 z] 5)) := (Kept.refl _ _).alloc _
        refine ⟨o2, (hb.trans (k1.below (by simp) hb.size)).trans (k2.below (fun x hx => HO.out.2.2 x (by simpa using hx)) (by have := hb.size; simp; omega)), fun k hk => ?_⟩
        rcases at2 k hk with h | h
        · exact HO.out.2.2 k h
        have := hb.size; simp at h; omega
      have HF := hid F
      clear F o2 k2 at2 hown hrd
      go_wp2
      go_roundg 0
      case measure => omega
      case rel => exact ⟨1, rfl, rfl, HF.out⟩
    go_wp2
    go_ret2
    refine ⟨HO.out.2.1, .inr ⟨by rw [HS.out]; omega, _, rfl, ?_, HO.out.2.2⟩⟩
    have := HO.out.1
    rw [HS.out]
    rwa [List.take_of_length_le (by rw [putL_len, HS.out]; omega)] at this
set_option maxHeartbeats 2000000 in
theorem putR_2 (n : Int) (w : World) (hs : szN n = 2) (h0 : 128 ≤ n) (h1 : n < 16384) : Calls Tryd.prog 43 #[.int .i64 n] w (PutPost n w) := by
  obtain ⟨i0, hi0, hz0, hz1, hz2⟩ := info_parts info5
  have HS := hid hs
  clear hs
  go_enter Tryd.func43, Tryd.ntmps43
  go_wp2_with fail
  refine (sizeR_any n _).mono ?_
  rw [HS.out]
  rintro e w1 ⟨rfl, rfl⟩
  go_wp2_with fail
  go_loopg [5, 6] 2 (fun g v iv wr => ∃ i : Nat, i + g = 2 ∧ iv = .int .i64 i ∧ Own wr 5 1 v i (((putL n).take i).map u8) ∧ Below w.heap.size w wr ∧ ∀ k, v.ownBlock = some k → w.heap.size ≤ k)
  case atStart => exact ⟨0, rfl, rfl, Own.nil _ _ _, Below.refl _ _, by simp [Value.ownBlock]⟩
  case round =>
    obtain ⟨i, hi, rfl, ho, hb, hk⟩ := hrel
    obtain ⟨A, c, rfl, hc1, hc2⟩ := ho.form
    have HO := hid (And.intro ho (And.intro hb hk))
    clear ho hb hk
    rcases (show (i = 0 ∧ gk = 2) ∨ (i = 1 ∧ gk = 1) ∨ (i = 2 ∧ gk = 0) by omega) with ⟨rfl, rfl⟩ | ⟨rfl, rfl⟩ | ⟨rfl, rfl⟩
    · obtain ⟨z, hz⟩ : ∃ z : Int, z = n % 128 + 128 := ⟨_, rfl⟩
      have hcl : bits BinOp.and IntKind.i64 (n) 127 = n % 128 := i64_mask 7 (by omega) _ (by omega) (by omega)
      have hor : bits BinOp.or IntKind.u8 (n % 128) 128 = n % 128 + 128 := by rw [u8_top _ (by omega) (by omega)]; omega
      have hzu : u8 (byteN n 0 2) = .int .u8 z := by unfold u8; rw [byteN_toNat, hz]; unfold byteI; simp
      have htk : (putL n).take (0 + 1) = (putL n).take 0 ++ [byteN n 0 2] := by
        rw [List.take_succ, putL_at n 0 (by rw [HS.out]; omega), HS.out]; rfl
      have HT := hid (And.intro hzu htk)
      have hown := HO.out.1.alloc (.cells #[.int .u8 z] 5)
      have hrd := Rds.boxed wr #[.int .u8 z] 5 1 rfl
      clear hzu htk
      go_wp2_with (first
        | (at_builtin; simp only [← hz]
           refine wpList_append_own' _ rfl (.tmp 29) (.tmp 31) _ rfl 5 i0 _ 1 1 U22 hi0 hz0 hz1 hz2 rfl (by omega) (.slice A 0 c) 0 _ rfl hown _ _ _ _ _ rfl hrd (by simp [Value.oneCell']) (by unfold maxLen; omega) (by omega) ?_
           intro v2 w2 o2 k2 at2))
      have F : Own w2 5 1 v2 (0 + 1) (((putL n).take (0 + 1)).map u8) ∧ Below w.heap.size w w2 ∧ ∀ k, v2.ownBlock = some k → w.heap.size ≤ k := by
        rw [HT.out.2, List.map_append, List.map_cons, List.map_nil, HT.out.1]
        have hb := HO.out.2.1
        have k1 : Kept [] wr (wr.alloc (.cells #[.int .u8 z] 5)) := (Kept.refl _ _).alloc _
        refine ⟨o2, (hb.trans (k1.below (by simp) hb.size)).trans (k2.below (fun x hx => HO.out.2.2 x (by simpa using hx)) (by have := hb.size; simp; omega)), fun k hk => ?_⟩
        rcases at2 k hk with h | h
        · exact HO.out.2.2 k h
        have := hb.size; simp at h; omega
      have HF := hid F
      clear F o2 k2 at2 hown hrd
      go_wp2
      go_roundg 1
      case measure => omega
      case rel => exact ⟨1, rfl, rfl, HF.out⟩
    · obtain ⟨z, hz⟩ : ∃ z : Int, z = n / 128 % 128 := ⟨_, rfl⟩
      have hcl : bits BinOp.and IntKind.i64 (n / 128) 127 = n / 128 % 128 := i64_mask 7 (by omega) _ (by omega) (by omega)
      have hzu : u8 (byteN n 1 2) = .int .u8 z := by unfold u8; rw [byteN_toNat, hz]; unfold byteI; simp
      have htk : (putL n).take (1 + 1) = (putL n).take 1 ++ [byteN n 1 2] := by
        rw [List.take_succ, putL_at n 1 (by rw [HS.out]; omega), HS.out]; rfl
      have HT := hid (And.intro hzu htk)
      have hown := HO.out.1.alloc (.cells #[.int .u8 z] 5)
      have hrd := Rds.boxed wr #[.int .u8 z] 5 1 rfl
      clear hzu htk
      go_wp2_with (first
        | (at_builtin; simp only [← hz]
           refine wpList_append_own' _ rfl (.tmp 29) (.tmp 31) _ rfl 5 i0 _ 1 1 U22 hi0 hz0 hz1 hz2 rfl (by omega) (.slice A 1 c) 1 _ rfl hown _ _ _ _ _ rfl hrd (by simp [Value.oneCell']) (by unfold maxLen; omega) (by omega) ?_
           intro v2 w2 o2 k2 at2))
      have F : Own w2 5 1 v2 (1 + 1) (((putL n).take (1 + 1)).map u8) ∧ Below w.heap.size w w2 ∧ ∀ k, v2.ownBlock = some k → w.heap.size ≤ k := by
        rw [HT.out.2, List.map_append, List.map_cons, List.map_nil, HT.out.1]
        have hb := HO.out.2.1
        have k1 : Kept [] wr (wr.alloc (.cells #[.int .u8 z] 5)) := (Kept.refl _ _).alloc _
        refine ⟨o2, (hb.trans (k1.below (by simp) hb.size)).trans (k2.below (fun x hx => HO.out.2.2 x (by simpa using hx)) (by have := hb.size; simp; omega)), fun k hk => ?_⟩
        rcases at2 k hk with h | h
        · exact HO.out.2.2 k h
        have := hb.size; simp at h; omega
      have HF := hid F
      clear F o2 k2 at2 hown hrd
      go_wp2
      go_roundg 0
      case measure => omega
      case rel => exact ⟨2, rfl, rfl, HF.out⟩
    go_wp2
    go_ret2
    refine ⟨HO.out.2.1, .inr ⟨by rw [HS.out]; omega, _, rfl, ?_, HO.out.2.2⟩⟩
    have := HO.out.1
    rw [HS.out]
    rwa [List.take_of_length_le (by rw [putL_len, HS.out]; omega)] at this
set_option maxHeartbeats 2000000 in
theorem putR_3 (n : Int) (w : World) (hs : szN n = 3) (h0 : 16384 ≤ n) (h1 : n < 2097152) : Calls Tryd.prog 43 #[.int .i64 n] w (PutPost n w) := by
  obtain ⟨i0, hi0, hz0, hz1, hz2⟩ := info_parts info5
  have HS := hid hs
  clear hs
  go_enter Tryd.func43, Tryd.ntmps43
  go_wp2_with fail
  refine (sizeR_any n _).mono ?_
  rw [HS.out]
  rintro e w1 ⟨rfl, rfl⟩
  go_wp2_with fail
  go_loopg [5, 6] 3 (fun g v iv wr => ∃ i : Nat, i + g = 3 ∧ iv = .int .i64 i ∧ Own wr 5 1 v i (((putL n).take i).map u8) ∧ Below w.heap.size w wr ∧ ∀ k, v.ownBlock = some k → w.heap.size ≤ k)
  case atStart => exact ⟨0, rfl, rfl, Own.nil _ _ _, Below.refl _ _, by simp [Value.ownBlock]⟩
  case round =>
    obtain ⟨i, hi, rfl, ho, hb, hk⟩ := hrel
    obtain ⟨A, c, rfl, hc1, hc2⟩ := ho.form
    have HO := hid (And.intro ho (And.intro hb hk))
    clear ho hb hk
    rcases (show (i = 0 ∧ gk = 3) ∨ (i = 1 ∧ gk = 2) ∨ (i = 2 ∧ gk = 1) ∨ (i = 3 ∧ gk = 0) by omega) with ⟨rfl, rfl⟩ | ⟨rfl, rfl⟩ | ⟨rfl, rfl⟩ | ⟨rfl, rfl⟩
    · obtain ⟨z, hz⟩ : ∃ z : Int, z = n % 128 + 128 := ⟨_, rfl⟩
      have hcl : bits BinOp.and IntKind.i64 (n) 127 = n % 128 := i64_mask 7 (by omega) _ (by omega) (by omega)
      have hor : bits BinOp.or IntKind.u8 (n % 128) 128 = n % 128 + 128 := by rw [u8_top _ (by omega) (by omega)]; omega
      have hzu : u8 (byteN n 0 3) = .int .u8 z := by unfold u8; rw [byteN_toNat, hz]; unfold byteI; simp
      have htk : (putL n).take (0 + 1) = (putL n).take 0 ++ [byteN n 0 3] := by
        rw [List.take_succ, putL_at n 0 (by rw [HS.out]; omega), HS.out]; rfl
      have HT := hid (And.intro hzu htk)
      have hown := HO.out.1.alloc (.cells #[.int .u8 z] 5)
      have hrd := Rds.boxed wr #[.int .u8 z] 5 1 rfl
      clear hzu htk
      go_wp2_with (first
        | (at_builtin; simp only [← hz]
           refine wpList_append_own' _ rfl (.tmp 29) (.tmp 31) _ rfl 5 i0 _ 1 1 U22 hi0 hz0 hz1 hz2 rfl (by omega) (.slice A 0 c) 0 _ rfl hown _ _ _ _ _ rfl hrd (by simp [Value.oneCell']) (by unfold maxLen; omega) (by omega) ?_
           intro v2 w2 o2 k2 at2))
      have F : Own w2 5 1 v2 (0 + 1) (((putL n).take (0 + 1)).map u8) ∧ Below w.heap.size w w2 ∧ ∀ k, v2.ownBlock = some k → w.heap.size ≤ k := by
        rw [HT.out.2, List.map_append, List.map_cons, List.map_nil, HT.out.1]
        have hb := HO.out.2.1
        have k1 : Kept [] wr (wr.alloc (.cells #[.int .u8 z] 5)) := (Kept.refl _ _).alloc _
        refine ⟨o2, (hb.trans (k1.below (by simp) hb.size)).trans (k2.below (fun x hx => HO.out.2.2 x (by simpa using hx)) (by have := hb.size; simp; omega)), fun k hk => ?_⟩
        rcases at2 k hk with h | h
        · exact HO.out.2.2 k h
        have := hb.size; simp at h; omega
      have HF := hid F
      clear F o2 k2 at2 hown hrd
      go_wp2
      go_roundg 2
      case measure => omega
      case rel => exact ⟨1, rfl, rfl, HF.out⟩
    · obtain ⟨z, hz⟩ : ∃ z : Int, z = n / 128 % 128 + 128 := ⟨_, rfl⟩
      have hcl : bits BinOp.and IntKind.i64 (n / 128) 127 = n / 128 % 128 := i64_mask 7 (by omega) _ (by omega) (by omega)
      have hor : bits BinOp.or IntKind.u8 (n / 128 % 128) 128 = n / 128 % 128 + 128 := by rw [u8_top _ (by omega) (by omega)]; omega
      have hzu : u8 (byteN n 1 3) = .int .u8 z := by unfold u8; rw [byteN_toNat, hz]; unfold byteI; simp
      have htk : (putL n).take (1 + 1) = (putL n).take 1 ++ [byteN n 1 3] := by
        rw [List.take_succ, putL_at n 1 (by rw [HS.out]; omega), HS.out]; rfl
      have HT := hid (And.intro hzu htk)
      have hown := HO.out.1.alloc (.cells #[.int .u8 z] 5)
      have hrd := Rds.boxed wr #[.int .u8 z] 5 1 rfl
      clear hzu htk
      go_wp2_with (first
        | (at_builtin; simp only [← hz]
           refine wpList_append_own' _ rfl (.tmp 29) (.tmp 31) _ rfl 5 i0 _ 1 1 U22 hi0 hz0 hz1 hz2 rfl (by omega) (.slice A 1 c) 1 _ rfl hown _ _ _ _ _ rfl hrd (by simp [Value.oneCell']) (by unfold maxLen; omega) (by omega) ?_
           intro v2 w2 o2 k2 at2))
      have F : Own w2 5 1 v2 (1 + 1) (((putL n).take (1 + 1)).map u8) ∧ Below w.heap.size w w2 ∧ ∀ k, v2.ownBlock = some k → w.heap.size ≤ k := by
        rw [HT.out.2, List.map_append, List.map_cons, List.map_nil, HT.out.1]
        have hb := HO.out.2.1
        have k1 : Kept [] wr (wr.alloc (.cells #[.int .u8 z] 5)) := (Kept.refl _ _).alloc _
        refine ⟨o2, (hb.trans (k1.below (by simp) hb.size)).trans (k2.below (fun x hx => HO.out.2.2 x (by simpa using hx)) (by have := hb.size; simp; omega)), fun k hk => ?_⟩
        rcases at2 k hk with h | h
        · exact HO.out.2.2 k h
        have := hb.size; simp at h; omega
      have HF := hid F
      clear F o2 k2 at2 hown hrd
      go_wp2
      go_roundg 1
      case measure => omega
      case rel => exact ⟨2, rfl, rfl, HF.out⟩
    · obtain ⟨z, hz⟩ : ∃ z : Int, z = n / 16384 % 128 := ⟨_, rfl⟩
      have hcl : bits BinOp.and IntKind.i64 (n / 16384) 127 = n / 16384 % 128 := i64_mask 7 (by omega) _ (by omega) (by omega)
      have hzu : u8 (byteN n 2 3) = .int .u8 z := by unfold u8; rw [byteN_toNat, hz]; unfold byteI; simp
      have htk : (putL n).take (2 + 1) = (putL n).take 2 ++ [byteN n 2 3] := by
        rw [List.take_succ, putL_at n 2 (by rw [HS.out]; omega), HS.out]; rfl
      have HT := hid (And.intro hzu htk)
      have hown := HO.out.1.alloc (.cells #[.int .u8 z] 5)
      have hrd := Rds.boxed wr #[.int .u8 z] 5 1 rfl
      clear hzu htk
      go_wp2_with (first
        | (at_builtin; simp only [← hz]
           refine wpList_append_own' _ rfl (.tmp 29) (.tmp 31) _ rfl 5 i0 _ 1 1 U22 hi0 hz0 hz1 hz2 rfl (by omega) (.slice A 2 c) 2 _ rfl hown _ _ _ _ _ rfl hrd (by simp [Value.oneCell']) (by unfold maxLen; omega) (by omega) ?_
           intro v2 w2 o2 k2 at2))
      have F : Own w2 5 1 v2 (2 + 1) (((putL n).take (2 + 1)).map u8) ∧ Below w.heap.size w w2 ∧ ∀ k, v2.ownBlock = some k → w.heap.size ≤ k := by
        rw [HT.out.2, List.map_append, List.map_cons, List.map_nil, HT.out.1]
        have hb := HO.out.2.1
        have k1 : Kept [] wr (wr.alloc (.cells #[.int .u8 z] 5)) := (Kept.refl _ _).alloc _
        refine ⟨o2, (hb.trans (k1.below (by simp) hb.size)).trans (k2.below (fun x hx => HO.out.2.2 x (by simpa using hx)) (by have := hb.size; simp; omega)), fun k hk => ?_⟩
        rcases at2 k hk with h | h
        · exact HO.out.2.2 k h
        have := hb.size; simp at h; omega
      have HF := hid F
      clear F o2 k2 at2 hown hrd
      go_wp2
      go_roundg 0
      case measure => omega
      case rel => exact ⟨3, rfl, rfl, HF.out⟩
    go_wp2
    go_ret2
    refine ⟨HO.out.2.1, .inr ⟨by rw [HS.out]; omega, _, rfl, ?_, HO.out.2.2⟩⟩
    have := HO.out.1
    rw [HS.out]
    rwa [List.take_of_length_le (by rw [putL_len, HS.out]; omega)] at this
set_option maxHeartbeats 2000000 in
theorem putR_4 (n : Int) (w : World) (hs : szN n = 4) (h0 : 2097152 ≤ n) (h1 : n < 268435456) : Calls Tryd.prog 43 #[.int .i64 n] w (PutPost n w) := by
  obtain ⟨i0, hi0, hz0, hz1, hz2⟩ := info_parts info5
  have HS := hid hs
  clear hs
  go_enter Tryd.func43, Tryd.ntmps43
  go_wp2_with fail
  refine (sizeR_any n _).mono ?_
  rw [HS.out]
  rintro e w1 ⟨rfl, rfl⟩
  go_wp2_with fail
  go_loopg [5, 6] 4 (fun g v iv wr => ∃ i : Nat, i + g = 4 ∧ iv = .int .i64 i ∧ Own wr 5 1 v i (((putL n).take i).map u8) ∧ Below w.heap.size w wr ∧ ∀ k, v.ownBlock = some k → w.heap.size ≤ k)
  case atStart => exact ⟨0, rfl, rfl, Own.nil _ _ _, Below.refl _ _, by simp [Value.ownBlock]⟩
  case round =>
    obtain ⟨i, hi, rfl, ho, hb, hk⟩ := hrel
    obtain ⟨A, c, rfl, hc1, hc2⟩ := ho.form
    have HO := hid (And.intro ho (And.intro hb hk))
    clear ho hb hk
    rcases (show (i = 0 ∧ gk = 4) ∨ (i = 1 ∧ gk = 3) ∨ (i = 2 ∧ gk = 2) ∨ (i = 3 ∧ gk = 1) ∨ (i = 4 ∧ gk = 0) by omega) with ⟨rfl, rfl⟩ | ⟨rfl, rfl⟩ | ⟨rfl, rfl⟩ | ⟨rfl, rfl⟩ | ⟨rfl, rfl⟩
    · obtain ⟨z, hz⟩ : ∃ z : Int, z = n % 128 + 128 := ⟨_, rfl⟩
      have hcl : bits BinOp.and IntKind.i64 (n) 127 = n % 128 := i64_mask 7 (by omega) _ (by omega) (by omega)
      have hor : bits BinOp.or IntKind.u8 (n % 128) 128 = n % 128 + 128 := by rw [u8_top _ (by omega) (by omega)]; omega
      have hzu : u8 (byteN n 0 4) = .int .u8 z := by unfold u8; rw [byteN_toNat, hz]; unfold byteI; simp
      have htk : (putL n).take (0 + 1) = (putL n).take 0 ++ [byteN n 0 4] := by
        rw [List.take_succ, putL_at n 0 (by rw [HS.out]; omega), HS.out]; rfl
      have HT := hid (And.intro hzu htk)
      have hown := HO.out.1.alloc (.cells #[.int .u8 z] 5)
      have hrd := Rds.boxed wr #[.int .u8 z] 5 1 rfl
      clear hzu htk
      go_wp2_with (first
        | (at_builtin; simp only [← hz]
           refine wpList_append_own' _ rfl (.tmp 29) (.tmp 31) _ rfl 5 i0 _ 1 1 U22 hi0 hz0 hz1 hz2 rfl (by omega) (.slice A 0 c) 0 _ rfl hown _ _ _ _ _ rfl hrd (by simp [Value.oneCell']) (by unfold maxLen; omega) (by omega) ?_
           intro v2 w2 o2 k2 at2))
      have F : Own w2 5 1 v2 (0 + 1) (((putL n).take (0 + 1)).map u8) ∧ Below w.heap.size w w2 ∧ ∀ k, v2.ownBlock = some k → w.heap.size ≤ k := by
        rw [HT.out.2, List.map_append, List.map_cons, List.map_nil, HT.out.1]
        have hb := HO.out.2.1
        have k1 : Kept [] wr (wr.alloc (.cells #[.int .u8 z] 5)) := (Kept.refl _ _).alloc _
        refine ⟨o2, (hb.trans (k1.below (by simp) hb.size)).trans (k2.below (fun x hx => HO.out.2.2 x (by simpa using hx)) (by have := hb.size; simp; omega)), fun k hk => ?_⟩
        rcases at2 k hk with h | h
        · exact HO.out.2.2 k h
        have := hb.size; simp at h; omega
      have HF := hid F
      clear F o2 k2 at2 hown hrd
      go_wp2
      go_roundg 3
      case measure => omega
      case rel => exact ⟨1, rfl, rfl, HF.out⟩
    · obtain ⟨z, hz⟩ : ∃ z : Int, z = n / 128 % 128 + 128 := ⟨_, rfl⟩
      have hcl : bits BinOp.and IntKind.i64 (n / 128) 127 = n / 128 % 128 := i64_mask 7 (by omega) _ (by omega) (by omega)
      have hor : bits BinOp.or IntKind.u8 (n / 128 % 128) 128 = n / 128 % 128 + 128 := by rw [u8_top _ (by omega) (by omega)]; omega
      have hzu : u8 (byteN n 1 4) = .int .u8 z := by unfold u8; rw [byteN_toNat, hz]; unfold byteI; simp
      have htk : (putL n).take (1 + 1) = (putL n).take 1 ++ [byteN n 1 4] := by
        rw [List.take_succ, putL_at n 1 (by rw [HS.out]; omega), HS.out]; rfl
      have HT := hid (And.intro hzu htk)
      have hown := HO.out.1.alloc (.cells #[.int .u8 z] 5)
      have hrd := Rds.boxed wr #[.int .u8 z] 5 1 rfl
      clear hzu htk
      go_wp2_with (first
        | (at_builtin; simp only [← hz]
           refine wpList_append_own' _ rfl (.tmp 29) (.tmp 31) _ rfl 5 i0 _ 1 1 U22 hi0 hz0 hz1 hz2 rfl (by omega) (.slice A 1 c) 1 _ rfl hown _ _ _ _ _ rfl hrd (by simp [Value.oneCell']) (by unfold maxLen; omega) (by omega) ?_
           intro v2 w2 o2 k2 at2))
      have F : Own w2 5 1 v2 (1 + 1) (((putL n).take (1 + 1)).map u8) ∧ Below w.heap.size w w2 ∧ ∀ k, v2.ownBlock = some k → w.heap.size ≤ k := by
        rw [HT.out.2, List.map_append, List.map_cons, List.map_nil, HT.out.1]
        have hb := HO.out.2.1
        have k1 : Kept [] wr (wr.alloc (.cells #[.int .u8 z] 5)) := (Kept.refl _ _).alloc _
        refine ⟨o2, (hb.trans (k1.below (by simp) hb.size)).trans (k2.below (fun x hx => HO.out.2.2 x (by simpa using hx)) (by have := hb.size; simp; omega)), fun k hk => ?_⟩
        rcases at2 k hk with h | h
        · exact HO.out.2.2 k h
        have := hb.size; simp at h; omega
      have HF := hid F
      clear F o2 k2 at2 hown hrd
      go_wp2
      go_roundg 2
      case measure => omega
      case rel => exact ⟨2, rfl, rfl, HF.out⟩
    · obtain ⟨z, hz⟩ : ∃ z : Int, z = n / 16384 % 128 + 128 := ⟨_, rfl⟩
      have hcl : bits BinOp.and IntKind.i64 (n / 16384) 127 = n / 16384 % 128 := i64_mask 7 (by omega) _ (by omega) (by omega)
      have hor : bits BinOp.or IntKind.u8 (n / 16384 % 128) 128 = n / 16384 % 128 + 128 := by rw [u8_top _ (by omega) (by omega)]; omega
      have hzu : u8 (byteN n 2 4) = .int .u8 z := by unfold u8; rw [byteN_toNat, hz]; unfold byteI; simp
      have htk : (putL n).take (2 + 1) = (putL n).take 2 ++ [byteN n 2 4] := by
        rw [List.take_succ, putL_at n 2 (by rw [HS.out]; omega), HS.out]; rfl
      have HT := hid (And.intro hzu htk)
      have hown := HO.out.1.alloc (.cells #[.int .u8 z] 5)
      have hrd := Rds.boxed wr #[.int .u8 z] 5 1 rfl
      clear hzu htk
      go_wp2_with (first
        | (at_builtin; simp only [← hz]
           refine wpList_append_own' _ rfl (.tmp 29) (.tmp 31) _ rfl 5 i0 _ 1 1 U22 hi0 hz0 hz1 hz2 rfl (by omega) (.slice A 2 c) 2 _ rfl hown _ _ _ _ _ rfl hrd (by simp [Value.oneCell']) (by unfold maxLen; omega) (by omega) ?_
           intro v2 w2 o2 k2 at2))
      have F : Own w2 5 1 v2 (2 + 1) (((putL n).take (2 + 1)).map u8) ∧ Below w.heap.size w w2 ∧ ∀ k, v2.ownBlock = some k → w.heap.size ≤ k := by
        rw [HT.out.2, List.map_append, List.map_cons, List.map_nil, HT.out.1]
        have hb := HO.out.2.1
        have k1 : Kept [] wr (wr.alloc (.cells #[.int .u8 z] 5)) := (Kept.refl _ _).alloc _
        refine ⟨o2, (hb.trans (k1.below (by simp) hb.size)).trans (k2.below (fun x hx => HO.out.2.2 x (by simpa using hx)) (by have := hb.size; simp; omega)), fun k hk => ?_⟩
        rcases at2 k hk with h | h
        · exact HO.out.2.2 k h
        have := hb.size; simp at h; omega
      have HF := hid F
      clear F o2 k2 at2 hown hrd
      go_wp2
      go_roundg 1
      case measure => omega
      case rel => exact ⟨3, rfl, rfl, HF.out⟩
    · obtain ⟨z, hz⟩ : ∃ z : Int, z = n / 2097152 % 128 := ⟨_, rfl⟩
      have hcl : bits BinOp.and IntKind.i64 (n / 2097152) 127 = n / 2097152 % 128 := i64_mask 7 (by omega) _ (by omega) (by omega)
      have hzu : u8 (byteN n 3 4) = .int .u8 z := by unfold u8; rw [byteN_toNat, hz]; unfold byteI; simp
      have htk : (putL n).take (3 + 1) = (putL n).take 3 ++ [byteN n 3 4] := by
        rw [List.take_succ, putL_at n 3 (by rw [HS.out]; omega), HS.out]; rfl
      have HT := hid (And.intro hzu htk)
      have hown := HO.out.1.alloc (.cells #[.int .u8 z] 5)
      have hrd := Rds.boxed wr #[.int .u8 z] 5 1 rfl
      clear hzu htk
      go_wp2_with (first
        | (at_builtin; simp only [← hz]
           refine wpList_append_own' _ rfl (.tmp 29) (.tmp 31) _ rfl 5 i0 _ 1 1 U22 hi0 hz0 hz1 hz2 rfl (by omega) (.slice A 3 c) 3 _ rfl hown _ _ _ _ _ rfl hrd (by simp [Value.oneCell']) (by unfold maxLen; omega) (by omega) ?_
           intro v2 w2 o2 k2 at2))
      have F : Own w2 5 1 v2 (3 + 1) (((putL n).take (3 + 1)).map u8) ∧ Below w.heap.size w w2 ∧ ∀ k, v2.ownBlock = some k → w.heap.size ≤ k := by
        rw [HT.out.2, List.map_append, List.map_cons, List.map_nil, HT.out.1]
        have hb := HO.out.2.1
        have k1 : Kept [] wr (wr.alloc (.cells #[.int .u8 z] 5)) := (Kept.refl _ _).alloc _
        refine ⟨o2, (hb.trans (k1.below (by simp) hb.size)).trans (k2.below (fun x hx => HO.out.2.2 x (by simpa using hx)) (by have := hb.size; simp; omega)), fun k hk => ?_⟩
        rcases at2 k hk with h | h
        · exact HO.out.2.2 k h
        have := hb.size; simp at h; omega
      have HF := hid F
      clear F o2 k2 at2 hown hrd
      go_wp2
      go_roundg 0
      case measure => omega
      case rel => exact ⟨4, rfl, rfl, HF.out⟩
    go_wp2
    go_ret2
    refine ⟨HO.out.2.1, .inr ⟨by rw [HS.out]; omega, _, rfl, ?_, HO.out.2.2⟩⟩
    have := HO.out.1
    rw [HS.out]
    rwa [List.take_of_length_le (by rw [putL_len, HS.out]; omega)] at this
end Go.Proofs.YtigjafbbnocihaaDoor
namespace Go.Proofs.YtigjafbbnocihaaDoor
open Go.RowKit Go.Hub Go.Vl
set_option maxHeartbeats 400000 in
theorem put_0 (n : Int) (w : World) (hs : szN n = 0) : Calls Tryd.prog 38 #[.int .i64 n] w (PutPost n w) := by
  have HS := hid hs
  clear hs
  go_enter Tryd.func38, Tryd.ntmps38
  go_wp2_with fail
  refine (size_any n _).mono ?_
  rw [HS.out]
  rintro e w1 ⟨rfl, rfl⟩
  go_wp2
  go_ret2
  exact ⟨Below.refl _ _, .inl ⟨HS.out, rfl⟩⟩
set_option maxHeartbeats 400000 in
theorem putR_0 (n : Int) (w : World) (hs : szN n = 0) : Calls Tryd.prog 43 #[.int .i64 n] w (PutPost n w) := by
  have HS := hid hs
  clear hs
  go_enter Tryd.func43, Tryd.ntmps43
  go_wp2_with fail
  refine (sizeR_any n _).mono ?_
  rw [HS.out]
  rintro e w1 ⟨rfl, rfl⟩
  go_wp2
  go_ret2
  exact ⟨Below.refl _ _, .inl ⟨HS.out, rfl⟩⟩
theorem put_any (n : Int) (w : World) : Calls Tryd.prog 38 #[.int .i64 n] w (PutPost n w) := by
  rcases szN_cases n with ⟨a, h⟩ | ⟨a, b, h⟩ | ⟨a, b, c, h⟩ | ⟨a, b, c, d, h⟩ | ⟨a, b, c, d, f, h⟩ | ⟨a, b, c, d, f, h⟩
  · exact put_0 n w h
  · exact put_0 n w h
  · exact put_1 n w h (by omega) (by omega)
  · exact put_2 n w h (by omega) (by omega)
  · exact put_3 n w h (by omega) (by omega)
  exact put_4 n w h (by omega) (by omega)
theorem putR_any (n : Int) (w : World) : Calls Tryd.prog 43 #[.int .i64 n] w (PutPost n w) := by
  rcases szN_cases n with ⟨a, h⟩ | ⟨a, b, h⟩ | ⟨a, b, c, h⟩ | ⟨a, b, c, d, h⟩ | ⟨a, b, c, d, f, h⟩ | ⟨a, b, c, d, f, h⟩
  · exact putR_0 n w h
  · exact putR_0 n w h
  · exact putR_1 n w h (by omega) (by omega)
  · exact putR_2 n w h (by omega) (by omega)
  · exact putR_3 n w h (by omega) (by omega)
  exact putR_4 n w h (by omega) (by omega)
end Go.Proofs.YtigjafbbnocihaaDoor
namespace Go.Proofs.YtigjafbbnocihaaDoor
open Go.RowKit Go.Hub Go.Lib Go.Vl
theorem wzib5_wd : (Tryd.prog.info? 5).map (fun i => (i.zero, i.size, i.bytes)) = some (some (.int .u8 0), 1, 1) := by kernel_rfl
theorem wsz5_wd : (Tryd.prog.info? 5).map (·.size) = some 1 := by kernel_rfl
theorem wsz22_wd : (Tryd.prog.info? 22).map (·.size) = some 1 := by kernel_rfl
theorem wsz3_wd : (Tryd.prog.info? 3).map (·.size) = some 1 := by kernel_rfl
theorem wsz28_wd : (Tryd.prog.info? 28).map (·.size) = some 24 := by kernel_rfl
theorem wsz4_wd : (Tryd.prog.info? 4).map (·.size) = some 1 := by kernel_rfl
theorem wsz9_wd : (Tryd.prog.info? 9).map (·.size) = some 1 := by kernel_rfl
theorem wsz24_wd : (Tryd.prog.info? 24).map (·.size) = some 4 := by kernel_rfl
theorem wsz25_wd : (Tryd.prog.info? 25).map (·.size) = some 1 := by kernel_rfl
theorem wsz26_wd : (Tryd.prog.info? 26).map (·.size) = some 1 := by kernel_rfl
theorem wsz70_wd : (Tryd.prog.info? 70).map (·.size) = some 2 := by kernel_rfl
theorem row_cell {R : List (Option Addr × Nat × List UInt8)} {A : Option Addr} {w : World} (h : Sl w A R.length 1 (R.map fun r => Value.slice r.1 r.2.2.length r.2.1)) {b off k : Nat} {d : Option Addr × Nat × List UInt8} (hA : A = some ⟨b, off, none⟩) (hd : R[k]? = some d) : ∀ W, Kept [] w W → W.cell? ⟨b, off + (k : Int).toNat * 1, none⟩ = some (.slice d.1 d.2.2.length d.2.1) := fun W hk => by
  have hk' : k < R.length := (List.getElem?_eq_some_iff.1 hd).1
  rw [Int.toNat_natCast, Nat.mul_one]
  exact (h.kept hk).cell (by omega) hA (by simp [hd])
theorem flat_take1 {R : List (Option Addr × Nat × List UInt8)} {k : Nat} {d : Option Addr × Nat × List UInt8} (hd : R[k]? = some d) : ((R.take (k + 1)).flatMap fun r => r.2.2).length = ((R.take k).flatMap fun r => r.2.2).length + d.2.2.length := by
  rw [List.take_add_one, hd, List.flatMap_append, List.length_append]
  simp
theorem flat_takeL {R : List (Option Addr × Nat × List UInt8)} {k : Nat} {d : Option Addr × Nat × List UInt8} (hd : R[k]? = some d) : ((R.take k).flatMap fun r => r.2.2) ++ d.2.2 = (R.take (k + 1)).flatMap fun r => r.2.2 := by
  rw [List.take_add_one, hd, List.flatMap_append]
  simp
theorem flat_le {R : List (Option Addr × Nat × List UInt8)} {k : Nat} : ((R.take k).flatMap fun r => r.2.2).length ≤ (R.flatMap fun r => r.2.2).length := by
  conv => rhs; rw [← List.take_append_drop k R, List.flatMap_append, List.length_append]
  omega
theorem val_wq {p : Pk} (h : valB p = true) (hk : p.kind = 1) : 0 ≤ p.wq ∧ p.wq ≤ 2 := by
  unfold valB at h
  simp [hk, inB] at h
  omega
def subRB (p : Pk) : Bool := p.subs.all fun x => txB x.1 && inB x.2 0 2 && (!decide (p.kind = 10) || decide (x.2 = 0))
def A1 (p : Pk) : Bool := inB p.kind 1 14 && samePk p (bareP p) && (!numB p || inB p.id 1 65535) && inB p.qos 0 2 && txB p.topic && txB p.client && txB p.user && txB p.wt && inB p.wq 0 2 && decide (p.wp.length ≤ 65535) && decide (p.pass.length ≤ 65535)
def A2 (p : Pk) : Bool := inB p.level 0 255 && inB p.keep 0 65535 && (!p.hasPass || p.hasUser) && inB p.code 0 5 && (!p.present || decide (p.code = 0))
def A3 (p : Pk) : Bool := (!(decide (p.kind = 8 ∨ p.kind = 10)) || decide (0 < p.subs.length)) && (!decide (p.kind = 9) || decide (0 < p.codes.length))
theorem A1_kd {p : Pk} (h : A1 p = true) : inB p.kind 1 14 = true := by
  simp only [A1, Bool.and_eq_true] at h
  exact h.1.1.1.1.1.1.1.1.1.1
theorem A1_bare {p : Pk} (h : A1 p = true) : p = bareP p := by
  simp only [A1, Bool.and_eq_true] at h
  exact samePk_iff.1 h.1.1.1.1.1.1.1.1.1.2
theorem rightR_eq (p : Pk) : rightR p = (A1 p && A2 p && subRB p && codB p.codes && A3 p && decide ((behindL p).length ≤ 8192)) := by
  simp only [rightR, A1, A2, A3, subRB, Bool.and_assoc]
set_option maxHeartbeats 1000000 in
theorem grow_any (n : Nat) (w : World) (hn : n ≤ 70000000000000) : Calls Tryd.prog 70 #[.slice none 0 0, .int .i64 n] w (fun e w' => Kept [] w w' ∧ ∃ A c, e = .returned (.slice A 0 c) ∧ FB w w' A c []) := by
 have HK : Kept [] w w := Kept.refl [] w
 refine C.enter Tryd.func70 rfl Tryd.ntmps70 rfl ?_
 intro a0 f0
 have f1 : Fr 27 a0 [(0, .slice none 0 0), (1, .int .i64 n)] := f0
 refine C.sk fun K0 hK0 => ?_
 refine L.ag f1 fun a2 f2 => ?_
 refine wpList_nil (hK0 _ _ ?_)
 have f3 := f2.sub (sc 0 (sc 1 sn))
 refine wp_seq_k fun K1 hK1 => ?_
 refine C.sk fun K2 hK2 => ?_
 refine L.mv f3 fun a4 f4 => ?_
 refine L.va f4 (E.lss f4 rfl rfl) fun a5 f5 => ?_
 refine wpList_nil (hK2 _ _ ?_)
 have f6 := f5.sub (sc 0 (sc 1 (sc 6 sn)))
 clear f0 f1 a0 f2 f3 a2 f4 a4 f5
 refine f6.splitD 6 rfl (fun h0 f7 => ?_) (fun h0 f7 => ?_)
 ·clear f6
  exfalso
  omega
 refine C.condF f7 rfl ?_
 refine wp_skip (hK1 _ _ ?_)
 have f8 := f7.sub (sc 0 (sc 1 sn))
 refine wp_seq_k fun K3 hK3 => ?_
 refine C.sk fun K4 hK4 => ?_
 refine L.mv f8 fun a9 f9 => ?_
 refine L.mv f9 fun a10 f10 => ?_
 refine L.va f10 (E.capL f10 U22 rfl) fun a11 f11 => ?_
 refine L.mv f11 fun a12 f12 => ?_
 refine L.va f12 (E.lenL f12 U22 rfl) fun a13 f13 => ?_
 refine L.va f13 (E.sub f13 rfl rfl (IntWalk.i64_in _ (by omega))) fun a14 f14 => ?_
 clear f6 f7 f8 a5 f9 a9 f10 a10 f11 a11 f12 a12 f13 a13
 refine L.va f14 (E.sub f14 rfl rfl (IntWalk.i64_in _ (by omega))) fun a15 f15 => ?_
 refine L.ag f15 fun a16 f16 => ?_
 refine wpList_nil (hK4 _ _ ?_)
 have f17 := f16.sub (sc 0 (sc 1 sn))
 refine C.sk fun K5 hK5 => ?_
 refine L.mv f17 fun a18 f18 => ?_
 refine L.va f18 (E.gtr f18 rfl rfl) fun a19 f19 => ?_
 refine wpList_nil (hK5 _ _ ?_)
 have f20 := f19.sub (sc 0 (sc 1 (sc 16 sn)))
 clear f14 a14 f15 a15 f16 f17 a16 f18 a18 f19
 refine f20.splitD 16 rfl (fun h1 f21 => ?_) (fun h1 f21 => ?_)
 ·have hn0 : 0 < n := by omega
  refine C.condT f21 rfl ?_
  refine C.region ?_
  refine L.mv f21 fun a22 f22 => ?_
  refine L.mv f22 fun a23 f23 => ?_
  refine L.va f23 (E.capL f23 U22 rfl) fun a24 f24 => ?_
  refine L.va f24 (E.slLhi f24 U22 wsz5_wd rfl rfl (by decide) (by decide)) fun a25 f25 => ?_
  refine L.mv f25 fun a26 f26 => ?_
  refine L.appendZ f26 wantedN (by decide) U22 U3 wzib5_wd rfl rfl rfl rfl (m := n) (Own.nil _ _ _) (by omega) (by omega) (by omega) (by omega) (by omega) fun a27 w1 gz cz OZ loz kz f27 => ?_
  have szz := kz.size
  have lz : w.heap.size ≤ gz := Nat.le_trans HK.size loz
  replace HK := HK.trans kz (by simp)
  clear f20 f21 a19 f22 a22 f23 a23 f24 a24 f25 a25 f26 a26 kz
  refine L.mv f27 fun a28 f28 => ?_
  refine L.va f28 (E.lenL f28 U22 rfl) fun a29 f29 => ?_
  refine L.va f29 (E.slLhi f29 U22 wsz5_wd rfl rfl (by decide) (by omega)) fun a30 f30 => ?_
  refine L.ag f30 fun a31 f31 => ?_
  refine wpList_nil (hK3 _ _ ?_)
  have f32 := f31.sub (sc 0 sn)
  refine C.sk fun K6 hK6 => ?_
  refine L.mv f32 fun a33 f33 => ?_
  refine L.ag f33 fun a34 f34 => ?_
  refine wpList_nil (hK6 _ _ ?_)
  have f35 := f34.sub (sc 4 sn)
  clear f27 a27 f28 a28 f29 a29 f30 a30 f31 f32 a31 f33 a33 f34
  refine wp_ret ?_
  try simp only [Exit.inBlock, Exit.then]
  refine C.ret (P := Tryd.prog) (fn := Tryd.f70) f35 rfl rfl ?_
  have OH := OZ.head (k := 0) (by omega)
  exact ⟨HK, _, _, rfl, ⟨by simpa using OH, fun b hb => by simp at hb; omega⟩⟩
 refine C.condF f21 rfl ?_
 refine wp_skip (hK3 _ _ ?_)
 have f22 := f21.sub (sc 0 sn)
 refine C.sk fun K7 hK7 => ?_
 refine L.mv f22 fun a23 f23 => ?_
 refine L.ag f23 fun a24 f24 => ?_
 refine wpList_nil (hK7 _ _ ?_)
 have f25 := f24.sub (sc 4 sn)
 refine wp_ret ?_
 try simp only [Exit.inBlock, Exit.then]
 refine C.ret (P := Tryd.prog) (fn := Tryd.f70) f25 rfl rfl ?_
 exact ⟨HK, none, 0, rfl, FB.nil _ _⟩
set_option maxHeartbeats 1000000 in
theorem cat_any (R : List (Option Addr × Nat × List UInt8)) (A : Option Addr) (c : Nat) (w : World) (SR : Sl w A R.length 1 (R.map fun r => Value.slice r.1 r.2.2.length r.2.1)) (SE : ∀ r ∈ R, Sl w r.1 r.2.2.length 1 (r.2.2.map u8)) (hm : (R.flatMap fun r => r.2.2).length ≤ 1000000000000) (hR : R.length ≤ 1000000) : Calls Tryd.prog 39 #[.slice A R.length c] w (fun e w' => NewB (R.flatMap fun r => r.2.2) w e w') := by
 have HK : Kept [] w w := Kept.refl [] w
 refine C.enter Tryd.func39 rfl Tryd.ntmps39 rfl ?_
 intro a0 f0
 have f1 : Fr 36 a0 [(0, .slice A R.length c)] := f0
 refine C.sk fun K0 hK0 => ?_
 refine L.ag f1 fun a2 f2 => ?_
 refine wpList_nil (hK0 _ _ ?_)
 have f3 := f2.sub (sc 0 sn)
 refine C.sk fun K1 hK1 => ?_
 refine L.ag f3 fun a4 f4 => ?_
 refine wpList_nil (hK1 _ _ ?_)
 have f5 := f4.sub (sc 0 (sc 3 sn))
 refine wp_seq_k fun K2 hK2 => ?_
 refine C.sk fun K3 hK3 => ?_
 refine L.mv f5 fun a6 f6 => ?_
 refine L.va f6 (E.lenL f6 U45 rfl) fun a7 f7 => ?_
 refine L.mv f7 fun a8 f8 => ?_
 refine wpList_nil (hK3 _ _ ?_)
 have f9 := f8.sub (sc 0 (sc 3 (sc 9 (sc 10 (sc 11 sn)))))
 clear f0 f1 a0 f2 f3 a2 f4 f5 a4 f6 a6 f7 a7 f8
 refine wp_block ?_
 refine C.loop (fun gk a W => ∃ k : Nat, k + gk = R.length ∧ Kept [] w W ∧ Fr 36 a [(0, .slice A R.length c), (3, .int .i64 ((R.take k).flatMap fun r => r.2.2).length), (9, .slice A R.length c), (10, .int .i64 R.length), (11, .int .i64 k)]) (R.length) ?_ ?_
 ·exact ⟨0, by omega, HK, f9.sub (sub_cons rfl (sub_cons rfl (sub_cons rfl (sub_cons rfl (sub_cons rfl sn)))))⟩
 intro gk5 a10 w1 hI KL4 hKL4
 obtain ⟨k, hk, HK, f10⟩ := hI
 try clear f9
 refine C.sk fun K5 hK5 => ?_
 refine L.va f10 (E.lss f10 rfl rfl) fun a11 f11 => ?_
 refine wpList_nil (hK5 _ _ ?_)
 have f12 := f11.sub (sc 0 (sc 3 (sc 9 (sc 10 (sc 11 (sc 12 sn))))))
 refine wp_seq_k fun K6 hK6 => ?_
 clear f10 a10 f11
 refine f12.splitD 12 rfl (fun h0 f13 => ?_) (fun h0 f13 => ?_)
 ·obtain ⟨d, hd⟩ := some_at R k (by omega)
  obtain ⟨bk, off, hA⟩ := SR.addr (by omega)
  have hcell := row_cell SR hA hd
  have htk := flat_take1 hd
  have htl := flat_le (R := R) (k := k + 1)
  refine C.condT f13 rfl ?_
  refine wp_skip (hK6 _ _ ?_)
  have f14 := f13.sub (sc 0 (sc 3 (sc 9 (sc 10 (sc 11 sn)))))
  refine wp_seq_k fun K7 hK7 => ?_
  refine wp_block ?_
  refine C.sk fun K8 hK8 => ?_
  refine L.va f14 (E.indexA f14 (by assumption) U45 wsz22_wd rfl rfl (by omega) (by omega)) fun a15 f15 => ?_
  refine L.va f15 (by exact E.load f15 U22 rfl rfl (hcell _ HK)) fun a16 f16 => ?_
  refine L.ag f16 fun a17 f17 => ?_
  refine wpList_nil (hK8 _ _ ?_)
  have f18 := f17.sub (sc 0 (sc 3 (sc 5 (sc 9 (sc 10 (sc 11 sn))))))
  refine C.sk fun K9 hK9 => ?_
  refine L.mv f18 fun a19 f19 => ?_
  refine L.mv f19 fun a20 f20 => ?_
  refine L.va f20 (E.lenL f20 U22 rfl) fun a21 f21 => ?_
  clear f12 f13 f14 a11 f15 a15 f16 a16 f17 f18 a17 f19 a19 f20 a20
  refine L.va f21 (E.add f21 rfl rfl (IntWalk.i64_in _ (by omega))) fun a22 f22 => ?_
  refine L.ag f22 fun a23 f23 => ?_
  refine wpList_nil (hK9 _ _ ?_)
  have f24 := f23.sub (sc 0 (sc 3 (sc 9 (sc 10 (sc 11 sn)))))
  refine C.sk fun K10 hK10 => ?_
  refine L.mv f24 fun a25 f25 => ?_
  refine L.va f25 (E.lss f25 rfl rfl) fun a26 f26 => ?_
  have f27 := f26.as (i := 20) (v' := .bool false) rfl (by rw [decide_eq_false]; omega)
  refine wpList_nil (hK10 _ _ ?_)
  have f28 := f27.sub (sc 0 (sc 3 (sc 9 (sc 10 (sc 11 (sc 20 sn))))))
  refine C.condF f28 rfl ?_
  refine wp_skip (hK7 _ _ ?_)
  have f29 := f28.sub (sc 0 (sc 3 (sc 9 (sc 10 (sc 11 sn)))))
  refine C.region ?_
  refine L.va f29 (E.add f29 rfl rfl (IntWalk.i64_in _ (by omega))) fun a30 f30 => ?_
  clear f21 a21 f22 a22 f23 f24 a23 f25 a25 f26 f27 f28 f29 a26
  refine L.mv f30 fun a31 f31 => ?_
  clear f30 a30
  refine wpList_nil (hKL4 _ _ (gk5 - 1) ?_ ?_)
  ·omega
  exact ⟨k + 1, by omega, HK, f31.sub (sub_cons rfl (sub_cons (i := 3) (by rw [htk, Int.natCast_add]; rfl) (sub_cons rfl (sub_cons rfl (sub_cons rfl sn)))))⟩
 have htl := flat_le (R := R) (k := k)
 refine C.condF f13 rfl ?_
 refine wp_exit (hK2 _ _ ?_)
 have f14 := f13.sub (sc 0 (sc 3 sn))
 refine C.sk fun K11 hK11 => ?_
 refine L.mv f14 fun a15 f15 => ?_
 refine L.cl f15 (run_call Tryd.call70 (args2 f15 rfl rfl)) (grow_any _ _ (by omega)) ?_
 clear f12 f13 f14 a11
 rintro e w2 ⟨kc2, A2, c2, rfl, Q2⟩
 have FR := FB.lower Q2 HK.size
 clear Q2
 refine ⟨_, rfl, fun a16 f16 => ?_⟩
 have szw2 := kc2.size
 replace HK := HK.trans kc2 (by simp)
 clear f15 a15 kc2
 refine L.ag f16 fun a17 f17 => ?_
 refine wpList_nil (hK11 _ _ ?_)
 have f18 := f17.sub (sc 0 (sc 6 sn))
 refine wp_seq_k fun K12 hK12 => ?_
 refine C.sk fun K13 hK13 => ?_
 refine L.mv f18 fun a19 f19 => ?_
 refine L.va f19 (E.lenL f19 U45 rfl) fun a20 f20 => ?_
 refine L.mv f20 fun a21 f21 => ?_
 refine wpList_nil (hK13 _ _ ?_)
 have f22 := f21.sub (sc 6 (sc 25 (sc 26 (sc 27 sn))))
 refine wp_block ?_
 clear f16 a16 f17 f18 a17 f19 a19 f20 a20 f21
 refine C.loop (fun gk a W => ∃ (k : Nat) (A1 : Option Addr) (c1 : Nat) (l : List UInt8), k + gk = R.length ∧ Kept [] w W ∧ FB w W A1 c1 l ∧ l = (R.take k).flatMap (fun r => r.2.2) ∧ Fr 36 a [(6, .slice A1 l.length c1), (25, .slice A R.length c), (26, .int .i64 R.length), (27, .int .i64 k)]) (R.length) ?_ ?_
 ·exact ⟨0, _, _, [], by omega, HK, FR, by simp, f22.sub (sub_cons rfl (sub_cons rfl (sub_cons rfl (sub_cons rfl sn))))⟩
 intro gk15 a23 w3 hI KL14 hKL14
 obtain ⟨k, A1, c1, l, hk, HK, FL, hq, f23⟩ := hI
 try clear f22
 have hlk : l.length ≤ 1000000000000 := by rw [hq]; exact Nat.le_trans (flat_le (R := R) (k := k)) hm
 refine C.sk fun K15 hK15 => ?_
 refine L.va f23 (E.lss f23 rfl rfl) fun a24 f24 => ?_
 refine wpList_nil (hK15 _ _ ?_)
 have f25 := f24.sub (sc 6 (sc 25 (sc 26 (sc 27 (sc 28 sn)))))
 refine wp_seq_k fun K16 hK16 => ?_
 clear f23 a23 f24
 refine f25.splitD 28 rfl (fun h1 f26 => ?_) (fun h1 f26 => ?_)
 ·obtain ⟨d, hd⟩ := some_at R k (by omega)
  obtain ⟨bk, off, hA⟩ := SR.addr (by omega)
  have hcell := row_cell SR hA hd
  have htk := flat_take1 hd
  have htl := flat_le (R := R) (k := k + 1)
  refine C.condT f26 rfl ?_
  refine wp_skip (hK16 _ _ ?_)
  have f27 := f26.sub (sc 6 (sc 25 (sc 26 (sc 27 sn))))
  refine wp_seq_k fun K17 hK17 => ?_
  refine wp_block ?_
  refine C.sk fun K18 hK18 => ?_
  refine L.va f27 (E.indexA f27 (by assumption) U45 wsz22_wd rfl rfl (by omega) (by omega)) fun a28 f28 => ?_
  refine L.va f28 (by exact E.load f28 U22 rfl rfl (hcell _ HK)) fun a29 f29 => ?_
  refine L.ag f29 fun a30 f30 => ?_
  refine wpList_nil (hK18 _ _ ?_)
  have f31 := f30.sub (sc 6 (sc 8 (sc 25 (sc 26 (sc 27 sn)))))
  refine C.region ?_
  refine L.mv f31 fun a32 f32 => ?_
  refine L.mv f32 fun a33 f33 => ?_
  refine L.append f33 wantedN (by decide) U22 wzib5_wd rfl rfl rfl rfl FL.own ((SE d (List.mem_of_getElem? hd)).kept HK) (u8_one) (by (unfold maxLen; omega)) (by omega) fun a34 w4 A4 c4 AP4 f34 => ?_
  have FN4 := AP4.nextB FL HK.size (d.2.2) (rfl) (rfl)
  have kap4 := AP4.kept
  have szw4 := kap4.size
  replace HK := FL.rel HK kap4
  clear f25 f26 f27 a24 f28 a28 f29 a29 f30 f31 a30 f32 a32 f33 a33 kap4 AP4 FL
  have f35 := f34.as (i := 33) rfl (sl_lenF FN4 (rfl))
  refine L.ag f35 fun a36 f36 => ?_
  refine wpList_nil (hK17 _ _ ?_)
  have f37 := f36.sub (sc 6 (sc 25 (sc 26 (sc 27 sn))))
  refine C.region ?_
  refine L.va f37 (E.add f37 rfl rfl (IntWalk.i64_in _ (by omega))) fun a38 f38 => ?_
  refine L.mv f38 fun a39 f39 => ?_
  clear f34 f35 a34 f36 f37 a36 f38 a38
  refine wpList_nil (hKL14 _ _ (gk15 - 1) ?_ ?_)
  ·omega
  exact ⟨k + 1, _, _, _, by omega, HK, FN4, by rw [hq, flat_takeL hd], f39.sub (sub_cons rfl (sub_cons rfl (sub_cons rfl (sub_cons rfl sn))))⟩
 refine C.condF f26 rfl ?_
 refine wp_exit (hK12 _ _ ?_)
 have f27 := f26.sub (sc 6 sn)
 refine C.sk fun K19 hK19 => ?_
 refine L.mv f27 fun a28 f28 => ?_
 refine L.ag f28 fun a29 f29 => ?_
 refine wpList_nil (hK19 _ _ ?_)
 have f30 := f29.sub (sc 2 sn)
 refine wp_ret ?_
 try simp only [Exit.inBlock, Exit.then]
 refine C.ret (P := Tryd.prog) (fn := Tryd.f39) f30 rfl rfl ?_
 exact NewB.of HK FL (by rw [hq, List.take_of_length_le (by omega)])
set_option maxHeartbeats 1000000 in
theorem right_any (p : Pk) (s : Ad) (w : World) (IP : p.In w s) (hL : p.Len) (hT : Tabs w) : Calls Tryd.prog 19 #[.agg (p.cells s)] w (fun e w' => Kept [] w w' ∧ e = .returned (.bool (rightB p))) := by
 have HK : Kept [] w w := Kept.refl [] w
 refine C.enter Tryd.func19 rfl Tryd.ntmps19 rfl ?_
 intro a0 f0
 have f1 : Fr 22 a0 [(0, .agg (p.cells s))] := f0
 refine C.sk fun K0 hK0 => ?_
 refine L.box f1 wantedN (by decide) rfl rfl fun a2 w1 g0 N0 f2 => ?_
 have Bg0 := N0.blk
 have kg0 := N0.kept
 have log0 := N0.lo
 have ltg0 := Bg0.lt
 have szw1 := kg0.size
 have frg0 : w.heap.size ≤ g0 := Nat.le_trans HK.size log0
 replace HK := HK.trans kg0 (by simp)
 clear f0 N0 kg0
 refine L.ag f2 fun a3 f3 => ?_
 refine wpList_nil (hK0 _ _ ?_)
 have f4 := f3.sub (sc 1 sn)
 refine wp_seq_k fun K1 hK1 => ?_
 have hd1 : Kept [] w1 (w1.drewN 1) := (Kept.refl _ _).drewN 1
 refine R.beginT (S := fun W => (Kept [] w W) ∧ (Blk W g0 28 (p.cells s))) (by kernel_rfl) (by kernel_rfl) ⟨HK.trans hd1 (by simp), Bg0.kept hd1 (by simp)⟩ fun ht => ?_
 obtain ⟨w2, hww2⟩ : ∃ W, W = w1.drewN 1 := ⟨_, rfl⟩
 rw [← hww2] at hd1 ⊢
 clear f1 a0 f2 a2 f3 hww2
 have szw2 := hd1.size
 replace HK := HK.trans hd1 (by simp)
 replace Bg0 := Bg0.kept hd1 (by simp)
 clear hd1
 refine R.u 0 f4 rfl ht ⟨HK, Bg0⟩ (fun W hW => (E.fa 0 f4 U28 rfl wsz3_wd)) fun a5 f5 => ?_
 refine R.u 1 f5 rfl ht ⟨HK, Bg0⟩ (fun W hW => (by exact E.ld f5 U3 (hW.2))) fun a6 f6 => ?_
 refine R.call 2 f6 rfl rfl (by decide) (by kernel_rfl) wantedN (run_call Tryd.call44 (args3 f6 rfl rfl rfl)) (in_any _ _ _ _) ?_
 clear f4 a3 f5 a5
 rintro e w2x ⟨rfl, rfl⟩
 refine ⟨_, rfl, ⟨HK, Bg0⟩, fun a7 f7 => ?_⟩
 refine R.u 3 f7 rfl ht ⟨HK, Bg0⟩ (fun W hW => (E.move f7 rfl)) fun a8 f8 => ?_
 clear f6 a6 f7 a7
 refine f8.split 6 rfl (fun h0 f9 => ?_) (fun h0 f9 => ?_)
 ·refine R.u 4 f9 rfl ht ⟨HK, Bg0⟩ (fun W hW => (by exact E.loadB f9 U28 rfl wsz28_wd rfl (hW.2) rfl)) (hw := (f9.yes rfl rfl)) fun a10 f10 => ?_
  refine R.u 5 f10 rfl ht ⟨HK, Bg0⟩ (fun W hW => (by exact E.loadB f10 U28 rfl wsz28_wd rfl (hW.2) rfl)) (hw := (f10.yes rfl rfl)) fun a11 f11 => ?_
  refine R.call 6 f11 rfl rfl (by decide) (by kernel_rfl) (f11.yes rfl rfl) (run_call Tryd.call45 (args1 f11 rfl)) (bare_any p s _ (IP.kept HK)) ?_
  clear f8 f9 a8 f10 a10
  rintro e w3 ⟨kc3, tb, rfl, IB⟩
  have szw3 := kc3.size
  replace HK := HK.trans kc3 (by simp)
  replace Bg0 := Bg0.kept kc3 (by simp)
  refine ⟨_, rfl, ⟨HK, Bg0⟩, fun a12 f12 => ?_⟩
  clear f11 a11 kc3
  refine R.call 7 f12 rfl rfl (by decide) (by kernel_rfl) (f12.yes rfl rfl) (run_call Tryd.call21 (args2 f12 rfl rfl)) (same_any p (bareP p) s tb _ (IP.kept HK) IB hL.subs hL.codes) ?_
  rintro e w4 ⟨kc4, rfl⟩
  have szw4 := kc4.size
  replace HK := HK.trans kc4 (by simp)
  replace Bg0 := Bg0.kept kc4 (by simp)
  replace IB := IB.kept kc4
  refine ⟨_, rfl, ⟨HK, Bg0⟩, fun a13 f13 => ?_⟩
  clear f12 a12 kc4
  refine R.u 8 f13 rfl ht ⟨HK, Bg0⟩ (fun W hW => (E.pickT f13 rfl rfl)) fun a14 f14 => ?_
  refine R.u 9 f14 rfl ht ⟨HK, Bg0⟩ (fun W hW => (E.move f14 rfl)) fun a15 f15 => ?_
  clear f13 a13 f14 a14
  refine f15.split 12 rfl (fun h1 f16 => ?_) (fun h1 f16 => ?_)
  ·refine R.u 10 f16 rfl ht ⟨HK, Bg0⟩ (fun W hW => (by exact E.loadB f16 U28 rfl wsz28_wd rfl (hW.2) rfl)) (hw := (f16.yes rfl rfl)) fun a17 f17 => ?_
   refine R.call 11 f17 rfl rfl (by decide) (by kernel_rfl) (f17.yes rfl rfl) (run_call Tryd.call46 (args1 f17 rfl)) (val_any p s _ (IP.kept HK) (hT.old (HK.below (by simp) (Nat.le_refl _))) hL.subs hL.codes) ?_
   clear f15 f16 a15
   rintro e w5 ⟨kc5, rfl⟩
   have szw5 := kc5.size
   replace HK := HK.trans kc5 (by simp)
   replace Bg0 := Bg0.kept kc5 (by simp)
   replace IB := IB.kept kc5
   refine ⟨_, rfl, ⟨HK, Bg0⟩, fun a18 f18 => ?_⟩
   clear f17 a17 kc5
   refine R.u 12 f18 rfl ht ⟨HK, Bg0⟩ (fun W hW => (E.pickT f18 rfl rfl)) fun a19 f19 => ?_
   refine R.u 13 f19 rfl ht ⟨HK, Bg0⟩ (fun W hW => (E.move f19 rfl)) fun a20 f20 => ?_
   clear f18 a18 f19 a19
   refine f20.split 16 rfl (fun h2 f21 => ?_) (fun h2 f21 => ?_)
   ·have hval := h2
    refine R.u 14 f21 rfl ht ⟨HK, Bg0⟩ (fun W hW => (by exact E.loadB f21 U28 rfl wsz28_wd rfl (hW.2) rfl)) (hw := (f21.yes rfl rfl)) fun a22 f22 => ?_
    refine R.call 15 f22 rfl rfl (by decide) (by kernel_rfl) (f22.yes rfl rfl) (run_call Tryd.call37 (args1 f22 rfl)) (behind_any p s _ (IP.kept HK) hL (fun hk => val_wq hval hk)) ?_
    clear f20 f21 a20
    rintro e w6 ⟨kc6, A6, c6, rfl, Q6⟩
    have F6 := FB.lower Q6 HK.size
    clear Q6
    have szw6 := kc6.size
    replace HK := HK.trans kc6 (by simp)
    replace Bg0 := Bg0.kept kc6 (by simp)
    replace IB := IB.kept kc6
    refine ⟨_, rfl, ⟨HK, Bg0⟩, fun a23 f23 => ?_⟩
    clear f22 a22 kc6
    refine R.u 16 f23 rfl ht ⟨HK, Bg0⟩ (fun W hW => (E.lenL f23 U22 rfl)) (hw := (f23.yes rfl rfl)) fun a24 f24 => ?_
    refine R.u 17 f24 rfl ht ⟨HK, Bg0⟩ (fun W hW => (E.leq f24 rfl rfl)) (hw := (f24.yes rfl rfl)) fun a25 f25 => ?_
    refine R.u 18 f25 rfl ht ⟨HK, Bg0⟩ (fun W hW => (E.pickT f25 rfl rfl)) fun a26 f26 => ?_
    refine R.u 19 f26 rfl ht ⟨HK, Bg0⟩ (fun W hW => (E.assign f26 rfl)) fun a27 f27 => ?_
    refine R.done (by kernel_rfl) (hK1 _ _ ?_)
    have f28 := f27.sub (sc 2 sn)
    refine wp_ret ?_
    try simp only [Exit.inBlock, Exit.then]
    refine C.ret (P := Tryd.prog) (fn := Tryd.f19) f28 rfl rfl ?_
    exact ⟨HK, by unfold rightB; (simp [*]; omega)⟩
   refine R.runT [14, 15, 16, 17, 18, 19] #[true, true, true, true, true, true, true, true, true, true, true, true, true, true, true, true, true, true, true, true] f21 ht (fun _ _ _ _ h => h) ⟨HK, Bg0⟩ (by kernel_rfl) fun a22 f22 => ?_
   have f23 := f22.sub (sub_cons (i := 2) (v := .bool false) (by kernel_rfl) sn)
   refine R.done (by kernel_rfl) (hK1 _ _ ?_)
   have f24 := f23.sub (sc 2 sn)
   refine wp_ret ?_
   try simp only [Exit.inBlock, Exit.then]
   refine C.ret (P := Tryd.prog) (fn := Tryd.f19) f24 rfl rfl ?_
   exact ⟨HK, by unfold rightB; (simp [*]; done)⟩
  refine R.runT [10, 11, 12, 13, 14, 15, 16, 17, 18, 19] #[true, true, true, true, true, true, true, true, true, true, true, true, true, true, true, true, true, true, true, true] f16 ht (fun _ _ _ _ h => h) ⟨HK, Bg0⟩ (by kernel_rfl) fun a17 f17 => ?_
  have f18 := f17.sub (sub_cons (i := 2) (v := .bool false) (by kernel_rfl) sn)
  refine R.done (by kernel_rfl) (hK1 _ _ ?_)
  have f19 := f18.sub (sc 2 sn)
  refine wp_ret ?_
  try simp only [Exit.inBlock, Exit.then]
  refine C.ret (P := Tryd.prog) (fn := Tryd.f19) f19 rfl rfl ?_
  exact ⟨HK, by unfold rightB; (simp [*]; done)⟩
 refine R.runT [4, 5, 6, 7, 8, 9, 10, 11, 12, 13, 14, 15, 16, 17, 18, 19] #[true, true, true, true, true, true, true, true, true, true, true, true, true, true, true, true, true, true, true, true] f9 ht (fun _ _ _ _ h => h) ⟨HK, Bg0⟩ (by kernel_rfl) fun a10 f10 => ?_
 have f11 := f10.sub (sub_cons (i := 2) (v := .bool false) (by kernel_rfl) sn)
 refine R.done (by kernel_rfl) (hK1 _ _ ?_)
 have f12 := f11.sub (sc 2 sn)
 refine wp_ret ?_
 try simp only [Exit.inBlock, Exit.then]
 refine C.ret (P := Tryd.prog) (fn := Tryd.f19) f12 rfl rfl ?_
 exact ⟨HK, by unfold rightB; (simp [*]; done)⟩
set_option maxRecDepth 100000 in
set_option maxHeartbeats 8000000 in
theorem rightR_any (p : Pk) (s : Ad) (w : World) (IP : p.In w s) (hL : p.Len) (hT : Tabs w) : Calls Tryd.prog 20 #[.agg (p.cells s)] w (fun e w' => Kept [] w w' ∧ e = .returned (.bool (rightR p))) := by
 have HK : Kept [] w w := Kept.refl [] w
 refine C.enter Tryd.func20 rfl Tryd.ntmps20 rfl ?_
 intro a0 f0
 have f1 : Fr 201 a0 [(0, .agg (p.cells s))] := f0
 refine C.sk fun K0 hK0 => ?_
 refine L.box f1 wantedN (by decide) rfl rfl fun a2 w1 g0 N0 f2 => ?_
 have Bg0 := N0.blk
 have kg0 := N0.kept
 have log0 := N0.lo
 have ltg0 := Bg0.lt
 have szw1 := kg0.size
 have frg0 : w.heap.size ≤ g0 := Nat.le_trans HK.size log0
 replace HK := HK.trans kg0 (by simp)
 clear f0 N0 kg0
 refine L.ag f2 fun a3 f3 => ?_
 refine wpList_nil (hK0 _ _ ?_)
 have f4 := f3.sub (sc 1 sn)
 obtain ⟨J3, hJ3⟩ : ∃ J : Act → World → Prop, J = fun a W => Kept [] w W ∧ Blk W g0 28 (p.cells s) ∧ A1 p = true ∧ inB p.wq 0 2 = true ∧ Fr 201 a [(1, .pointer (some ⟨g0, 0, none⟩))] := ⟨_, rfl⟩
 clear f1 a0 f2 a2 f3
 refine C.cut J3 ?_ ?_
 ·as_aux_lemma =>
  refine wp_seq_k fun K1 hK1 => ?_
  have hd1 : Kept [] w1 (w1.drewN 1) := (Kept.refl _ _).drewN 1
  refine R.beginT (S := fun W => (Kept [] w W) ∧ (Blk W g0 28 (p.cells s))) (by kernel_rfl) (by kernel_rfl) ⟨HK.trans hd1 (by simp), Bg0.kept hd1 (by simp)⟩ fun ht => ?_
  obtain ⟨w2, hww2⟩ : ∃ W, W = w1.drewN 1 := ⟨_, rfl⟩
  rw [← hww2] at hd1 ⊢
  clear hww2
  have szw2 := hd1.size
  replace HK := HK.trans hd1 (by simp)
  replace Bg0 := Bg0.kept hd1 (by simp)
  clear hd1
  refine R.u 0 f4 rfl ht ⟨HK, Bg0⟩ (fun W hW => (E.fa 0 f4 U28 rfl wsz3_wd)) fun a5 f5 => ?_
  refine R.u 1 f5 rfl ht ⟨HK, Bg0⟩ (fun W hW => (by exact E.ld f5 U3 (hW.2))) fun a6 f6 => ?_
  refine R.call 2 f6 rfl rfl (by decide) (by kernel_rfl) wantedN (run_call Tryd.call47 (args3 f6 rfl rfl rfl)) (inR_any _ _ _ _) ?_
  clear f4 a3 f5 a5
  rintro e w2x ⟨rfl, rfl⟩
  refine ⟨_, rfl, ⟨HK, Bg0⟩, fun a7 f7 => ?_⟩
  refine R.u 3 f7 rfl ht ⟨HK, Bg0⟩ (fun W hW => (E.not f7 rfl)) fun a8 f8 => ?_
  refine R.u 4 f8 rfl ht ⟨HK, Bg0⟩ (fun W hW => (E.move f8 rfl)) fun a9 f9 => ?_
  clear f6 a6 f7 a7 f8 a8
  refine f9.splitNB 9 rfl (fun h0 f10 => ?_) (fun h0 f10 => ?_)
  ·as_aux_lemma =>
   refine R.runT [5, 6, 7, 8, 9, 10, 11, 12, 13, 14, 15, 16, 17, 18, 19, 20, 21, 22, 23, 24, 25, 26, 27, 28, 29, 30, 31, 32, 33, 34, 35, 36, 37, 38, 39, 40, 41, 42, 43, 44, 45, 46, 47, 48, 49, 50, 51, 52, 53, 54, 55, 56, 57, 58, 59, 60, 61, 62, 63, 64, 65, 66, 67, 68, 69, 70, 71] #[true, true, true, true, true, true, true, true, true, true, true, true, true, true, true, true, true, true, true, true, true, true, true, true, true, true, true, true, true, true, true, true, true, true, true, true, true, true, true, true, true, true, true, true, true, true, true, true, true, true, true, true, true, true, true, true, true, true, true, true, true, true, true, true, true, true, true, true, true, true, true, true] f10 ht (fun _ _ _ _ h => h) ⟨HK, Bg0⟩ (by kernel_rfl) fun a11 f11 => ?_
   have f12 := f11.sub (sub_cons (i := 1) (Fr.keptT f11 (by kernel_rfl) rfl) (sub_cons (i := 76) (v := .bool true) (by kernel_rfl) sn))
   refine R.done (by kernel_rfl) (hK1 _ _ ?_)
   have f13 := f12.sub (sc 1 (sc 76 sn))
   refine C.condT f13 rfl ?_
   refine C.sk fun K2 hK2 => ?_
   refine L.ag f13 fun a14 f14 => ?_
   refine wpList_nil (hK2 _ _ ?_)
   have f15 := f14.sub (sc 2 sn)
   refine wp_ret ?_
   try simp only [Exit.inBlock, Exit.then]
   refine C.ret (P := Tryd.prog) (fn := Tryd.f20) f15 rfl rfl ?_
   exact ⟨HK, by rw [rightR_eq]; (simp [A1, *]; done)⟩
  refine R.u 5 f10 rfl ht ⟨HK, Bg0⟩ (fun W hW => (by exact E.loadB f10 U28 rfl wsz28_wd rfl (hW.2) rfl)) (hw := (f10.yes rfl rfl)) fun a11 f11 => ?_
  refine R.u 6 f11 rfl ht ⟨HK, Bg0⟩ (fun W hW => (by exact E.loadB f11 U28 rfl wsz28_wd rfl (hW.2) rfl)) (hw := (f11.yes rfl rfl)) fun a12 f12 => ?_
  refine R.call 7 f12 rfl rfl (by decide) (by kernel_rfl) (f12.yes rfl rfl) (run_call Tryd.call48 (args1 f12 rfl)) (only_any p s _ (IP.kept HK)) ?_
  clear f9 f10 a9 f11 a11
  rintro e w3 ⟨kc3, tb, rfl, IB⟩
  have szw3 := kc3.size
  replace HK := HK.trans kc3 (by simp)
  replace Bg0 := Bg0.kept kc3 (by simp)
  refine ⟨_, rfl, ⟨HK, Bg0⟩, fun a13 f13 => ?_⟩
  clear f12 a12 kc3
  refine R.call 8 f13 rfl rfl (by decide) (by kernel_rfl) (f13.yes rfl rfl) (run_call Tryd.call22 (args2 f13 rfl rfl)) (sameR_any p (bareP p) s tb _ (IP.kept HK) IB hL.subs hL.codes) ?_
  rintro e w4 ⟨kc4, rfl⟩
  have szw4 := kc4.size
  replace HK := HK.trans kc4 (by simp)
  replace Bg0 := Bg0.kept kc4 (by simp)
  replace IB := IB.kept kc4
  refine ⟨_, rfl, ⟨HK, Bg0⟩, fun a14 f14 => ?_⟩
  clear f13 a13 kc4
  refine R.u 9 f14 rfl ht ⟨HK, Bg0⟩ (fun W hW => (E.not f14 rfl)) (hw := (f14.yes rfl rfl)) fun a15 f15 => ?_
  refine R.u 10 f15 rfl ht ⟨HK, Bg0⟩ (fun W hW => (E.pickF f15 rfl rfl)) fun a16 f16 => ?_
  refine R.u 11 f16 rfl ht ⟨HK, Bg0⟩ (fun W hW => (E.move f16 rfl)) fun a17 f17 => ?_
  clear f14 a14 f15 a15 f16 a16
  refine f17.splitNB 16 rfl (fun h1 f18 => ?_) (fun h1 f18 => ?_)
  ·as_aux_lemma =>
   refine R.runT [12, 13, 14, 15, 16, 17, 18, 19, 20, 21, 22, 23, 24, 25, 26, 27, 28, 29, 30, 31, 32, 33, 34, 35, 36, 37, 38, 39, 40, 41, 42, 43, 44, 45, 46, 47, 48, 49, 50, 51, 52, 53, 54, 55, 56, 57, 58, 59, 60, 61, 62, 63, 64, 65, 66, 67, 68, 69, 70, 71] #[true, true, true, true, true, true, true, true, true, true, true, true, true, true, true, true, true, true, true, true, true, true, true, true, true, true, true, true, true, true, true, true, true, true, true, true, true, true, true, true, true, true, true, true, true, true, true, true, true, true, true, true, true, true, true, true, true, true, true, true, true, true, true, true, true, true, true, true, true, true, true, true] f18 ht (fun _ _ _ _ h => h) ⟨HK, Bg0⟩ (by kernel_rfl) fun a19 f19 => ?_
   have f20 := f19.sub (sub_cons (i := 1) (Fr.keptT f19 (by kernel_rfl) rfl) (sub_cons (i := 76) (v := .bool true) (by kernel_rfl) sn))
   refine R.done (by kernel_rfl) (hK1 _ _ ?_)
   have f21 := f20.sub (sc 1 (sc 76 sn))
   refine C.condT f21 rfl ?_
   refine C.sk fun K3 hK3 => ?_
   refine L.ag f21 fun a22 f22 => ?_
   refine wpList_nil (hK3 _ _ ?_)
   have f23 := f22.sub (sc 2 sn)
   refine wp_ret ?_
   try simp only [Exit.inBlock, Exit.then]
   refine C.ret (P := Tryd.prog) (fn := Tryd.f20) f23 rfl rfl ?_
   exact ⟨HK, by rw [rightR_eq]; (simp [A1, *]; done)⟩
  refine R.u 12 f18 rfl ht ⟨HK, Bg0⟩ (fun W hW => (by exact E.loadB f18 U28 rfl wsz28_wd rfl (hW.2) rfl)) (hw := (f18.yes rfl rfl)) fun a19 f19 => ?_
  refine R.call 13 f19 rfl rfl (by decide) (by kernel_rfl) (f19.yes rfl rfl) (run_call Tryd.call49 (args1 f19 rfl)) (numR_any p s _) ?_
  clear f17 f18 a17
  rintro e w5 ⟨kc5, rfl⟩
  have szw5 := kc5.size
  replace HK := HK.trans kc5 (by simp)
  replace Bg0 := Bg0.kept kc5 (by simp)
  replace IB := IB.kept kc5
  refine ⟨_, rfl, ⟨HK, Bg0⟩, fun a20 f20 => ?_⟩
  clear f19 a19 kc5
  refine R.u 14 f20 rfl ht ⟨HK, Bg0⟩ (fun W hW => (E.move f20 rfl)) (hw := (f20.yes rfl rfl)) fun a21 f21 => ?_
  clear f20 a20
  refine f21.split 19 rfl (fun h2 f22 => ?_) (fun h2 f22 => ?_)
  ·as_aux_lemma =>
   refine R.u 15 f22 rfl ht ⟨HK, Bg0⟩ (fun W hW => (E.fa 4 f22 U28 rfl wsz3_wd)) (hw := (f22.yes rfl rfl)) fun a23 f23 => ?_
   refine R.u 16 f23 rfl ht ⟨HK, Bg0⟩ (fun W hW => (by exact E.ld f23 U3 (hW.2))) (hw := (f23.yes rfl rfl)) fun a24 f24 => ?_
   refine R.call 17 f24 rfl rfl (by decide) (by kernel_rfl) (f24.yes rfl rfl) (run_call Tryd.call47 (args3 f24 rfl rfl rfl)) (inR_any _ _ _ _) ?_
   clear f21 f22 a21 f23 a23
   rintro e w5x ⟨rfl, rfl⟩
   refine ⟨_, rfl, ⟨HK, Bg0⟩, fun a25 f25 => ?_⟩
   refine R.u 18 f25 rfl ht ⟨HK, Bg0⟩ (fun W hW => (E.not f25 rfl)) (hw := (f25.yes rfl rfl)) fun a26 f26 => ?_
   refine R.u 19 f26 rfl ht ⟨HK, Bg0⟩ (fun W hW => (E.pickT f26 rfl rfl)) (hw := (f26.yes rfl rfl)) fun a27 f27 => ?_
   refine R.u 20 f27 rfl ht ⟨HK, Bg0⟩ (fun W hW => (E.pickF f27 rfl rfl)) fun a28 f28 => ?_
   refine R.u 21 f28 rfl ht ⟨HK, Bg0⟩ (fun W hW => (E.move f28 rfl)) fun a29 f29 => ?_
   clear f24 a24 f25 a25 f26 a26 f27 a27 f28 a28
   refine f29.splitNB 26 rfl (fun h3 f30 => ?_) (fun h3 f30 => ?_)
   ·as_aux_lemma =>
    refine R.runT [22, 23, 24, 25, 26, 27, 28, 29, 30, 31, 32, 33, 34, 35, 36, 37, 38, 39, 40, 41, 42, 43, 44, 45, 46, 47, 48, 49, 50, 51, 52, 53, 54, 55, 56, 57, 58, 59, 60, 61, 62, 63, 64, 65, 66, 67, 68, 69, 70, 71] #[true, true, true, true, true, true, true, true, true, true, true, true, true, true, true, true, true, true, true, true, true, true, true, true, true, true, true, true, true, true, true, true, true, true, true, true, true, true, true, true, true, true, true, true, true, true, true, true, true, true, true, true, true, true, true, true, true, true, true, true, true, true, true, true, true, true, true, true, true, true, true, true] f30 ht (fun _ _ _ _ h => h) ⟨HK, Bg0⟩ (by kernel_rfl) fun a31 f31 => ?_
    have f32 := f31.sub (sub_cons (i := 1) (Fr.keptT f31 (by kernel_rfl) rfl) (sub_cons (i := 76) (v := .bool true) (by kernel_rfl) sn))
    refine R.done (by kernel_rfl) (hK1 _ _ ?_)
    have f33 := f32.sub (sc 1 (sc 76 sn))
    refine C.condT f33 rfl ?_
    refine C.sk fun K4 hK4 => ?_
    refine L.ag f33 fun a34 f34 => ?_
    refine wpList_nil (hK4 _ _ ?_)
    have f35 := f34.sub (sc 2 sn)
    refine wp_ret ?_
    try simp only [Exit.inBlock, Exit.then]
    refine C.ret (P := Tryd.prog) (fn := Tryd.f20) f35 rfl rfl ?_
    exact ⟨HK, by rw [rightR_eq]; (simp [A1, *]; done)⟩
   refine R.u 22 f30 rfl ht ⟨HK, Bg0⟩ (fun W hW => (E.fa 3 f30 U28 rfl wsz3_wd)) (hw := (f30.yes rfl rfl)) fun a31 f31 => ?_
   refine R.u 23 f31 rfl ht ⟨HK, Bg0⟩ (fun W hW => (by exact E.ld f31 U3 (hW.2))) (hw := (f31.yes rfl rfl)) fun a32 f32 => ?_
   refine R.call 24 f32 rfl rfl (by decide) (by kernel_rfl) (f32.yes rfl rfl) (run_call Tryd.call47 (args3 f32 rfl rfl rfl)) (inR_any _ _ _ _) ?_
   clear f29 f30 a29 f31 a31
   rintro e w5x ⟨rfl, rfl⟩
   refine ⟨_, rfl, ⟨HK, Bg0⟩, fun a33 f33 => ?_⟩
   refine R.u 25 f33 rfl ht ⟨HK, Bg0⟩ (fun W hW => (E.not f33 rfl)) (hw := (f33.yes rfl rfl)) fun a34 f34 => ?_
   refine R.u 26 f34 rfl ht ⟨HK, Bg0⟩ (fun W hW => (E.pickF f34 rfl rfl)) fun a35 f35 => ?_
   refine R.u 27 f35 rfl ht ⟨HK, Bg0⟩ (fun W hW => (E.move f35 rfl)) fun a36 f36 => ?_
   clear f32 a32 f33 a33 f34 a34 f35 a35
   refine f36.splitNB 32 rfl (fun h4 f37 => ?_) (fun h4 f37 => ?_)
   ·as_aux_lemma =>
    refine R.runT [28, 29, 30, 31, 32, 33, 34, 35, 36, 37, 38, 39, 40, 41, 42, 43, 44, 45, 46, 47, 48, 49, 50, 51, 52, 53, 54, 55, 56, 57, 58, 59, 60, 61, 62, 63, 64, 65, 66, 67, 68, 69, 70, 71] #[true, true, true, true, true, true, true, true, true, true, true, true, true, true, true, true, true, true, true, true, true, true, true, true, true, true, true, true, true, true, true, true, true, true, true, true, true, true, true, true, true, true, true, true, true, true, true, true, true, true, true, true, true, true, true, true, true, true, true, true, true, true, true, true, true, true, true, true, true, true, true, true] f37 ht (fun _ _ _ _ h => h) ⟨HK, Bg0⟩ (by kernel_rfl) fun a38 f38 => ?_
    have f39 := f38.sub (sub_cons (i := 1) (Fr.keptT f38 (by kernel_rfl) rfl) (sub_cons (i := 76) (v := .bool true) (by kernel_rfl) sn))
    refine R.done (by kernel_rfl) (hK1 _ _ ?_)
    have f40 := f39.sub (sc 1 (sc 76 sn))
    refine C.condT f40 rfl ?_
    refine C.sk fun K5 hK5 => ?_
    refine L.ag f40 fun a41 f41 => ?_
    refine wpList_nil (hK5 _ _ ?_)
    have f42 := f41.sub (sc 2 sn)
    refine wp_ret ?_
    try simp only [Exit.inBlock, Exit.then]
    refine C.ret (P := Tryd.prog) (fn := Tryd.f20) f42 rfl rfl ?_
    exact ⟨HK, by rw [rightR_eq]; (simp [A1, *]; done)⟩
   refine R.u 28 f37 rfl ht ⟨HK, Bg0⟩ (fun W hW => (E.fa 5 f37 U28 rfl wsz9_wd)) (hw := (f37.yes rfl rfl)) fun a38 f38 => ?_
   refine R.u 29 f38 rfl ht ⟨HK, Bg0⟩ (fun W hW => (by exact E.ld f38 U9 (hW.2))) (hw := (f38.yes rfl rfl)) fun a39 f39 => ?_
   refine R.call 30 f39 rfl rfl (by decide) (by kernel_rfl) (f39.yes rfl rfl) (run_call Tryd.call50 (args1 f39 rfl)) (textR_any _ _ (hT.old (HK.below (by simp) (Nat.le_refl _)))) ?_
   clear f36 f37 a36 f38 a38
   rintro e w6 ⟨kc6, rfl⟩
   have szw6 := kc6.size
   replace HK := HK.trans kc6 (by simp)
   replace Bg0 := Bg0.kept kc6 (by simp)
   replace IB := IB.kept kc6
   refine ⟨_, rfl, ⟨HK, Bg0⟩, fun a40 f40 => ?_⟩
   clear f39 a39 kc6
   refine R.u 31 f40 rfl ht ⟨HK, Bg0⟩ (fun W hW => (E.not f40 rfl)) (hw := (f40.yes rfl rfl)) fun a41 f41 => ?_
   refine R.u 32 f41 rfl ht ⟨HK, Bg0⟩ (fun W hW => (E.pickF f41 rfl rfl)) fun a42 f42 => ?_
   refine R.u 33 f42 rfl ht ⟨HK, Bg0⟩ (fun W hW => (E.move f42 rfl)) fun a43 f43 => ?_
   clear f40 a40 f41 a41 f42 a42
   refine f43.splitNB 38 rfl (fun h5 f44 => ?_) (fun h5 f44 => ?_)
   ·as_aux_lemma =>
    refine R.runT [34, 35, 36, 37, 38, 39, 40, 41, 42, 43, 44, 45, 46, 47, 48, 49, 50, 51, 52, 53, 54, 55, 56, 57, 58, 59, 60, 61, 62, 63, 64, 65, 66, 67, 68, 69, 70, 71] #[true, true, true, true, true, true, true, true, true, true, true, true, true, true, true, true, true, true, true, true, true, true, true, true, true, true, true, true, true, true, true, true, true, true, true, true, true, true, true, true, true, true, true, true, true, true, true, true, true, true, true, true, true, true, true, true, true, true, true, true, true, true, true, true, true, true, true, true, true, true, true, true] f44 ht (fun _ _ _ _ h => h) ⟨HK, Bg0⟩ (by kernel_rfl) fun a45 f45 => ?_
    have f46 := f45.sub (sub_cons (i := 1) (Fr.keptT f45 (by kernel_rfl) rfl) (sub_cons (i := 76) (v := .bool true) (by kernel_rfl) sn))
    refine R.done (by kernel_rfl) (hK1 _ _ ?_)
    have f47 := f46.sub (sc 1 (sc 76 sn))
    refine C.condT f47 rfl ?_
    refine C.sk fun K6 hK6 => ?_
    refine L.ag f47 fun a48 f48 => ?_
    refine wpList_nil (hK6 _ _ ?_)
    have f49 := f48.sub (sc 2 sn)
    refine wp_ret ?_
    try simp only [Exit.inBlock, Exit.then]
    refine C.ret (P := Tryd.prog) (fn := Tryd.f20) f49 rfl rfl ?_
    exact ⟨HK, by rw [rightR_eq]; (simp [A1, *]; done)⟩
   refine R.u 34 f44 rfl ht ⟨HK, Bg0⟩ (fun W hW => (E.fa 8 f44 U28 rfl wsz9_wd)) (hw := (f44.yes rfl rfl)) fun a45 f45 => ?_
   refine R.u 35 f45 rfl ht ⟨HK, Bg0⟩ (fun W hW => (by exact E.ld f45 U9 (hW.2))) (hw := (f45.yes rfl rfl)) fun a46 f46 => ?_
   refine R.call 36 f46 rfl rfl (by decide) (by kernel_rfl) (f46.yes rfl rfl) (run_call Tryd.call50 (args1 f46 rfl)) (textR_any _ _ (hT.old (HK.below (by simp) (Nat.le_refl _)))) ?_
   clear f43 f44 a43 f45 a45
   rintro e w7 ⟨kc7, rfl⟩
   have szw7 := kc7.size
   replace HK := HK.trans kc7 (by simp)
   replace Bg0 := Bg0.kept kc7 (by simp)
   replace IB := IB.kept kc7
   refine ⟨_, rfl, ⟨HK, Bg0⟩, fun a47 f47 => ?_⟩
   clear f46 a46 kc7
   refine R.u 37 f47 rfl ht ⟨HK, Bg0⟩ (fun W hW => (E.not f47 rfl)) (hw := (f47.yes rfl rfl)) fun a48 f48 => ?_
   refine R.u 38 f48 rfl ht ⟨HK, Bg0⟩ (fun W hW => (E.pickF f48 rfl rfl)) fun a49 f49 => ?_
   refine R.u 39 f49 rfl ht ⟨HK, Bg0⟩ (fun W hW => (E.move f49 rfl)) fun a50 f50 => ?_
   clear f47 a47 f48 a48 f49 a49
   refine f50.splitNB 44 rfl (fun h6 f51 => ?_) (fun h6 f51 => ?_)
   ·as_aux_lemma =>
    refine R.runT [40, 41, 42, 43, 44, 45, 46, 47, 48, 49, 50, 51, 52, 53, 54, 55, 56, 57, 58, 59, 60, 61, 62, 63, 64, 65, 66, 67, 68, 69, 70, 71] #[true, true, true, true, true, true, true, true, true, true, true, true, true, true, true, true, true, true, true, true, true, true, true, true, true, true, true, true, true, true, true, true, true, true, true, true, true, true, true, true, true, true, true, true, true, true, true, true, true, true, true, true, true, true, true, true, true, true, true, true, true, true, true, true, true, true, true, true, true, true, true, true] f51 ht (fun _ _ _ _ h => h) ⟨HK, Bg0⟩ (by kernel_rfl) fun a52 f52 => ?_
    have f53 := f52.sub (sub_cons (i := 1) (Fr.keptT f52 (by kernel_rfl) rfl) (sub_cons (i := 76) (v := .bool true) (by kernel_rfl) sn))
    refine R.done (by kernel_rfl) (hK1 _ _ ?_)
    have f54 := f53.sub (sc 1 (sc 76 sn))
    refine C.condT f54 rfl ?_
    refine C.sk fun K7 hK7 => ?_
    refine L.ag f54 fun a55 f55 => ?_
    refine wpList_nil (hK7 _ _ ?_)
    have f56 := f55.sub (sc 2 sn)
    refine wp_ret ?_
    try simp only [Exit.inBlock, Exit.then]
    refine C.ret (P := Tryd.prog) (fn := Tryd.f20) f56 rfl rfl ?_
    exact ⟨HK, by rw [rightR_eq]; (simp [A1, *]; done)⟩
   refine R.u 40 f51 rfl ht ⟨HK, Bg0⟩ (fun W hW => (E.fa 18 f51 U28 rfl wsz9_wd)) (hw := (f51.yes rfl rfl)) fun a52 f52 => ?_
   refine R.u 41 f52 rfl ht ⟨HK, Bg0⟩ (fun W hW => (by exact E.ld f52 U9 (hW.2))) (hw := (f52.yes rfl rfl)) fun a53 f53 => ?_
   refine R.call 42 f53 rfl rfl (by decide) (by kernel_rfl) (f53.yes rfl rfl) (run_call Tryd.call50 (args1 f53 rfl)) (textR_any _ _ (hT.old (HK.below (by simp) (Nat.le_refl _)))) ?_
   clear f50 f51 a50 f52 a52
   rintro e w8 ⟨kc8, rfl⟩
   have szw8 := kc8.size
   replace HK := HK.trans kc8 (by simp)
   replace Bg0 := Bg0.kept kc8 (by simp)
   replace IB := IB.kept kc8
   refine ⟨_, rfl, ⟨HK, Bg0⟩, fun a54 f54 => ?_⟩
   clear f53 a53 kc8
   refine R.u 43 f54 rfl ht ⟨HK, Bg0⟩ (fun W hW => (E.not f54 rfl)) (hw := (f54.yes rfl rfl)) fun a55 f55 => ?_
   refine R.u 44 f55 rfl ht ⟨HK, Bg0⟩ (fun W hW => (E.pickF f55 rfl rfl)) fun a56 f56 => ?_
   refine R.u 45 f56 rfl ht ⟨HK, Bg0⟩ (fun W hW => (E.move f56 rfl)) fun a57 f57 => ?_
   clear f54 a54 f55 a55 f56 a56
   refine f57.splitNB 50 rfl (fun h7 f58 => ?_) (fun h7 f58 => ?_)
   ·as_aux_lemma =>
    refine R.runT [46, 47, 48, 49, 50, 51, 52, 53, 54, 55, 56, 57, 58, 59, 60, 61, 62, 63, 64, 65, 66, 67, 68, 69, 70, 71] #[true, true, true, true, true, true, true, true, true, true, true, true, true, true, true, true, true, true, true, true, true, true, true, true, true, true, true, true, true, true, true, true, true, true, true, true, true, true, true, true, true, true, true, true, true, true, true, true, true, true, true, true, true, true, true, true, true, true, true, true, true, true, true, true, true, true, true, true, true, true, true, true] f58 ht (fun _ _ _ _ h => h) ⟨HK, Bg0⟩ (by kernel_rfl) fun a59 f59 => ?_
    have f60 := f59.sub (sub_cons (i := 1) (Fr.keptT f59 (by kernel_rfl) rfl) (sub_cons (i := 76) (v := .bool true) (by kernel_rfl) sn))
    refine R.done (by kernel_rfl) (hK1 _ _ ?_)
    have f61 := f60.sub (sc 1 (sc 76 sn))
    refine C.condT f61 rfl ?_
    refine C.sk fun K8 hK8 => ?_
    refine L.ag f61 fun a62 f62 => ?_
    refine wpList_nil (hK8 _ _ ?_)
    have f63 := f62.sub (sc 2 sn)
    refine wp_ret ?_
    try simp only [Exit.inBlock, Exit.then]
    refine C.ret (P := Tryd.prog) (fn := Tryd.f20) f63 rfl rfl ?_
    exact ⟨HK, by rw [rightR_eq]; (simp [A1, *]; done)⟩
   refine R.u 46 f58 rfl ht ⟨HK, Bg0⟩ (fun W hW => (E.fa 12 f58 U28 rfl wsz24_wd)) (hw := (f58.yes rfl rfl)) fun a59 f59 => ?_
   refine R.u 47 f59 rfl ht ⟨HK, Bg0⟩ (fun W hW => (E.fa 0 f59 U24 rfl wsz9_wd)) (hw := (f59.yes rfl rfl)) fun a60 f60 => ?_
   refine R.u 48 f60 rfl ht ⟨HK, Bg0⟩ (fun W hW => (by exact E.ld f60 U9 (hW.2))) (hw := (f60.yes rfl rfl)) fun a61 f61 => ?_
   refine R.call 49 f61 rfl rfl (by decide) (by kernel_rfl) (f61.yes rfl rfl) (run_call Tryd.call50 (args1 f61 rfl)) (textR_any _ _ (hT.old (HK.below (by simp) (Nat.le_refl _)))) ?_
   clear f57 f58 a57 f59 a59 f60 a60
   rintro e w9 ⟨kc9, rfl⟩
   have szw9 := kc9.size
   replace HK := HK.trans kc9 (by simp)
   replace Bg0 := Bg0.kept kc9 (by simp)
   replace IB := IB.kept kc9
   refine ⟨_, rfl, ⟨HK, Bg0⟩, fun a62 f62 => ?_⟩
   clear f61 a61 kc9
   refine R.u 50 f62 rfl ht ⟨HK, Bg0⟩ (fun W hW => (E.not f62 rfl)) (hw := (f62.yes rfl rfl)) fun a63 f63 => ?_
   refine R.u 51 f63 rfl ht ⟨HK, Bg0⟩ (fun W hW => (E.pickF f63 rfl rfl)) fun a64 f64 => ?_
   refine R.u 52 f64 rfl ht ⟨HK, Bg0⟩ (fun W hW => (E.move f64 rfl)) fun a65 f65 => ?_
   clear f62 a62 f63 a63 f64 a64
   refine f65.splitNB 57 rfl (fun h8 f66 => ?_) (fun h8 f66 => ?_)
   ·as_aux_lemma =>
    refine R.runT [53, 54, 55, 56, 57, 58, 59, 60, 61, 62, 63, 64, 65, 66, 67, 68, 69, 70, 71] #[true, true, true, true, true, true, true, true, true, true, true, true, true, true, true, true, true, true, true, true, true, true, true, true, true, true, true, true, true, true, true, true, true, true, true, true, true, true, true, true, true, true, true, true, true, true, true, true, true, true, true, true, true, true, true, true, true, true, true, true, true, true, true, true, true, true, true, true, true, true, true, true] f66 ht (fun _ _ _ _ h => h) ⟨HK, Bg0⟩ (by kernel_rfl) fun a67 f67 => ?_
    have f68 := f67.sub (sub_cons (i := 1) (Fr.keptT f67 (by kernel_rfl) rfl) (sub_cons (i := 76) (v := .bool true) (by kernel_rfl) sn))
    refine R.done (by kernel_rfl) (hK1 _ _ ?_)
    have f69 := f68.sub (sc 1 (sc 76 sn))
    refine C.condT f69 rfl ?_
    refine C.sk fun K9 hK9 => ?_
    refine L.ag f69 fun a70 f70 => ?_
    refine wpList_nil (hK9 _ _ ?_)
    have f71 := f70.sub (sc 2 sn)
    refine wp_ret ?_
    try simp only [Exit.inBlock, Exit.then]
    refine C.ret (P := Tryd.prog) (fn := Tryd.f20) f71 rfl rfl ?_
    exact ⟨HK, by rw [rightR_eq]; (simp [A1, *]; done)⟩
   refine R.u 53 f66 rfl ht ⟨HK, Bg0⟩ (fun W hW => (E.fa 12 f66 U28 rfl wsz24_wd)) (hw := (f66.yes rfl rfl)) fun a67 f67 => ?_
   refine R.u 54 f67 rfl ht ⟨HK, Bg0⟩ (fun W hW => (E.fa 2 f67 U24 rfl wsz3_wd)) (hw := (f67.yes rfl rfl)) fun a68 f68 => ?_
   refine R.u 55 f68 rfl ht ⟨HK, Bg0⟩ (fun W hW => (by exact E.ld f68 U3 (hW.2))) (hw := (f68.yes rfl rfl)) fun a69 f69 => ?_
   refine R.call 56 f69 rfl rfl (by decide) (by kernel_rfl) (f69.yes rfl rfl) (run_call Tryd.call47 (args3 f69 rfl rfl rfl)) (inR_any _ _ _ _) ?_
   clear f65 f66 a65 f67 a67 f68 a68
   rintro e w9x ⟨rfl, rfl⟩
   refine ⟨_, rfl, ⟨HK, Bg0⟩, fun a70 f70 => ?_⟩
   refine R.u 57 f70 rfl ht ⟨HK, Bg0⟩ (fun W hW => (E.not f70 rfl)) (hw := (f70.yes rfl rfl)) fun a71 f71 => ?_
   refine R.u 58 f71 rfl ht ⟨HK, Bg0⟩ (fun W hW => (E.pickF f71 rfl rfl)) fun a72 f72 => ?_
   refine R.u 59 f72 rfl ht ⟨HK, Bg0⟩ (fun W hW => (E.move f72 rfl)) fun a73 f73 => ?_
   clear f69 a69 f70 a70 f71 a71 f72 a72
   refine f73.splitNB 64 rfl (fun h9 f74 => ?_) (fun h9 f74 => ?_)
   ·as_aux_lemma =>
    refine R.runT [60, 61, 62, 63, 64, 65, 66, 67, 68, 69, 70, 71] #[true, true, true, true, true, true, true, true, true, true, true, true, true, true, true, true, true, true, true, true, true, true, true, true, true, true, true, true, true, true, true, true, true, true, true, true, true, true, true, true, true, true, true, true, true, true, true, true, true, true, true, true, true, true, true, true, true, true, true, true, true, true, true, true, true, true, true, true, true, true, true, true] f74 ht (fun _ _ _ _ h => h) ⟨HK, Bg0⟩ (by kernel_rfl) fun a75 f75 => ?_
    have f76 := f75.sub (sub_cons (i := 1) (Fr.keptT f75 (by kernel_rfl) rfl) (sub_cons (i := 76) (v := .bool true) (by kernel_rfl) sn))
    refine R.done (by kernel_rfl) (hK1 _ _ ?_)
    have f77 := f76.sub (sc 1 (sc 76 sn))
    refine C.condT f77 rfl ?_
    refine C.sk fun K10 hK10 => ?_
    refine L.ag f77 fun a78 f78 => ?_
    refine wpList_nil (hK10 _ _ ?_)
    have f79 := f78.sub (sc 2 sn)
    refine wp_ret ?_
    try simp only [Exit.inBlock, Exit.then]
    refine C.ret (P := Tryd.prog) (fn := Tryd.f20) f79 rfl rfl ?_
    exact ⟨HK, by rw [rightR_eq]; (simp [A1, *]; done)⟩
   refine R.u 60 f74 rfl ht ⟨HK, Bg0⟩ (fun W hW => (E.fa 12 f74 U28 rfl wsz24_wd)) (hw := (f74.yes rfl rfl)) fun a75 f75 => ?_
   refine R.u 61 f75 rfl ht ⟨HK, Bg0⟩ (fun W hW => (E.fa 1 f75 U24 rfl wsz22_wd)) (hw := (f75.yes rfl rfl)) fun a76 f76 => ?_
   refine R.u 62 f76 rfl ht ⟨HK, Bg0⟩ (fun W hW => (by exact E.ld f76 U22 (hW.2))) (hw := (f76.yes rfl rfl)) fun a77 f77 => ?_
   refine R.u 63 f77 rfl ht ⟨HK, Bg0⟩ (fun W hW => (E.lenL f77 U22 rfl)) (hw := (f77.yes rfl rfl)) fun a78 f78 => ?_
   refine R.u 64 f78 rfl ht ⟨HK, Bg0⟩ (fun W hW => (E.gtr f78 rfl rfl)) (hw := (f78.yes rfl rfl)) fun a79 f79 => ?_
   refine R.u 65 f79 rfl ht ⟨HK, Bg0⟩ (fun W hW => (E.pickF f79 rfl rfl)) fun a80 f80 => ?_
   refine R.u 66 f80 rfl ht ⟨HK, Bg0⟩ (fun W hW => (E.move f80 rfl)) fun a81 f81 => ?_
   clear f73 f74 a73 f75 a75 f76 a76 f77 a77 f78 a78 f79 a79 f80 a80
   refine f81.splitD 71 rfl (fun h10 f82 => ?_) (fun h10 f82 => ?_)
   ·as_aux_lemma =>
    have hlw : ¬ p.wp.length ≤ 65535 := by omega
    refine R.runT [67, 68, 69, 70, 71] #[true, true, true, true, true, true, true, true, true, true, true, true, true, true, true, true, true, true, true, true, true, true, true, true, true, true, true, true, true, true, true, true, true, true, true, true, true, true, true, true, true, true, true, true, true, true, true, true, true, true, true, true, true, true, true, true, true, true, true, true, true, true, true, true, true, true, true, true, true, true, true, true] f82 ht (fun _ _ _ _ h => h) ⟨HK, Bg0⟩ (by kernel_rfl) fun a83 f83 => ?_
    have f84 := f83.sub (sub_cons (i := 1) (Fr.keptT f83 (by kernel_rfl) rfl) (sub_cons (i := 76) (v := .bool true) (by kernel_rfl) sn))
    refine R.done (by kernel_rfl) (hK1 _ _ ?_)
    have f85 := f84.sub (sc 1 (sc 76 sn))
    refine C.condT f85 rfl ?_
    refine C.sk fun K11 hK11 => ?_
    refine L.ag f85 fun a86 f86 => ?_
    refine wpList_nil (hK11 _ _ ?_)
    have f87 := f86.sub (sc 2 sn)
    refine wp_ret ?_
    try simp only [Exit.inBlock, Exit.then]
    refine C.ret (P := Tryd.prog) (fn := Tryd.f20) f87 rfl rfl ?_
    exact ⟨HK, by rw [rightR_eq]; (simp [A1, *]; done)⟩
   have hlw : p.wp.length ≤ 65535 := by omega
   refine R.u 67 f82 rfl ht ⟨HK, Bg0⟩ (fun W hW => (E.fa 19 f82 U28 rfl wsz22_wd)) (hw := (f82.yes rfl rfl)) fun a83 f83 => ?_
   refine R.u 68 f83 rfl ht ⟨HK, Bg0⟩ (fun W hW => (by exact E.ld f83 U22 (hW.2))) (hw := (f83.yes rfl rfl)) fun a84 f84 => ?_
   refine R.u 69 f84 rfl ht ⟨HK, Bg0⟩ (fun W hW => (E.lenL f84 U22 rfl)) (hw := (f84.yes rfl rfl)) fun a85 f85 => ?_
   refine R.u 70 f85 rfl ht ⟨HK, Bg0⟩ (fun W hW => (E.gtr f85 rfl rfl)) (hw := (f85.yes rfl rfl)) fun a86 f86 => ?_
   refine R.u 71 f86 rfl ht ⟨HK, Bg0⟩ (fun W hW => (E.pickF f86 rfl rfl)) fun a87 f87 => ?_
   refine R.done (by kernel_rfl) (hK1 _ _ ?_)
   have f88 := f87.sub (sc 1 (sc 76 sn))
   clear f81 f82 a81 f83 a83 f84 a84 f85 a85 f86 a86 f87
   refine f88.splitD 76 rfl (fun h11 f89 => ?_) (fun h11 f89 => ?_)
   ·as_aux_lemma =>
    have hlp : ¬ p.pass.length ≤ 65535 := by omega
    refine C.condT f89 rfl ?_
    refine C.sk fun K12 hK12 => ?_
    refine L.ag f89 fun a90 f90 => ?_
    refine wpList_nil (hK12 _ _ ?_)
    have f91 := f90.sub (sc 2 sn)
    refine wp_ret ?_
    try simp only [Exit.inBlock, Exit.then]
    refine C.ret (P := Tryd.prog) (fn := Tryd.f20) f91 rfl rfl ?_
    exact ⟨HK, by rw [rightR_eq]; (simp [A1, *]; done)⟩
   have hlp : p.pass.length ≤ 65535 := by omega
   refine C.condF f89 rfl ?_
   exact wp_skip (then_of (J := J3) (Q := fun _ _ _ => True) (by rw [hJ3]; exact ⟨HK, Bg0, by simp [A1, *], by assumption, f89.sub (sub_cons rfl sn)⟩))
  refine R.runT [15, 16, 17, 18, 19, 20, 21] #[true, true, true, true, true, true, true, true, true, true, true, true, true, true, true, true, true, true, true, true, true, true, false, false, false, false, false, false, false, false, false, false, false, false, false, false, false, false, false, false, false, false, false, false, false, false, false, false, false, false, false, false, false, false, false, false, false, false, false, false, false, false, false, false, false, false, false, false, false, false, false, false] f22 ht (fun _ _ _ _ h => h) ⟨HK, Bg0⟩ (by kernel_rfl) fun a23 f23 => ?_
  have f24 := f23.sub (sub_cons (i := 1) (Fr.keptT f23 (by kernel_rfl) rfl) (sub_cons (i := 26) (v := .bool false) (by kernel_rfl) sn))
  refine R.u 22 f24 rfl ht ⟨HK, Bg0⟩ (fun W hW => (E.fa 3 f24 U28 rfl wsz3_wd)) (hw := (f24.yes rfl rfl)) fun a25 f25 => ?_
  refine R.u 23 f25 rfl ht ⟨HK, Bg0⟩ (fun W hW => (by exact E.ld f25 U3 (hW.2))) (hw := (f25.yes rfl rfl)) fun a26 f26 => ?_
  refine R.call 24 f26 rfl rfl (by decide) (by kernel_rfl) (f26.yes rfl rfl) (run_call Tryd.call47 (args3 f26 rfl rfl rfl)) (inR_any _ _ _ _) ?_
  clear f21 f23 f22 f24 a23 f25 a25
  rintro e w5x ⟨rfl, rfl⟩
  refine ⟨_, rfl, ⟨HK, Bg0⟩, fun a27 f27 => ?_⟩
  refine R.u 25 f27 rfl ht ⟨HK, Bg0⟩ (fun W hW => (E.not f27 rfl)) (hw := (f27.yes rfl rfl)) fun a28 f28 => ?_
  refine R.u 26 f28 rfl ht ⟨HK, Bg0⟩ (fun W hW => (E.pickF f28 rfl rfl)) fun a29 f29 => ?_
  refine R.u 27 f29 rfl ht ⟨HK, Bg0⟩ (fun W hW => (E.move f29 rfl)) fun a30 f30 => ?_
  clear f26 a26 f27 a27 f28 a28 f29 a29
  refine f30.splitNB 32 rfl (fun h12 f31 => ?_) (fun h12 f31 => ?_)
  ·as_aux_lemma =>
   refine R.runT [28, 29, 30, 31, 32, 33, 34, 35, 36, 37, 38, 39, 40, 41, 42, 43, 44, 45, 46, 47, 48, 49, 50, 51, 52, 53, 54, 55, 56, 57, 58, 59, 60, 61, 62, 63, 64, 65, 66, 67, 68, 69, 70, 71] #[true, true, true, true, true, true, true, true, true, true, true, true, true, true, true, true, true, true, true, true, true, true, true, true, true, true, true, true, true, true, true, true, true, true, true, true, true, true, true, true, true, true, true, true, true, true, true, true, true, true, true, true, true, true, true, true, true, true, true, true, true, true, true, true, true, true, true, true, true, true, true, true] f31 ht (fun _ _ _ _ h => h) ⟨HK, Bg0⟩ (by kernel_rfl) fun a32 f32 => ?_
   have f33 := f32.sub (sub_cons (i := 1) (Fr.keptT f32 (by kernel_rfl) rfl) (sub_cons (i := 76) (v := .bool true) (by kernel_rfl) sn))
   refine R.done (by kernel_rfl) (hK1 _ _ ?_)
   have f34 := f33.sub (sc 1 (sc 76 sn))
   refine C.condT f34 rfl ?_
   refine C.sk fun K13 hK13 => ?_
   refine L.ag f34 fun a35 f35 => ?_
   refine wpList_nil (hK13 _ _ ?_)
   have f36 := f35.sub (sc 2 sn)
   refine wp_ret ?_
   try simp only [Exit.inBlock, Exit.then]
   refine C.ret (P := Tryd.prog) (fn := Tryd.f20) f36 rfl rfl ?_
   exact ⟨HK, by rw [rightR_eq]; (simp [A1, *]; done)⟩
  refine R.u 28 f31 rfl ht ⟨HK, Bg0⟩ (fun W hW => (E.fa 5 f31 U28 rfl wsz9_wd)) (hw := (f31.yes rfl rfl)) fun a32 f32 => ?_
  refine R.u 29 f32 rfl ht ⟨HK, Bg0⟩ (fun W hW => (by exact E.ld f32 U9 (hW.2))) (hw := (f32.yes rfl rfl)) fun a33 f33 => ?_
  refine R.call 30 f33 rfl rfl (by decide) (by kernel_rfl) (f33.yes rfl rfl) (run_call Tryd.call50 (args1 f33 rfl)) (textR_any _ _ (hT.old (HK.below (by simp) (Nat.le_refl _)))) ?_
  clear f30 f31 a30 f32 a32
  rintro e w6 ⟨kc6, rfl⟩
  have szw6 := kc6.size
  replace HK := HK.trans kc6 (by simp)
  replace Bg0 := Bg0.kept kc6 (by simp)
  replace IB := IB.kept kc6
  refine ⟨_, rfl, ⟨HK, Bg0⟩, fun a34 f34 => ?_⟩
  clear f33 a33 kc6
  refine R.u 31 f34 rfl ht ⟨HK, Bg0⟩ (fun W hW => (E.not f34 rfl)) (hw := (f34.yes rfl rfl)) fun a35 f35 => ?_
  refine R.u 32 f35 rfl ht ⟨HK, Bg0⟩ (fun W hW => (E.pickF f35 rfl rfl)) fun a36 f36 => ?_
  refine R.u 33 f36 rfl ht ⟨HK, Bg0⟩ (fun W hW => (E.move f36 rfl)) fun a37 f37 => ?_
  clear f34 a34 f35 a35 f36 a36
  refine f37.splitNB 38 rfl (fun h13 f38 => ?_) (fun h13 f38 => ?_)
  ·as_aux_lemma =>
   refine R.runT [34, 35, 36, 37, 38, 39, 40, 41, 42, 43, 44, 45, 46, 47, 48, 49, 50, 51, 52, 53, 54, 55, 56, 57, 58, 59, 60, 61, 62, 63, 64, 65, 66, 67, 68, 69, 70, 71] #[true, true, true, true, true, true, true, true, true, true, true, true, true, true, true, true, true, true, true, true, true, true, true, true, true, true, true, true, true, true, true, true, true, true, true, true, true, true, true, true, true, true, true, true, true, true, true, true, true, true, true, true, true, true, true, true, true, true, true, true, true, true, true, true, true, true, true, true, true, true, true, true] f38 ht (fun _ _ _ _ h => h) ⟨HK, Bg0⟩ (by kernel_rfl) fun a39 f39 => ?_
   have f40 := f39.sub (sub_cons (i := 1) (Fr.keptT f39 (by kernel_rfl) rfl) (sub_cons (i := 76) (v := .bool true) (by kernel_rfl) sn))
   refine R.done (by kernel_rfl) (hK1 _ _ ?_)
   have f41 := f40.sub (sc 1 (sc 76 sn))
   refine C.condT f41 rfl ?_
   refine C.sk fun K14 hK14 => ?_
   refine L.ag f41 fun a42 f42 => ?_
   refine wpList_nil (hK14 _ _ ?_)
   have f43 := f42.sub (sc 2 sn)
   refine wp_ret ?_
   try simp only [Exit.inBlock, Exit.then]
   refine C.ret (P := Tryd.prog) (fn := Tryd.f20) f43 rfl rfl ?_
   exact ⟨HK, by rw [rightR_eq]; (simp [A1, *]; done)⟩
  refine R.u 34 f38 rfl ht ⟨HK, Bg0⟩ (fun W hW => (E.fa 8 f38 U28 rfl wsz9_wd)) (hw := (f38.yes rfl rfl)) fun a39 f39 => ?_
  refine R.u 35 f39 rfl ht ⟨HK, Bg0⟩ (fun W hW => (by exact E.ld f39 U9 (hW.2))) (hw := (f39.yes rfl rfl)) fun a40 f40 => ?_
  refine R.call 36 f40 rfl rfl (by decide) (by kernel_rfl) (f40.yes rfl rfl) (run_call Tryd.call50 (args1 f40 rfl)) (textR_any _ _ (hT.old (HK.below (by simp) (Nat.le_refl _)))) ?_
  clear f37 f38 a37 f39 a39
  rintro e w7 ⟨kc7, rfl⟩
  have szw7 := kc7.size
  replace HK := HK.trans kc7 (by simp)
  replace Bg0 := Bg0.kept kc7 (by simp)
  replace IB := IB.kept kc7
  refine ⟨_, rfl, ⟨HK, Bg0⟩, fun a41 f41 => ?_⟩
  clear f40 a40 kc7
  refine R.u 37 f41 rfl ht ⟨HK, Bg0⟩ (fun W hW => (E.not f41 rfl)) (hw := (f41.yes rfl rfl)) fun a42 f42 => ?_
  refine R.u 38 f42 rfl ht ⟨HK, Bg0⟩ (fun W hW => (E.pickF f42 rfl rfl)) fun a43 f43 => ?_
  refine R.u 39 f43 rfl ht ⟨HK, Bg0⟩ (fun W hW => (E.move f43 rfl)) fun a44 f44 => ?_
  clear f41 a41 f42 a42 f43 a43
  refine f44.splitNB 44 rfl (fun h14 f45 => ?_) (fun h14 f45 => ?_)
  ·as_aux_lemma =>
   refine R.runT [40, 41, 42, 43, 44, 45, 46, 47, 48, 49, 50, 51, 52, 53, 54, 55, 56, 57, 58, 59, 60, 61, 62, 63, 64, 65, 66, 67, 68, 69, 70, 71] #[true, true, true, true, true, true, true, true, true, true, true, true, true, true, true, true, true, true, true, true, true, true, true, true, true, true, true, true, true, true, true, true, true, true, true, true, true, true, true, true, true, true, true, true, true, true, true, true, true, true, true, true, true, true, true, true, true, true, true, true, true, true, true, true, true, true, true, true, true, true, true, true] f45 ht (fun _ _ _ _ h => h) ⟨HK, Bg0⟩ (by kernel_rfl) fun a46 f46 => ?_
   have f47 := f46.sub (sub_cons (i := 1) (Fr.keptT f46 (by kernel_rfl) rfl) (sub_cons (i := 76) (v := .bool true) (by kernel_rfl) sn))
   refine R.done (by kernel_rfl) (hK1 _ _ ?_)
   have f48 := f47.sub (sc 1 (sc 76 sn))
   refine C.condT f48 rfl ?_
   refine C.sk fun K15 hK15 => ?_
   refine L.ag f48 fun a49 f49 => ?_
   refine wpList_nil (hK15 _ _ ?_)
   have f50 := f49.sub (sc 2 sn)
   refine wp_ret ?_
   try simp only [Exit.inBlock, Exit.then]
   refine C.ret (P := Tryd.prog) (fn := Tryd.f20) f50 rfl rfl ?_
   exact ⟨HK, by rw [rightR_eq]; (simp [A1, *]; done)⟩
  refine R.u 40 f45 rfl ht ⟨HK, Bg0⟩ (fun W hW => (E.fa 18 f45 U28 rfl wsz9_wd)) (hw := (f45.yes rfl rfl)) fun a46 f46 => ?_
  refine R.u 41 f46 rfl ht ⟨HK, Bg0⟩ (fun W hW => (by exact E.ld f46 U9 (hW.2))) (hw := (f46.yes rfl rfl)) fun a47 f47 => ?_
  refine R.call 42 f47 rfl rfl (by decide) (by kernel_rfl) (f47.yes rfl rfl) (run_call Tryd.call50 (args1 f47 rfl)) (textR_any _ _ (hT.old (HK.below (by simp) (Nat.le_refl _)))) ?_
  clear f44 f45 a44 f46 a46
  rintro e w8 ⟨kc8, rfl⟩
  have szw8 := kc8.size
  replace HK := HK.trans kc8 (by simp)
  replace Bg0 := Bg0.kept kc8 (by simp)
  replace IB := IB.kept kc8
  refine ⟨_, rfl, ⟨HK, Bg0⟩, fun a48 f48 => ?_⟩
  clear f47 a47 kc8
  refine R.u 43 f48 rfl ht ⟨HK, Bg0⟩ (fun W hW => (E.not f48 rfl)) (hw := (f48.yes rfl rfl)) fun a49 f49 => ?_
  refine R.u 44 f49 rfl ht ⟨HK, Bg0⟩ (fun W hW => (E.pickF f49 rfl rfl)) fun a50 f50 => ?_
  refine R.u 45 f50 rfl ht ⟨HK, Bg0⟩ (fun W hW => (E.move f50 rfl)) fun a51 f51 => ?_
  clear f48 a48 f49 a49 f50 a50
  refine f51.splitNB 50 rfl (fun h15 f52 => ?_) (fun h15 f52 => ?_)
  ·as_aux_lemma =>
   refine R.runT [46, 47, 48, 49, 50, 51, 52, 53, 54, 55, 56, 57, 58, 59, 60, 61, 62, 63, 64, 65, 66, 67, 68, 69, 70, 71] #[true, true, true, true, true, true, true, true, true, true, true, true, true, true, true, true, true, true, true, true, true, true, true, true, true, true, true, true, true, true, true, true, true, true, true, true, true, true, true, true, true, true, true, true, true, true, true, true, true, true, true, true, true, true, true, true, true, true, true, true, true, true, true, true, true, true, true, true, true, true, true, true] f52 ht (fun _ _ _ _ h => h) ⟨HK, Bg0⟩ (by kernel_rfl) fun a53 f53 => ?_
   have f54 := f53.sub (sub_cons (i := 1) (Fr.keptT f53 (by kernel_rfl) rfl) (sub_cons (i := 76) (v := .bool true) (by kernel_rfl) sn))
   refine R.done (by kernel_rfl) (hK1 _ _ ?_)
   have f55 := f54.sub (sc 1 (sc 76 sn))
   refine C.condT f55 rfl ?_
   refine C.sk fun K16 hK16 => ?_
   refine L.ag f55 fun a56 f56 => ?_
   refine wpList_nil (hK16 _ _ ?_)
   have f57 := f56.sub (sc 2 sn)
   refine wp_ret ?_
   try simp only [Exit.inBlock, Exit.then]
   refine C.ret (P := Tryd.prog) (fn := Tryd.f20) f57 rfl rfl ?_
   exact ⟨HK, by rw [rightR_eq]; (simp [A1, *]; done)⟩
  refine R.u 46 f52 rfl ht ⟨HK, Bg0⟩ (fun W hW => (E.fa 12 f52 U28 rfl wsz24_wd)) (hw := (f52.yes rfl rfl)) fun a53 f53 => ?_
  refine R.u 47 f53 rfl ht ⟨HK, Bg0⟩ (fun W hW => (E.fa 0 f53 U24 rfl wsz9_wd)) (hw := (f53.yes rfl rfl)) fun a54 f54 => ?_
  refine R.u 48 f54 rfl ht ⟨HK, Bg0⟩ (fun W hW => (by exact E.ld f54 U9 (hW.2))) (hw := (f54.yes rfl rfl)) fun a55 f55 => ?_
  refine R.call 49 f55 rfl rfl (by decide) (by kernel_rfl) (f55.yes rfl rfl) (run_call Tryd.call50 (args1 f55 rfl)) (textR_any _ _ (hT.old (HK.below (by simp) (Nat.le_refl _)))) ?_
  clear f51 f52 a51 f53 a53 f54 a54
  rintro e w9 ⟨kc9, rfl⟩
  have szw9 := kc9.size
  replace HK := HK.trans kc9 (by simp)
  replace Bg0 := Bg0.kept kc9 (by simp)
  replace IB := IB.kept kc9
  refine ⟨_, rfl, ⟨HK, Bg0⟩, fun a56 f56 => ?_⟩
  clear f55 a55 kc9
  refine R.u 50 f56 rfl ht ⟨HK, Bg0⟩ (fun W hW => (E.not f56 rfl)) (hw := (f56.yes rfl rfl)) fun a57 f57 => ?_
  refine R.u 51 f57 rfl ht ⟨HK, Bg0⟩ (fun W hW => (E.pickF f57 rfl rfl)) fun a58 f58 => ?_
  refine R.u 52 f58 rfl ht ⟨HK, Bg0⟩ (fun W hW => (E.move f58 rfl)) fun a59 f59 => ?_
  clear f56 a56 f57 a57 f58 a58
  refine f59.splitNB 57 rfl (fun h16 f60 => ?_) (fun h16 f60 => ?_)
  ·as_aux_lemma =>
   refine R.runT [53, 54, 55, 56, 57, 58, 59, 60, 61, 62, 63, 64, 65, 66, 67, 68, 69, 70, 71] #[true, true, true, true, true, true, true, true, true, true, true, true, true, true, true, true, true, true, true, true, true, true, true, true, true, true, true, true, true, true, true, true, true, true, true, true, true, true, true, true, true, true, true, true, true, true, true, true, true, true, true, true, true, true, true, true, true, true, true, true, true, true, true, true, true, true, true, true, true, true, true, true] f60 ht (fun _ _ _ _ h => h) ⟨HK, Bg0⟩ (by kernel_rfl) fun a61 f61 => ?_
   have f62 := f61.sub (sub_cons (i := 1) (Fr.keptT f61 (by kernel_rfl) rfl) (sub_cons (i := 76) (v := .bool true) (by kernel_rfl) sn))
   refine R.done (by kernel_rfl) (hK1 _ _ ?_)
   have f63 := f62.sub (sc 1 (sc 76 sn))
   refine C.condT f63 rfl ?_
   refine C.sk fun K17 hK17 => ?_
   refine L.ag f63 fun a64 f64 => ?_
   refine wpList_nil (hK17 _ _ ?_)
   have f65 := f64.sub (sc 2 sn)
   refine wp_ret ?_
   try simp only [Exit.inBlock, Exit.then]
   refine C.ret (P := Tryd.prog) (fn := Tryd.f20) f65 rfl rfl ?_
   exact ⟨HK, by rw [rightR_eq]; (simp [A1, *]; done)⟩
  refine R.u 53 f60 rfl ht ⟨HK, Bg0⟩ (fun W hW => (E.fa 12 f60 U28 rfl wsz24_wd)) (hw := (f60.yes rfl rfl)) fun a61 f61 => ?_
  refine R.u 54 f61 rfl ht ⟨HK, Bg0⟩ (fun W hW => (E.fa 2 f61 U24 rfl wsz3_wd)) (hw := (f61.yes rfl rfl)) fun a62 f62 => ?_
  refine R.u 55 f62 rfl ht ⟨HK, Bg0⟩ (fun W hW => (by exact E.ld f62 U3 (hW.2))) (hw := (f62.yes rfl rfl)) fun a63 f63 => ?_
  refine R.call 56 f63 rfl rfl (by decide) (by kernel_rfl) (f63.yes rfl rfl) (run_call Tryd.call47 (args3 f63 rfl rfl rfl)) (inR_any _ _ _ _) ?_
  clear f59 f60 a59 f61 a61 f62 a62
  rintro e w9x ⟨rfl, rfl⟩
  refine ⟨_, rfl, ⟨HK, Bg0⟩, fun a64 f64 => ?_⟩
  refine R.u 57 f64 rfl ht ⟨HK, Bg0⟩ (fun W hW => (E.not f64 rfl)) (hw := (f64.yes rfl rfl)) fun a65 f65 => ?_
  refine R.u 58 f65 rfl ht ⟨HK, Bg0⟩ (fun W hW => (E.pickF f65 rfl rfl)) fun a66 f66 => ?_
  refine R.u 59 f66 rfl ht ⟨HK, Bg0⟩ (fun W hW => (E.move f66 rfl)) fun a67 f67 => ?_
  clear f63 a63 f64 a64 f65 a65 f66 a66
  refine f67.splitNB 64 rfl (fun h17 f68 => ?_) (fun h17 f68 => ?_)
  ·as_aux_lemma =>
   refine R.runT [60, 61, 62, 63, 64, 65, 66, 67, 68, 69, 70, 71] #[true, true, true, true, true, true, true, true, true, true, true, true, true, true, true, true, true, true, true, true, true, true, true, true, true, true, true, true, true, true, true, true, true, true, true, true, true, true, true, true, true, true, true, true, true, true, true, true, true, true, true, true, true, true, true, true, true, true, true, true, true, true, true, true, true, true, true, true, true, true, true, true] f68 ht (fun _ _ _ _ h => h) ⟨HK, Bg0⟩ (by kernel_rfl) fun a69 f69 => ?_
   have f70 := f69.sub (sub_cons (i := 1) (Fr.keptT f69 (by kernel_rfl) rfl) (sub_cons (i := 76) (v := .bool true) (by kernel_rfl) sn))
   refine R.done (by kernel_rfl) (hK1 _ _ ?_)
   have f71 := f70.sub (sc 1 (sc 76 sn))
   refine C.condT f71 rfl ?_
   refine C.sk fun K18 hK18 => ?_
   refine L.ag f71 fun a72 f72 => ?_
   refine wpList_nil (hK18 _ _ ?_)
   have f73 := f72.sub (sc 2 sn)
   refine wp_ret ?_
   try simp only [Exit.inBlock, Exit.then]
   refine C.ret (P := Tryd.prog) (fn := Tryd.f20) f73 rfl rfl ?_
   exact ⟨HK, by rw [rightR_eq]; (simp [A1, *]; done)⟩
  refine R.u 60 f68 rfl ht ⟨HK, Bg0⟩ (fun W hW => (E.fa 12 f68 U28 rfl wsz24_wd)) (hw := (f68.yes rfl rfl)) fun a69 f69 => ?_
  refine R.u 61 f69 rfl ht ⟨HK, Bg0⟩ (fun W hW => (E.fa 1 f69 U24 rfl wsz22_wd)) (hw := (f69.yes rfl rfl)) fun a70 f70 => ?_
  refine R.u 62 f70 rfl ht ⟨HK, Bg0⟩ (fun W hW => (by exact E.ld f70 U22 (hW.2))) (hw := (f70.yes rfl rfl)) fun a71 f71 => ?_
  refine R.u 63 f71 rfl ht ⟨HK, Bg0⟩ (fun W hW => (E.lenL f71 U22 rfl)) (hw := (f71.yes rfl rfl)) fun a72 f72 => ?_
  refine R.u 64 f72 rfl ht ⟨HK, Bg0⟩ (fun W hW => (E.gtr f72 rfl rfl)) (hw := (f72.yes rfl rfl)) fun a73 f73 => ?_
  refine R.u 65 f73 rfl ht ⟨HK, Bg0⟩ (fun W hW => (E.pickF f73 rfl rfl)) fun a74 f74 => ?_
  refine R.u 66 f74 rfl ht ⟨HK, Bg0⟩ (fun W hW => (E.move f74 rfl)) fun a75 f75 => ?_
  clear f67 f68 a67 f69 a69 f70 a70 f71 a71 f72 a72 f73 a73 f74 a74
  refine f75.splitD 71 rfl (fun h18 f76 => ?_) (fun h18 f76 => ?_)
  ·as_aux_lemma =>
   have hlw : ¬ p.wp.length ≤ 65535 := by omega
   refine R.runT [67, 68, 69, 70, 71] #[true, true, true, true, true, true, true, true, true, true, true, true, true, true, true, true, true, true, true, true, true, true, true, true, true, true, true, true, true, true, true, true, true, true, true, true, true, true, true, true, true, true, true, true, true, true, true, true, true, true, true, true, true, true, true, true, true, true, true, true, true, true, true, true, true, true, true, true, true, true, true, true] f76 ht (fun _ _ _ _ h => h) ⟨HK, Bg0⟩ (by kernel_rfl) fun a77 f77 => ?_
   have f78 := f77.sub (sub_cons (i := 1) (Fr.keptT f77 (by kernel_rfl) rfl) (sub_cons (i := 76) (v := .bool true) (by kernel_rfl) sn))
   refine R.done (by kernel_rfl) (hK1 _ _ ?_)
   have f79 := f78.sub (sc 1 (sc 76 sn))
   refine C.condT f79 rfl ?_
   refine C.sk fun K19 hK19 => ?_
   refine L.ag f79 fun a80 f80 => ?_
   refine wpList_nil (hK19 _ _ ?_)
   have f81 := f80.sub (sc 2 sn)
   refine wp_ret ?_
   try simp only [Exit.inBlock, Exit.then]
   refine C.ret (P := Tryd.prog) (fn := Tryd.f20) f81 rfl rfl ?_
   exact ⟨HK, by rw [rightR_eq]; (simp [A1, *]; done)⟩
  have hlw : p.wp.length ≤ 65535 := by omega
  refine R.u 67 f76 rfl ht ⟨HK, Bg0⟩ (fun W hW => (E.fa 19 f76 U28 rfl wsz22_wd)) (hw := (f76.yes rfl rfl)) fun a77 f77 => ?_
  refine R.u 68 f77 rfl ht ⟨HK, Bg0⟩ (fun W hW => (by exact E.ld f77 U22 (hW.2))) (hw := (f77.yes rfl rfl)) fun a78 f78 => ?_
  refine R.u 69 f78 rfl ht ⟨HK, Bg0⟩ (fun W hW => (E.lenL f78 U22 rfl)) (hw := (f78.yes rfl rfl)) fun a79 f79 => ?_
  refine R.u 70 f79 rfl ht ⟨HK, Bg0⟩ (fun W hW => (E.gtr f79 rfl rfl)) (hw := (f79.yes rfl rfl)) fun a80 f80 => ?_
  refine R.u 71 f80 rfl ht ⟨HK, Bg0⟩ (fun W hW => (E.pickF f80 rfl rfl)) fun a81 f81 => ?_
  refine R.done (by kernel_rfl) (hK1 _ _ ?_)
  have f82 := f81.sub (sc 1 (sc 76 sn))
  clear f75 f76 a75 f77 a77 f78 a78 f79 a79 f80 a80 f81
  refine f82.splitD 76 rfl (fun h19 f83 => ?_) (fun h19 f83 => ?_)
  ·as_aux_lemma =>
   have hlp : ¬ p.pass.length ≤ 65535 := by omega
   refine C.condT f83 rfl ?_
   refine C.sk fun K20 hK20 => ?_
   refine L.ag f83 fun a84 f84 => ?_
   refine wpList_nil (hK20 _ _ ?_)
   have f85 := f84.sub (sc 2 sn)
   refine wp_ret ?_
   try simp only [Exit.inBlock, Exit.then]
   refine C.ret (P := Tryd.prog) (fn := Tryd.f20) f85 rfl rfl ?_
   exact ⟨HK, by rw [rightR_eq]; (simp [A1, *]; done)⟩
  have hlp : p.pass.length ≤ 65535 := by omega
  refine C.condF f83 rfl ?_
  exact wp_skip (then_of (J := J3) (Q := fun _ _ _ => True) (by rw [hJ3]; exact ⟨HK, Bg0, by simp [A1, *], by assumption, f83.sub (sub_cons rfl sn)⟩))
 as_aux_lemma =>
 intro a5 w2 hj
 rw [hJ3] at hj
 clear hJ3 J3
 obtain ⟨HK, Bg0, hA1, hwq, f5⟩ := hj
 try clear f4
 obtain ⟨J5, hJ5⟩ : ∃ J : Act → World → Prop, J = fun a W => Kept [] w W ∧ Blk W g0 28 (p.cells s) ∧ A1 p = true ∧ inB p.wq 0 2 = true ∧ A2 p = true ∧ Fr 201 a [(1, .pointer (some ⟨g0, 0, none⟩))] := ⟨_, rfl⟩
 refine C.cut J5 ?_ ?_
 ·as_aux_lemma =>
  refine C.sk fun K21 hK21 => ?_
  refine L.fa 7 f5 U28 rfl wsz3_wd fun a6 f6 => ?_
  refine L.ld f6 U3 Bg0 fun a7 f7 => ?_
  refine L.cl f7 (run_call Tryd.call47 (args3 f7 rfl rfl rfl)) (inR_any _ _ _ _) ?_
  clear f5 a5 f6 a6
  rintro e w2x ⟨rfl, rfl⟩
  refine ⟨_, rfl, fun a8 f8 => ?_⟩
  refine L.va f8 (E.not f8 rfl) fun a9 f9 => ?_
  refine L.mv f9 fun a10 f10 => ?_
  clear f7 a7 f8 a8 f9 a9
  refine f10.splitNB 81 rfl (fun h20 f11 => ?_) (fun h20 f11 => ?_)
  ·as_aux_lemma =>
   refine L.run f11 (rest' := []) (by kernel_rfl) fun a12 f12 => ?_
   clear f10
   skip
   refine wpList_nil (hK21 _ _ ?_)
   have f13 := f12.sub (sub_cons (i := 1) (Fr.kept f12 (by kernel_rfl) rfl) (sub_cons (i := 110) (v := .bool true) (by kernel_rfl) sn))
   refine C.condT f13 rfl ?_
   refine C.sk fun K22 hK22 => ?_
   refine L.ag f13 fun a14 f14 => ?_
   refine wpList_nil (hK22 _ _ ?_)
   have f15 := f14.sub (sc 2 sn)
   refine wp_ret ?_
   try simp only [Exit.inBlock, Exit.then]
   refine C.ret (P := Tryd.prog) (fn := Tryd.f20) f15 rfl rfl ?_
   exact ⟨HK, by rw [rightR_eq]; (simp [A2, *]; done)⟩
  refine L.fa 10 f11 U28 rfl wsz3_wd (hw := (f11.yes rfl rfl)) fun a12 f12 => ?_
  refine L.ld f12 U3 Bg0 (hw := (f12.yes rfl rfl)) fun a13 f13 => ?_
  refine L.cl f13 (run_call Tryd.call47 (args3 f13 rfl rfl rfl)) (inR_any _ _ _ _) ?_ (hw := (f13.yes rfl rfl))
  clear f10 f11 a10 f12 a12
  rintro e w2x ⟨rfl, rfl⟩
  refine ⟨_, rfl, fun a14 f14 => ?_⟩
  refine L.va f14 (E.not f14 rfl) (hw := (f14.yes rfl rfl)) fun a15 f15 => ?_
  refine L.va f15 (E.pickF f15 rfl rfl) fun a16 f16 => ?_
  refine L.mv f16 fun a17 f17 => ?_
  clear f13 a13 f14 a14 f15 a15 f16 a16
  refine f17.splitNB 87 rfl (fun h21 f18 => ?_) (fun h21 f18 => ?_)
  ·as_aux_lemma =>
   refine L.run f18 (rest' := []) (by kernel_rfl) fun a19 f19 => ?_
   clear f17
   skip
   refine wpList_nil (hK21 _ _ ?_)
   have f20 := f19.sub (sub_cons (i := 1) (Fr.kept f19 (by kernel_rfl) rfl) (sub_cons (i := 110) (v := .bool true) (by kernel_rfl) sn))
   refine C.condT f20 rfl ?_
   refine C.sk fun K23 hK23 => ?_
   refine L.ag f20 fun a21 f21 => ?_
   refine wpList_nil (hK23 _ _ ?_)
   have f22 := f21.sub (sc 2 sn)
   refine wp_ret ?_
   try simp only [Exit.inBlock, Exit.then]
   refine C.ret (P := Tryd.prog) (fn := Tryd.f20) f22 rfl rfl ?_
   exact ⟨HK, by rw [rightR_eq]; (simp [A2, *]; done)⟩
  refine L.fa 17 f18 U28 rfl wsz4_wd (hw := (f18.yes rfl rfl)) fun a19 f19 => ?_
  refine L.ld f19 U4 Bg0 (hw := (f19.yes rfl rfl)) fun a20 f20 => ?_
  refine L.mv f20 (hw := (f20.yes rfl rfl)) fun a21 f21 => ?_
  clear f17 f18 a17 f19 a19 f20 a20
  refine f21.split 90 rfl (fun h22 f22 => ?_) (fun h22 f22 => ?_)
  ·as_aux_lemma =>
   refine L.fa 16 f22 U28 rfl wsz4_wd (hw := (f22.yes rfl rfl)) fun a23 f23 => ?_
   refine L.ld f23 U4 Bg0 (hw := (f23.yes rfl rfl)) fun a24 f24 => ?_
   refine L.va f24 (E.not f24 rfl) (hw := (f24.yes rfl rfl)) fun a25 f25 => ?_
   refine L.va f25 (E.pickT f25 rfl rfl) (hw := (f25.yes rfl rfl)) fun a26 f26 => ?_
   refine L.va f26 (E.pickF f26 rfl rfl) fun a27 f27 => ?_
   refine L.mv f27 fun a28 f28 => ?_
   clear f21 f22 a21 f23 a23 f24 a24 f25 a25 f26 a26 f27 a27
   refine f28.splitNB 96 rfl (fun h23 f29 => ?_) (fun h23 f29 => ?_)
   ·as_aux_lemma =>
    refine L.run f29 (rest' := []) (by kernel_rfl) fun a30 f30 => ?_
    clear f28
    skip
    refine wpList_nil (hK21 _ _ ?_)
    have f31 := f30.sub (sub_cons (i := 1) (Fr.kept f30 (by kernel_rfl) rfl) (sub_cons (i := 110) (v := .bool true) (by kernel_rfl) sn))
    refine C.condT f31 rfl ?_
    refine C.sk fun K24 hK24 => ?_
    refine L.ag f31 fun a32 f32 => ?_
    refine wpList_nil (hK24 _ _ ?_)
    have f33 := f32.sub (sc 2 sn)
    refine wp_ret ?_
    try simp only [Exit.inBlock, Exit.then]
    refine C.ret (P := Tryd.prog) (fn := Tryd.f20) f33 rfl rfl ?_
    exact ⟨HK, by rw [rightR_eq]; (simp [A2, *]; done)⟩
   refine L.fa 21 f29 U28 rfl wsz3_wd (hw := (f29.yes rfl rfl)) fun a30 f30 => ?_
   refine L.ld f30 U3 Bg0 (hw := (f30.yes rfl rfl)) fun a31 f31 => ?_
   refine L.cl f31 (run_call Tryd.call47 (args3 f31 rfl rfl rfl)) (inR_any _ _ _ _) ?_ (hw := (f31.yes rfl rfl))
   clear f28 f29 a28 f30 a30
   rintro e w2x ⟨rfl, rfl⟩
   refine ⟨_, rfl, fun a32 f32 => ?_⟩
   refine L.va f32 (E.not f32 rfl) (hw := (f32.yes rfl rfl)) fun a33 f33 => ?_
   refine L.va f33 (E.pickF f33 rfl rfl) fun a34 f34 => ?_
   refine L.mv f34 fun a35 f35 => ?_
   clear f31 a31 f32 a32 f33 a33 f34 a34
   refine f35.splitNB 102 rfl (fun h24 f36 => ?_) (fun h24 f36 => ?_)
   ·as_aux_lemma =>
    refine L.run f36 (rest' := []) (by kernel_rfl) fun a37 f37 => ?_
    clear f35
    skip
    refine wpList_nil (hK21 _ _ ?_)
    have f38 := f37.sub (sub_cons (i := 1) (Fr.kept f37 (by kernel_rfl) rfl) (sub_cons (i := 110) (v := .bool true) (by kernel_rfl) sn))
    refine C.condT f38 rfl ?_
    refine C.sk fun K25 hK25 => ?_
    refine L.ag f38 fun a39 f39 => ?_
    refine wpList_nil (hK25 _ _ ?_)
    have f40 := f39.sub (sc 2 sn)
    refine wp_ret ?_
    try simp only [Exit.inBlock, Exit.then]
    refine C.ret (P := Tryd.prog) (fn := Tryd.f20) f40 rfl rfl ?_
    exact ⟨HK, by rw [rightR_eq]; (simp [A2, *]; done)⟩
   refine L.fa 20 f36 U28 rfl wsz4_wd (hw := (f36.yes rfl rfl)) fun a37 f37 => ?_
   refine L.ld f37 U4 Bg0 (hw := (f37.yes rfl rfl)) fun a38 f38 => ?_
   refine L.mv f38 (hw := (f38.yes rfl rfl)) fun a39 f39 => ?_
   clear f35 f36 a35 f37 a37 f38 a38
   refine f39.split 105 rfl (fun h25 f40 => ?_) (fun h25 f40 => ?_)
   ·as_aux_lemma =>
    refine L.fa 21 f40 U28 rfl wsz3_wd (hw := (f40.yes rfl rfl)) fun a41 f41 => ?_
    refine L.ld f41 U3 Bg0 (hw := (f41.yes rfl rfl)) fun a42 f42 => ?_
    refine L.va f42 (E.neq f42 rfl rfl) (hw := (f42.yes rfl rfl)) fun a43 f43 => ?_
    refine L.va f43 (E.pickT f43 rfl rfl) (hw := (f43.yes rfl rfl)) fun a44 f44 => ?_
    refine L.va f44 (E.pickF f44 rfl rfl) fun a45 f45 => ?_
    refine wpList_nil (hK21 _ _ ?_)
    have f46 := f45.sub (sc 1 (sc 110 sn))
    clear f39 f40 a39 f41 a41 f42 a42 f43 a43 f44 a44 f45
    refine f46.splitN 110 rfl (fun h26 f47 => ?_) (fun h26 f47 => ?_)
    ·as_aux_lemma =>
     refine C.condT f47 rfl ?_
     refine C.sk fun K26 hK26 => ?_
     refine L.ag f47 fun a48 f48 => ?_
     refine wpList_nil (hK26 _ _ ?_)
     have f49 := f48.sub (sc 2 sn)
     refine wp_ret ?_
     try simp only [Exit.inBlock, Exit.then]
     refine C.ret (P := Tryd.prog) (fn := Tryd.f20) f49 rfl rfl ?_
     exact ⟨HK, by rw [rightR_eq]; (simp [A2, *]; done)⟩
    refine C.condF f47 rfl ?_
    exact wp_skip (then_of (J := J5) (Q := fun _ _ _ => True) (by rw [hJ5]; exact ⟨HK, Bg0, by assumption, by assumption, by (simp [A2, *]; decide), f47.sub (sub_cons rfl sn)⟩))
   refine L.run f40 (rest' := []) (by kernel_rfl) fun a41 f41 => ?_
   clear f39
   skip
   refine wpList_nil (hK21 _ _ ?_)
   have f42 := f41.sub (sub_cons (i := 1) (Fr.kept f41 (by kernel_rfl) rfl) (sub_cons (i := 110) (v := .bool false) (by kernel_rfl) sn))
   refine C.condF f42 rfl ?_
   exact wp_skip (then_of (J := J5) (Q := fun _ _ _ => True) (by rw [hJ5]; exact ⟨HK, Bg0, by assumption, by assumption, by (simp [A2, *]; done), f42.sub (sub_cons rfl sn)⟩))
  refine L.sk f22 (f22.noT rfl rfl) fun a23 f23 => ?_
  refine L.sk f23 (f23.noT rfl rfl) fun a24 f24 => ?_
  refine L.sk f24 (f24.noT rfl rfl) fun a25 f25 => ?_
  refine L.va f25 (E.pickF f25 rfl rfl) (hw := (f25.yes rfl rfl)) fun a26 f26 => ?_
  refine L.va f26 (E.pickF f26 rfl rfl) fun a27 f27 => ?_
  refine L.mv f27 fun a28 f28 => ?_
  refine L.fa 21 f28 U28 rfl wsz3_wd (hw := (f28.yes rfl rfl)) fun a29 f29 => ?_
  clear f21 f22 a21 f23 a23 f24 a24 f25 a25 f26 a26 f27 a27 f28 a28
  refine L.ld f29 U3 Bg0 (hw := (f29.yes rfl rfl)) fun a30 f30 => ?_
  refine L.cl f30 (run_call Tryd.call47 (args3 f30 rfl rfl rfl)) (inR_any _ _ _ _) ?_ (hw := (f30.yes rfl rfl))
  clear f29 a29
  rintro e w2x ⟨rfl, rfl⟩
  refine ⟨_, rfl, fun a31 f31 => ?_⟩
  refine L.va f31 (E.not f31 rfl) (hw := (f31.yes rfl rfl)) fun a32 f32 => ?_
  refine L.va f32 (E.pickF f32 rfl rfl) fun a33 f33 => ?_
  refine L.mv f33 fun a34 f34 => ?_
  clear f30 a30 f31 a31 f32 a32 f33 a33
  refine f34.splitNB 102 rfl (fun h27 f35 => ?_) (fun h27 f35 => ?_)
  ·as_aux_lemma =>
   refine L.run f35 (rest' := []) (by kernel_rfl) fun a36 f36 => ?_
   clear f34
   skip
   refine wpList_nil (hK21 _ _ ?_)
   have f37 := f36.sub (sub_cons (i := 1) (Fr.kept f36 (by kernel_rfl) rfl) (sub_cons (i := 110) (v := .bool true) (by kernel_rfl) sn))
   refine C.condT f37 rfl ?_
   refine C.sk fun K27 hK27 => ?_
   refine L.ag f37 fun a38 f38 => ?_
   refine wpList_nil (hK27 _ _ ?_)
   have f39 := f38.sub (sc 2 sn)
   refine wp_ret ?_
   try simp only [Exit.inBlock, Exit.then]
   refine C.ret (P := Tryd.prog) (fn := Tryd.f20) f39 rfl rfl ?_
   exact ⟨HK, by rw [rightR_eq]; (simp [A2, *]; done)⟩
  refine L.fa 20 f35 U28 rfl wsz4_wd (hw := (f35.yes rfl rfl)) fun a36 f36 => ?_
  refine L.ld f36 U4 Bg0 (hw := (f36.yes rfl rfl)) fun a37 f37 => ?_
  refine L.mv f37 (hw := (f37.yes rfl rfl)) fun a38 f38 => ?_
  clear f34 f35 a34 f36 a36 f37 a37
  refine f38.split 105 rfl (fun h28 f39 => ?_) (fun h28 f39 => ?_)
  ·as_aux_lemma =>
   refine L.fa 21 f39 U28 rfl wsz3_wd (hw := (f39.yes rfl rfl)) fun a40 f40 => ?_
   refine L.ld f40 U3 Bg0 (hw := (f40.yes rfl rfl)) fun a41 f41 => ?_
   refine L.va f41 (E.neq f41 rfl rfl) (hw := (f41.yes rfl rfl)) fun a42 f42 => ?_
   refine L.va f42 (E.pickT f42 rfl rfl) (hw := (f42.yes rfl rfl)) fun a43 f43 => ?_
   refine L.va f43 (E.pickF f43 rfl rfl) fun a44 f44 => ?_
   refine wpList_nil (hK21 _ _ ?_)
   have f45 := f44.sub (sc 1 (sc 110 sn))
   clear f38 f39 a38 f40 a40 f41 a41 f42 a42 f43 a43 f44
   refine f45.splitN 110 rfl (fun h29 f46 => ?_) (fun h29 f46 => ?_)
   ·as_aux_lemma =>
    refine C.condT f46 rfl ?_
    refine C.sk fun K28 hK28 => ?_
    refine L.ag f46 fun a47 f47 => ?_
    refine wpList_nil (hK28 _ _ ?_)
    have f48 := f47.sub (sc 2 sn)
    refine wp_ret ?_
    try simp only [Exit.inBlock, Exit.then]
    refine C.ret (P := Tryd.prog) (fn := Tryd.f20) f48 rfl rfl ?_
    exact ⟨HK, by rw [rightR_eq]; (simp [A2, *]; done)⟩
   refine C.condF f46 rfl ?_
   exact wp_skip (then_of (J := J5) (Q := fun _ _ _ => True) (by rw [hJ5]; exact ⟨HK, Bg0, by assumption, by assumption, by (simp [A2, *]; decide), f46.sub (sub_cons rfl sn)⟩))
  refine L.run f39 (rest' := []) (by kernel_rfl) fun a40 f40 => ?_
  clear f38
  skip
  refine wpList_nil (hK21 _ _ ?_)
  have f41 := f40.sub (sub_cons (i := 1) (Fr.kept f40 (by kernel_rfl) rfl) (sub_cons (i := 110) (v := .bool false) (by kernel_rfl) sn))
  refine C.condF f41 rfl ?_
  exact wp_skip (then_of (J := J5) (Q := fun _ _ _ => True) (by rw [hJ5]; exact ⟨HK, Bg0, by assumption, by assumption, by (simp [A2, *]; done), f41.sub (sub_cons rfl sn)⟩))
 as_aux_lemma =>
 intro a6 w3 hj
 rw [hJ5] at hj
 clear hJ5 J5
 obtain ⟨HK, Bg0, hA1, hwq, hA2, f6⟩ := hj
 try clear f5
 obtain ⟨J10, hJ10⟩ : ∃ J : Act → World → Prop, J = fun a W => Kept [] w W ∧ Blk W g0 28 (p.cells s) ∧ A1 p = true ∧ inB p.wq 0 2 = true ∧ A2 p = true ∧ subRB p = true ∧ Fr 201 a [(1, .pointer (some ⟨g0, 0, none⟩))] := ⟨_, rfl⟩
 refine C.cut J10 ?_ ?_
 ·as_aux_lemma =>
  refine C.sk fun K29 hK29 => ?_
  refine L.ag f6 fun a7 f7 => ?_
  refine wpList_nil (hK29 _ _ ?_)
  have f8 := f7.sub (sc 1 (sc 3 sn))
  refine wp_block ?_
  clear f6 a6 f7
  refine C.loop (fun gk a W => ∃ k : Nat, k + gk = p.subs.length ∧ Kept [] w W ∧ Blk W g0 28 (p.cells s) ∧ (∀ x ∈ p.subs.take k, (txB x.1 && inB x.2 0 2 && (!decide (p.kind = 10) || decide (x.2 = 0))) = true) ∧ Fr 201 a [(1, .pointer (some ⟨g0, 0, none⟩)), (3, .int .i64 k)]) (p.subs.length) ?_ ?_
  ·exact ⟨0, by omega, HK, Bg0, by simp, f8.sub (sub_cons rfl (sub_cons rfl sn))⟩
  intro gk31 a9 w4 hI KL30 hKL30
  obtain ⟨k, hk, HK, Bg0, hq0, f9⟩ := hI
  try clear f8
  refine wp_seq_k fun K31 hK31 => ?_
  refine C.sk fun K32 hK32 => ?_
  refine L.mv f9 fun a10 f10 => ?_
  refine L.fa 22 f10 U28 rfl wsz25_wd fun a11 f11 => ?_
  refine L.ld f11 U25 Bg0 fun a12 f12 => ?_
  refine L.va f12 (E.lenL f12 U25 rfl) fun a13 f13 => ?_
  refine L.va f13 (E.lss f13 rfl rfl) fun a14 f14 => ?_
  refine wpList_nil (hK32 _ _ ?_)
  have f15 := f14.sub (sc 1 (sc 3 (sc 115 sn)))
  clear f9 a9 f10 a10 f11 a11 f12 a12 f13 a13 f14
  refine f15.splitD 115 rfl (fun h30 f16 => ?_) (fun h30 f16 => ?_)
  ·as_aux_lemma =>
   have hL1_ := hL.subs
   obtain ⟨d, hd⟩ := some_at p.subs k (by omega)
   obtain ⟨bk, off, hA⟩ := IP.subs.addr (by omega)
   refine C.condT f16 rfl ?_
   refine wp_skip (hK31 _ _ ?_)
   have f17 := f16.sub (sc 1 (sc 3 sn))
   refine wp_seq_k fun K33 hK33 => ?_
   refine wp_block ?_
   refine C.sk fun K34 hK34 => ?_
   refine L.fa 22 f17 U28 rfl wsz25_wd fun a18 f18 => ?_
   refine L.ld f18 U25 Bg0 fun a19 f19 => ?_
   refine L.mv f19 fun a20 f20 => ?_
   refine L.va f20 (E.indexA f20 (by assumption) U25 wsz70_wd rfl rfl (by omega) (by omega)) fun a21 f21 => ?_
   refine L.fa 0 f21 U70 rfl wsz9_wd fun a22 f22 => ?_
   refine L.va f22 (by exact E.load f22 U9 rfl rfl (sub_cell0 (IP.subs.kept HK) hA hd)) fun a23 f23 => ?_
   clear f15 f16 f17 a14 f18 a18 f19 a19 f20 a20 f21 a21 f22 a22
   refine L.cl f23 (run_call Tryd.call50 (args1 f23 rfl)) (textR_any _ _ (hT.old (HK.below (by simp) (Nat.le_refl _)))) ?_
   rintro e w5 ⟨kc5, rfl⟩
   refine ⟨_, rfl, fun a24 f24 => ?_⟩
   have szw5 := kc5.size
   replace HK := HK.trans kc5 (by simp)
   replace Bg0 := Bg0.kept kc5 (by simp)
   clear f23 a23 kc5
   refine L.va f24 (E.not f24 rfl) fun a25 f25 => ?_
   refine L.mv f25 fun a26 f26 => ?_
   clear f24 a24 f25 a25
   refine f26.splitNB 126 rfl (fun h31 f27 => ?_) (fun h31 f27 => ?_)
   ·as_aux_lemma =>
    refine L.run f27 (rest' := []) (by kernel_rfl) fun a28 f28 => ?_
    clear f26
    skip
    refine wpList_nil (hK34 _ _ ?_)
    have f29 := f28.sub (sub_cons (i := 1) (Fr.kept f28 (by kernel_rfl) rfl) (sub_cons (i := 3) (Fr.kept f28 (by kernel_rfl) rfl) (sub_cons (i := 149) (v := .bool true) (by kernel_rfl) sn)))
    refine C.condT f29 rfl ?_
    refine C.sk fun K35 hK35 => ?_
    refine L.ag f29 fun a30 f30 => ?_
    refine wpList_nil (hK35 _ _ ?_)
    have f31 := f30.sub (sc 2 sn)
    refine wp_ret ?_
    try simp only [Exit.inBlock, Exit.then]
    refine C.ret (P := Tryd.prog) (fn := Tryd.f20) f31 rfl rfl ?_
    exact ⟨HK, by rw [rightR_eq]; (have hsf : subRB p = false := List.all_eq_false.2 ⟨d, List.mem_of_getElem? hd, by simp [*]⟩; simp [hsf]; done)⟩
   refine L.fa 22 f27 U28 rfl wsz25_wd (hw := (f27.yes rfl rfl)) fun a28 f28 => ?_
   refine L.ld f28 U25 Bg0 (hw := (f28.yes rfl rfl)) fun a29 f29 => ?_
   refine L.mv f29 (hw := (f29.yes rfl rfl)) fun a30 f30 => ?_
   refine L.va f30 (E.indexA f30 (by assumption) U25 wsz70_wd rfl rfl (by omega) (by omega)) (hw := (f30.yes rfl rfl)) fun a31 f31 => ?_
   refine L.fa 1 f31 U70 rfl wsz3_wd (hw := (f31.yes rfl rfl)) fun a32 f32 => ?_
   refine L.va f32 (by exact E.load f32 U3 rfl rfl (sub_cell1 (IP.subs.kept HK) hA hd)) (hw := (f32.yes rfl rfl)) fun a33 f33 => ?_
   refine L.cl f33 (run_call Tryd.call47 (args3 f33 rfl rfl rfl)) (inR_any _ _ _ _) ?_ (hw := (f33.yes rfl rfl))
   clear f26 f27 a26 f28 a28 f29 a29 f30 a30 f31 a31 f32 a32
   rintro e w5x ⟨rfl, rfl⟩
   refine ⟨_, rfl, fun a34 f34 => ?_⟩
   refine L.va f34 (E.not f34 rfl) (hw := (f34.yes rfl rfl)) fun a35 f35 => ?_
   refine L.va f35 (E.pickF f35 rfl rfl) fun a36 f36 => ?_
   refine L.mv f36 fun a37 f37 => ?_
   clear f33 a33 f34 a34 f35 a35 f36 a36
   refine f37.splitNB 136 rfl (fun h32 f38 => ?_) (fun h32 f38 => ?_)
   ·as_aux_lemma =>
    refine L.run f38 (rest' := []) (by kernel_rfl) fun a39 f39 => ?_
    clear f37
    skip
    refine wpList_nil (hK34 _ _ ?_)
    have f40 := f39.sub (sub_cons (i := 1) (Fr.kept f39 (by kernel_rfl) rfl) (sub_cons (i := 3) (Fr.kept f39 (by kernel_rfl) rfl) (sub_cons (i := 149) (v := .bool true) (by kernel_rfl) sn)))
    refine C.condT f40 rfl ?_
    refine C.sk fun K36 hK36 => ?_
    refine L.ag f40 fun a41 f41 => ?_
    refine wpList_nil (hK36 _ _ ?_)
    have f42 := f41.sub (sc 2 sn)
    refine wp_ret ?_
    try simp only [Exit.inBlock, Exit.then]
    refine C.ret (P := Tryd.prog) (fn := Tryd.f20) f42 rfl rfl ?_
    exact ⟨HK, by rw [rightR_eq]; (have hsf : subRB p = false := List.all_eq_false.2 ⟨d, List.mem_of_getElem? hd, by simp [*]⟩; simp [hsf]; done)⟩
   refine L.fa 0 f38 U28 rfl wsz3_wd (hw := (f38.yes rfl rfl)) fun a39 f39 => ?_
   refine L.ld f39 U3 Bg0 (hw := (f39.yes rfl rfl)) fun a40 f40 => ?_
   refine L.va f40 (E.eq f40) (hw := (f40.yes rfl rfl)) fun a41 f41 => ?_
   refine L.mv f41 (hw := (f41.yes rfl rfl)) fun a42 f42 => ?_
   clear f37 f38 a37 f39 a39 f40 a40 f41 a41
   refine f42.splitD 140 rfl (fun h33 f43 => ?_) (fun h33 f43 => ?_)
   ·as_aux_lemma =>
    refine L.fa 22 f43 U28 rfl wsz25_wd (hw := (f43.yes rfl rfl)) fun a44 f44 => ?_
    refine L.ld f44 U25 Bg0 (hw := (f44.yes rfl rfl)) fun a45 f45 => ?_
    refine L.mv f45 (hw := (f45.yes rfl rfl)) fun a46 f46 => ?_
    refine L.va f46 (E.indexA f46 (by assumption) U25 wsz70_wd rfl rfl (by omega) (by omega)) (hw := (f46.yes rfl rfl)) fun a47 f47 => ?_
    refine L.fa 1 f47 U70 rfl wsz3_wd (hw := (f47.yes rfl rfl)) fun a48 f48 => ?_
    refine L.va f48 (by exact E.load f48 U3 rfl rfl (sub_cell1 (IP.subs.kept HK) hA hd)) (hw := (f48.yes rfl rfl)) fun a49 f49 => ?_
    refine L.va f49 (E.neq f49 rfl rfl) (hw := (f49.yes rfl rfl)) fun a50 f50 => ?_
    clear f42 f43 a42 f44 a44 f45 a45 f46 a46 f47 a47 f48 a48 f49 a49
    refine L.va f50 (E.pickT f50 rfl rfl) (hw := (f50.yes rfl rfl)) fun a51 f51 => ?_
    refine L.va f51 (E.pickF f51 rfl rfl) fun a52 f52 => ?_
    refine wpList_nil (hK34 _ _ ?_)
    have f53 := f52.sub (sc 1 (sc 3 (sc 149 sn)))
    clear f50 a50 f51 a51 f52
    refine f53.splitN 149 rfl (fun h34 f54 => ?_) (fun h34 f54 => ?_)
    ·as_aux_lemma =>
     refine C.condT f54 rfl ?_
     refine C.sk fun K37 hK37 => ?_
     refine L.ag f54 fun a55 f55 => ?_
     refine wpList_nil (hK37 _ _ ?_)
     have f56 := f55.sub (sc 2 sn)
     refine wp_ret ?_
     try simp only [Exit.inBlock, Exit.then]
     refine C.ret (P := Tryd.prog) (fn := Tryd.f20) f56 rfl rfl ?_
     have hsf : subRB p = false := List.all_eq_false.2 ⟨d, List.mem_of_getElem? hd, by simp [*]⟩
     exact ⟨HK, by rw [rightR_eq]; simp [hsf]⟩
    refine C.condF f54 rfl ?_
    refine wp_skip (hK33 _ _ ?_)
    have f55 := f54.sub (sc 1 (sc 3 sn))
    refine C.region ?_
    refine L.mv f55 fun a56 f56 => ?_
    refine L.va f56 (E.add f56 rfl rfl (IntWalk.i64_in _ (by omega))) fun a57 f57 => ?_
    refine L.ag f57 fun a58 f58 => ?_
    clear f53 f54 f55 a52 f56 a56 f57 a57
    refine wpList_nil (hKL30 _ _ (gk31 - 1) ?_ ?_)
    ·omega
    exact ⟨k + 1, by omega, HK, Bg0, in_take hq0 hd (by (simp [*]; decide)), f58.sub (sub_cons rfl (sub_cons rfl sn))⟩
   refine L.run f43 (rest' := []) (by kernel_rfl) fun a44 f44 => ?_
   clear f42
   skip
   refine wpList_nil (hK34 _ _ ?_)
   have f45 := f44.sub (sub_cons (i := 1) (Fr.kept f44 (by kernel_rfl) rfl) (sub_cons (i := 3) (Fr.kept f44 (by kernel_rfl) rfl) (sub_cons (i := 149) (v := .bool false) (by kernel_rfl) sn)))
   refine C.condF f45 rfl ?_
   refine wp_skip (hK33 _ _ ?_)
   have f46 := f45.sub (sc 1 (sc 3 sn))
   refine C.region ?_
   refine L.mv f46 fun a47 f47 => ?_
   refine L.va f47 (E.add f47 rfl rfl (IntWalk.i64_in _ (by omega))) fun a48 f48 => ?_
   refine L.ag f48 fun a49 f49 => ?_
   clear f44 f43 f45 f46 a44 f47 a47 f48 a48
   refine wpList_nil (hKL30 _ _ (gk31 - 1) ?_ ?_)
   ·omega
   exact ⟨k + 1, by omega, HK, Bg0, in_take hq0 hd (by (simp [*]; done)), f49.sub (sub_cons rfl (sub_cons rfl sn))⟩
  have hsub : subRB p = true := List.all_eq_true.2 (all_take hq0 (by omega))
  refine C.condF f16 rfl ?_
  exact wp_exit (then_of (J := J10) (Q := fun _ _ _ => True) (by rw [hJ10]; exact ⟨HK, Bg0, by assumption, by assumption, by assumption, hsub, f16.sub (sub_cons rfl sn)⟩))
 as_aux_lemma =>
 intro a7 w4 hj
 rw [hJ10] at hj
 clear hJ10 J10
 obtain ⟨HK, Bg0, hA1, hwq, hA2, hsub, f7⟩ := hj
 try clear f6
 obtain ⟨J15, hJ15⟩ : ∃ J : Act → World → Prop, J = fun a W => Kept [] w W ∧ Blk W g0 28 (p.cells s) ∧ A1 p = true ∧ inB p.wq 0 2 = true ∧ A2 p = true ∧ subRB p = true ∧ codB p.codes = true ∧ Fr 201 a [(1, .pointer (some ⟨g0, 0, none⟩))] := ⟨_, rfl⟩
 refine C.cut J15 ?_ ?_
 ·as_aux_lemma =>
  refine C.sk fun K38 hK38 => ?_
  refine L.ag f7 fun a8 f8 => ?_
  refine wpList_nil (hK38 _ _ ?_)
  have f9 := f8.sub (sc 1 (sc 4 sn))
  refine wp_block ?_
  clear f7 a7 f8
  refine C.loop (fun gk a W => ∃ k : Nat, k + gk = p.codes.length ∧ Kept [] w W ∧ Blk W g0 28 (p.cells s) ∧ (∀ x ∈ p.codes.take k, (inB x 0 2 || decide (x = 128)) = true) ∧ Fr 201 a [(1, .pointer (some ⟨g0, 0, none⟩)), (4, .int .i64 k)]) (p.codes.length) ?_ ?_
  ·exact ⟨0, by omega, HK, Bg0, by simp, f9.sub (sub_cons rfl (sub_cons rfl sn))⟩
  intro gk40 a10 w5 hI KL39 hKL39
  obtain ⟨k, hk, HK, Bg0, hq1, f10⟩ := hI
  try clear f9
  refine wp_seq_k fun K40 hK40 => ?_
  refine C.sk fun K41 hK41 => ?_
  refine L.mv f10 fun a11 f11 => ?_
  refine L.fa 23 f11 U28 rfl wsz26_wd fun a12 f12 => ?_
  refine L.ld f12 U26 Bg0 fun a13 f13 => ?_
  refine L.va f13 (E.lenL f13 U26 rfl) fun a14 f14 => ?_
  refine L.va f14 (E.lss f14 rfl rfl) fun a15 f15 => ?_
  refine wpList_nil (hK41 _ _ ?_)
  have f16 := f15.sub (sc 1 (sc 4 (sc 154 sn)))
  clear f10 a10 f11 a11 f12 a12 f13 a13 f14 a14 f15
  refine f16.splitD 154 rfl (fun h35 f17 => ?_) (fun h35 f17 => ?_)
  ·as_aux_lemma =>
   have hL2_ := hL.codes
   obtain ⟨d, hd⟩ := some_at p.codes k (by omega)
   obtain ⟨bk, off, hA⟩ := IP.codes.addr (by omega)
   refine C.condT f17 rfl ?_
   refine wp_skip (hK40 _ _ ?_)
   have f18 := f17.sub (sc 1 (sc 4 sn))
   refine wp_seq_k fun K42 hK42 => ?_
   refine wp_block ?_
   refine C.sk fun K43 hK43 => ?_
   refine L.fa 23 f18 U28 rfl wsz26_wd fun a19 f19 => ?_
   refine L.ld f19 U26 Bg0 fun a20 f20 => ?_
   refine L.mv f20 fun a21 f21 => ?_
   refine L.va f21 (E.indexA f21 (by assumption) U26 wsz3_wd rfl rfl (by omega) (by omega)) fun a22 f22 => ?_
   refine L.va f22 (by exact E.load f22 U3 rfl rfl (code_cell1 (IP.codes.kept HK) hA hd)) fun a23 f23 => ?_
   refine L.cl f23 (run_call Tryd.call47 (args3 f23 rfl rfl rfl)) (inR_any _ _ _ _) ?_
   clear f16 f17 f18 a15 f19 a19 f20 a20 f21 a21 f22 a22
   rintro e w5x ⟨rfl, rfl⟩
   refine ⟨_, rfl, fun a24 f24 => ?_⟩
   refine L.va f24 (E.not f24 rfl) fun a25 f25 => ?_
   refine L.mv f25 fun a26 f26 => ?_
   clear f23 a23 f24 a24 f25 a25
   refine f26.splitNB 164 rfl (fun h36 f27 => ?_) (fun h36 f27 => ?_)
   ·as_aux_lemma =>
    refine L.fa 23 f27 U28 rfl wsz26_wd (hw := (f27.yes rfl rfl)) fun a28 f28 => ?_
    refine L.ld f28 U26 Bg0 (hw := (f28.yes rfl rfl)) fun a29 f29 => ?_
    refine L.mv f29 (hw := (f29.yes rfl rfl)) fun a30 f30 => ?_
    refine L.va f30 (E.indexA f30 (by assumption) U26 wsz3_wd rfl rfl (by omega) (by omega)) (hw := (f30.yes rfl rfl)) fun a31 f31 => ?_
    refine L.va f31 (by exact E.load f31 U3 rfl rfl (code_cell1 (IP.codes.kept HK) hA hd)) (hw := (f31.yes rfl rfl)) fun a32 f32 => ?_
    refine L.va f32 (E.neq f32 rfl rfl) (hw := (f32.yes rfl rfl)) fun a33 f33 => ?_
    refine L.va f33 (E.pickT f33 rfl rfl) fun a34 f34 => ?_
    clear f26 f27 a26 f28 a28 f29 a29 f30 a30 f31 a31 f32 a32 f33 a33
    refine wpList_nil (hK43 _ _ ?_)
    have f35 := f34.sub (sc 1 (sc 4 (sc 171 sn)))
    clear f34
    refine f35.splitN 171 rfl (fun h37 f36 => ?_) (fun h37 f36 => ?_)
    ·as_aux_lemma =>
     refine C.condT f36 rfl ?_
     refine C.sk fun K44 hK44 => ?_
     refine L.ag f36 fun a37 f37 => ?_
     refine wpList_nil (hK44 _ _ ?_)
     have f38 := f37.sub (sc 2 sn)
     refine wp_ret ?_
     try simp only [Exit.inBlock, Exit.then]
     refine C.ret (P := Tryd.prog) (fn := Tryd.f20) f38 rfl rfl ?_
     have hcf : codB p.codes = false := codB_f (List.mem_of_getElem? hd) (by simp [*])
     exact ⟨HK, by rw [rightR_eq]; simp [hcf]⟩
    refine C.condF f36 rfl ?_
    refine wp_skip (hK42 _ _ ?_)
    have f37 := f36.sub (sc 1 (sc 4 sn))
    refine C.region ?_
    refine L.mv f37 fun a38 f38 => ?_
    refine L.va f38 (E.add f38 rfl rfl (IntWalk.i64_in _ (by omega))) fun a39 f39 => ?_
    refine L.ag f39 fun a40 f40 => ?_
    clear f35 f36 f37 a34 f38 a38 f39 a39
    refine wpList_nil (hKL39 _ _ (gk40 - 1) ?_ ?_)
    ·omega
    exact ⟨k + 1, by omega, HK, Bg0, in_take hq1 hd (by (simp [*]; done)), f40.sub (sub_cons rfl (sub_cons rfl sn))⟩
   refine L.run f27 (rest' := []) (by kernel_rfl) fun a28 f28 => ?_
   clear f26
   skip
   refine wpList_nil (hK43 _ _ ?_)
   have f29 := f28.sub (sub_cons (i := 1) (Fr.kept f28 (by kernel_rfl) rfl) (sub_cons (i := 4) (Fr.kept f28 (by kernel_rfl) rfl) (sub_cons (i := 171) (v := .bool false) (by kernel_rfl) sn)))
   refine C.condF f29 rfl ?_
   refine wp_skip (hK42 _ _ ?_)
   have f30 := f29.sub (sc 1 (sc 4 sn))
   refine C.region ?_
   refine L.mv f30 fun a31 f31 => ?_
   refine L.va f31 (E.add f31 rfl rfl (IntWalk.i64_in _ (by omega))) fun a32 f32 => ?_
   refine L.ag f32 fun a33 f33 => ?_
   clear f28 f27 f29 f30 a28 f31 a31 f32 a32
   refine wpList_nil (hKL39 _ _ (gk40 - 1) ?_ ?_)
   ·omega
   exact ⟨k + 1, by omega, HK, Bg0, in_take hq1 hd (by (simp [*]; done)), f33.sub (sub_cons rfl (sub_cons rfl sn))⟩
  have hcod : codB p.codes = true := codB_t (all_take hq1 (by omega))
  refine C.condF f17 rfl ?_
  exact wp_exit (then_of (J := J15) (Q := fun _ _ _ => True) (by rw [hJ15]; exact ⟨HK, Bg0, by assumption, by assumption, by assumption, by assumption, hcod, f17.sub (sub_cons rfl sn)⟩))
 as_aux_lemma =>
 intro a8 w5 hj
 rw [hJ15] at hj
 clear hJ15 J15
 obtain ⟨HK, Bg0, hA1, hwq, hA2, hsub, hcod, f8⟩ := hj
 try clear f7
 obtain ⟨J17, hJ17⟩ : ∃ J : Act → World → Prop, J = fun a W => Kept [] w W ∧ Blk W g0 28 (p.cells s) ∧ A1 p = true ∧ inB p.wq 0 2 = true ∧ A2 p = true ∧ subRB p = true ∧ codB p.codes = true ∧ A3 p = true ∧ Fr 201 a [(1, .pointer (some ⟨g0, 0, none⟩))] := ⟨_, rfl⟩
 refine C.cut J17 ?_ ?_
 ·as_aux_lemma =>
  refine C.sk fun K45 hK45 => ?_
  refine L.fa 0 f8 U28 rfl wsz3_wd fun a9 f9 => ?_
  refine L.ld f9 U3 Bg0 fun a10 f10 => ?_
  refine L.va f10 (E.eq f10) fun a11 f11 => ?_
  refine L.mv f11 fun a12 f12 => ?_
  clear f8 a8 f9 a9 f10 a10 f11 a11
  refine f12.splitD 175 rfl (fun h38 f13 => ?_) (fun h38 f13 => ?_)
  ·as_aux_lemma =>
   refine L.sk f13 (f13.noF rfl rfl) fun a14 f14 => ?_
   refine L.sk f14 (f14.noF rfl rfl) fun a15 f15 => ?_
   refine L.sk f15 (f15.noF rfl rfl) fun a16 f16 => ?_
   refine L.va f16 (E.pickT f16 rfl rfl) fun a17 f17 => ?_
   refine L.mv f17 fun a18 f18 => ?_
   refine L.fa 22 f18 U28 rfl wsz25_wd (hw := (f18.yes rfl rfl)) fun a19 f19 => ?_
   refine L.ld f19 U25 Bg0 (hw := (f19.yes rfl rfl)) fun a20 f20 => ?_
   clear f12 f13 a12 f14 a14 f15 a15 f16 a16 f17 a17 f18 a18 f19 a19
   refine L.va f20 (E.lenL f20 U25 rfl) (hw := (f20.yes rfl rfl)) fun a21 f21 => ?_
   refine L.va f21 (E.eq f21) (hw := (f21.yes rfl rfl)) fun a22 f22 => ?_
   clear f20 a20 f21 a21
   refine f22.splitD 184 rfl (fun h39 f23 => ?_) (fun h39 f23 => ?_)
   ·as_aux_lemma =>
    have hls : ¬ 0 < p.subs.length := by omega
    refine L.va f23 (E.pickT f23 rfl rfl) fun a24 f24 => ?_
    refine L.mv f24 fun a25 f25 => ?_
    refine L.sk f25 (f25.noF rfl rfl) fun a26 f26 => ?_
    refine L.sk f26 (f26.noF rfl rfl) fun a27 f27 => ?_
    refine L.sk f27 (f27.noF rfl rfl) fun a28 f28 => ?_
    refine L.sk f28 (f28.noF rfl rfl) fun a29 f29 => ?_
    refine L.sk f29 (f29.noU rfl rfl) fun a30 f30 => ?_
    clear f22 f23 a22 f24 a24 f25 a25 f26 a26 f27 a27 f28 a28 f29 a29
    refine L.sk f30 (f30.noU rfl rfl) fun a31 f31 => ?_
    refine L.sk f31 (f31.noU rfl rfl) fun a32 f32 => ?_
    refine L.sk f32 (f32.noU rfl rfl) fun a33 f33 => ?_
    refine L.sk f33 (f33.noF rfl rfl) fun a34 f34 => ?_
    refine L.va f34 (E.pickT f34 rfl rfl) fun a35 f35 => ?_
    refine wpList_nil (hK45 _ _ ?_)
    have f36 := f35.sub (sc 1 (sc 196 sn))
    refine C.condT f36 rfl ?_
    refine C.sk fun K46 hK46 => ?_
    refine L.ag f36 fun a37 f37 => ?_
    refine wpList_nil (hK46 _ _ ?_)
    have f38 := f37.sub (sc 2 sn)
    clear f30 a30 f31 a31 f32 a32 f33 a33 f34 a34 f35 f36 a35 f37
    refine wp_ret ?_
    try simp only [Exit.inBlock, Exit.then]
    refine C.ret (P := Tryd.prog) (fn := Tryd.f20) f38 rfl rfl ?_
    exact ⟨HK, by rw [rightR_eq]; (simp [A3, *]; done)⟩
   have hls : 0 < p.subs.length := by omega
   refine L.va f23 (E.pickT f23 rfl rfl) fun a24 f24 => ?_
   refine L.mv f24 fun a25 f25 => ?_
   refine L.fa 0 f25 U28 rfl wsz3_wd (hw := (f25.yes rfl rfl)) fun a26 f26 => ?_
   refine L.ld f26 U3 Bg0 (hw := (f26.yes rfl rfl)) fun a27 f27 => ?_
   refine L.va f27 (E.eq f27) (hw := (f27.yes rfl rfl)) fun a28 f28 => ?_
   refine L.mv f28 (hw := (f28.yes rfl rfl)) fun a29 f29 => ?_
   clear f22 f23 a22 f24 a24 f25 a25 f26 a26 f27 a27 f28 a28
   refine f29.splitD 190 rfl (fun h40 f30 => ?_) (fun h40 f30 => ?_)
   ·as_aux_lemma =>
    refine L.fa 23 f30 U28 rfl wsz26_wd (hw := (f30.yes rfl rfl)) fun a31 f31 => ?_
    refine L.ld f31 U26 Bg0 (hw := (f31.yes rfl rfl)) fun a32 f32 => ?_
    refine L.va f32 (E.lenL f32 U26 rfl) (hw := (f32.yes rfl rfl)) fun a33 f33 => ?_
    refine L.va f33 (E.eq f33) (hw := (f33.yes rfl rfl)) fun a34 f34 => ?_
    clear f29 f30 a29 f31 a31 f32 a32 f33 a33
    refine f34.splitD 194 rfl (fun h41 f35 => ?_) (fun h41 f35 => ?_)
    ·as_aux_lemma =>
     have hlc : ¬ 0 < p.codes.length := by omega
     refine L.va f35 (E.pickT f35 rfl rfl) (hw := (f35.yes rfl rfl)) fun a36 f36 => ?_
     refine L.va f36 (E.pickF f36 rfl rfl) fun a37 f37 => ?_
     refine wpList_nil (hK45 _ _ ?_)
     have f38 := f37.sub (sc 1 (sc 196 sn))
     refine C.condT f38 rfl ?_
     refine C.sk fun K47 hK47 => ?_
     refine L.ag f38 fun a39 f39 => ?_
     refine wpList_nil (hK47 _ _ ?_)
     have f40 := f39.sub (sc 2 sn)
     refine wp_ret ?_
     try simp only [Exit.inBlock, Exit.then]
     refine C.ret (P := Tryd.prog) (fn := Tryd.f20) f40 rfl rfl ?_
     exact ⟨HK, by rw [rightR_eq]; (simp [*]; omega)⟩
    have hlc : 0 < p.codes.length := by omega
    refine L.va f35 (E.pickT f35 rfl rfl) (hw := (f35.yes rfl rfl)) fun a36 f36 => ?_
    refine L.va f36 (E.pickF f36 rfl rfl) fun a37 f37 => ?_
    refine wpList_nil (hK45 _ _ ?_)
    have f38 := f37.sub (sc 1 (sc 196 sn))
    refine C.condF f38 rfl ?_
    exact wp_skip (then_of (J := J17) (Q := fun _ _ _ => True) (by rw [hJ17]; exact ⟨HK, Bg0, by assumption, by assumption, by assumption, by assumption, by assumption, by (simp [A3, *]; done), f38.sub (sub_cons rfl sn)⟩))
   refine L.sk f30 (f30.noT rfl rfl) fun a31 f31 => ?_
   refine L.sk f31 (f31.noT rfl rfl) fun a32 f32 => ?_
   refine L.sk f32 (f32.noT rfl rfl) fun a33 f33 => ?_
   refine L.sk f33 (f33.noT rfl rfl) fun a34 f34 => ?_
   refine L.va f34 (E.pickF f34 rfl rfl) (hw := (f34.yes rfl rfl)) fun a35 f35 => ?_
   refine L.va f35 (E.pickF f35 rfl rfl) fun a36 f36 => ?_
   refine wpList_nil (hK45 _ _ ?_)
   have f37 := f36.sub (sc 1 (sc 196 sn))
   clear f29 f30 a29 f31 a31 f32 a32 f33 a33 f34 a34 f35 a35 f36
   refine C.condF f37 rfl ?_
   exact wp_skip (then_of (J := J17) (Q := fun _ _ _ => True) (by rw [hJ17]; exact ⟨HK, Bg0, by assumption, by assumption, by assumption, by assumption, by assumption, by (simp [A3, *]; done), f37.sub (sub_cons rfl sn)⟩))
  refine L.fa 0 f13 U28 rfl wsz3_wd (hw := (f13.yes rfl rfl)) fun a14 f14 => ?_
  refine L.ld f14 U3 Bg0 (hw := (f14.yes rfl rfl)) fun a15 f15 => ?_
  refine L.va f15 (E.eq f15) (hw := (f15.yes rfl rfl)) fun a16 f16 => ?_
  refine L.va f16 (E.pickF f16 rfl rfl) fun a17 f17 => ?_
  refine L.mv f17 fun a18 f18 => ?_
  clear f12 f13 a12 f14 a14 f15 a15 f16 a16 f17 a17
  refine f18.splitD 180 rfl (fun h42 f19 => ?_) (fun h42 f19 => ?_)
  ·as_aux_lemma =>
   refine L.fa 22 f19 U28 rfl wsz25_wd (hw := (f19.yes rfl rfl)) fun a20 f20 => ?_
   refine L.ld f20 U25 Bg0 (hw := (f20.yes rfl rfl)) fun a21 f21 => ?_
   refine L.va f21 (E.lenL f21 U25 rfl) (hw := (f21.yes rfl rfl)) fun a22 f22 => ?_
   refine L.va f22 (E.eq f22) (hw := (f22.yes rfl rfl)) fun a23 f23 => ?_
   clear f18 f19 a18 f20 a20 f21 a21 f22 a22
   refine f23.splitD 184 rfl (fun h43 f24 => ?_) (fun h43 f24 => ?_)
   ·as_aux_lemma =>
    have hls : ¬ 0 < p.subs.length := by omega
    refine L.va f24 (E.pickT f24 rfl rfl) fun a25 f25 => ?_
    refine L.mv f25 fun a26 f26 => ?_
    refine L.sk f26 (f26.noF rfl rfl) fun a27 f27 => ?_
    refine L.sk f27 (f27.noF rfl rfl) fun a28 f28 => ?_
    refine L.sk f28 (f28.noF rfl rfl) fun a29 f29 => ?_
    refine L.sk f29 (f29.noF rfl rfl) fun a30 f30 => ?_
    refine L.sk f30 (f30.noU rfl rfl) fun a31 f31 => ?_
    clear f23 f24 a23 f25 a25 f26 a26 f27 a27 f28 a28 f29 a29 f30 a30
    refine L.sk f31 (f31.noU rfl rfl) fun a32 f32 => ?_
    refine L.sk f32 (f32.noU rfl rfl) fun a33 f33 => ?_
    refine L.sk f33 (f33.noU rfl rfl) fun a34 f34 => ?_
    refine L.sk f34 (f34.noF rfl rfl) fun a35 f35 => ?_
    refine L.va f35 (E.pickT f35 rfl rfl) fun a36 f36 => ?_
    refine wpList_nil (hK45 _ _ ?_)
    have f37 := f36.sub (sc 1 (sc 196 sn))
    refine C.condT f37 rfl ?_
    refine C.sk fun K48 hK48 => ?_
    refine L.ag f37 fun a38 f38 => ?_
    refine wpList_nil (hK48 _ _ ?_)
    have f39 := f38.sub (sc 2 sn)
    clear f31 a31 f32 a32 f33 a33 f34 a34 f35 a35 f36 f37 a36 f38
    refine wp_ret ?_
    try simp only [Exit.inBlock, Exit.then]
    refine C.ret (P := Tryd.prog) (fn := Tryd.f20) f39 rfl rfl ?_
    exact ⟨HK, by rw [rightR_eq]; (simp [A3, *]; done)⟩
   have hls : 0 < p.subs.length := by omega
   refine L.va f24 (E.pickT f24 rfl rfl) fun a25 f25 => ?_
   refine L.mv f25 fun a26 f26 => ?_
   refine L.fa 0 f26 U28 rfl wsz3_wd (hw := (f26.yes rfl rfl)) fun a27 f27 => ?_
   refine L.ld f27 U3 Bg0 (hw := (f27.yes rfl rfl)) fun a28 f28 => ?_
   refine L.va f28 (E.eq f28) (hw := (f28.yes rfl rfl)) fun a29 f29 => ?_
   refine L.mv f29 (hw := (f29.yes rfl rfl)) fun a30 f30 => ?_
   clear f23 f24 a23 f25 a25 f26 a26 f27 a27 f28 a28 f29 a29
   refine f30.splitD 190 rfl (fun h44 f31 => ?_) (fun h44 f31 => ?_)
   ·as_aux_lemma =>
    refine L.fa 23 f31 U28 rfl wsz26_wd (hw := (f31.yes rfl rfl)) fun a32 f32 => ?_
    refine L.ld f32 U26 Bg0 (hw := (f32.yes rfl rfl)) fun a33 f33 => ?_
    refine L.va f33 (E.lenL f33 U26 rfl) (hw := (f33.yes rfl rfl)) fun a34 f34 => ?_
    refine L.va f34 (E.eq f34) (hw := (f34.yes rfl rfl)) fun a35 f35 => ?_
    clear f30 f31 a30 f32 a32 f33 a33 f34 a34
    refine f35.splitD 194 rfl (fun h45 f36 => ?_) (fun h45 f36 => ?_)
    ·as_aux_lemma =>
     have hlc : ¬ 0 < p.codes.length := by omega
     refine L.va f36 (E.pickT f36 rfl rfl) (hw := (f36.yes rfl rfl)) fun a37 f37 => ?_
     refine L.va f37 (E.pickF f37 rfl rfl) fun a38 f38 => ?_
     refine wpList_nil (hK45 _ _ ?_)
     have f39 := f38.sub (sc 1 (sc 196 sn))
     refine C.condT f39 rfl ?_
     refine C.sk fun K49 hK49 => ?_
     refine L.ag f39 fun a40 f40 => ?_
     refine wpList_nil (hK49 _ _ ?_)
     have f41 := f40.sub (sc 2 sn)
     refine wp_ret ?_
     try simp only [Exit.inBlock, Exit.then]
     refine C.ret (P := Tryd.prog) (fn := Tryd.f20) f41 rfl rfl ?_
     exact ⟨HK, by rw [rightR_eq]; (simp [*]; omega)⟩
    have hlc : 0 < p.codes.length := by omega
    refine L.va f36 (E.pickT f36 rfl rfl) (hw := (f36.yes rfl rfl)) fun a37 f37 => ?_
    refine L.va f37 (E.pickF f37 rfl rfl) fun a38 f38 => ?_
    refine wpList_nil (hK45 _ _ ?_)
    have f39 := f38.sub (sc 1 (sc 196 sn))
    refine C.condF f39 rfl ?_
    exact wp_skip (then_of (J := J17) (Q := fun _ _ _ => True) (by rw [hJ17]; exact ⟨HK, Bg0, by assumption, by assumption, by assumption, by assumption, by assumption, by (simp [A3, *]; done), f39.sub (sub_cons rfl sn)⟩))
   refine L.sk f31 (f31.noT rfl rfl) fun a32 f32 => ?_
   refine L.sk f32 (f32.noT rfl rfl) fun a33 f33 => ?_
   refine L.sk f33 (f33.noT rfl rfl) fun a34 f34 => ?_
   refine L.sk f34 (f34.noT rfl rfl) fun a35 f35 => ?_
   refine L.va f35 (E.pickF f35 rfl rfl) (hw := (f35.yes rfl rfl)) fun a36 f36 => ?_
   refine L.va f36 (E.pickF f36 rfl rfl) fun a37 f37 => ?_
   refine wpList_nil (hK45 _ _ ?_)
   have f38 := f37.sub (sc 1 (sc 196 sn))
   clear f30 f31 a30 f32 a32 f33 a33 f34 a34 f35 a35 f36 a36 f37
   refine C.condF f38 rfl ?_
   exact wp_skip (then_of (J := J17) (Q := fun _ _ _ => True) (by rw [hJ17]; exact ⟨HK, Bg0, by assumption, by assumption, by assumption, by assumption, by assumption, by (simp [A3, *]; done), f38.sub (sub_cons rfl sn)⟩))
  refine L.sk f19 (f19.noT rfl rfl) fun a20 f20 => ?_
  refine L.sk f20 (f20.noT rfl rfl) fun a21 f21 => ?_
  refine L.sk f21 (f21.noT rfl rfl) fun a22 f22 => ?_
  refine L.sk f22 (f22.noT rfl rfl) fun a23 f23 => ?_
  refine L.va f23 (E.pickF f23 rfl rfl) fun a24 f24 => ?_
  refine L.mv f24 fun a25 f25 => ?_
  refine L.fa 0 f25 U28 rfl wsz3_wd (hw := (f25.yes rfl rfl)) fun a26 f26 => ?_
  clear f18 f19 a18 f20 a20 f21 a21 f22 a22 f23 a23 f24 a24 f25 a25
  refine L.ld f26 U3 Bg0 (hw := (f26.yes rfl rfl)) fun a27 f27 => ?_
  refine L.va f27 (E.eq f27) (hw := (f27.yes rfl rfl)) fun a28 f28 => ?_
  refine L.mv f28 (hw := (f28.yes rfl rfl)) fun a29 f29 => ?_
  clear f26 a26 f27 a27 f28 a28
  refine f29.splitD 190 rfl (fun h46 f30 => ?_) (fun h46 f30 => ?_)
  ·as_aux_lemma =>
   refine L.fa 23 f30 U28 rfl wsz26_wd (hw := (f30.yes rfl rfl)) fun a31 f31 => ?_
   refine L.ld f31 U26 Bg0 (hw := (f31.yes rfl rfl)) fun a32 f32 => ?_
   refine L.va f32 (E.lenL f32 U26 rfl) (hw := (f32.yes rfl rfl)) fun a33 f33 => ?_
   refine L.va f33 (E.eq f33) (hw := (f33.yes rfl rfl)) fun a34 f34 => ?_
   clear f29 f30 a29 f31 a31 f32 a32 f33 a33
   refine f34.splitD 194 rfl (fun h47 f35 => ?_) (fun h47 f35 => ?_)
   ·as_aux_lemma =>
    have hlc : ¬ 0 < p.codes.length := by omega
    refine L.va f35 (E.pickT f35 rfl rfl) (hw := (f35.yes rfl rfl)) fun a36 f36 => ?_
    refine L.va f36 (E.pickF f36 rfl rfl) fun a37 f37 => ?_
    refine wpList_nil (hK45 _ _ ?_)
    have f38 := f37.sub (sc 1 (sc 196 sn))
    refine C.condT f38 rfl ?_
    refine C.sk fun K50 hK50 => ?_
    refine L.ag f38 fun a39 f39 => ?_
    refine wpList_nil (hK50 _ _ ?_)
    have f40 := f39.sub (sc 2 sn)
    refine wp_ret ?_
    try simp only [Exit.inBlock, Exit.then]
    refine C.ret (P := Tryd.prog) (fn := Tryd.f20) f40 rfl rfl ?_
    exact ⟨HK, by rw [rightR_eq]; (simp [A3, *]; done)⟩
   have hlc : 0 < p.codes.length := by omega
   refine L.va f35 (E.pickT f35 rfl rfl) (hw := (f35.yes rfl rfl)) fun a36 f36 => ?_
   refine L.va f36 (E.pickF f36 rfl rfl) fun a37 f37 => ?_
   refine wpList_nil (hK45 _ _ ?_)
   have f38 := f37.sub (sc 1 (sc 196 sn))
   refine C.condF f38 rfl ?_
   exact wp_skip (then_of (J := J17) (Q := fun _ _ _ => True) (by rw [hJ17]; exact ⟨HK, Bg0, by assumption, by assumption, by assumption, by assumption, by assumption, by (simp [A3, *]; done), f38.sub (sub_cons rfl sn)⟩))
  refine L.sk f30 (f30.noT rfl rfl) fun a31 f31 => ?_
  refine L.sk f31 (f31.noT rfl rfl) fun a32 f32 => ?_
  refine L.sk f32 (f32.noT rfl rfl) fun a33 f33 => ?_
  refine L.sk f33 (f33.noT rfl rfl) fun a34 f34 => ?_
  refine L.va f34 (E.pickF f34 rfl rfl) (hw := (f34.yes rfl rfl)) fun a35 f35 => ?_
  refine L.va f35 (E.pickF f35 rfl rfl) fun a36 f36 => ?_
  refine wpList_nil (hK45 _ _ ?_)
  have f37 := f36.sub (sc 1 (sc 196 sn))
  clear f29 f30 a29 f31 a31 f32 a32 f33 a33 f34 a34 f35 a35 f36
  refine C.condF f37 rfl ?_
  exact wp_skip (then_of (J := J17) (Q := fun _ _ _ => True) (by rw [hJ17]; exact ⟨HK, Bg0, by assumption, by assumption, by assumption, by assumption, by assumption, by (simp [A3, *]; done), f37.sub (sub_cons rfl sn)⟩))
 as_aux_lemma =>
 intro a9 w6 hj
 rw [hJ17] at hj
 clear hJ17 J17
 obtain ⟨HK, Bg0, hA1, hwq, hA2, hsub, hcod, hA3, f9⟩ := hj
 try clear f8
 have hbd : bodyR p = behindL p := body_is p (A1_kd hA1) (A1_bare hA1)
 refine C.sk fun K51 hK51 => ?_
 refine L.va f9 (by exact E.loadB f9 U28 rfl wsz28_wd rfl (Bg0) rfl) fun a10 f10 => ?_
 refine L.cl f10 (run_call Tryd.call42 (args1 f10 rfl)) (body_any p s _ (IP.kept HK) hL (fun _ => inB_iff.1 hwq)) ?_
 clear f9 a9
 rintro e w7 ⟨kc7, A7, c7, rfl, Q7⟩
 have F7 := FB.lower Q7 HK.size
 clear Q7
 refine ⟨_, rfl, fun a11 f11 => ?_⟩
 have szw7 := kc7.size
 replace HK := HK.trans kc7 (by simp)
 replace Bg0 := Bg0.kept kc7 (by simp)
 clear f10 a10 kc7
 refine L.va f11 (E.lenL f11 U22 rfl) fun a12 f12 => ?_
 refine L.va f12 (E.leq f12 rfl rfl) fun a13 f13 => ?_
 refine L.ag f13 fun a14 f14 => ?_
 refine wpList_nil (hK51 _ _ ?_)
 have f15 := f14.sub (sc 2 sn)
 refine wp_ret ?_
 try simp only [Exit.inBlock, Exit.then]
 refine C.ret (P := Tryd.prog) (fn := Tryd.f20) f15 rfl rfl ?_
 exact ⟨HK, by rw [rightR_eq]; (simp [*]; omega)⟩
end Go.Proofs.YtigjafbbnocihaaDoor
