/- Merged by program (shrink.py): contracts and plain laws that the claim's statement uses, part 7. -/
import Derived.Test.YtdfllmiokgoekaaGreatDoorMa6
set_option linter.all false
set_option maxRecDepth 100000
set_option maxHeartbeats 8000000

namespace Go.Proofs.YtdfllmiokgoekaaGreatDoor
open Go.RowKit Go.Hub Go.Lib
theorem wzi3_ro : (Tryz.prog.info? 3).map (fun i => (i.zero, i.size)) = some (some (.int .i64 0), 1) := by kernel_rfl
theorem wzi35_ro : (Tryz.prog.info? 35).map (fun i => (i.zero, i.size)) = some (some (.agg #[(.int .i64 0), (.bool false), (.bool false), (.int .i64 0), (.int .i64 0), (.string ⟨#[]⟩), (.slice none 0 0), (.int .i64 0), (.string ⟨#[]⟩), (.bool false), (.int .i64 0), (.bool false), (.string ⟨#[]⟩), (.slice none 0 0), (.int .i64 0), (.bool false), (.bool false), (.bool false), (.string ⟨#[]⟩), (.slice none 0 0), (.bool false), (.int .i64 0), (.slice none 0 0), (.slice none 0 0)]), 24) := by kernel_rfl
theorem wbs33_2_ro (x0 : Int) (x1 : Int) : Instr.fill (fun i => some (i * 1, 1)) ((Array.range (2 * 1)).map fun j => (Value.cells (.int .i64 0))[j % (Value.cells (.int .i64 0)).size]!) [(0, .int .i64 x0), (1, .int .i64 x1)] = some #[.int .i64 x0, .int .i64 x1] := by kernel_rfl
theorem wbs33_3_ro (x0 : Int) (x1 : Int) (x2 : Int) : Instr.fill (fun i => some (i * 1, 1)) ((Array.range (3 * 1)).map fun j => (Value.cells (.int .i64 0))[j % (Value.cells (.int .i64 0)).size]!) [(0, .int .i64 x0), (1, .int .i64 x1), (2, .int .i64 x2)] = some #[.int .i64 x0, .int .i64 x1, .int .i64 x2] := by kernel_rfl
theorem wbs42_2_ro (x0_0 x0_1 x0_2 x0_3 x0_4 x0_5 x0_6 x0_7 x0_8 x0_9 x0_10 x0_11 x0_12 x0_13 x0_14 x0_15 x0_16 x0_17 x0_18 x0_19 x0_20 x0_21 x0_22 x0_23 : Value) (x1_0 x1_1 x1_2 x1_3 x1_4 x1_5 x1_6 x1_7 x1_8 x1_9 x1_10 x1_11 x1_12 x1_13 x1_14 x1_15 x1_16 x1_17 x1_18 x1_19 x1_20 x1_21 x1_22 x1_23 : Value) : Instr.fill (fun i => some (i * 24, 24)) ((Array.range (2 * 24)).map fun j => (Value.cells (.agg #[(.int .i64 0), (.bool false), (.bool false), (.int .i64 0), (.int .i64 0), (.string ⟨#[]⟩), (.slice none 0 0), (.int .i64 0), (.string ⟨#[]⟩), (.bool false), (.int .i64 0), (.bool false), (.string ⟨#[]⟩), (.slice none 0 0), (.int .i64 0), (.bool false), (.bool false), (.bool false), (.string ⟨#[]⟩), (.slice none 0 0), (.bool false), (.int .i64 0), (.slice none 0 0), (.slice none 0 0)]))[j % (Value.cells (.agg #[(.int .i64 0), (.bool false), (.bool false), (.int .i64 0), (.int .i64 0), (.string ⟨#[]⟩), (.slice none 0 0), (.int .i64 0), (.string ⟨#[]⟩), (.bool false), (.int .i64 0), (.bool false), (.string ⟨#[]⟩), (.slice none 0 0), (.int .i64 0), (.bool false), (.bool false), (.bool false), (.string ⟨#[]⟩), (.slice none 0 0), (.bool false), (.int .i64 0), (.slice none 0 0), (.slice none 0 0)])).size]!) [(0, .agg #[x0_0, x0_1, x0_2, x0_3, x0_4, x0_5, x0_6, x0_7, x0_8, x0_9, x0_10, x0_11, x0_12, x0_13, x0_14, x0_15, x0_16, x0_17, x0_18, x0_19, x0_20, x0_21, x0_22, x0_23]), (1, .agg #[x1_0, x1_1, x1_2, x1_3, x1_4, x1_5, x1_6, x1_7, x1_8, x1_9, x1_10, x1_11, x1_12, x1_13, x1_14, x1_15, x1_16, x1_17, x1_18, x1_19, x1_20, x1_21, x1_22, x1_23])] = some #[x0_0, x0_1, x0_2, x0_3, x0_4, x0_5, x0_6, x0_7, x0_8, x0_9, x0_10, x0_11, x0_12, x0_13, x0_14, x0_15, x0_16, x0_17, x0_18, x0_19, x0_20, x0_21, x0_22, x0_23, x1_0, x1_1, x1_2, x1_3, x1_4, x1_5, x1_6, x1_7, x1_8, x1_9, x1_10, x1_11, x1_12, x1_13, x1_14, x1_15, x1_16, x1_17, x1_18, x1_19, x1_20, x1_21, x1_22, x1_23] := by kernel_rfl
theorem wsz3_ro : (Tryz.prog.info? 3).map (·.size) = some 1 := by kernel_rfl
theorem wsz4_ro : (Tryz.prog.info? 4).map (·.size) = some 1 := by kernel_rfl
theorem wsz5_ro : (Tryz.prog.info? 5).map (·.size) = some 1 := by kernel_rfl
theorem wsz9_ro : (Tryz.prog.info? 9).map (·.size) = some 1 := by kernel_rfl
theorem wsz28_ro : (Tryz.prog.info? 28).map (·.size) = some 1 := by kernel_rfl
theorem wsz30_ro : (Tryz.prog.info? 30).map (·.size) = some 4 := by kernel_rfl
theorem wsz32_ro : (Tryz.prog.info? 32).map (·.size) = some 1 := by kernel_rfl
theorem wsz35_ro : (Tryz.prog.info? 35).map (·.size) = some 24 := by kernel_rfl
theorem wsz60_ro : (Tryz.prog.info? 60).map (·.size) = some 1 := by kernel_rfl
theorem wsz74_ro : (Tryz.prog.info? 74).map (·.size) = some 1 := by kernel_rfl
theorem wbl30_0_1_2_3_ro (x0 : ByteArray) (x1 : Option Addr) (y1 z1 : Nat) (x2 : Int) (x3 : Bool) : Tryz.prog.built 30 [(0, .string x0), (1, .slice x1 y1 z1), (2, .int .i64 x2), (3, .bool x3)] = some #[.string x0, .slice x1 y1 z1, .int .i64 x2, .bool x3] := by kernel_rfl
theorem wbl35_0_3_4_5_ro (x0 : Int) (x1 : Int) (x2 : Int) (x3 : ByteArray) : Tryz.prog.built 35 [(0, .int .i64 x0), (3, .int .i64 x1), (4, .int .i64 x2), (5, .string x3)] = some #[.int .i64 x0, (.bool false), (.bool false), .int .i64 x1, .int .i64 x2, .string x3, (.slice none 0 0), (.int .i64 0), (.string ⟨#[]⟩), (.bool false), (.int .i64 0), (.bool false), (.string ⟨#[]⟩), (.slice none 0 0), (.int .i64 0), (.bool false), (.bool false), (.bool false), (.string ⟨#[]⟩), (.slice none 0 0), (.bool false), (.int .i64 0), (.slice none 0 0), (.slice none 0 0)] := by kernel_rfl
theorem wbl35_0_4_ro (x0 : Int) (x1 : Int) : Tryz.prog.built 35 [(0, .int .i64 x0), (4, .int .i64 x1)] = some #[.int .i64 x0, (.bool false), (.bool false), (.int .i64 0), .int .i64 x1, (.string ⟨#[]⟩), (.slice none 0 0), (.int .i64 0), (.string ⟨#[]⟩), (.bool false), (.int .i64 0), (.bool false), (.string ⟨#[]⟩), (.slice none 0 0), (.int .i64 0), (.bool false), (.bool false), (.bool false), (.string ⟨#[]⟩), (.slice none 0 0), (.bool false), (.int .i64 0), (.slice none 0 0), (.slice none 0 0)] := by kernel_rfl
structure ActA where
  what : Int
  k : Int
  q : Int
  i : Int
  on : Bool
  now : Int
  m : Ms
  mA : Option Addr
  mc : Nat
  p : Pk
  ad : Ad
  s : ByteArray
abbrev xc (x : ActA) : List Value := [.int .u8 x.what, .int .u8 x.k, .int .u8 x.q, .int .u8 x.i, .bool x.on, .int .i64 x.now, .string x.m.tp, .slice x.mA x.m.pay.length x.mc, .int .i64 x.m.qos, .bool x.m.ret, .int .i64 x.p.kind, .bool x.p.dup, .bool x.p.retain, .int .i64 x.p.qos, .int .i64 x.p.id, .string x.p.topic, .slice x.ad.pa x.p.pay.length x.ad.pc, .int .i64 x.p.level, .string x.p.client, .bool x.p.clean, .int .i64 x.p.keep, .bool x.p.hasWill, .string x.p.wt, .slice x.ad.wa x.p.wp.length x.ad.wc, .int .i64 x.p.wq, .bool x.p.wr, .bool x.p.hasUser, .bool x.p.hasPass, .string x.p.user, .slice x.ad.sa x.p.pass.length x.ad.sc, .bool x.p.present, .int .i64 x.p.code, .slice x.ad.ua x.p.subs.length x.ad.uc, .slice x.ad.ca x.p.codes.length x.ad.cc, .string x.s]
def ActA.U (x : ActA) : Prop := (0 ≤ x.what ∧ x.what < 256) ∧ (0 ≤ x.k ∧ x.k < 256) ∧ (0 ≤ x.q ∧ x.q < 256) ∧ (0 ≤ x.i ∧ x.i < 256)
def BothPost (B N : Nat) (w : World) (p gs pr : Nat) (e : Ending) (w' : World) : Prop := e = .returned (.bool true) ∧ ∃ (s' : Ses) (E' : FE) (r' : Rs), Two B (N + 4) w' p gs pr s' E' r' ∧ r'.abs = s'.abs ∧ SubsR E' r'.ls ∧ Below B w w'
theorem fl_size {n : Nat} : (p10.getD n ⟨#[]⟩).size ≤ 100000 := by
  rw [List.getD_eq_getElem?_getD]
  cases h : p10[n]? with
  | none => decide
  | some x => exact Nat.le_trans (p10_all x (List.mem_of_getElem? h)) (by decide)
def k3 (q : Int) : Int := if q % 3 = 0 then 4 else if q % 3 = 1 then 5 else 7
def k2 (q : Int) : Int := if q % 2 = 0 then 3 else 6
theorem k3_cell {w : World} {g t : Nat} {q : Int} (B : Blk w g t #[.int .i64 4, .int .i64 5, .int .i64 7]) (h : 0 ≤ q) : w.cell? ⟨g, 0 + (q % 3).toNat * 1, none⟩ = some (.int .i64 (k3 q)) := by
  refine B.cl ?_
  have h3 : q % 3 = 0 ∨ q % 3 = 1 ∨ q % 3 = 2 := by omega
  unfold k3
  rcases h3 with h3 | h3 | h3 <;> rw [h3] <;> rfl
theorem k2_cell {w : World} {g t : Nat} {q : Int} (B : Blk w g t #[.int .i64 3, .int .i64 6]) (h : 0 ≤ q) : w.cell? ⟨g, 0 + (q % 2).toNat * 1, none⟩ = some (.int .i64 (k2 q)) := by
  refine B.cl ?_
  have h3 : q % 2 = 0 ∨ q % 2 = 1 := by omega
  unfold k2
  rcases h3 with h3 | h3 <;> rw [h3] <;> rfl
abbrev pk3 (x : ActA) : List Value := pcell ⟨ackP (k3 x.q) (x.i % 12 + 1), none, 0⟩
def p8 (x : ActA) : Pk := { kind := k2 x.q, qos := x.q / 2 % 3, id := x.i % 4 + 1, topic := ⟨#[97]⟩ }
def ykc (y : Pk × Ad) : List Value := (y.1.cells y.2).toList
theorem ys_wf (x : ActA) (h : 0 ≤ x.i ∧ x.i < 256) (hwf : (Lit.int .i64 x.p.id).wf = true) : ∀ y ∈ [((p8 x, adp none 0) : Pk × Ad), (x.p, x.ad)], (Lit.int .i64 y.1.id).wf = true := fun y hy => by
  rcases List.mem_cons.1 hy with rfl | hy
  · show (Lit.int .i64 (x.i % 4 + 1)).wf = true
    have h1 : x.i % 4 = 0 ∨ x.i % 4 = 1 ∨ x.i % 4 = 2 ∨ x.i % 4 = 3 := by omega
    rcases h1 with h1 | h1 | h1 | h1 <;> rw [h1] <;> rfl
  obtain rfl := List.mem_singleton.1 hy
  exact hwf
theorem ys_row {w : World} {g : Nat} {ys : List (Pk × Ad)} {k : Nat} {y : Pk × Ad} (B : Blk w g 35 (ys.flatMap ykc).toArray) (hy : ys[k]? = some y) : w.rangeAt g (0 + (k : Int).toNat * 24) (ykc y) := fun j v hv => by
  rw [Int.toNat_natCast, Nat.zero_add]
  exact B.cl (i := k * 24 + j) (flat_at ykc 24 (fun _ => rfl) ys k y hy j v hv)
section
variable {P : Program} {ops : Array Oper} {Q : Exit → Act → World → Prop} {S : World → Prop} {a : Act} {w : World} {n : Nat} {l : FL} {t ty : TypeId} {x y : Operand} {ps : String} {af : Array Edge} {gd : Option (Nat × Bool)} {i : Nat} {K : Act → World → Prop}
theorem _root_.Go.Hub.OS.storeR (f : Fr n a l) (hio : ops[i]? = some ⟨none, .store t x y, ty, ps, af, gd⟩) (hw : Region.wanted ⟨none, .store t x y, ty, ps, af, gd⟩ (yielded ops a.tmps) = true) {g : Nat} {e : TypeId} {cs cs' : Array Value} {s : Nat} (hi : (P.info? t).map (·.size) = some s) (hx : evl l x = some (.pointer (some ⟨g, 0, none⟩))) (hy : evl l y = some (.agg cs')) (h1 : cs'.toList.all (·.oneCell') = true)
    (B : Blk w g e cs) (hs : cs'.size = cs.size) (hl : cs'.size = s) (hS : ∀ w', Kept [g] w w' → S w') (hK : ∀ a' w', Fr n a' l → Blk w' g e cs' → Kept [g] w w' → K a' w') : wpOp P ops Q i (fun a w => S w ∧ K a w) a w :=
  O.act (S := S) f hio rfl hw (E.storeR f (hl ▸ hi) hx hy (by simpa using h1) (B.there (by omega))) (hS _ (setCells_kept w g 0 _)) fun a' f' => hK a' _ f' (setCells_blk B cs' hs) (setCells_kept w g 0 _)
end
theorem packetsB {B : Nat} {w w0 w1 : World} {A A' : Option Addr} {c c' : Nat} {l l' : List Pc} (P1 : PkAt B w0 w A c l) (P2 : PkAt B w1 w A' c' l') (he : l.map (·.p) = l'.map (·.p)) (hl : l.length ≤ 10) : Calls Tryz.prog 25 #[.slice A l.length c, .slice A' l'.length c'] w (fun e w' => Kept [] w w' ∧ e = .returned (.bool true)) :=
  packets_any l l' A A' c c' w P1.fr.sl P2.fr.sl (fun x hx => (P1.pay x hx).sl) (fun x hx => (P2.pay x hx).sl) he (by omega)
theorem both_any (B N : Nat) (p gs pr : Nat) (s : Ses) (Em : FE) (r : Rs) (x : ActA) (w : World) (HT : Two B N w p gs pr s Em r) (hab : r.abs = s.abs) (hsub : SubsR Em r.ls) (hN : N ≤ 900) (hu : x.U) (hpay : ∀ W, Below B w W → Pay B W x.mA x.m.pay) (hss : x.s.size ≤ 30) (hwf : (Lit.int .i64 x.p.id).wf = true) : Calls Tryz.prog 9 #[.pointer (some ⟨p, 0, none⟩), .pointer (some ⟨pr, 0, none⟩), .agg (xc x).toArray] w (BothPost B N w p gs pr) := by
 have HK : Below B w w := Below.refl _ _
 have hB := HT.hB
 obtain ⟨hu1, hu2, hu3, hu4⟩ := hu
 refine C.enter Tryz.func9 rfl Tryz.ntmps9 rfl ?_
 intro a0 f0
 have f1 : Fr 282 a0 [(0, .pointer (some ⟨p, 0, none⟩)), (1, .pointer (some ⟨pr, 0, none⟩)), (2, .agg (xc x).toArray)] := f0
 refine C.sk fun K0 hK0 => ?_
 refine L.box f1 wantedN (by decide) rfl rfl fun a2 w1 g0 N0 f2 => ?_
 have Bg0 := N0.blk
 have kg0 := N0.kept
 have log0 := N0.lo
 have ltg0 := Bg0.lt
 have szw1 := kg0.size
 have frg0 : w.heap.size ≤ g0 := Nat.le_trans HK.size log0
 replace HK := blwB HK hB (Mod.of_kept0 (T := []) (M := []) kg0)
 replace HT := HT.kept0 kg0
 clear f0 N0 kg0
 refine L.ag f2 fun a3 f3 => ?_
 refine wn hK0 ?_
 have f4 := f3.pk [0, 1, 5, 6]
 obtain ⟨J36, hJ36⟩ : ∃ J : Act → World → Prop, J = fun a W => ∃ (s' : Ses) (E' : FE) (r' : Rs), Two B (N + 4) W p gs pr s' E' r' ∧ r'.abs = s'.abs ∧ SubsR E' r'.ls ∧ Below B w W ∧ Fr 282 a [(0, .pointer (some ⟨p, 0, none⟩)), (1, .pointer (some ⟨pr, 0, none⟩))] := ⟨_, rfl⟩
 clear f1 a0 f2 a2 f3
 refine C.cut J36 ?_ ?_
 ·skip
  refine wp_seq_k fun K1 hK1 => ?_
  obtain ⟨gx, rfl⟩ : ∃ g, g = g0 := ⟨_, rfl⟩
  have BX : Blk w1 gx 37 (xc x).toArray := Bg0
  clear Bg0
  refine C.region ?_
  refine L.fa 0 f4 U37 rfl wsz5_ro fun a5 f5 => ?_
  refine L.va f5 (E.load f5 U5 rfl rfl ((BX).cl rfl)) fun a6 f6 => ?_
  refine L.va f6 (E.rem f6 rfl rfl (by omega) (Int.tmod_eq_emod_of_nonneg (by omega))) fun a7 f7 => ?_
  refine wn hK1 ?_
  have f8 := f7.pk [0, 1, 5, 6, 18]
  refine wp_block ?_
  refine C.sk fun K2 hK2 => ?_
  refine L.va f8 (E.eql f8 rfl rfl) fun a9 f9 => ?_
  refine L.ag f9 fun a10 f10 => ?_
  refine wn hK2 ?_
  have f11 := f10.pk [0, 1, 5, 6, 18, 29]
  clear f4 a3 f5 a5 f6 a6 f7 f8 a7 f9 a9 f10
  refine f11.splitD 29 rfl (fun h0 f12 => ?_) (fun h0 f12 => ?_)
  ·refine C.condT f12 rfl ?_
   refine wp_seq_k fun K3 hK3 => ?_
   have hd5 : Kept [] w1 (w1.drewN 1) := (Kept.refl _ _).drewN 1
   refine R.begin (S := fun W => (Blk W gx 37 (xc x).toArray)) (by kernel_rfl) (BX.z hd5) ?_
   obtain ⟨w2, hww2⟩ : ∃ W, W = w1.drewN 1 := ⟨_, rfl⟩
   rw [← hww2] at hd5 ⊢
   clear f11 hww2
   have szw2 := hd5.size
   replace HK := blwB HK hB (Mod.of_kept0 (T := []) (M := []) hd5)
   replace HT := HT.kept0 hd5
   replace BX := BX.z hd5
   clear hd5
   refine R.t 0 f12 rfl BX (fun W hW => (E.move f12 rfl)) fun a13 f13 => ?_
   refine R.t 1 f13 rfl BX (fun W hW => (E.fa 1 f13 U37 rfl wsz5_ro)) fun a14 f14 => ?_
   refine R.t 2 f14 rfl BX (fun W hW => (E.load f14 U5 rfl rfl ((hW).cl rfl))) fun a15 f15 => ?_
   refine R.t 4 f15 rfl BX (fun W hW => (E.fa 2 f15 U37 rfl wsz5_ro)) fun a16 f16 => ?_
   refine R.t 5 f16 rfl BX (fun W hW => (E.load f16 U5 rfl rfl ((hW).cl rfl))) fun a17 f17 => ?_
   refine R.t 6 f17 rfl BX (fun W hW => (E.rem f17 rfl rfl (by omega) (Int.tmod_eq_emod_of_nonneg (by omega)))) fun a18 f18 => ?_
   refine R.t 7 f18 rfl BX (fun W hW => (E.conv f18 U5 U3 rfl (IntWalk.i64_in _ (by omega)))) fun a19 f19 => ?_
   clear f12 a10 f13 a13 f14 a14 f15 a15 f16 a16 f17 a17 f18 a18
   refine R.t 9 f19 rfl BX (fun W hW => (E.move f19 rfl)) fun a20 f20 => ?_
   refine R.t 10 f20 rfl BX (fun W hW => (E.fa 1 f20 U37 rfl wsz5_ro)) fun a21 f21 => ?_
   refine R.t 11 f21 rfl BX (fun W hW => (E.load f21 U5 rfl rfl ((hW).cl rfl))) fun a22 f22 => ?_
   refine R.t 13 f22 rfl BX (fun W hW => (E.fa 2 f22 U37 rfl wsz5_ro)) fun a23 f23 => ?_
   refine R.t 14 f23 rfl BX (fun W hW => (E.load f23 U5 rfl rfl ((hW).cl rfl))) fun a24 f24 => ?_
   refine R.t 15 f24 rfl BX (fun W hW => (E.rem f24 rfl rfl (by omega) (Int.tmod_eq_emod_of_nonneg (by omega)))) fun a25 f25 => ?_
   refine R.t 16 f25 rfl BX (fun W hW => (E.conv f25 U5 U3 rfl (IntWalk.i64_in _ (by omega)))) fun a26 f26 => ?_
   clear f19 a19 f20 a20 f21 a21 f22 a22 f23 a23 f24 a24 f25 a25
   refine R.call 3 f26 rfl rfl (by decide) (by kernel_rfl) wantedN (run_call Tryz.call20 (args1 f26 rfl)) (sfilter_any x.k _ hu2.1 hu2.2) ?_
   rintro e w3 ⟨kc3, rfl⟩
   have szw3 := kc3.size
   replace HK := blwB HK hB (Mod.of_kept0 (T := []) (M := []) kc3)
   replace HT := HT.kept0 kc3
   replace BX := BX.z kc3
   refine ⟨_, rfl, BX, fun a27 f27 => ?_⟩
   clear f26 a26 kc3
   refine R.call 8 f27 rfl rfl (by decide) (by kernel_rfl) wantedN (run_call Tryz.call19 (args3 f27 rfl rfl rfl)) (subB HT (p10.getD (x.k % 10).toNat ⟨#[]⟩) (x.q % 3) fl_size (by omega)) ?_
   rintro e w4 ⟨M4, rfl, HT4, kc4⟩
   have szw4 := kc4.size
   replace HK := blwB HK hB kc4
   replace BX := BX.mod kc4 (by decide)
   refine ⟨_, rfl, BX, fun a28 f28 => ?_⟩
   clear f27 a27 kc4
   refine R.call 12 f28 rfl rfl (by decide) (by kernel_rfl) wantedN (run_call Tryz.call20 (args1 f28 rfl)) (sfilter_any x.k _ hu2.1 hu2.2) ?_
   rintro e w5 ⟨kc5, rfl⟩
   have szw5 := kc5.size
   replace HK := blwB HK hB (Mod.of_kept0 (T := []) (M := []) kc5)
   replace BX := BX.z kc5
   replace HT4 := HT4.kept0 kc5
   refine ⟨_, rfl, BX, fun a29 f29 => ?_⟩
   clear f28 a28 kc5
   refine R.call 17 f29 rfl rfl (by decide) (by kernel_rfl) wantedN (run_call Tryz.call21 (args3 f29 rfl rfl rfl)) (subRB HT4 hsub (p10.getD (x.k % 10).toNat ⟨#[]⟩) (x.q % 3) fl_size (by omega)) ?_
   rintro e w6 ⟨r6, M6, rfl, HT6, hab6, hsub6, kc6⟩
   replace hab : r6.abs = s.abs := hab6.trans hab
   replace hsub := hsub6
   clear hab6
   have szw6 := kc6.size
   replace HK := blwB HK hB kc6
   replace BX := BX.mod kc6 (by decide)
   refine ⟨_, rfl, BX, fun a30 f30 => ?_⟩
   clear f29 a29 kc6
   refine R.t 18 f30 rfl BX (fun W hW => (E.neqB f30 U4 rfl rfl)) fun a31 f31 => ?_
   have f32 := f31.as (i := 49) (v' := .bool false) rfl (by simp)
   refine R.t 19 f32 rfl BX (fun W hW => (E.move f32 rfl)) fun a33 f33 => ?_
   refine R.t 20 f33 rfl BX (fun W hW => (E.move f33 rfl)) (hw := (f33.yes rfl rfl)) fun a34 f34 => ?_
   refine R.t 21 f34 rfl BX (fun W hW => (E.fa 34 f34 U37 rfl wsz9_ro)) (hw := (f34.yes rfl rfl)) fun a35 f35 => ?_
   refine R.t 22 f35 rfl BX (fun W hW => (E.load f35 U9 rfl rfl ((hW).cl rfl))) (hw := (f35.yes rfl rfl)) fun a36 f36 => ?_
   refine R.t 23 f36 rfl BX (fun W hW => (E.fa 2 f36 U37 rfl wsz5_ro)) (hw := (f36.yes rfl rfl)) fun a37 f37 => ?_
   refine R.t 24 f37 rfl BX (fun W hW => (E.load f37 U5 rfl rfl ((hW).cl rfl))) (hw := (f37.yes rfl rfl)) fun a38 f38 => ?_
   clear f30 a30 f31 f32 a31 f33 a33 f34 a34 f35 a35 f36 a36 f37 a37
   refine R.t 25 f38 rfl BX (fun W hW => (E.rem f38 rfl rfl (by omega) (Int.tmod_eq_emod_of_nonneg (by omega)))) (hw := (f38.yes rfl rfl)) fun a39 f39 => ?_
   refine R.t 26 f39 rfl BX (fun W hW => (E.conv f39 U5 U3 rfl (IntWalk.i64_in _ (by omega)))) (hw := (f39.yes rfl rfl)) fun a40 f40 => ?_
   refine R.t 28 f40 rfl BX (fun W hW => (E.move f40 rfl)) (hw := (f40.yes rfl rfl)) fun a41 f41 => ?_
   refine R.t 29 f41 rfl BX (fun W hW => (E.fa 34 f41 U37 rfl wsz9_ro)) (hw := (f41.yes rfl rfl)) fun a42 f42 => ?_
   refine R.t 30 f42 rfl BX (fun W hW => (E.load f42 U9 rfl rfl ((hW).cl rfl))) (hw := (f42.yes rfl rfl)) fun a43 f43 => ?_
   refine R.t 31 f43 rfl BX (fun W hW => (E.fa 2 f43 U37 rfl wsz5_ro)) (hw := (f43.yes rfl rfl)) fun a44 f44 => ?_
   refine R.t 32 f44 rfl BX (fun W hW => (E.load f44 U5 rfl rfl ((hW).cl rfl))) (hw := (f44.yes rfl rfl)) fun a45 f45 => ?_
   clear f38 a38 f39 a39 f40 a40 f41 a41 f42 a42 f43 a43 f44 a44
   refine R.t 33 f45 rfl BX (fun W hW => (E.rem f45 rfl rfl (by omega) (Int.tmod_eq_emod_of_nonneg (by omega)))) (hw := (f45.yes rfl rfl)) fun a46 f46 => ?_
   refine R.t 34 f46 rfl BX (fun W hW => (E.conv f46 U5 U3 rfl (IntWalk.i64_in _ (by omega)))) (hw := (f46.yes rfl rfl)) fun a47 f47 => ?_
   refine R.call 27 f47 rfl rfl (by decide) (by kernel_rfl) (f47.yes rfl rfl) (run_call Tryz.call19 (args3 f47 rfl rfl rfl)) (subB HT6 x.s (x.q % 5) (by omega) (by omega)) ?_
   clear f45 a45 f46 a46
   rintro e w7 ⟨M7, rfl, HT7, kc7⟩
   have szw7 := kc7.size
   replace HK := blwB HK hB kc7
   replace BX := BX.mod kc7 (by decide)
   refine ⟨_, rfl, BX, fun a48 f48 => ?_⟩
   clear f47 a47 kc7
   refine R.call 35 f48 rfl rfl (by decide) (by kernel_rfl) (f48.yes rfl rfl) (run_call Tryz.call21 (args3 f48 rfl rfl rfl)) (subRB HT7 hsub x.s (x.q % 5) (by omega) (by omega)) ?_
   rintro e w8 ⟨r8, M8, rfl, HT8, hab8, hsub8, kc8⟩
   replace hab : r8.abs = s.abs := hab8.trans hab
   replace hsub := hsub8
   clear hab8
   have szw8 := kc8.size
   replace HK := blwB HK hB kc8
   replace BX := BX.mod kc8 (by decide)
   refine ⟨_, rfl, BX, fun a49 f49 => ?_⟩
   clear f48 a48 kc8
   refine R.t 36 f49 rfl BX (fun W hW => (E.neqB f49 U4 rfl rfl)) (hw := (f49.yes rfl rfl)) fun a50 f50 => ?_
   have f51 := f50.as (i := 67) (v' := .bool false) rfl (by simp)
   refine R.t 37 f51 rfl BX (fun W hW => (E.pickF f51 rfl rfl)) fun a52 f52 => ?_
   refine R.done (by kernel_rfl) (hK3 _ _ ?_)
   have f53 := f52.pk [0, 1, 6, 68]
   refine C.condF f53 rfl ?_
   exact wp_skip (jK J36 (by rw [hJ36]; exact ⟨s, (subE (subE Em (p10.getD (x.k % 10).toNat ⟨#[]⟩) (x.q % 3)) x.s (x.q % 5)), r8, HT8.up (by omega), hab, hsub, HK, f53.sub (sx (sx sn))⟩))
  refine C.condF f12 rfl ?_
  refine C.sk fun K4 hK4 => ?_
  refine L.va f12 (E.eql f12 rfl rfl) fun a13 f13 => ?_
  refine L.ag f13 fun a14 f14 => ?_
  refine wn hK4 ?_
  have f15 := f14.pk [0, 1, 5, 6, 18, 69]
  clear f11 f12 a10 f13 a13 f14
  refine f15.splitD 69 rfl (fun h1 f16 => ?_) (fun h1 f16 => ?_)
  ·refine C.condT f16 rfl ?_
   refine wp_seq_k fun K5 hK5 => ?_
   have hd8 : Kept [] w1 (w1.drewN 1) := (Kept.refl _ _).drewN 1
   refine R.begin (S := fun W => (Blk W gx 37 (xc x).toArray)) (by kernel_rfl) (BX.z hd8) ?_
   obtain ⟨w2, hww2⟩ : ∃ W, W = w1.drewN 1 := ⟨_, rfl⟩
   rw [← hww2] at hd8 ⊢
   clear f15 hww2
   have szw2 := hd8.size
   replace HK := blwB HK hB (Mod.of_kept0 (T := []) (M := []) hd8)
   replace HT := HT.kept0 hd8
   replace BX := BX.z hd8
   clear hd8
   refine R.t 0 f16 rfl BX (fun W hW => (E.move f16 rfl)) fun a17 f17 => ?_
   refine R.t 1 f17 rfl BX (fun W hW => (E.fa 1 f17 U37 rfl wsz5_ro)) fun a18 f18 => ?_
   refine R.t 2 f18 rfl BX (fun W hW => (E.load f18 U5 rfl rfl ((hW).cl rfl))) fun a19 f19 => ?_
   refine R.t 5 f19 rfl BX (fun W hW => (E.move f19 rfl)) fun a20 f20 => ?_
   refine R.t 6 f20 rfl BX (fun W hW => (E.fa 1 f20 U37 rfl wsz5_ro)) fun a21 f21 => ?_
   refine R.t 7 f21 rfl BX (fun W hW => (E.load f21 U5 rfl rfl ((hW).cl rfl))) fun a22 f22 => ?_
   refine R.call 3 f22 rfl rfl (by decide) (by kernel_rfl) wantedN (run_call Tryz.call20 (args1 f22 rfl)) (sfilter_any x.k _ hu2.1 hu2.2) ?_
   clear f16 a14 f17 a17 f18 a18 f19 a19 f20 a20 f21 a21
   rintro e w3 ⟨kc3, rfl⟩
   have szw3 := kc3.size
   replace HK := blwB HK hB (Mod.of_kept0 (T := []) (M := []) kc3)
   replace HT := HT.kept0 kc3
   replace BX := BX.z kc3
   refine ⟨_, rfl, BX, fun a23 f23 => ?_⟩
   clear f22 a22 kc3
   refine R.call 4 f23 rfl rfl (by decide) (by kernel_rfl) wantedN (run_call Tryz.call22 (args2 f23 rfl rfl)) (unB HT (p10.getD (x.k % 10).toNat ⟨#[]⟩) fl_size) ?_
   rintro e w4 ⟨M4, rfl, HT4, kc4⟩
   have szw4 := kc4.size
   replace HK := blwB HK hB kc4
   replace BX := BX.mod kc4 (by decide)
   refine ⟨_, rfl, BX, fun a24 f24 => ?_⟩
   clear f23 a23 kc4
   refine R.call 8 f24 rfl rfl (by decide) (by kernel_rfl) wantedN (run_call Tryz.call20 (args1 f24 rfl)) (sfilter_any x.k _ hu2.1 hu2.2) ?_
   rintro e w5 ⟨kc5, rfl⟩
   have szw5 := kc5.size
   replace HK := blwB HK hB (Mod.of_kept0 (T := []) (M := []) kc5)
   replace BX := BX.z kc5
   replace HT4 := HT4.kept0 kc5
   refine ⟨_, rfl, BX, fun a25 f25 => ?_⟩
   clear f24 a24 kc5
   refine R.call 9 f25 rfl rfl (by decide) (by kernel_rfl) wantedN (run_call Tryz.call23 (args2 f25 rfl rfl)) (unRB HT4 hsub (p10.getD (x.k % 10).toNat ⟨#[]⟩) (by omega)) ?_
   rintro e w6 ⟨r6, M6, rfl, HT6, hab6, hsub6, kc6⟩
   replace hab : r6.abs = s.abs := hab6.trans hab
   replace hsub := hsub6
   clear hab6
   have szw6 := kc6.size
   replace HK := blwB HK hB kc6
   replace BX := BX.mod kc6 (by decide)
   refine ⟨_, rfl, BX, fun a26 f26 => ?_⟩
   clear f25 a25 kc6
   refine R.t 10 f26 rfl BX (fun W hW => (E.neqB f26 U4 rfl rfl)) fun a27 f27 => ?_
   have f28 := f27.as (i := 81) (v' := .bool false) rfl (by simp)
   refine R.done (by kernel_rfl) (hK5 _ _ ?_)
   have f29 := f28.pk [0, 1, 6, 81]
   refine C.condF f29 rfl ?_
   exact wp_skip (jK J36 (by rw [hJ36]; exact ⟨s, (Go.Hub.strike Em (p10.getD (x.k % 10).toNat ⟨#[]⟩) : FE), r6, HT6.up (by omega), hab, hsub, HK, f29.sub (sx (sx sn))⟩))
  refine C.condF f16 rfl ?_
  obtain ⟨J13, hJ13⟩ : ∃ J : Act → World → Prop, J = fun a W => ∃ b : Bool, Two B N W p gs pr s Em r ∧ Below B w W ∧ Blk W gx 37 (xc x).toArray ∧ Fr 282 a [(0, .pointer (some ⟨p, 0, none⟩)), (1, .pointer (some ⟨pr, 0, none⟩)), (5, .pointer (some ⟨gx, 0, none⟩)), (18, .int .u8 (x.what % 12)), (82, .bool b)] := ⟨_, rfl⟩
  clear f15
  refine C.cut J13 ?_ ?_
  ·skip
   refine C.sk fun K6 hK6 => ?_
   refine L.va f16 (E.eql f16 rfl rfl) fun a17 f17 => ?_
   refine L.ag f17 fun a18 f18 => ?_
   refine wn hK6 ?_
   have f19 := f18.pk [0, 1, 5, 6, 18, 82]
   clear f16 a14 f17 a17 f18
   refine f19.splitD 82 rfl (fun h2 f20 => ?_) (fun h2 f20 => ?_)
   ·refine C.condT f20 rfl ?_
    exact wp_skip (jK J13 (by rw [hJ13]; exact ⟨_, HT, HK, BX, f20.sub (sr rfl (sr rfl (sr rfl (sr rfl (sr rfl sn)))))⟩))
   refine C.condF f20 rfl ?_
   refine C.sk fun K7 hK7 => ?_
   refine L.va f20 (E.eql f20 rfl rfl) fun a21 f21 => ?_
   refine L.ag f21 fun a22 f22 => ?_
   refine wn hK7 ?_
   have f23 := f22.pk [0, 1, 5, 6, 18, 82]
   clear f19 f20 a18 f21 a21 f22
   refine f23.splitD 82 rfl (fun h3 f24 => ?_) (fun h3 f24 => ?_)
   ·refine C.condT f24 rfl ?_
    exact wp_skip (jK J13 (by rw [hJ13]; exact ⟨_, HT, HK, BX, f24.sub (sr rfl (sr rfl (sr rfl (sr rfl (sr rfl sn)))))⟩))
   refine C.condF f24 rfl ?_
   refine C.region ?_
   refine L.va f24 (E.eql f24 rfl rfl) fun a25 f25 => ?_
   refine L.ag f25 fun a26 f26 => ?_
   exact wpList_nil (jK J13 (by rw [hJ13]; exact ⟨_, HT, HK, BX, f26.sub (sr rfl (sr rfl (sr rfl (sr rfl (sr rfl sn)))))⟩))
  intro a17 w2 hj
  rw [hJ13] at hj
  clear hJ13 J13
  obtain ⟨b, HT, HK, BX, f17⟩ := hj
  try clear f16
  have szc := HK.size
  refine f17.split 82 rfl (fun h4 f18 => ?_) (fun h4 f18 => ?_)
  ·refine C.condT f18 rfl ?_
   obtain ⟨J14, hJ14⟩ : ∃ J : Act → World → Prop, J = fun a W => ∃ g7 : Nat, NQ s r g7 ∧ Two B N W p gs pr s Em r ∧ Below B w W ∧ Blk W gx 37 (xc x).toArray ∧ Blk W g7 30 (mcell (⟨⟨p7.getD (x.k % 7).toNat ⟨#[]⟩, x.m.pay, x.q % 3, x.m.ret⟩, x.mA, x.mc⟩ : Mc)).toArray ∧ Fr 282 a [(0, .pointer (some ⟨p, 0, none⟩)), (1, .pointer (some ⟨pr, 0, none⟩)), (5, .pointer (some ⟨gx, 0, none⟩)), (7, .pointer (some ⟨g7, 0, none⟩))] := ⟨_, rfl⟩
   clear f17
   refine C.cut J14 ?_ ?_
   ·skip
    have HR := Kept.refl [] w2
    have hd13 : Kept [] w2 (w2.drewN 1) := (Kept.refl _ _).drewN 1
    refine R.begin (S := fun W => (Blk W gx 37 (xc x).toArray)) (by kernel_rfl) (BX.z hd13) ?_
    obtain ⟨w3, hww3⟩ : ∃ W, W = w2.drewN 1 := ⟨_, rfl⟩
    rw [← hww3] at hd13 ⊢
    clear hww3
    have szw3 := hd13.size
    replace HK := blwB HK hB (Mod.of_kept0 (T := []) (M := []) hd13)
    replace BX := BX.z hd13
    replace HR := HR.trans hd13 (by simp)
    clear hd13
    refine R.t 0 f18 rfl BX (fun W hW => (E.fa 1 f18 U37 rfl wsz5_ro)) fun a19 f19 => ?_
    refine R.t 1 f19 rfl BX (fun W hW => (E.load f19 U5 rfl rfl ((hW).cl rfl))) fun a20 f20 => ?_
    refine R.t 3 f20 rfl BX (fun W hW => (E.fa 6 f20 U37 rfl wsz30_ro)) fun a21 f21 => ?_
    refine R.t 4 f21 rfl BX (fun W hW => (E.fa 1 f21 U30 rfl wsz28_ro)) fun a22 f22 => ?_
    refine R.t 5 f22 rfl BX (fun W hW => (E.load f22 U28 rfl rfl ((hW).cl rfl))) fun a23 f23 => ?_
    refine R.t 6 f23 rfl BX (fun W hW => (E.fa 2 f23 U37 rfl wsz5_ro)) fun a24 f24 => ?_
    refine R.t 7 f24 rfl BX (fun W hW => (E.load f24 U5 rfl rfl ((hW).cl rfl))) fun a25 f25 => ?_
    clear f18 a17 f19 a19 f20 a20 f21 a21 f22 a22 f23 a23 f24 a24
    refine R.t 8 f25 rfl BX (fun W hW => (E.rem f25 rfl rfl (by omega) (Int.tmod_eq_emod_of_nonneg (by omega)))) fun a26 f26 => ?_
    refine R.t 9 f26 rfl BX (fun W hW => (E.conv f26 U5 U3 rfl (IntWalk.i64_in _ (by omega)))) fun a27 f27 => ?_
    refine R.t 10 f27 rfl BX (fun W hW => (E.fa 6 f27 U37 rfl wsz30_ro)) fun a28 f28 => ?_
    refine R.t 11 f28 rfl BX (fun W hW => (E.fa 3 f28 U30 rfl wsz4_ro)) fun a29 f29 => ?_
    refine R.t 12 f29 rfl BX (fun W hW => (E.load f29 U4 rfl rfl ((hW).cl rfl))) fun a30 f30 => ?_
    clear f25 a25 f26 a26 f27 a27 f28 a28 f29 a29
    refine R.two 2 14 (by kernel_rfl) ?_ ?_
    ·skip
     refine O.call f30 rfl rfl (by decide) wantedN (run_call Tryz.call24 (args1 f30 rfl)) (stopic_any x.k _ hu2.1 hu2.2) ?_
     rintro e w4 ⟨kc4, rfl⟩
     have szw4 := kc4.size
     replace HK := blwB HK hB (Mod.of_kept0 (T := []) (M := []) kc4)
     replace BX := BX.z kc4
     replace HR := HR.trans kc4 (by simp)
     refine ⟨_, rfl, BX, fun a31 f31 => ?_⟩
     clear f30 a30 kc4
     refine R.t 13 f31 rfl BX (fun W hW => (E.build f31 (parts4 f31 rfl rfl rfl rfl) (wbl30_0_1_2_3_ro _ _ _ _ _ _))) fun a32 f32 => ?_
     refine R.one 14 (by kernel_rfl) ?_
     refine O.alloc f32 rfl wantedN (by decide) (z := (.agg #[(.string ⟨#[]⟩), (.slice none 0 0), (.int .i64 0), (.bool false)])) (fun _ => by kernel_rfl) rfl (fun _ hk => BX.z hk) fun a33 w5 g4 N4 hSn f33 => ?_
     clear f31 a31 hSn
     have Bg4 := N4.blk
     have kg4 := N4.kept
     have log4 := N4.lo
     have ltg4 := Bg4.lt
     have szw5 := kg4.size
     have frg4 : w.heap.size ≤ g4 := Nat.le_trans HK.size log4
     have frg4_HR : w2.heap.size ≤ g4 := Nat.le_trans HR.size log4
     have negx_g4 : gx ≠ g4 := by have := BX.lt; omega
     replace HK := blwB HK hB (Mod.of_kept0 (T := []) (M := []) kg4)
     replace BX := BX.z kg4
     replace HR := HR.trans kg4 (by simp)
     clear N4 kg4
     refine R.one 15 (by kernel_rfl) ?_
     refine OS.storeR f33 rfl wantedN wsz30_ro rfl rfl rfl Bg4 rfl rfl (fun _ hk => BX.kept hk (by simp; omega)) fun a34 w6 f34 NB6 ks6 => ?_
     have szw6 := ks6.size
     replace HK := blwB HK hB (Mod.of_blk1 (M := []) ks6 Bg4 (by omega))
     replace BX := BX.kept ks6 (by simp; omega)
     replace HR := HR.nn ks6 frg4_HR
     replace Bg4 := NB6
     clear f32 a32 ks6 f33 a33
     exact R.done (by kernel_rfl) (jK J14 (by rw [hJ14]; exact ⟨g4, HT.nq frg4_HR, HT.kept0 HR, HK, BX, Bg4, f34.sub (sx (sx (sx (sx sn))))⟩))
    skip
    refine O.alloc f30 rfl wantedN (by decide) (z := (.agg #[(.string ⟨#[]⟩), (.slice none 0 0), (.int .i64 0), (.bool false)])) (fun _ => by kernel_rfl) rfl (fun _ hk => BX.z hk) fun a31 w4 g3 N3 hSn f31 => ?_
    clear hSn
    have Bg3 := N3.blk
    have kg3 := N3.kept
    have log3 := N3.lo
    have ltg3 := Bg3.lt
    have szw4 := kg3.size
    have frg3 : w.heap.size ≤ g3 := Nat.le_trans HK.size log3
    have frg3_HR : w2.heap.size ≤ g3 := Nat.le_trans HR.size log3
    have negx_g3 : gx ≠ g3 := by have := BX.lt; omega
    replace HK := blwB HK hB (Mod.of_kept0 (T := []) (M := []) kg3)
    replace BX := BX.z kg3
    replace HR := HR.trans kg3 (by simp)
    clear N3 kg3
    refine R.call 2 f31 rfl rfl (by decide) (by kernel_rfl) wantedN (run_call Tryz.call24 (args1 f31 rfl)) (stopic_any x.k _ hu2.1 hu2.2) ?_
    clear f30 a30
    rintro e w5 ⟨kc5, rfl⟩
    have szw5 := kc5.size
    replace HK := blwB HK hB (Mod.of_kept0 (T := []) (M := []) kc5)
    replace BX := BX.z kc5
    replace HR := HR.trans kc5 (by simp)
    replace Bg3 := Bg3.z kc5
    refine ⟨_, rfl, BX, fun a32 f32 => ?_⟩
    clear f31 a31 kc5
    refine R.t 13 f32 rfl BX (fun W hW => (E.build f32 (parts4 f32 rfl rfl rfl rfl) (wbl30_0_1_2_3_ro _ _ _ _ _ _))) fun a33 f33 => ?_
    refine R.one 15 (by kernel_rfl) ?_
    refine OS.storeR f33 rfl wantedN wsz30_ro rfl rfl rfl Bg3 rfl rfl (fun _ hk => BX.kept hk (by simp; omega)) fun a34 w6 f34 NB6 ks6 => ?_
    have szw6 := ks6.size
    replace HK := blwB HK hB (Mod.of_blk1 (M := []) ks6 Bg3 (by omega))
    replace BX := BX.kept ks6 (by simp; omega)
    replace HR := HR.nn ks6 frg3_HR
    replace Bg3 := NB6
    clear f32 a32 ks6 f33 a33
    exact R.done (by kernel_rfl) (jK J14 (by rw [hJ14]; exact ⟨g3, HT.nq frg3_HR, HT.kept0 HR, HK, BX, Bg3, f34.sub (sx (sx (sx (sx sn))))⟩))
   intro a19 w3 hj
   rw [hJ14] at hj
   clear hJ14 J14
   obtain ⟨g7, nq, HT, HK, BX, B7, f19⟩ := hj
   try clear f18
   have szc := HK.size
   refine wp_seq_k fun K8 hK8 => ?_
   have hd14 : Kept [] w3 (w3.drewN 1) := (Kept.refl _ _).drewN 1
   refine R.begin (S := fun W => (Blk W gx 37 (xc x).toArray) ∧ (Blk W g7 30 (mcell (⟨⟨p7.getD (x.k % 7).toNat ⟨#[]⟩, x.m.pay, x.q % 3, x.m.ret⟩, x.mA, x.mc⟩ : Mc)).toArray)) (by kernel_rfl) ⟨BX.z hd14, B7.z hd14⟩ ?_
   obtain ⟨w4, hww4⟩ : ∃ W, W = w3.drewN 1 := ⟨_, rfl⟩
   rw [← hww4] at hd14 ⊢
   clear hww4
   have szw4 := hd14.size
   replace HK := blwB HK hB (Mod.of_kept0 (T := []) (M := []) hd14)
   replace HT := HT.kept0 hd14
   replace BX := BX.z hd14
   replace B7 := B7.z hd14
   clear hd14
   refine R.t 0 f19 rfl ⟨BX, B7⟩ (fun W hW => (E.move f19 rfl)) fun a20 f20 => ?_
   refine R.t 1 f20 rfl ⟨BX, B7⟩ (fun W hW => (E.loadB f20 U30 rfl wsz30_ro rfl (hW.2) rfl)) fun a21 f21 => ?_
   refine R.t 2 f21 rfl ⟨BX, B7⟩ (fun W hW => (E.fa 4 f21 U37 rfl wsz4_ro)) fun a22 f22 => ?_
   refine R.t 3 f22 rfl ⟨BX, B7⟩ (fun W hW => (E.load f22 U4 rfl rfl ((hW.1).cl rfl))) fun a23 f23 => ?_
   refine R.t 4 f23 rfl ⟨BX, B7⟩ (fun W hW => (E.fa 5 f23 U37 rfl wsz3_ro)) fun a24 f24 => ?_
   refine R.t 5 f24 rfl ⟨BX, B7⟩ (fun W hW => (E.load f24 U3 rfl rfl ((hW.1).cl rfl))) fun a25 f25 => ?_
   refine R.t 7 f25 rfl ⟨BX, B7⟩ (fun W hW => (E.move f25 rfl)) fun a26 f26 => ?_
   clear f19 a19 f20 a20 f21 a21 f22 a22 f23 a23 f24 a24 f25 a25
   refine R.t 8 f26 rfl ⟨BX, B7⟩ (fun W hW => (E.loadB f26 U30 rfl wsz30_ro rfl (hW.2) rfl)) fun a27 f27 => ?_
   refine R.t 9 f27 rfl ⟨BX, B7⟩ (fun W hW => (E.fa 4 f27 U37 rfl wsz4_ro)) fun a28 f28 => ?_
   refine R.t 10 f28 rfl ⟨BX, B7⟩ (fun W hW => (E.load f28 U4 rfl rfl ((hW.1).cl rfl))) fun a29 f29 => ?_
   refine R.t 11 f29 rfl ⟨BX, B7⟩ (fun W hW => (E.fa 5 f29 U37 rfl wsz3_ro)) fun a30 f30 => ?_
   refine R.t 12 f30 rfl ⟨BX, B7⟩ (fun W hW => (E.load f30 U3 rfl rfl ((hW.1).cl rfl))) fun a31 f31 => ?_
   refine R.call 6 f31 rfl rfl (by decide) (by kernel_rfl) wantedN (run_call Tryz.call10 (args4 f31 rfl rfl rfl rfl)) (sendM HT B7 nq ⟨p7.getD (x.k % 7).toNat ⟨#[]⟩, x.m.pay, x.q % 3, x.m.ret⟩ x.mA x.mc x.on x.now (hpay _ HK) (by omega)) ?_
   clear f26 a26 f27 a27 f28 a28 f29 a29 f30 a30
   rintro e w5 ⟨s5, A5, c5, pk5, M5, rfl, HT5, ha5, PK5, hl5, kc5, b75, nq5⟩
   have szw5 := kc5.size
   replace HK := blwB HK hB kc5
   replace BX := BX.mod kc5 (by decide)
   replace B7 := b75
   refine ⟨_, rfl, ⟨BX, B7⟩, fun a32 f32 => ?_⟩
   clear f31 a31 kc5
   refine R.call 13 f32 rfl rfl (by decide) (by kernel_rfl) wantedN (run_call Tryz.call26 (args4 f32 rfl rfl rfl rfl)) (sendRM HT5 hab B7 nq5 ⟨p7.getD (x.k % 7).toNat ⟨#[]⟩, x.m.pay, x.q % 3, x.m.ret⟩ x.mA x.mc x.on x.now (hpay _ HK) (by omega)) ?_
   rintro e w6 ⟨r6, A6, c6, pk6, M6, rfl, HT6, hls6, ha6, PK6, hl6, kc6, b76, nq6⟩
   obtain ⟨hx6, hpp6⟩ := Prod.mk.inj (ha5.trans ha6.symm)
   replace hab : r6.abs = s5.abs := hx6.symm
   replace hsub : SubsR Em r6.ls := by rw [hls6]; exact hsub
   clear hx6 ha6 ha5
   have szw6 := kc6.size
   replace HK := blwB HK hB kc6
   replace BX := BX.mod kc6 (by decide)
   replace B7 := b76
   replace PK5 := PK5.mod kc6 (by decide)
   refine ⟨_, rfl, ⟨BX, B7⟩, fun a33 f33 => ?_⟩
   clear f32 a32 kc6
   refine R.call 14 f33 rfl rfl (by decide) (by kernel_rfl) wantedN (run_call Tryz.call25 (args2 f33 rfl rfl)) (packetsB PK5 PK6 hpp6 hl5) ?_
   rintro e w7 ⟨kc7, rfl⟩
   have szw7 := kc7.size
   replace HK := blwB HK hB (Mod.of_kept0 (T := []) (M := []) kc7)
   replace BX := BX.z kc7
   replace B7 := B7.z kc7
   replace PK5 := PK5.mod (Mod.of_kept0 (T := []) (M := []) (B := B) kc7) (by simp)
   replace HT6 := HT6.kept0 kc7
   replace PK6 := PK6.mod (Mod.of_kept0 (T := []) (M := []) (B := B) kc7) (by simp)
   refine ⟨_, rfl, ⟨BX, B7⟩, fun a34 f34 => ?_⟩
   clear f33 a33 kc7
   refine R.t 15 f34 rfl ⟨BX, B7⟩ (fun W hW => (E.not f34 rfl)) fun a35 f35 => ?_
   refine R.t 16 f35 rfl ⟨BX, B7⟩ (fun W hW => (E.move f35 rfl)) fun a36 f36 => ?_
   refine R.t 17 f36 rfl ⟨BX, B7⟩ (fun W hW => (E.move f36 rfl)) (hw := (f36.yes rfl rfl)) fun a37 f37 => ?_
   refine R.t 18 f37 rfl ⟨BX, B7⟩ (fun W hW => (E.fa 6 f37 U37 rfl wsz30_ro)) (hw := (f37.yes rfl rfl)) fun a38 f38 => ?_
   refine R.t 19 f38 rfl ⟨BX, B7⟩ (fun W hW => (E.loadR f38 U30 rfl wsz30_ro rfl ((Blk.part hW.1 6 (mcell (⟨x.m, x.mA, x.mc⟩ : Mc)) rfl)) rfl)) (hw := (f38.yes rfl rfl)) fun a39 f39 => ?_
   refine R.t 20 f39 rfl ⟨BX, B7⟩ (fun W hW => (E.fa 4 f39 U37 rfl wsz4_ro)) (hw := (f39.yes rfl rfl)) fun a40 f40 => ?_
   refine R.t 21 f40 rfl ⟨BX, B7⟩ (fun W hW => (E.load f40 U4 rfl rfl ((hW.1).cl rfl))) (hw := (f40.yes rfl rfl)) fun a41 f41 => ?_
   clear f34 a34 f35 a35 f36 a36 f37 a37 f38 a38 f39 a39 f40 a40
   refine R.t 22 f41 rfl ⟨BX, B7⟩ (fun W hW => (E.fa 5 f41 U37 rfl wsz3_ro)) (hw := (f41.yes rfl rfl)) fun a42 f42 => ?_
   refine R.t 23 f42 rfl ⟨BX, B7⟩ (fun W hW => (E.load f42 U3 rfl rfl ((hW.1).cl rfl))) (hw := (f42.yes rfl rfl)) fun a43 f43 => ?_
   refine R.t 25 f43 rfl ⟨BX, B7⟩ (fun W hW => (E.move f43 rfl)) (hw := (f43.yes rfl rfl)) fun a44 f44 => ?_
   refine R.t 26 f44 rfl ⟨BX, B7⟩ (fun W hW => (E.fa 6 f44 U37 rfl wsz30_ro)) (hw := (f44.yes rfl rfl)) fun a45 f45 => ?_
   refine R.t 27 f45 rfl ⟨BX, B7⟩ (fun W hW => (E.loadR f45 U30 rfl wsz30_ro rfl ((Blk.part hW.1 6 (mcell (⟨x.m, x.mA, x.mc⟩ : Mc)) rfl)) rfl)) (hw := (f45.yes rfl rfl)) fun a46 f46 => ?_
   refine R.t 28 f46 rfl ⟨BX, B7⟩ (fun W hW => (E.fa 4 f46 U37 rfl wsz4_ro)) (hw := (f46.yes rfl rfl)) fun a47 f47 => ?_
   refine R.t 29 f47 rfl ⟨BX, B7⟩ (fun W hW => (E.load f47 U4 rfl rfl ((hW.1).cl rfl))) (hw := (f47.yes rfl rfl)) fun a48 f48 => ?_
   clear f41 a41 f42 a42 f43 a43 f44 a44 f45 a45 f46 a46 f47 a47
   refine R.t 30 f48 rfl ⟨BX, B7⟩ (fun W hW => (E.fa 5 f48 U37 rfl wsz3_ro)) (hw := (f48.yes rfl rfl)) fun a49 f49 => ?_
   refine R.t 31 f49 rfl ⟨BX, B7⟩ (fun W hW => (E.load f49 U3 rfl rfl ((hW.1).cl rfl))) (hw := (f49.yes rfl rfl)) fun a50 f50 => ?_
   refine R.call 24 f50 rfl rfl (by decide) (by kernel_rfl) (f50.yes rfl rfl) (run_call Tryz.call10 (args4 f50 rfl rfl rfl rfl)) (sendM HT6 B7 nq6 x.m x.mA x.mc x.on x.now (hpay _ HK) (by omega)) ?_
   clear f48 a48 f49 a49
   rintro e w8 ⟨s8, A8, c8, pk8, M8, rfl, HT8, ha8, PK8, hl8, kc8, b78, nq8⟩
   have szw8 := kc8.size
   replace HK := blwB HK hB kc8
   replace BX := BX.mod kc8 (by decide)
   replace B7 := b78
   refine ⟨_, rfl, ⟨BX, B7⟩, fun a51 f51 => ?_⟩
   clear f50 a50 kc8
   refine R.call 32 f51 rfl rfl (by decide) (by kernel_rfl) (f51.yes rfl rfl) (run_call Tryz.call26 (args4 f51 rfl rfl rfl rfl)) (sendRM HT8 hab B7 nq8 x.m x.mA x.mc x.on x.now (hpay _ HK) (by omega)) ?_
   rintro e w9 ⟨r9, A9, c9, pk9, M9, rfl, HT9, hls9, ha9, PK9, hl9, kc9, b79, nq9⟩
   obtain ⟨hx9, hpp9⟩ := Prod.mk.inj (ha8.trans ha9.symm)
   replace hab : r9.abs = s8.abs := hx9.symm
   replace hsub : SubsR Em r9.ls := by rw [hls9]; exact hsub
   clear hx9 ha9 ha8
   have szw9 := kc9.size
   replace HK := blwB HK hB kc9
   replace BX := BX.mod kc9 (by decide)
   replace B7 := b79
   replace PK8 := PK8.mod kc9 (by decide)
   refine ⟨_, rfl, ⟨BX, B7⟩, fun a52 f52 => ?_⟩
   clear f51 a51 kc9
   refine R.call 33 f52 rfl rfl (by decide) (by kernel_rfl) (f52.yes rfl rfl) (run_call Tryz.call25 (args2 f52 rfl rfl)) (packetsB PK8 PK9 hpp9 hl8) ?_
   rintro e w10 ⟨kc10, rfl⟩
   have szw10 := kc10.size
   replace HK := blwB HK hB (Mod.of_kept0 (T := []) (M := []) kc10)
   replace BX := BX.z kc10
   replace B7 := B7.z kc10
   replace PK8 := PK8.mod (Mod.of_kept0 (T := []) (M := []) (B := B) kc10) (by simp)
   replace HT9 := HT9.kept0 kc10
   replace PK9 := PK9.mod (Mod.of_kept0 (T := []) (M := []) (B := B) kc10) (by simp)
   refine ⟨_, rfl, ⟨BX, B7⟩, fun a53 f53 => ?_⟩
   clear f52 a52 kc10
   refine R.t 34 f53 rfl ⟨BX, B7⟩ (fun W hW => (E.not f53 rfl)) (hw := (f53.yes rfl rfl)) fun a54 f54 => ?_
   refine R.t 35 f54 rfl ⟨BX, B7⟩ (fun W hW => (E.pickF f54 rfl rfl)) fun a55 f55 => ?_
   refine R.done (by kernel_rfl) (hK8 _ _ ?_)
   have f56 := f55.pk [0, 1, 135]
   refine C.condF f56 rfl ?_
   exact wp_skip (jK J36 (by rw [hJ36]; exact ⟨s8, Em, r9, HT9.up (by omega), hab, hsub, HK, f56.sub (sx (sx sn))⟩))
  refine C.condF f18 rfl ?_
  obtain ⟨J19, hJ19⟩ : ∃ J : Act → World → Prop, J = fun a W => ∃ b : Bool, Two B N W p gs pr s Em r ∧ Below B w W ∧ Blk W gx 37 (xc x).toArray ∧ Fr 282 a [(0, .pointer (some ⟨p, 0, none⟩)), (1, .pointer (some ⟨pr, 0, none⟩)), (5, .pointer (some ⟨gx, 0, none⟩)), (18, .int .u8 (x.what % 12)), (136, .bool b)] := ⟨_, rfl⟩
  clear f17
  refine C.cut J19 ?_ ?_
  ·skip
   refine C.sk fun K9 hK9 => ?_
   refine L.va f18 (E.eql f18 rfl rfl) fun a19 f19 => ?_
   refine L.ag f19 fun a20 f20 => ?_
   refine wn hK9 ?_
   have f21 := f20.pk [0, 1, 5, 18, 136]
   clear f18 a17 f19 a19 f20
   refine f21.splitD 136 rfl (fun h5 f22 => ?_) (fun h5 f22 => ?_)
   ·refine C.condT f22 rfl ?_
    exact wp_skip (jK J19 (by rw [hJ19]; exact ⟨_, HT, HK, BX, f22.sub (sr rfl (sr rfl (sr rfl (sr rfl (sr rfl sn)))))⟩))
   refine C.condF f22 rfl ?_
   refine C.sk fun K10 hK10 => ?_
   refine L.va f22 (E.eql f22 rfl rfl) fun a23 f23 => ?_
   refine L.ag f23 fun a24 f24 => ?_
   refine wn hK10 ?_
   have f25 := f24.pk [0, 1, 5, 18, 136]
   clear f21 f22 a20 f23 a23 f24
   refine f25.splitD 136 rfl (fun h6 f26 => ?_) (fun h6 f26 => ?_)
   ·refine C.condT f26 rfl ?_
    exact wp_skip (jK J19 (by rw [hJ19]; exact ⟨_, HT, HK, BX, f26.sub (sr rfl (sr rfl (sr rfl (sr rfl (sr rfl sn)))))⟩))
   refine C.condF f26 rfl ?_
   refine C.region ?_
   refine L.va f26 (E.eql f26 rfl rfl) fun a27 f27 => ?_
   refine L.ag f27 fun a28 f28 => ?_
   exact wpList_nil (jK J19 (by rw [hJ19]; exact ⟨_, HT, HK, BX, f28.sub (sr rfl (sr rfl (sr rfl (sr rfl (sr rfl sn)))))⟩))
  intro a19 w3 hj
  rw [hJ19] at hj
  clear hJ19 J19
  obtain ⟨b, HT, HK, BX, f19⟩ := hj
  try clear f18
  have szc := HK.size
  refine f19.split 136 rfl (fun h7 f20 => ?_) (fun h7 f20 => ?_)
  ·refine C.condT f20 rfl ?_
   obtain ⟨J20, hJ20⟩ : ∃ J : Act → World → Prop, J = fun a W => ∃ gq : Nat, Two B N W p gs pr s Em r ∧ Below B w W ∧ Blk W gx 37 (xc x).toArray ∧ Blk W gq 35 (pk3 x).toArray ∧ Fr 282 a [(0, .pointer (some ⟨p, 0, none⟩)), (1, .pointer (some ⟨pr, 0, none⟩)), (5, .pointer (some ⟨gx, 0, none⟩)), (8, .pointer (some ⟨gq, 0, none⟩))] := ⟨_, rfl⟩
   clear f19
   refine C.cut J20 ?_ ?_
   ·skip
    have hd19 : Kept [] w3 (w3.drewN 1) := (Kept.refl _ _).drewN 1
    refine R.begin (S := fun W => (Blk W gx 37 (xc x).toArray)) (by kernel_rfl) (BX.z hd19) ?_
    obtain ⟨w4, hww4⟩ : ∃ W, W = w3.drewN 1 := ⟨_, rfl⟩
    rw [← hww4] at hd19 ⊢
    clear hww4
    have szw4 := hd19.size
    replace HK := blwB HK hB (Mod.of_kept0 (T := []) (M := []) hd19)
    replace HT := HT.kept0 hd19
    replace BX := BX.z hd19
    clear hd19
    refine R.t 1 f20 rfl BX (fun W hW => (E.fa 2 f20 U37 rfl wsz5_ro)) fun a21 f21 => ?_
    refine R.t 2 f21 rfl BX (fun W hW => (E.load f21 U5 rfl rfl ((hW).cl rfl))) fun a22 f22 => ?_
    refine R.t 3 f22 rfl BX (fun W hW => (E.rem f22 rfl rfl (by omega) (Int.tmod_eq_emod_of_nonneg (by omega)))) fun a23 f23 => ?_
    refine R.t 6 f23 rfl BX (fun W hW => (E.fa 3 f23 U37 rfl wsz5_ro)) fun a24 f24 => ?_
    refine R.t 7 f24 rfl BX (fun W hW => (E.load f24 U5 rfl rfl ((hW).cl rfl))) fun a25 f25 => ?_
    refine R.t 8 f25 rfl BX (fun W hW => (E.rem f25 rfl rfl (by omega) (Int.tmod_eq_emod_of_nonneg (by omega)))) fun a26 f26 => ?_
    refine R.t 9 f26 rfl BX (fun W hW => (E.conv f26 U5 U3 rfl (IntWalk.i64_in _ (by omega)))) fun a27 f27 => ?_
    clear f20 a19 f21 a21 f22 a22 f23 a23 f24 a24 f25 a25 f26 a26
    refine R.t 10 f27 rfl BX (fun W hW => (E.add f27 rfl rfl (IntWalk.i64_in _ (by omega)))) fun a28 f28 => ?_
    clear f27 a27
    refine R.two 0 12 (by kernel_rfl) ?_ ?_
    ·skip
     refine O.buildSlice f28 rfl wantedN (by decide) (parts3 f28 rfl rfl rfl) U33 wzi3_ro rfl rfl (wbs33_3_ro _ _ _) (fun _ hk => BX.z hk) fun a29 w5 g4 N4 hSn f29 => ?_
     clear hSn
     have Bg4 := N4.blk
     have kg4 := N4.kept
     have log4 := N4.lo
     have ltg4 := Bg4.lt
     have szw5 := kg4.size
     have frg4 : w.heap.size ≤ g4 := Nat.le_trans HK.size log4
     have negx_g4 : gx ≠ g4 := by have := BX.lt; omega
     replace HK := blwB HK hB (Mod.of_kept0 (T := []) (M := []) kg4)
     replace HT := HT.kept0 kg4
     replace BX := BX.z kg4
     clear N4 kg4
     refine R.t 4 f29 rfl BX (fun W hW => (E.indexA f29 (by rfl) U33 wsz3_ro rfl rfl (by omega) (by omega))) fun a30 f30 => ?_
     clear f28 a28 f29 a29
     refine R.two 5 12 (by kernel_rfl) ?_ ?_
     ·skip
      refine O.val f30 rfl rfl (by decide) wantedN (E.load f30 U3 rfl rfl (k3_cell Bg4 hu3.1)) BX fun a31 f31 => ?_
      refine R.t 11 f31 rfl BX (fun W hW => (E.build f31 (parts2 f31 rfl rfl) (wbl35_0_4_ro _ _))) fun a32 f32 => ?_
      refine R.one 12 (by kernel_rfl) ?_
      refine O.alloc f32 rfl wantedN (by decide) (z := (.agg #[(.int .i64 0), (.bool false), (.bool false), (.int .i64 0), (.int .i64 0), (.string ⟨#[]⟩), (.slice none 0 0), (.int .i64 0), (.string ⟨#[]⟩), (.bool false), (.int .i64 0), (.bool false), (.string ⟨#[]⟩), (.slice none 0 0), (.int .i64 0), (.bool false), (.bool false), (.bool false), (.string ⟨#[]⟩), (.slice none 0 0), (.bool false), (.int .i64 0), (.slice none 0 0), (.slice none 0 0)])) (fun _ => by kernel_rfl) rfl (fun _ hk => BX.z hk) fun a33 w6 g5 N5 hSn f33 => ?_
      clear f30 a30 f31 a31 hSn
      have Bg5 := N5.blk
      have kg5 := N5.kept
      have log5 := N5.lo
      have ltg5 := Bg5.lt
      have szw6 := kg5.size
      have frg5 : w.heap.size ≤ g5 := Nat.le_trans HK.size log5
      have negx_g5 : gx ≠ g5 := by have := BX.lt; omega
      have neg4_g5 : g4 ≠ g5 := by have := Bg4.lt; omega
      replace HK := blwB HK hB (Mod.of_kept0 (T := []) (M := []) kg5)
      replace HT := HT.kept0 kg5
      replace BX := BX.z kg5
      replace Bg4 := Bg4.z kg5
      clear N5 kg5
      refine R.one 13 (by kernel_rfl) ?_
      refine OS.storeR f33 rfl wantedN wsz35_ro rfl rfl rfl Bg5 rfl rfl (fun _ hk => BX.kept hk (by simp; omega)) fun a34 w7 f34 NB7 ks7 => ?_
      have szw7 := ks7.size
      replace HK := blwB HK hB (Mod.of_blk1 (M := []) ks7 Bg5 (by omega))
      replace HT := HT.mod (Mod.of_blk1 (M := []) (B := B) ks7 Bg5 (by omega)) (by decide)
      replace BX := BX.kept ks7 (by simp; omega)
      replace Bg4 := Bg4.kept ks7 (by simp; omega)
      replace Bg5 := NB7
      clear f32 a32 ks7 f33 a33
      exact R.done (by kernel_rfl) (jK J20 (by rw [hJ20]; exact ⟨g5, HT, HK, BX, Bg5, f34.sub (sx (sx (sx (sx sn))))⟩))
     skip
     refine O.alloc f30 rfl wantedN (by decide) (z := (.agg #[(.int .i64 0), (.bool false), (.bool false), (.int .i64 0), (.int .i64 0), (.string ⟨#[]⟩), (.slice none 0 0), (.int .i64 0), (.string ⟨#[]⟩), (.bool false), (.int .i64 0), (.bool false), (.string ⟨#[]⟩), (.slice none 0 0), (.int .i64 0), (.bool false), (.bool false), (.bool false), (.string ⟨#[]⟩), (.slice none 0 0), (.bool false), (.int .i64 0), (.slice none 0 0), (.slice none 0 0)])) (fun _ => by kernel_rfl) rfl (fun _ hk => BX.z hk) fun a31 w6 g5 N5 hSn f31 => ?_
     clear hSn
     have Bg5 := N5.blk
     have kg5 := N5.kept
     have log5 := N5.lo
     have ltg5 := Bg5.lt
     have szw6 := kg5.size
     have frg5 : w.heap.size ≤ g5 := Nat.le_trans HK.size log5
     have negx_g5 : gx ≠ g5 := by have := BX.lt; omega
     have neg4_g5 : g4 ≠ g5 := by have := Bg4.lt; omega
     replace HK := blwB HK hB (Mod.of_kept0 (T := []) (M := []) kg5)
     replace HT := HT.kept0 kg5
     replace BX := BX.z kg5
     replace Bg4 := Bg4.z kg5
     clear N5 kg5
     refine R.one 5 (by kernel_rfl) ?_
     refine O.val f31 rfl rfl (by decide) wantedN (E.load f31 U3 rfl rfl (k3_cell Bg4 hu3.1)) BX fun a32 f32 => ?_
     refine R.t 11 f32 rfl BX (fun W hW => (E.build f32 (parts2 f32 rfl rfl) (wbl35_0_4_ro _ _))) fun a33 f33 => ?_
     refine R.one 13 (by kernel_rfl) ?_
     refine OS.storeR f33 rfl wantedN wsz35_ro rfl rfl rfl Bg5 rfl rfl (fun _ hk => BX.kept hk (by simp; omega)) fun a34 w7 f34 NB7 ks7 => ?_
     have szw7 := ks7.size
     replace HK := blwB HK hB (Mod.of_blk1 (M := []) ks7 Bg5 (by omega))
     replace HT := HT.mod (Mod.of_blk1 (M := []) (B := B) ks7 Bg5 (by omega)) (by decide)
     replace BX := BX.kept ks7 (by simp; omega)
     replace Bg4 := Bg4.kept ks7 (by simp; omega)
     replace Bg5 := NB7
     clear f30 a30 f31 a31 f32 a32 ks7 f33 a33
     exact R.done (by kernel_rfl) (jK J20 (by rw [hJ20]; exact ⟨g5, HT, HK, BX, Bg5, f34.sub (sx (sx (sx (sx sn))))⟩))
    skip
    refine O.alloc f28 rfl wantedN (by decide) (z := (.agg #[(.int .i64 0), (.bool false), (.bool false), (.int .i64 0), (.int .i64 0), (.string ⟨#[]⟩), (.slice none 0 0), (.int .i64 0), (.string ⟨#[]⟩), (.bool false), (.int .i64 0), (.bool false), (.string ⟨#[]⟩), (.slice none 0 0), (.int .i64 0), (.bool false), (.bool false), (.bool false), (.string ⟨#[]⟩), (.slice none 0 0), (.bool false), (.int .i64 0), (.slice none 0 0), (.slice none 0 0)])) (fun _ => by kernel_rfl) rfl (fun _ hk => BX.z hk) fun a29 w5 g4 N4 hSn f29 => ?_
    clear hSn
    have Bg4 := N4.blk
    have kg4 := N4.kept
    have log4 := N4.lo
    have ltg4 := Bg4.lt
    have szw5 := kg4.size
    have frg4 : w.heap.size ≤ g4 := Nat.le_trans HK.size log4
    have negx_g4 : gx ≠ g4 := by have := BX.lt; omega
    replace HK := blwB HK hB (Mod.of_kept0 (T := []) (M := []) kg4)
    replace HT := HT.kept0 kg4
    replace BX := BX.z kg4
    clear N4 kg4
    refine R.one 0 (by kernel_rfl) ?_
    refine O.buildSlice f29 rfl wantedN (by decide) (parts3 f29 rfl rfl rfl) U33 wzi3_ro rfl rfl (wbs33_3_ro _ _ _) (fun _ hk => BX.z hk) fun a30 w6 g5 N5 hSn f30 => ?_
    clear f28 a28 hSn
    have Bg5 := N5.blk
    have kg5 := N5.kept
    have log5 := N5.lo
    have ltg5 := Bg5.lt
    have szw6 := kg5.size
    have frg5 : w.heap.size ≤ g5 := Nat.le_trans HK.size log5
    have negx_g5 : gx ≠ g5 := by have := BX.lt; omega
    have neg4_g5 : g4 ≠ g5 := by have := Bg4.lt; omega
    replace HK := blwB HK hB (Mod.of_kept0 (T := []) (M := []) kg5)
    replace HT := HT.kept0 kg5
    replace BX := BX.z kg5
    replace Bg4 := Bg4.z kg5
    clear N5 kg5
    refine R.t 4 f30 rfl BX (fun W hW => (E.indexA f30 (by rfl) U33 wsz3_ro rfl rfl (by omega) (by omega))) fun a31 f31 => ?_
    refine R.one 5 (by kernel_rfl) ?_
    refine O.val f31 rfl rfl (by decide) wantedN (E.load f31 U3 rfl rfl (k3_cell Bg5 hu3.1)) BX fun a32 f32 => ?_
    refine R.t 11 f32 rfl BX (fun W hW => (E.build f32 (parts2 f32 rfl rfl) (wbl35_0_4_ro _ _))) fun a33 f33 => ?_
    refine R.one 13 (by kernel_rfl) ?_
    refine OS.storeR f33 rfl wantedN wsz35_ro rfl rfl rfl Bg4 rfl rfl (fun _ hk => BX.kept hk (by simp; omega)) fun a34 w7 f34 NB7 ks7 => ?_
    have szw7 := ks7.size
    replace HK := blwB HK hB (Mod.of_blk1 (M := []) ks7 Bg4 (by omega))
    replace HT := HT.mod (Mod.of_blk1 (M := []) (B := B) ks7 Bg4 (by omega)) (by decide)
    replace BX := BX.kept ks7 (by simp; omega)
    replace Bg5 := Bg5.kept ks7 (by simp; omega)
    replace Bg4 := NB7
    clear f29 a29 f30 a30 f31 a31 f32 a32 ks7 f33 a33
    exact R.done (by kernel_rfl) (jK J20 (by rw [hJ20]; exact ⟨g4, HT, HK, BX, Bg4, f34.sub (sx (sx (sx (sx sn))))⟩))
   intro a21 w4 hj
   rw [hJ20] at hj
   clear hJ20 J20
   obtain ⟨gq, HT, HK, BX, BQ, f21⟩ := hj
   try clear f20
   have szc := HK.size
   refine wp_seq_k fun K11 hK11 => ?_
   have hd20 : Kept [] w4 (w4.drewN 1) := (Kept.refl _ _).drewN 1
   refine R.begin (S := fun W => (Blk W gx 37 (xc x).toArray) ∧ (Blk W gq 35 (pk3 x).toArray)) (by kernel_rfl) ⟨BX.z hd20, BQ.z hd20⟩ ?_
   obtain ⟨w5, hww5⟩ : ∃ W, W = w4.drewN 1 := ⟨_, rfl⟩
   rw [← hww5] at hd20 ⊢
   clear hww5
   have szw5 := hd20.size
   replace HK := blwB HK hB (Mod.of_kept0 (T := []) (M := []) hd20)
   replace HT := HT.kept0 hd20
   replace BX := BX.z hd20
   replace BQ := BQ.z hd20
   clear hd20
   refine R.t 0 f21 rfl ⟨BX, BQ⟩ (fun W hW => (E.move f21 rfl)) fun a22 f22 => ?_
   refine R.t 1 f22 rfl ⟨BX, BQ⟩ (fun W hW => (E.loadB f22 U35 rfl wsz35_ro rfl (hW.2) rfl)) fun a23 f23 => ?_
   refine R.t 2 f23 rfl ⟨BX, BQ⟩ (fun W hW => (E.fa 5 f23 U37 rfl wsz3_ro)) fun a24 f24 => ?_
   refine R.t 3 f24 rfl ⟨BX, BQ⟩ (fun W hW => (E.load f24 U3 rfl rfl ((hW.1).cl rfl))) fun a25 f25 => ?_
   refine R.t 5 f25 rfl ⟨BX, BQ⟩ (fun W hW => (E.move f25 rfl)) fun a26 f26 => ?_
   refine R.t 6 f26 rfl ⟨BX, BQ⟩ (fun W hW => (E.loadB f26 U35 rfl wsz35_ro rfl (hW.2) rfl)) fun a27 f27 => ?_
   refine R.t 7 f27 rfl ⟨BX, BQ⟩ (fun W hW => (E.fa 5 f27 U37 rfl wsz3_ro)) fun a28 f28 => ?_
   clear f21 a21 f22 a22 f23 a23 f24 a24 f25 a25 f26 a26 f27 a27
   refine R.t 8 f28 rfl ⟨BX, BQ⟩ (fun W hW => (E.load f28 U3 rfl rfl ((hW.1).cl rfl))) fun a29 f29 => ?_
   refine R.call 4 f29 rfl rfl (by decide) (by kernel_rfl) wantedN (run_call Tryz.call12 (args3 f29 rfl rfl rfl)) (ackB HT (k3 x.q) (x.i % 12 + 1) x.now (pk3 x).toArray rfl rfl) ?_
   clear f28 a28
   rintro e w6 ⟨s6, A6, c6, pk6, M6, rfl, HT6, ha6, PK6, hl6, kc6⟩
   have szw6 := kc6.size
   replace HK := blwB HK hB kc6
   replace BX := BX.mod kc6 (by decide)
   replace BQ := BQ.mod kc6 (by decide)
   refine ⟨_, rfl, ⟨BX, BQ⟩, fun a30 f30 => ?_⟩
   clear f29 a29 kc6
   refine R.call 9 f30 rfl rfl (by decide) (by kernel_rfl) wantedN (run_call Tryz.call27 (args3 f30 rfl rfl rfl)) (ackRB HT6 hab (k3 x.q) (x.i % 12 + 1) x.now (pk3 x).toArray rfl rfl) ?_
   rintro e w7 ⟨r7, A7, c7, pk7, M7, rfl, HT7, hls7, ha7, PK7, hl7, kc7⟩
   obtain ⟨hx7, hpp7⟩ := Prod.mk.inj (ha6.trans ha7.symm)
   replace hab : r7.abs = s6.abs := hx7.symm
   replace hsub : SubsR Em r7.ls := by rw [hls7]; exact hsub
   clear hx7 ha7 ha6
   have szw7 := kc7.size
   replace HK := blwB HK hB kc7
   replace BX := BX.mod kc7 (by decide)
   replace BQ := BQ.mod kc7 (by decide)
   replace PK6 := PK6.mod kc7 (by decide)
   refine ⟨_, rfl, ⟨BX, BQ⟩, fun a31 f31 => ?_⟩
   clear f30 a30 kc7
   refine R.call 10 f31 rfl rfl (by decide) (by kernel_rfl) wantedN (run_call Tryz.call25 (args2 f31 rfl rfl)) (packetsB PK6 PK7 hpp7 hl6) ?_
   rintro e w8 ⟨kc8, rfl⟩
   have szw8 := kc8.size
   replace HK := blwB HK hB (Mod.of_kept0 (T := []) (M := []) kc8)
   replace BX := BX.z kc8
   replace BQ := BQ.z kc8
   replace PK6 := PK6.mod (Mod.of_kept0 (T := []) (M := []) (B := B) kc8) (by simp)
   replace HT7 := HT7.kept0 kc8
   replace PK7 := PK7.mod (Mod.of_kept0 (T := []) (M := []) (B := B) kc8) (by simp)
   refine ⟨_, rfl, ⟨BX, BQ⟩, fun a32 f32 => ?_⟩
   clear f31 a31 kc8
   refine R.t 11 f32 rfl ⟨BX, BQ⟩ (fun W hW => (E.not f32 rfl)) fun a33 f33 => ?_
   refine R.t 12 f33 rfl ⟨BX, BQ⟩ (fun W hW => (E.move f33 rfl)) fun a34 f34 => ?_
   refine R.t 13 f34 rfl ⟨BX, BQ⟩ (fun W hW => (E.move f34 rfl)) (hw := (f34.yes rfl rfl)) fun a35 f35 => ?_
   refine R.t 14 f35 rfl ⟨BX, BQ⟩ (fun W hW => (E.fa 10 f35 U37 rfl wsz35_ro)) (hw := (f35.yes rfl rfl)) fun a36 f36 => ?_
   refine R.t 15 f36 rfl ⟨BX, BQ⟩ (fun W hW => (E.loadR f36 U35 rfl wsz35_ro rfl ((Blk.part hW.1 10 (x.p.cells x.ad).toList rfl)) rfl)) (hw := (f36.yes rfl rfl)) fun a37 f37 => ?_
   refine R.t 16 f37 rfl ⟨BX, BQ⟩ (fun W hW => (E.fa 5 f37 U37 rfl wsz3_ro)) (hw := (f37.yes rfl rfl)) fun a38 f38 => ?_
   refine R.t 17 f38 rfl ⟨BX, BQ⟩ (fun W hW => (E.load f38 U3 rfl rfl ((hW.1).cl rfl))) (hw := (f38.yes rfl rfl)) fun a39 f39 => ?_
   clear f32 a32 f33 a33 f34 a34 f35 a35 f36 a36 f37 a37 f38 a38
   refine R.t 19 f39 rfl ⟨BX, BQ⟩ (fun W hW => (E.move f39 rfl)) (hw := (f39.yes rfl rfl)) fun a40 f40 => ?_
   refine R.t 20 f40 rfl ⟨BX, BQ⟩ (fun W hW => (E.fa 10 f40 U37 rfl wsz35_ro)) (hw := (f40.yes rfl rfl)) fun a41 f41 => ?_
   refine R.t 21 f41 rfl ⟨BX, BQ⟩ (fun W hW => (E.loadR f41 U35 rfl wsz35_ro rfl ((Blk.part hW.1 10 (x.p.cells x.ad).toList rfl)) rfl)) (hw := (f41.yes rfl rfl)) fun a42 f42 => ?_
   refine R.t 22 f42 rfl ⟨BX, BQ⟩ (fun W hW => (E.fa 5 f42 U37 rfl wsz3_ro)) (hw := (f42.yes rfl rfl)) fun a43 f43 => ?_
   refine R.t 23 f43 rfl ⟨BX, BQ⟩ (fun W hW => (E.load f43 U3 rfl rfl ((hW.1).cl rfl))) (hw := (f43.yes rfl rfl)) fun a44 f44 => ?_
   refine R.call 18 f44 rfl rfl (by decide) (by kernel_rfl) (f44.yes rfl rfl) (run_call Tryz.call12 (args3 f44 rfl rfl rfl)) (ackB HT7 x.p.kind x.p.id x.now (x.p.cells x.ad) rfl rfl) ?_
   clear f39 a39 f40 a40 f41 a41 f42 a42 f43 a43
   rintro e w9 ⟨s9, A9, c9, pk9, M9, rfl, HT9, ha9, PK9, hl9, kc9⟩
   have szw9 := kc9.size
   replace HK := blwB HK hB kc9
   replace BX := BX.mod kc9 (by decide)
   replace BQ := BQ.mod kc9 (by decide)
   refine ⟨_, rfl, ⟨BX, BQ⟩, fun a45 f45 => ?_⟩
   clear f44 a44 kc9
   refine R.call 24 f45 rfl rfl (by decide) (by kernel_rfl) (f45.yes rfl rfl) (run_call Tryz.call27 (args3 f45 rfl rfl rfl)) (ackRB HT9 hab x.p.kind x.p.id x.now (x.p.cells x.ad) rfl rfl) ?_
   rintro e w10 ⟨r10, A10, c10, pk10, M10, rfl, HT10, hls10, ha10, PK10, hl10, kc10⟩
   obtain ⟨hx10, hpp10⟩ := Prod.mk.inj (ha9.trans ha10.symm)
   replace hab : r10.abs = s9.abs := hx10.symm
   replace hsub : SubsR Em r10.ls := by rw [hls10]; exact hsub
   clear hx10 ha10 ha9
   have szw10 := kc10.size
   replace HK := blwB HK hB kc10
   replace BX := BX.mod kc10 (by decide)
   replace BQ := BQ.mod kc10 (by decide)
   replace PK9 := PK9.mod kc10 (by decide)
   refine ⟨_, rfl, ⟨BX, BQ⟩, fun a46 f46 => ?_⟩
   clear f45 a45 kc10
   refine R.call 25 f46 rfl rfl (by decide) (by kernel_rfl) (f46.yes rfl rfl) (run_call Tryz.call25 (args2 f46 rfl rfl)) (packetsB PK9 PK10 hpp10 hl9) ?_
   rintro e w11 ⟨kc11, rfl⟩
   have szw11 := kc11.size
   replace HK := blwB HK hB (Mod.of_kept0 (T := []) (M := []) kc11)
   replace BX := BX.z kc11
   replace BQ := BQ.z kc11
   replace PK9 := PK9.mod (Mod.of_kept0 (T := []) (M := []) (B := B) kc11) (by simp)
   replace HT10 := HT10.kept0 kc11
   replace PK10 := PK10.mod (Mod.of_kept0 (T := []) (M := []) (B := B) kc11) (by simp)
   refine ⟨_, rfl, ⟨BX, BQ⟩, fun a47 f47 => ?_⟩
   clear f46 a46 kc11
   refine R.t 26 f47 rfl ⟨BX, BQ⟩ (fun W hW => (E.not f47 rfl)) (hw := (f47.yes rfl rfl)) fun a48 f48 => ?_
   refine R.t 27 f48 rfl ⟨BX, BQ⟩ (fun W hW => (E.pickF f48 rfl rfl)) fun a49 f49 => ?_
   refine R.done (by kernel_rfl) (hK11 _ _ ?_)
   have f50 := f49.pk [0, 1, 179]
   refine C.condF f50 rfl ?_
   exact wp_skip (jK J36 (by rw [hJ36]; exact ⟨s9, Em, r10, HT10.up (by omega), hab, hsub, HK, f50.sub (sx (sx sn))⟩))
  refine C.condF f20 rfl ?_
  obtain ⟨J24, hJ24⟩ : ∃ J : Act → World → Prop, J = fun a W => ∃ b : Bool, Two B N W p gs pr s Em r ∧ Below B w W ∧ Blk W gx 37 (xc x).toArray ∧ Fr 282 a [(0, .pointer (some ⟨p, 0, none⟩)), (1, .pointer (some ⟨pr, 0, none⟩)), (5, .pointer (some ⟨gx, 0, none⟩)), (18, .int .u8 (x.what % 12)), (180, .bool b)] := ⟨_, rfl⟩
  clear f19
  refine C.cut J24 ?_ ?_
  ·skip
   refine C.sk fun K12 hK12 => ?_
   refine L.va f20 (E.eql f20 rfl rfl) fun a21 f21 => ?_
   refine L.ag f21 fun a22 f22 => ?_
   refine wn hK12 ?_
   have f23 := f22.pk [0, 1, 5, 18, 180]
   clear f20 a19 f21 a21 f22
   refine f23.splitD 180 rfl (fun h8 f24 => ?_) (fun h8 f24 => ?_)
   ·refine C.condT f24 rfl ?_
    exact wp_skip (jK J24 (by rw [hJ24]; exact ⟨_, HT, HK, BX, f24.sub (sr rfl (sr rfl (sr rfl (sr rfl (sr rfl sn)))))⟩))
   refine C.condF f24 rfl ?_
   refine C.region ?_
   refine L.va f24 (E.eql f24 rfl rfl) fun a25 f25 => ?_
   refine L.ag f25 fun a26 f26 => ?_
   exact wpList_nil (jK J24 (by rw [hJ24]; exact ⟨_, HT, HK, BX, f26.sub (sr rfl (sr rfl (sr rfl (sr rfl (sr rfl sn)))))⟩))
  intro a21 w4 hj
  rw [hJ24] at hj
  clear hJ24 J24
  obtain ⟨b, HT, HK, BX, f21⟩ := hj
  try clear f20
  have szc := HK.size
  refine f21.split 180 rfl (fun h9 f22 => ?_) (fun h9 f22 => ?_)
  ·refine C.condT f22 rfl ?_
   obtain ⟨J25, hJ25⟩ : ∃ J : Act → World → Prop, J = fun a W => ∃ gq : Nat, Two B N W p gs pr s Em r ∧ Below B w W ∧ Blk W gx 37 (xc x).toArray ∧ Blk W gq 35 ((p8 x).cells (adp none 0)) ∧ Fr 282 a [(0, .pointer (some ⟨p, 0, none⟩)), (1, .pointer (some ⟨pr, 0, none⟩)), (5, .pointer (some ⟨gx, 0, none⟩)), (9, .pointer (some ⟨gq, 0, none⟩))] := ⟨_, rfl⟩
   clear f21
   refine C.cut J25 ?_ ?_
   ·skip
    have hd24 : Kept [] w4 (w4.drewN 1) := (Kept.refl _ _).drewN 1
    refine R.begin (S := fun W => (Blk W gx 37 (xc x).toArray)) (by kernel_rfl) (BX.z hd24) ?_
    obtain ⟨w5, hww5⟩ : ∃ W, W = w4.drewN 1 := ⟨_, rfl⟩
    rw [← hww5] at hd24 ⊢
    clear hww5
    have szw5 := hd24.size
    replace HK := blwB HK hB (Mod.of_kept0 (T := []) (M := []) hd24)
    replace HT := HT.kept0 hd24
    replace BX := BX.z hd24
    clear hd24
    refine R.t 1 f22 rfl BX (fun W hW => (E.fa 2 f22 U37 rfl wsz5_ro)) fun a23 f23 => ?_
    refine R.t 2 f23 rfl BX (fun W hW => (E.load f23 U5 rfl rfl ((hW).cl rfl))) fun a24 f24 => ?_
    refine R.t 3 f24 rfl BX (fun W hW => (E.rem f24 rfl rfl (by omega) (Int.tmod_eq_emod_of_nonneg (by omega)))) fun a25 f25 => ?_
    refine R.t 6 f25 rfl BX (fun W hW => (E.fa 2 f25 U37 rfl wsz5_ro)) fun a26 f26 => ?_
    refine R.t 7 f26 rfl BX (fun W hW => (E.load f26 U5 rfl rfl ((hW).cl rfl))) fun a27 f27 => ?_
    refine R.t 8 f27 rfl BX (fun W hW => (E.quo f27 rfl rfl (by omega) (IntWalk.u8_quo _ _ ⟨by omega, by omega, by omega⟩))) fun a28 f28 => ?_
    refine R.t 9 f28 rfl BX (fun W hW => (E.rem f28 rfl rfl (by omega) (Int.tmod_eq_emod_of_nonneg (by omega)))) fun a29 f29 => ?_
    clear f22 a21 f23 a23 f24 a24 f25 a25 f26 a26 f27 a27 f28 a28
    refine R.t 10 f29 rfl BX (fun W hW => (E.conv f29 U5 U3 rfl (IntWalk.i64_in _ (by omega)))) fun a30 f30 => ?_
    refine R.t 11 f30 rfl BX (fun W hW => (E.fa 3 f30 U37 rfl wsz5_ro)) fun a31 f31 => ?_
    refine R.t 12 f31 rfl BX (fun W hW => (E.load f31 U5 rfl rfl ((hW).cl rfl))) fun a32 f32 => ?_
    refine R.t 13 f32 rfl BX (fun W hW => (E.rem f32 rfl rfl (by omega) (Int.tmod_eq_emod_of_nonneg (by omega)))) fun a33 f33 => ?_
    refine R.t 14 f33 rfl BX (fun W hW => (E.conv f33 U5 U3 rfl (IntWalk.i64_in _ (by omega)))) fun a34 f34 => ?_
    refine R.t 15 f34 rfl BX (fun W hW => (E.add f34 rfl rfl (IntWalk.i64_in _ (by omega)))) fun a35 f35 => ?_
    clear f29 a29 f30 a30 f31 a31 f32 a32 f33 a33 f34 a34
    refine R.two 0 17 (by kernel_rfl) ?_ ?_
    ·skip
     refine O.buildSlice f35 rfl wantedN (by decide) (parts2 f35 rfl rfl) U33 wzi3_ro rfl rfl (wbs33_2_ro _ _) (fun _ hk => BX.z hk) fun a36 w6 g5 N5 hSn f36 => ?_
     clear hSn
     have Bg5 := N5.blk
     have kg5 := N5.kept
     have log5 := N5.lo
     have ltg5 := Bg5.lt
     have szw6 := kg5.size
     have frg5 : w.heap.size ≤ g5 := Nat.le_trans HK.size log5
     have negx_g5 : gx ≠ g5 := by have := BX.lt; omega
     replace HK := blwB HK hB (Mod.of_kept0 (T := []) (M := []) kg5)
     replace HT := HT.kept0 kg5
     replace BX := BX.z kg5
     clear N5 kg5
     refine R.t 4 f36 rfl BX (fun W hW => (E.indexA f36 (by rfl) U33 wsz3_ro rfl rfl (by omega) (by omega))) fun a37 f37 => ?_
     clear f35 a35 f36 a36
     refine R.two 5 17 (by kernel_rfl) ?_ ?_
     ·skip
      refine O.val f37 rfl rfl (by decide) wantedN (E.load f37 U3 rfl rfl (k2_cell Bg5 hu3.1)) BX fun a38 f38 => ?_
      refine R.t 16 f38 rfl BX (fun W hW => (E.build f38 (parts4 f38 rfl rfl rfl rfl) (wbl35_0_3_4_5_ro _ _ _ _))) fun a39 f39 => ?_
      refine R.one 17 (by kernel_rfl) ?_
      refine O.alloc f39 rfl wantedN (by decide) (z := (.agg #[(.int .i64 0), (.bool false), (.bool false), (.int .i64 0), (.int .i64 0), (.string ⟨#[]⟩), (.slice none 0 0), (.int .i64 0), (.string ⟨#[]⟩), (.bool false), (.int .i64 0), (.bool false), (.string ⟨#[]⟩), (.slice none 0 0), (.int .i64 0), (.bool false), (.bool false), (.bool false), (.string ⟨#[]⟩), (.slice none 0 0), (.bool false), (.int .i64 0), (.slice none 0 0), (.slice none 0 0)])) (fun _ => by kernel_rfl) rfl (fun _ hk => BX.z hk) fun a40 w7 g6 N6 hSn f40 => ?_
      clear f37 a37 f38 a38 hSn
      have Bg6 := N6.blk
      have kg6 := N6.kept
      have log6 := N6.lo
      have ltg6 := Bg6.lt
      have szw7 := kg6.size
      have frg6 : w.heap.size ≤ g6 := Nat.le_trans HK.size log6
      have negx_g6 : gx ≠ g6 := by have := BX.lt; omega
      have neg5_g6 : g5 ≠ g6 := by have := Bg5.lt; omega
      replace HK := blwB HK hB (Mod.of_kept0 (T := []) (M := []) kg6)
      replace HT := HT.kept0 kg6
      replace BX := BX.z kg6
      replace Bg5 := Bg5.z kg6
      clear N6 kg6
      refine R.one 18 (by kernel_rfl) ?_
      refine OS.storeR f40 rfl wantedN wsz35_ro rfl rfl rfl Bg6 rfl rfl (fun _ hk => BX.kept hk (by simp; omega)) fun a41 w8 f41 NB8 ks8 => ?_
      have szw8 := ks8.size
      replace HK := blwB HK hB (Mod.of_blk1 (M := []) ks8 Bg6 (by omega))
      replace HT := HT.mod (Mod.of_blk1 (M := []) (B := B) ks8 Bg6 (by omega)) (by decide)
      replace BX := BX.kept ks8 (by simp; omega)
      replace Bg5 := Bg5.kept ks8 (by simp; omega)
      replace Bg6 := NB8
      clear f39 a39 ks8 f40 a40
      exact R.done (by kernel_rfl) (jK J25 (by rw [hJ25]; exact ⟨g6, HT, HK, BX, Bg6, f41.sub (sx (sx (sx (sx sn))))⟩))
     skip
     refine O.alloc f37 rfl wantedN (by decide) (z := (.agg #[(.int .i64 0), (.bool false), (.bool false), (.int .i64 0), (.int .i64 0), (.string ⟨#[]⟩), (.slice none 0 0), (.int .i64 0), (.string ⟨#[]⟩), (.bool false), (.int .i64 0), (.bool false), (.string ⟨#[]⟩), (.slice none 0 0), (.int .i64 0), (.bool false), (.bool false), (.bool false), (.string ⟨#[]⟩), (.slice none 0 0), (.bool false), (.int .i64 0), (.slice none 0 0), (.slice none 0 0)])) (fun _ => by kernel_rfl) rfl (fun _ hk => BX.z hk) fun a38 w7 g6 N6 hSn f38 => ?_
     clear hSn
     have Bg6 := N6.blk
     have kg6 := N6.kept
     have log6 := N6.lo
     have ltg6 := Bg6.lt
     have szw7 := kg6.size
     have frg6 : w.heap.size ≤ g6 := Nat.le_trans HK.size log6
     have negx_g6 : gx ≠ g6 := by have := BX.lt; omega
     have neg5_g6 : g5 ≠ g6 := by have := Bg5.lt; omega
     replace HK := blwB HK hB (Mod.of_kept0 (T := []) (M := []) kg6)
     replace HT := HT.kept0 kg6
     replace BX := BX.z kg6
     replace Bg5 := Bg5.z kg6
     clear N6 kg6
     refine R.one 5 (by kernel_rfl) ?_
     refine O.val f38 rfl rfl (by decide) wantedN (E.load f38 U3 rfl rfl (k2_cell Bg5 hu3.1)) BX fun a39 f39 => ?_
     refine R.t 16 f39 rfl BX (fun W hW => (E.build f39 (parts4 f39 rfl rfl rfl rfl) (wbl35_0_3_4_5_ro _ _ _ _))) fun a40 f40 => ?_
     refine R.one 18 (by kernel_rfl) ?_
     refine OS.storeR f40 rfl wantedN wsz35_ro rfl rfl rfl Bg6 rfl rfl (fun _ hk => BX.kept hk (by simp; omega)) fun a41 w8 f41 NB8 ks8 => ?_
     have szw8 := ks8.size
     replace HK := blwB HK hB (Mod.of_blk1 (M := []) ks8 Bg6 (by omega))
     replace HT := HT.mod (Mod.of_blk1 (M := []) (B := B) ks8 Bg6 (by omega)) (by decide)
     replace BX := BX.kept ks8 (by simp; omega)
     replace Bg5 := Bg5.kept ks8 (by simp; omega)
     replace Bg6 := NB8
     clear f37 a37 f38 a38 f39 a39 ks8 f40 a40
     exact R.done (by kernel_rfl) (jK J25 (by rw [hJ25]; exact ⟨g6, HT, HK, BX, Bg6, f41.sub (sx (sx (sx (sx sn))))⟩))
    skip
    refine O.alloc f35 rfl wantedN (by decide) (z := (.agg #[(.int .i64 0), (.bool false), (.bool false), (.int .i64 0), (.int .i64 0), (.string ⟨#[]⟩), (.slice none 0 0), (.int .i64 0), (.string ⟨#[]⟩), (.bool false), (.int .i64 0), (.bool false), (.string ⟨#[]⟩), (.slice none 0 0), (.int .i64 0), (.bool false), (.bool false), (.bool false), (.string ⟨#[]⟩), (.slice none 0 0), (.bool false), (.int .i64 0), (.slice none 0 0), (.slice none 0 0)])) (fun _ => by kernel_rfl) rfl (fun _ hk => BX.z hk) fun a36 w6 g5 N5 hSn f36 => ?_
    clear hSn
    have Bg5 := N5.blk
    have kg5 := N5.kept
    have log5 := N5.lo
    have ltg5 := Bg5.lt
    have szw6 := kg5.size
    have frg5 : w.heap.size ≤ g5 := Nat.le_trans HK.size log5
    have negx_g5 : gx ≠ g5 := by have := BX.lt; omega
    replace HK := blwB HK hB (Mod.of_kept0 (T := []) (M := []) kg5)
    replace HT := HT.kept0 kg5
    replace BX := BX.z kg5
    clear N5 kg5
    refine R.one 0 (by kernel_rfl) ?_
    refine O.buildSlice f36 rfl wantedN (by decide) (parts2 f36 rfl rfl) U33 wzi3_ro rfl rfl (wbs33_2_ro _ _) (fun _ hk => BX.z hk) fun a37 w7 g6 N6 hSn f37 => ?_
    clear f35 a35 hSn
    have Bg6 := N6.blk
    have kg6 := N6.kept
    have log6 := N6.lo
    have ltg6 := Bg6.lt
    have szw7 := kg6.size
    have frg6 : w.heap.size ≤ g6 := Nat.le_trans HK.size log6
    have negx_g6 : gx ≠ g6 := by have := BX.lt; omega
    have neg5_g6 : g5 ≠ g6 := by have := Bg5.lt; omega
    replace HK := blwB HK hB (Mod.of_kept0 (T := []) (M := []) kg6)
    replace HT := HT.kept0 kg6
    replace BX := BX.z kg6
    replace Bg5 := Bg5.z kg6
    clear N6 kg6
    refine R.t 4 f37 rfl BX (fun W hW => (E.indexA f37 (by rfl) U33 wsz3_ro rfl rfl (by omega) (by omega))) fun a38 f38 => ?_
    refine R.one 5 (by kernel_rfl) ?_
    refine O.val f38 rfl rfl (by decide) wantedN (E.load f38 U3 rfl rfl (k2_cell Bg6 hu3.1)) BX fun a39 f39 => ?_
    refine R.t 16 f39 rfl BX (fun W hW => (E.build f39 (parts4 f39 rfl rfl rfl rfl) (wbl35_0_3_4_5_ro _ _ _ _))) fun a40 f40 => ?_
    refine R.one 18 (by kernel_rfl) ?_
    refine OS.storeR f40 rfl wantedN wsz35_ro rfl rfl rfl Bg5 rfl rfl (fun _ hk => BX.kept hk (by simp; omega)) fun a41 w8 f41 NB8 ks8 => ?_
    have szw8 := ks8.size
    replace HK := blwB HK hB (Mod.of_blk1 (M := []) ks8 Bg5 (by omega))
    replace HT := HT.mod (Mod.of_blk1 (M := []) (B := B) ks8 Bg5 (by omega)) (by decide)
    replace BX := BX.kept ks8 (by simp; omega)
    replace Bg6 := Bg6.kept ks8 (by simp; omega)
    replace Bg5 := NB8
    clear f36 a36 f37 a37 f38 a38 f39 a39 ks8 f40 a40
    exact R.done (by kernel_rfl) (jK J25 (by rw [hJ25]; exact ⟨g5, HT, HK, BX, Bg5, f41.sub (sx (sx (sx (sx sn))))⟩))
   intro a23 w5 hj
   rw [hJ25] at hj
   clear hJ25 J25
   obtain ⟨gq, HT, HK, BX, BQ, f23⟩ := hj
   try clear f22
   have szc := HK.size
   refine C.sk fun K13 hK13 => ?_
   refine L.va f23 (E.loadB f23 U35 rfl wsz35_ro rfl (BQ) rfl) fun a24 f24 => ?_
   refine L.fa 10 f24 U37 rfl wsz35_ro fun a25 f25 => ?_
   refine L.va f25 (E.loadR f25 U35 rfl wsz35_ro rfl ((Blk.part BX 10 (x.p.cells x.ad).toList rfl)) rfl) fun a26 f26 => ?_
   refine L.buildSlice f26 wantedN (by decide) (parts2 f26 rfl rfl) U42 wzi35_ro rfl rfl (wbs42_2_ro _ _ _ _ _ _ _ _ _ _ _ _ _ _ _ _ _ _ _ _ _ _ _ _ _ _ _ _ _ _ _ _ _ _ _ _ _ _ _ _ _ _ _ _ _ _ _ _) fun a27 w6 g5 N5 f27 => ?_
   have Bg5 := N5.blk
   have kg5 := N5.kept
   have log5 := N5.lo
   have ltg5 := Bg5.lt
   have szw6 := kg5.size
   have frg5 : w.heap.size ≤ g5 := Nat.le_trans HK.size log5
   have negx_g5 : gx ≠ g5 := by have := BX.lt; omega
   have negq_g5 : gq ≠ g5 := by have := BQ.lt; omega
   replace HK := blwB HK hB (Mod.of_kept0 (T := []) (M := []) kg5)
   replace HT := HT.kept0 kg5
   replace BX := BX.z kg5
   replace BQ := BQ.z kg5
   clear f23 a23 f24 a24 f25 a25 N5 kg5
   refine L.va f27 (E.lenL f27 U42 rfl) fun a28 f28 => ?_
   refine L.mv f28 fun a29 f29 => ?_
   refine wn hK13 ?_
   have f30 := f29.pk [0, 1, 203, 204, 205]
   refine wp_block ?_
   obtain ⟨gy, hgy⟩ : ∃ g, g = g5 := ⟨_, rfl⟩
   obtain ⟨ys, hyl⟩ : ∃ l, l = [((p8 x, adp none 0) : Pk × Ad), (x.p, x.ad)] := ⟨_, rfl⟩
   have BY : Blk w6 gy 35 ((ys).flatMap ykc).toArray := by rw [hyl, hgy]; exact Bg5
   have hys : ∀ y ∈ ys, (Lit.int .i64 y.1.id).wf = true := by rw [hyl]; exact ys_wf x hu4 hwf
   have hy2 : ys.length = 2 := by rw [hyl]; rfl
   rw [← hgy] at f30
   clear f26 a26 f27 a27 f28 a28 f29
   refine C.loop (fun gk a W => ∃ (k : Nat) (s' : Ses) (r' : Rs), k + gk = 2 ∧ Two B (N + 2 * k) W p gs pr s' Em r' ∧ r'.abs = s'.abs ∧ SubsR Em r'.ls ∧ Below B w W ∧ Blk W gy 35 ((ys).flatMap ykc).toArray ∧ Fr 282 a [(0, .pointer (some ⟨p, 0, none⟩)), (1, .pointer (some ⟨pr, 0, none⟩)), (203, .slice (some ⟨gy, 0, none⟩) 2 2), (204, .int .i64 2), (205, .int .i64 k)]) (2) ?_ ?_
   ·exact ⟨0, s, r, by omega, HT, hab, hsub, HK, BY, f30.sub (sx (sx (sx (sx (sx sn)))))⟩
   intro gk15 a31 w7 hI KL14 hKL14
   obtain ⟨k, s', r', hk, HT, hab, hsub, HK, BY, f31⟩ := hI
   try clear f30
   have szk := HK.size
   refine C.sk fun K15 hK15 => ?_
   refine L.va f31 (E.lss f31 rfl rfl) fun a32 f32 => ?_
   refine wn hK15 ?_
   have f33 := f32.pk [0, 1, 203, 204, 205, 206]
   refine wp_seq_k fun K16 hK16 => ?_
   clear f31 a31 f32
   refine f33.splitD 206 rfl (fun h10 f34 => ?_) (fun h10 f34 => ?_)
   ·have h206 := h10
    obtain ⟨y, hy⟩ := some_at ys k (by omega)
    have hym := List.mem_of_getElem? hy
    refine C.condT f34 rfl ?_
    refine wp_skip (hK16 _ _ ?_)
    have f35 := f34.pk [0, 1, 203, 204, 205, 206]
    refine wp_seq_k fun K17 hK17 => ?_
    refine wp_block ?_
    refine C.sk fun K18 hK18 => ?_
    refine L.va f35 (E.indexA f35 (by rfl) U42 wsz35_ro rfl rfl (by omega) (by omega)) fun a36 f36 => ?_
    refine L.va f36 (E.loadR f36 U35 rfl wsz35_ro rfl ((ys_row BY hy)) rfl) fun a37 f37 => ?_
    refine L.alloc f37 wantedN (by decide) (z := (.agg #[(.int .i64 0), (.bool false), (.bool false), (.int .i64 0), (.int .i64 0), (.string ⟨#[]⟩), (.slice none 0 0), (.int .i64 0), (.string ⟨#[]⟩), (.bool false), (.int .i64 0), (.bool false), (.string ⟨#[]⟩), (.slice none 0 0), (.int .i64 0), (.bool false), (.bool false), (.bool false), (.string ⟨#[]⟩), (.slice none 0 0), (.bool false), (.int .i64 0), (.slice none 0 0), (.slice none 0 0)])) (fun _ => by kernel_rfl) rfl fun a38 w8 g7 N7 f38 => ?_
    have Bg7 := N7.blk
    have kg7 := N7.kept
    have log7 := N7.lo
    have ltg7 := Bg7.lt
    have szw8 := kg7.size
    have frg7 : w.heap.size ≤ g7 := Nat.le_trans HK.size log7
    have negy_g7 : gy ≠ g7 := by have := BY.lt; omega
    replace HK := blwB HK hB (Mod.of_kept0 (T := []) (M := []) kg7)
    replace HT := HT.kept0 kg7
    replace BY := BY.z kg7
    clear f33 f34 f35 a32 f36 a36 N7 kg7
    refine L.storeR f38 wantedN wsz35_ro rfl rfl rfl Bg7 rfl rfl fun a39 w9 f39 NB9 ks9 => ?_
    have szw9 := ks9.size
    replace HK := blwB HK hB (Mod.of_blk1 (M := []) ks9 Bg7 (by omega))
    replace HT := HT.mod (Mod.of_blk1 (M := []) (B := B) ks9 Bg7 (by omega)) (by decide)
    replace BY := BY.kept ks9 (by simp; omega)
    replace Bg7 := NB9
    clear f37 a37 ks9 f38 a38
    refine wn hK18 ?_
    have f40 := f39.pk [0, 1, 11, 203, 204, 205, 206, 207, 208]
    refine wp_seq_k fun K19 hK19 => ?_
    obtain ⟨g11, rfl⟩ : ∃ g, g = g7 := ⟨_, rfl⟩
    have B11 : Blk w9 g11 35 (ykc y).toArray := Bg7
    clear f39 Bg7
    refine C.region ?_
    refine L.mv f40 fun a41 f41 => ?_
    refine L.va f41 (E.loadB f41 U35 rfl wsz35_ro rfl (B11) rfl) fun a42 f42 => ?_
    refine L.cl f42 (run_call Tryz.call13 (args2 f42 rfl rfl)) (gotB HT y.1.kind y.1.qos y.1.id (ykc y).toArray rfl rfl rfl (hys y hym) (by omega)) ?_
    clear f40 a39 f41 a41
    rintro e w10 ⟨s10, A10, c10, pk10, M10, rfl, HT10, ha10, hb10, PK10, hl10, kc10⟩
    refine ⟨_, rfl, fun a43 f43 => ?_⟩
    have szw10 := kc10.size
    replace HK := blwB HK hB kc10
    replace BY := BY.mod kc10 (by decide)
    replace B11 := B11.mod kc10 (by decide)
    clear f42 a42 kc10
    refine L.mv f43 fun a44 f44 => ?_
    refine L.va f44 (E.extract f44 rfl rfl) fun a45 f45 => ?_
    refine L.va f45 (E.extract f45 rfl rfl) fun a46 f46 => ?_
    refine L.ag f46 fun a47 f47 => ?_
    refine L.ag f47 fun a48 f48 => ?_
    have f49 := f48.pk [0, 1, 11, 12, 13, 203, 204, 205, 206, 207, 208, 209, 210, 211, 212, 213, 214]
    refine wn hK19 (C.sk fun K20 hK20 => ?_)
    refine L.mv f49 fun a50 f50 => ?_
    refine L.va f50 (E.loadB f50 U35 rfl wsz35_ro rfl (B11) rfl) fun a51 f51 => ?_
    clear f43 a43 f44 a44 f45 a45 f46 a46 f47 a47 f48 f49 a48 f50 a50
    refine L.cl f51 (run_call Tryz.call28 (args2 f51 rfl rfl)) (gotRB HT10 hab y.1.kind y.1.qos y.1.id (ykc y).toArray rfl rfl rfl (hys y hym) (by omega)) ?_
    rintro e w11 ⟨r11, A11, c11, pk11, M11, rfl, HT11, hls11, ha11, hb11, PK11, hl11, kc11⟩
    have hpp11 := hb10.trans hb11.symm
    replace hab : r11.abs = s10.abs := ha11.trans ha10.symm
    replace hsub : SubsR Em r11.ls := by rw [hls11]; exact hsub
    refine ⟨_, rfl, fun a52 f52 => ?_⟩
    have szw11 := kc11.size
    replace HK := blwB HK hB kc11
    replace BY := BY.mod kc11 (by decide)
    replace B11 := B11.mod kc11 (by decide)
    replace PK10 := PK10.mod kc11 (by decide)
    clear f51 a51 kc11
    refine L.mv f52 fun a53 f53 => ?_
    refine L.va f53 (E.extract f53 rfl rfl) fun a54 f54 => ?_
    refine L.va f54 (E.extract f54 rfl rfl) fun a55 f55 => ?_
    refine L.ag f55 fun a56 f56 => ?_
    refine L.ag f56 fun a57 f57 => ?_
    have f58 := f57.pk [0, 1, 11, 12, 13, 14, 15, 203, 204, 205, 206, 207, 208, 209, 210, 211, 212, 213, 214, 215, 216, 217, 218, 219, 220]
    refine wn hK20 (C.sk fun K21 hK21 => ?_)
    refine L.mv f58 fun a59 f59 => ?_
    refine L.mv f59 fun a60 f60 => ?_
    clear f52 a52 f53 a53 f54 a54 f55 a55 f56 a56 f57 f58 a57 f59 a59
    refine L.va f60 (E.neqB f60 U4 rfl rfl) fun a61 f61 => ?_
    have f62 := f61.as (i := 223) (v' := .bool false) rfl (by simp)
    refine L.mv f62 fun a63 f63 => ?_
    refine L.mv f63 (hw := (f63.yes rfl rfl)) fun a64 f64 => ?_
    refine L.mv f64 (hw := (f64.yes rfl rfl)) fun a65 f65 => ?_
    refine L.cl f65 (run_call Tryz.call25 (args2 f65 rfl rfl)) (packetsB PK10 PK11 hpp11 hl10) ?_ (hw := (f65.yes rfl rfl))
    clear f60 a60 f61 f62 a61 f63 a63 f64 a64
    rintro e w12 ⟨kc12, rfl⟩
    refine ⟨_, rfl, fun a66 f66 => ?_⟩
    have szw12 := kc12.size
    replace HK := blwB HK hB (Mod.of_kept0 (T := []) (M := []) kc12)
    replace BY := BY.z kc12
    replace B11 := B11.z kc12
    replace PK10 := PK10.mod (Mod.of_kept0 (T := []) (M := []) (B := B) kc12) (by simp)
    replace HT11 := HT11.kept0 kc12
    replace PK11 := PK11.mod (Mod.of_kept0 (T := []) (M := []) (B := B) kc12) (by simp)
    clear f65 a65 kc12
    refine L.va f66 (E.not f66 rfl) (hw := (f66.yes rfl rfl)) fun a67 f67 => ?_
    refine L.va f67 (E.pickF f67 rfl rfl) fun a68 f68 => ?_
    refine wn hK21 ?_
    have f69 := f68.pk [0, 1, 11, 12, 13, 14, 15, 203, 204, 205, 206, 207, 208, 209, 210, 211, 212, 213, 214, 215, 216, 217, 218, 219, 220, 221, 222, 223, 224, 225, 226, 227, 228, 229]
    refine C.condF f69 rfl ?_
    refine wp_skip (hK17 _ _ ?_)
    have f70 := f69.pk [0, 1, 11, 12, 13, 14, 15, 203, 204, 205, 206, 207, 208, 209, 210, 211, 212, 213, 214, 215, 216, 217, 218, 219, 220, 221, 222, 223, 224, 225, 226, 227, 228, 229]
    refine C.region ?_
    refine L.va f70 (E.add f70 rfl rfl (IntWalk.i64_in _ (by omega))) fun a71 f71 => ?_
    refine L.mv f71 fun a72 f72 => ?_
    clear f66 a66 f67 a67 f68 f69 f70 a68 f71 a71
    refine wpList_nil (hKL14 _ _ (gk15 - 1) ?_ ?_)
    ·omega
    exact ⟨k + 1, s10, r11, by omega, (by have h9 := HT11; rwa [show N + 2 * k + 1 + 1 = N + 2 * (k + 1) by omega] at h9), hab, hsub, HK, BY, f72.sub (sx (sx (sx (sx (sx sn)))))⟩
   have h206 := h10
   refine C.condF f34 rfl ?_
   exact wp_exit (jK J36 (by rw [hJ36]; exact ⟨s', Em, r', HT.up (by omega), hab, hsub, HK, f34.sub (sx (sx sn))⟩))
  refine C.condF f22 rfl ?_
  refine C.sk fun K22 hK22 => ?_
  refine L.va f22 (E.eql f22 rfl rfl) fun a23 f23 => ?_
  refine L.ag f23 fun a24 f24 => ?_
  refine wn hK22 ?_
  have f25 := f24.pk [0, 1, 5, 231]
  clear f21 f22 a21 f23 a23 f24
  refine f25.splitD 231 rfl (fun h11 f26 => ?_) (fun h11 f26 => ?_)
  ·refine C.condT f26 rfl ?_
   refine wp_seq_k fun K23 hK23 => ?_
   have hd34 : Kept [] w4 (w4.drewN 1) := (Kept.refl _ _).drewN 1
   refine R.begin (S := fun W => (Blk W gx 37 (xc x).toArray)) (by kernel_rfl) (BX.z hd34) ?_
   obtain ⟨w5, hww5⟩ : ∃ W, W = w4.drewN 1 := ⟨_, rfl⟩
   rw [← hww5] at hd34 ⊢
   clear f25 hww5
   have szw5 := hd34.size
   replace HK := blwB HK hB (Mod.of_kept0 (T := []) (M := []) hd34)
   replace HT := HT.kept0 hd34
   replace BX := BX.z hd34
   clear hd34
   refine R.t 0 f26 rfl BX (fun W hW => (E.move f26 rfl)) fun a27 f27 => ?_
   refine R.t 1 f27 rfl BX (fun W hW => (E.fa 5 f27 U37 rfl wsz3_ro)) fun a28 f28 => ?_
   refine R.t 2 f28 rfl BX (fun W hW => (E.load f28 U3 rfl rfl ((hW).cl rfl))) fun a29 f29 => ?_
   refine R.t 4 f29 rfl BX (fun W hW => (E.move f29 rfl)) fun a30 f30 => ?_
   refine R.t 5 f30 rfl BX (fun W hW => (E.fa 5 f30 U37 rfl wsz3_ro)) fun a31 f31 => ?_
   refine R.t 6 f31 rfl BX (fun W hW => (E.load f31 U3 rfl rfl ((hW).cl rfl))) fun a32 f32 => ?_
   refine R.call 3 f32 rfl rfl (by decide) (by kernel_rfl) wantedN (run_call Tryz.call29 (args2 f32 rfl rfl)) (resumeB HT x.now) ?_
   clear f26 a24 f27 a27 f28 a28 f29 a29 f30 a30 f31 a31
   rintro e w6 ⟨s6, A6, c6, pk6, M6, rfl, HT6, ha6, PK6, hl6, kc6⟩
   have szw6 := kc6.size
   replace HK := blwB HK hB kc6
   replace BX := BX.mod kc6 (by decide)
   refine ⟨_, rfl, BX, fun a33 f33 => ?_⟩
   clear f32 a32 kc6
   refine R.call 7 f33 rfl rfl (by decide) (by kernel_rfl) wantedN (run_call Tryz.call30 (args2 f33 rfl rfl)) (resumeRB HT6 hab x.now) ?_
   rintro e w7 ⟨r7, A7, c7, pk7, M7, rfl, HT7, hls7, ha7, PK7, hl7, kc7⟩
   obtain ⟨hx7, hpp7⟩ := Prod.mk.inj (ha6.trans ha7.symm)
   replace hab : r7.abs = s6.abs := hx7.symm
   replace hsub : SubsR Em r7.ls := by rw [hls7]; exact hsub
   clear hx7 ha7 ha6
   have szw7 := kc7.size
   replace HK := blwB HK hB kc7
   replace BX := BX.mod kc7 (by decide)
   replace PK6 := PK6.mod kc7 (by decide)
   refine ⟨_, rfl, BX, fun a34 f34 => ?_⟩
   clear f33 a33 kc7
   refine R.call 8 f34 rfl rfl (by decide) (by kernel_rfl) wantedN (run_call Tryz.call25 (args2 f34 rfl rfl)) (packetsB PK6 PK7 hpp7 hl6) ?_
   rintro e w8 ⟨kc8, rfl⟩
   have szw8 := kc8.size
   replace HK := blwB HK hB (Mod.of_kept0 (T := []) (M := []) kc8)
   replace BX := BX.z kc8
   replace PK6 := PK6.mod (Mod.of_kept0 (T := []) (M := []) (B := B) kc8) (by simp)
   replace HT7 := HT7.kept0 kc8
   replace PK7 := PK7.mod (Mod.of_kept0 (T := []) (M := []) (B := B) kc8) (by simp)
   refine ⟨_, rfl, BX, fun a35 f35 => ?_⟩
   clear f34 a34 kc8
   refine R.t 9 f35 rfl BX (fun W hW => (E.not f35 rfl)) fun a36 f36 => ?_
   refine R.done (by kernel_rfl) (hK23 _ _ ?_)
   have f37 := f36.pk [0, 1, 242]
   refine C.condF f37 rfl ?_
   exact wp_skip (jK J36 (by rw [hJ36]; exact ⟨s6, Em, r7, HT7.up (by omega), hab, hsub, HK, f37.sub (sx (sx sn))⟩))
  refine C.condF f26 rfl ?_
  refine wp_seq_k fun K24 hK24 => ?_
  have hd2 : Kept [] w4 (w4.drewN 1) := (Kept.refl _ _).drewN 1
  refine R.begin (S := fun W => (Blk W gx 37 (xc x).toArray)) (by kernel_rfl) (BX.z hd2) ?_
  obtain ⟨w5, hww5⟩ : ∃ W, W = w4.drewN 1 := ⟨_, rfl⟩
  rw [← hww5] at hd2 ⊢
  clear f25 hww5
  have szw5 := hd2.size
  replace HK := blwB HK hB (Mod.of_kept0 (T := []) (M := []) hd2)
  replace HT := HT.kept0 hd2
  replace BX := BX.z hd2
  clear hd2
  refine R.t 0 f26 rfl BX (fun W hW => (E.move f26 rfl)) fun a27 f27 => ?_
  refine R.t 1 f27 rfl BX (fun W hW => (E.fa 5 f27 U37 rfl wsz3_ro)) fun a28 f28 => ?_
  refine R.t 2 f28 rfl BX (fun W hW => (E.load f28 U3 rfl rfl ((hW).cl rfl))) fun a29 f29 => ?_
  refine R.t 4 f29 rfl BX (fun W hW => (E.move f29 rfl)) fun a30 f30 => ?_
  refine R.t 5 f30 rfl BX (fun W hW => (E.fa 5 f30 U37 rfl wsz3_ro)) fun a31 f31 => ?_
  refine R.t 6 f31 rfl BX (fun W hW => (E.load f31 U3 rfl rfl ((hW).cl rfl))) fun a32 f32 => ?_
  refine R.call 3 f32 rfl rfl (by decide) (by kernel_rfl) wantedN (run_call Tryz.call31 (args2 f32 rfl rfl)) (againB HT x.now) ?_
  clear f26 a24 f27 a27 f28 a28 f29 a29 f30 a30 f31 a31
  rintro e w6 ⟨s6, A6, c6, pk6, M6, rfl, HT6, ha6, PK6, hl6, kc6⟩
  have szw6 := kc6.size
  replace HK := blwB HK hB kc6
  replace BX := BX.mod kc6 (by decide)
  refine ⟨_, rfl, BX, fun a33 f33 => ?_⟩
  clear f32 a32 kc6
  refine R.call 7 f33 rfl rfl (by decide) (by kernel_rfl) wantedN (run_call Tryz.call32 (args2 f33 rfl rfl)) (againRB HT6 hab x.now) ?_
  rintro e w7 ⟨r7, A7, c7, pk7, M7, rfl, HT7, hls7, ha7, PK7, hl7, kc7⟩
  obtain ⟨hx7, hpp7⟩ := Prod.mk.inj (ha6.trans ha7.symm)
  replace hab : r7.abs = s6.abs := hx7.symm
  replace hsub : SubsR Em r7.ls := by rw [hls7]; exact hsub
  clear hx7 ha7 ha6
  have szw7 := kc7.size
  replace HK := blwB HK hB kc7
  replace BX := BX.mod kc7 (by decide)
  replace PK6 := PK6.mod kc7 (by decide)
  refine ⟨_, rfl, BX, fun a34 f34 => ?_⟩
  clear f33 a33 kc7
  refine R.call 8 f34 rfl rfl (by decide) (by kernel_rfl) wantedN (run_call Tryz.call25 (args2 f34 rfl rfl)) (packetsB PK6 PK7 hpp7 hl6) ?_
  rintro e w8 ⟨kc8, rfl⟩
  have szw8 := kc8.size
  replace HK := blwB HK hB (Mod.of_kept0 (T := []) (M := []) kc8)
  replace BX := BX.z kc8
  replace PK6 := PK6.mod (Mod.of_kept0 (T := []) (M := []) (B := B) kc8) (by simp)
  replace HT7 := HT7.kept0 kc8
  replace PK7 := PK7.mod (Mod.of_kept0 (T := []) (M := []) (B := B) kc8) (by simp)
  refine ⟨_, rfl, BX, fun a35 f35 => ?_⟩
  clear f34 a34 kc8
  refine R.t 9 f35 rfl BX (fun W hW => (E.not f35 rfl)) fun a36 f36 => ?_
  refine R.done (by kernel_rfl) (hK24 _ _ ?_)
  have f37 := f36.pk [0, 1, 28]
  refine C.condF f37 rfl ?_
  exact wp_skip (jK J36 (by rw [hJ36]; exact ⟨s6, Em, r7, HT7.up (by omega), hab, hsub, HK, f37.sub (sx (sx sn))⟩))
 intro a5 w2 hj
 rw [hJ36] at hj
 clear hJ36 J36
 obtain ⟨s, Em, r, HT, hab, hsub, HK, f5⟩ := hj
 try clear f4
 have szc := HK.size
 refine wp_seq_k fun K25 hK25 => ?_
 have BR := HT.R.top
 have BQ : Blk w2 r.q 76 #[.int .i64 8, .int .i64 r.lost, .slice r.QA r.wait.length r.qc] := HT.R.qu.top
 have hfl : s.fly.length = r.fly.length := by have := congrArg (fun a : SA => a.fly.length) hab; simpa [Rs.abs, Ses.abs] using this.symm
 have hwl : s.wait.length = r.wait.length := by have := congrArg (fun a : SA => a.wait.length) hab; simpa [Rs.abs, Ses.abs] using this.symm
 have hlo : s.lost = r.lost := (congrArg SA.lost hab).symm
 have hd36 : Kept [] w2 (w2.drewN 1) := (Kept.refl _ _).drewN 1
 refine R.begin (S := fun W => (Blk W pr 64 r.cells) ∧ (Blk W r.q 76 #[.int .i64 8, .int .i64 r.lost, .slice r.QA r.wait.length r.qc])) (by kernel_rfl) ⟨BR.z hd36, BQ.z hd36⟩ ?_
 obtain ⟨w3, hww3⟩ : ∃ W, W = w2.drewN 1 := ⟨_, rfl⟩
 rw [← hww3] at hd36 ⊢
 clear hww3
 have szw3 := hd36.size
 replace HK := blwB HK hB (Mod.of_kept0 (T := []) (M := []) hd36)
 replace HT := HT.kept0 hd36
 replace BR := BR.z hd36
 replace BQ := BQ.z hd36
 clear hd36
 refine R.t 0 f5 rfl ⟨BR, BQ⟩ (fun W hW => (E.move f5 rfl)) fun a6 f6 => ?_
 refine R.t 2 f6 rfl ⟨BR, BQ⟩ (fun W hW => (E.move f6 rfl)) fun a7 f7 => ?_
 refine R.t 3 f7 rfl ⟨BR, BQ⟩ (fun W hW => (E.nilCheck f7 rfl)) fun a8 f8 => ?_
 refine R.t 4 f8 rfl ⟨BR, BQ⟩ (fun W hW => (E.fa 1 f8 U64 rfl wsz32_ro)) fun a9 f9 => ?_
 refine R.t 5 f9 rfl ⟨BR, BQ⟩ (fun W hW => (E.load f9 U32 rfl rfl ((hW.1).cl rfl))) fun a10 f10 => ?_
 refine R.call 1 f10 rfl rfl (by decide) (by kernel_rfl) wantedN (run_call Tryz.call34 (args1 f10 rfl)) (subsB HT hsub (by omega)) ?_
 clear f5 a5 f6 a6 f7 a7 f8 a8 f9 a9
 rintro e w4 ⟨kc4, As, cs, rfl, SLs⟩
 have szw4 := kc4.size
 replace HK := blwB HK hB (Mod.of_kept0 (T := []) (M := []) kc4)
 replace HT := HT.kept0 kc4
 replace BR := BR.z kc4
 replace BQ := BQ.z kc4
 refine ⟨_, rfl, ⟨BR, BQ⟩, fun a11 f11 => ?_⟩
 clear f10 a10 kc4
 refine R.call 6 f11 rfl rfl (by decide) (by kernel_rfl) wantedN (run_call Tryz.call33 (args2 f11 rfl rfl)) (subsEq_any r.ls As r.LA cs r.lc _ SLs (Sl.of_own HT.R.ls.own) (by have := HT.n6; omega)) ?_
 rintro e w5 ⟨kc5, rfl⟩
 have szw5 := kc5.size
 replace HK := blwB HK hB (Mod.of_kept0 (T := []) (M := []) kc5)
 replace HT := HT.kept0 kc5
 replace BR := BR.z kc5
 replace BQ := BQ.z kc5
 replace SLs := SLs.kept kc5
 refine ⟨_, rfl, ⟨BR, BQ⟩, fun a12 f12 => ?_⟩
 clear f11 a11 kc5
 refine R.t 7 f12 rfl ⟨BR, BQ⟩ (fun W hW => (E.move f12 rfl)) fun a13 f13 => ?_
 refine R.t 8 f13 rfl ⟨BR, BQ⟩ (fun W hW => (E.move f13 rfl)) (hw := (f13.yes rfl rfl)) fun a14 f14 => ?_
 refine R.t 10 f14 rfl ⟨BR, BQ⟩ (fun W hW => (E.move f14 rfl)) (hw := (f14.yes rfl rfl)) fun a15 f15 => ?_
 refine R.call 9 f15 rfl rfl (by decide) (by kernel_rfl) (f15.yes rfl rfl) (run_call Tryz.call11 (args1 f15 rfl)) (flyB HT) ?_
 clear f12 a12 f13 a13 f14 a14
 rintro e w5x ⟨rfl, rfl⟩
 refine ⟨_, rfl, ⟨BR, BQ⟩, fun a16 f16 => ?_⟩
 refine R.call 11 f16 rfl rfl (by decide) (by kernel_rfl) (f16.yes rfl rfl) (run_call Tryz.call35 (args1 f16 rfl)) (flyRB HT) ?_
 clear f15 a15
 rintro e w5x ⟨rfl, rfl⟩
 refine ⟨_, rfl, ⟨BR, BQ⟩, fun a17 f17 => ?_⟩
 refine R.t 12 f17 rfl ⟨BR, BQ⟩ (fun W hW => (E.eql f17 rfl rfl)) (hw := (f17.yes rfl rfl)) fun a18 f18 => ?_
 have f19 := f18.as (i := 255) (v' := .bool true) rfl (by simp [hfl])
 refine R.t 13 f19 rfl ⟨BR, BQ⟩ (fun W hW => (E.pickT f19 rfl rfl)) fun a20 f20 => ?_
 refine R.t 14 f20 rfl ⟨BR, BQ⟩ (fun W hW => (E.move f20 rfl)) fun a21 f21 => ?_
 refine R.t 15 f21 rfl ⟨BR, BQ⟩ (fun W hW => (E.move f21 rfl)) (hw := (f21.yes rfl rfl)) fun a22 f22 => ?_
 refine R.t 17 f22 rfl ⟨BR, BQ⟩ (fun W hW => (E.move f22 rfl)) (hw := (f22.yes rfl rfl)) fun a23 f23 => ?_
 refine R.t 18 f23 rfl ⟨BR, BQ⟩ (fun W hW => (E.nilCheck f23 rfl)) (hw := (f23.yes rfl rfl)) fun a24 f24 => ?_
 clear f16 a16 f17 a17 f18 f19 a18 f20 a20 f21 a21 f22 a22 f23 a23
 refine R.t 19 f24 rfl ⟨BR, BQ⟩ (fun W hW => (E.fa 3 f24 U64 rfl wsz60_ro)) (hw := (f24.yes rfl rfl)) fun a25 f25 => ?_
 refine R.t 20 f25 rfl ⟨BR, BQ⟩ (fun W hW => (E.load f25 Tryz.underlying60 rfl rfl ((hW.1).cl rfl))) (hw := (f25.yes rfl rfl)) fun a26 f26 => ?_
 refine R.t 21 f26 rfl ⟨BR, BQ⟩ (fun W hW => (E.nilCheck f26 rfl)) (hw := (f26.yes rfl rfl)) fun a27 f27 => ?_
 refine R.t 22 f27 rfl ⟨BR, BQ⟩ (fun W hW => (E.fa 2 f27 U76 rfl wsz74_ro)) (hw := (f27.yes rfl rfl)) fun a28 f28 => ?_
 refine R.t 23 f28 rfl ⟨BR, BQ⟩ (fun W hW => (E.load f28 U74 rfl rfl ((hW.2).cl rfl))) (hw := (f28.yes rfl rfl)) fun a29 f29 => ?_
 refine R.t 24 f29 rfl ⟨BR, BQ⟩ (fun W hW => (E.lenL f29 U74 rfl)) (hw := (f29.yes rfl rfl)) fun a30 f30 => ?_
 refine R.call 16 f30 rfl rfl (by decide) (by kernel_rfl) (f30.yes rfl rfl) (run_call Tryz.call36 (args1 f30 rfl)) (waitB HT) ?_
 clear f24 a24 f25 a25 f26 a26 f27 a27 f28 a28 f29 a29
 rintro e w5x ⟨rfl, rfl⟩
 refine ⟨_, rfl, ⟨BR, BQ⟩, fun a31 f31 => ?_⟩
 refine R.t 25 f31 rfl ⟨BR, BQ⟩ (fun W hW => (E.eql f31 rfl rfl)) (hw := (f31.yes rfl rfl)) fun a32 f32 => ?_
 have f33 := f32.as (i := 268) (v' := .bool true) rfl (by simp [hwl])
 refine R.t 26 f33 rfl ⟨BR, BQ⟩ (fun W hW => (E.pickT f33 rfl rfl)) fun a34 f34 => ?_
 refine R.t 27 f34 rfl ⟨BR, BQ⟩ (fun W hW => (E.move f34 rfl)) fun a35 f35 => ?_
 refine R.t 28 f35 rfl ⟨BR, BQ⟩ (fun W hW => (E.move f35 rfl)) (hw := (f35.yes rfl rfl)) fun a36 f36 => ?_
 refine R.t 30 f36 rfl ⟨BR, BQ⟩ (fun W hW => (E.move f36 rfl)) (hw := (f36.yes rfl rfl)) fun a37 f37 => ?_
 refine R.t 31 f37 rfl ⟨BR, BQ⟩ (fun W hW => (E.nilCheck f37 rfl)) (hw := (f37.yes rfl rfl)) fun a38 f38 => ?_
 clear f30 a30 f31 a31 f32 f33 a32 f34 a34 f35 a35 f36 a36 f37 a37
 refine R.t 32 f38 rfl ⟨BR, BQ⟩ (fun W hW => (E.fa 3 f38 U64 rfl wsz60_ro)) (hw := (f38.yes rfl rfl)) fun a39 f39 => ?_
 refine R.t 33 f39 rfl ⟨BR, BQ⟩ (fun W hW => (E.load f39 Tryz.underlying60 rfl rfl ((hW.1).cl rfl))) (hw := (f39.yes rfl rfl)) fun a40 f40 => ?_
 refine R.t 34 f40 rfl ⟨BR, BQ⟩ (fun W hW => (E.nilCheck f40 rfl)) (hw := (f40.yes rfl rfl)) fun a41 f41 => ?_
 refine R.t 35 f41 rfl ⟨BR, BQ⟩ (fun W hW => (E.fa 1 f41 U76 rfl wsz3_ro)) (hw := (f41.yes rfl rfl)) fun a42 f42 => ?_
 refine R.t 36 f42 rfl ⟨BR, BQ⟩ (fun W hW => (E.load f42 U3 rfl rfl ((hW.2).cl rfl))) (hw := (f42.yes rfl rfl)) fun a43 f43 => ?_
 refine R.call 29 f43 rfl rfl (by decide) (by kernel_rfl) (f43.yes rfl rfl) (run_call Tryz.call37 (args1 f43 rfl)) (lostB HT) ?_
 clear f38 a38 f39 a39 f40 a40 f41 a41 f42 a42
 rintro e w5x ⟨rfl, rfl⟩
 refine ⟨_, rfl, ⟨BR, BQ⟩, fun a44 f44 => ?_⟩
 refine R.t 37 f44 rfl ⟨BR, BQ⟩ (fun W hW => (E.eql f44 rfl rfl)) (hw := (f44.yes rfl rfl)) fun a45 f45 => ?_
 have f46 := f45.as (i := 280) (v' := .bool true) rfl (by simp [hlo])
 refine R.t 38 f46 rfl ⟨BR, BQ⟩ (fun W hW => (E.pickT f46 rfl rfl)) fun a47 f47 => ?_
 refine R.t 39 f47 rfl ⟨BR, BQ⟩ (fun W hW => (E.assign f47 rfl)) fun a48 f48 => ?_
 refine R.done (by kernel_rfl) (hK25 _ _ ?_)
 have f49 := f48.pk [6]
 refine wp_ret ?_; (try simp only [xt, xb]); refine C.ret f49 rfl rfl ?_
 exact ⟨rfl, s, Em, r, HT, hab, hsub, HK⟩
end Go.Proofs.YtdfllmiokgoekaaGreatDoor
namespace Go.Proofs.YtdfllmiokgoekaaGreatDoor
open Go.RowKit Go.Hub Go.Lib
theorem wsz3_rp : (Tryz.prog.info? 3).map (·.size) = some 1 := by kernel_rfl
theorem wsz9_rp : (Tryz.prog.info? 9).map (·.size) = some 1 := by kernel_rfl
theorem wsz28_rp : (Tryz.prog.info? 28).map (·.size) = some 1 := by kernel_rfl
theorem wsz30_rp : (Tryz.prog.info? 30).map (·.size) = some 4 := by kernel_rfl
theorem wsz35_rp : (Tryz.prog.info? 35).map (·.size) = some 24 := by kernel_rfl
theorem wsz37_rp : (Tryz.prog.info? 37).map (·.size) = some 35 := by kernel_rfl
structure ActOk (w : World) (x : ActA) : Prop where
  u : x.U
  pay : Bs [5] w.heap.size w x.mA x.m.pay.length x.m.pay
  ok : x.p.Ok [5, 66, 3] w.heap.size w x.ad
  reach : x.p.Reach
  wf : (Lit.int .i64 x.p.id).wf = true
theorem ActOk.pay' {w W : World} {x : ActA} (h : ActOk w x) (hk : Below w.heap.size w W) (hl : x.m.pay.length ≤ 30) : Pay w.heap.size W x.mA x.m.pay := ⟨h.pay.same (.of_below hk), by omega⟩
theorem ActOk.pin {w W : World} {x : ActA} (h : ActOk w x) (hk : Below w.heap.size w W) : x.p.In W x.ad := by
  have h2 := h.ok.same (.of_below hk)
  exact ⟨Sl.of_rds h2.pay.rds, Sl.of_rds h2.wp.rds, Sl.of_rds h2.pass.rds, Sl.of_rds h2.subs.rds, Sl.of_rds h2.codes.rds⟩
theorem place_bd (x m : Int) (h : 0 < m) : 0 ≤ placeI x m ∧ placeI x m < m := by
  have b1 := Int.lt_tmod_of_pos x h
  have b2 := Int.tmod_lt_of_pos x h
  unfold placeI
  split <;> omega
theorem sl_below {w W : World} {A : Option Addr} {n size : Nat} {xs : List Value} (h : Sl w A n size xs) (hk : Below w.heap.size w W) : Sl W A n size xs :=
  ⟨h.1, fun hn => by
    obtain ⟨b, off, e, hl, hc⟩ := h.2 hn
    refine ⟨b, off, e, Nat.lt_of_lt_of_le hl hk.size, fun j u hu => ?_⟩
    rw [World.cell?_of_block (w := w) (a := ⟨b, off + j, none⟩) (hk.block b hl)]
    exact hc j u hu⟩
theorem two_new {B p gs pr : Nat} {w : World} {s : Ses} {r : Rs} (S : SesAt B w p s) (R : RefAt B w pr r) (sv : s.sv = .map (some gs)) (IA : IsAss subM Tryz.prog w gs ([] : FE)) (hqa : s.QA = none) (hls : r.ls = []) (a1 : gs ≠ s.im) (a2 : gs ≠ s.gm) (a3 : gs ≠ r.im) (a4 : gs ≠ r.gm) (a5 : s.im ≠ r.im) (a6 : s.im ≠ r.gm) (a7 : s.gm ≠ r.im) (a8 : s.gm ≠ r.gm) (hB : B ≤ w.heap.size) (G : ∀ w', Below B w w' → Glob w') (hg : B ≤ gs) (h1 : s.abs = newS) (h2 : r.abs = newS) : Two B 0 w p gs pr s [] r := by
  have e1 : s.lost = 0 := congrArg SA.lost h1
  have e2 : r.lost = 0 := congrArg SA.lost h2
  have e3 : s.got = [] := congrArg SA.got h1
  have e4 : r.got = [] := congrArg SA.got h2
  exact ⟨S, R, sv, IA, by rw [hls]; exact List.Pairwise.nil, by rw [hqa]; simp, hg, a1, a2, a3, a4, a5, a6, a7, a8, G, hB, by omega, by omega, by simp [e3], by simp [e4], by simp, by simp [hls]⟩
theorem plays_any (l : List ActA) (A : Option Addr) (c : Nat) (w : World) (G : Glob w) (SL : Sl w A l.length 35 (l.flatMap xc)) (OK : ∀ x ∈ l, ActOk w x) : Calls Tryz.prog 3 #[.slice A l.length c] w (fun e w' => e = .returned (.bool true) ∧ Below w.heap.size w w') := by
 have HK : Below w.heap.size w w := Below.refl _ _
 refine C.enter Tryz.func3 rfl Tryz.ntmps3 rfl ?_
 intro a0 f0
 have f1 : Fr 64 a0 [(0, .slice A l.length c)] := f0
 refine C.sk fun K0 hK0 => ?_
 refine L.ag f1 fun a2 f2 => ?_
 refine wn hK0 ?_
 have f3 := f2.pk [0, 2]
 refine wp_seq_k fun K1 hK1 => C.sk fun K2 hK2 => ?_
 refine L.cl f3 (run_call Tryz.call4 (args0 f3)) (known_K _) ?_
 clear f0 f1 a0 f2
 rintro e w1 ⟨kc1, rfl⟩
 refine ⟨_, rfl, fun a4 f4 => ?_⟩
 have szw1 := kc1.size
 replace HK := blwm HK (Mod.of_kept0 (T := []) (M := []) kc1)
 clear f3 a2 kc1
 refine L.va f4 (E.not f4 rfl) fun a5 f5 => ?_
 refine wn hK2 ?_
 have f6 := f5.pk [0, 2, 9]
 refine C.condF f6 rfl ?_
 refine wp_skip (hK1 _ _ ?_)
 have f7 := f6.pk [0, 2]
 refine wp_seq_k fun K3 hK3 => C.sk fun K4 hK4 => ?_
 refine L.mv f7 fun a8 f8 => ?_
 refine L.va f8 (E.lenL f8 Tryz.underlying22 rfl) fun a9 f9 => ?_
 refine L.va f9 (E.gtr f9 rfl rfl) fun a10 f10 => ?_
 refine wn hK4 ?_
 have f11 := f10.pk [0, 2, 12]
 clear f4 a4 f5 f6 f7 a5 f8 a8 f9 a9 f10
 refine f11.splitD 12 rfl (fun h0 f12 => ?_) (fun h0 f12 => ?_)
 ·have h12 := h0
  refine C.condT f12 rfl ?_
  refine C.sk fun K5 hK5 => ?_
  refine L.ag f12 fun a13 f13 => ?_
  have f14 := f13.pk [0, 2]
  refine wn hK5 (wp_ret ?_); (try simp only [xt, xb]); refine C.ret f14 rfl rfl ?_
  exact ⟨rfl, HK⟩
 have h12 := h0
 refine C.condF f12 rfl ?_
 refine wp_skip (hK3 _ _ ?_)
 have f13 := f12.pk [0, 2]
 refine C.sk fun K6 hK6 => ?_
 refine L.cl f13 (run_call Tryz.call5 (args1 f13 rfl)) (newS_any ⟨#[107]⟩ w.heap.size _ HK.size) ?_
 clear f11 f12
 rintro e w2 ⟨p, s, gs, rfl, HS, hab0, hsv, IA, hqa, hg1, hg2, hg3, hg4, hg5, kc2⟩
 have hl1 := HS.ids.set.lt
 have hl2 := HS.got.lt
 have hl3 := IsAss.lt IA
 have hgB : w.heap.size ≤ gs := Nat.le_trans HK.size hg1
 refine ⟨_, rfl, fun a14 f14 => ?_⟩
 have szw2 := kc2.size
 replace HK := blwm HK kc2
 clear f13 a10 kc2
 refine L.cl f14 (run_call Tryz.call6 (args1 f14 rfl)) (newR_any ⟨#[107]⟩ w.heap.size _ HK.size) ?_
 rintro e w3 ⟨pr, r, rfl, HR, habr, hcl, hls, hrq, hg6, hg7, kc3⟩
 have hN1 : gs ≠ r.im := by omega
 have hN2 : gs ≠ r.gm := by omega
 have hN3 : s.im ≠ r.im := by omega
 have hN4 : s.im ≠ r.gm := by omega
 have hN5 : s.gm ≠ r.im := by omega
 have hN6 : s.gm ≠ r.gm := by omega
 refine ⟨_, rfl, fun a15 f15 => ?_⟩
 have szw3 := kc3.size
 replace HK := blwm HK kc3
 replace HS := HS.mod kc3 (by simp)
 replace IA := IsAss.mod IA kc3 (by simp)
 clear f14 a14 kc3
 refine L.ag f15 fun a16 f16 => ?_
 refine L.ag f16 fun a17 f17 => ?_
 refine wn hK6 ?_
 have f18 := f17.pk [0, 2, 3, 4]
 refine wp_seq_k fun K7 hK7 => ?_
 have HT := two_new HS HR hsv IA hqa hls hg4 hg5 hN1 hN2 hN3 hN4 hN5 hN6 HK.size (fun W hW => G.kept (Below.kept0 (HK.trans hW))) hgB hab0 habr
 have hab : r.abs = s.abs := habr.trans hab0.symm
 have hsub : SubsR ([] : FE) r.ls := by rw [hls]; exact SubsR.nil
 clear f15 a15 f16 a16 f17 HS HR IA
 refine C.region ?_
 refine L.ag f18 fun a19 f19 => ?_
 refine wn hK7 ?_
 have f20 := f19.pk [0, 2, 3, 4, 5]
 refine wp_seq_k fun K8 hK8 => C.sk fun K9 hK9 => ?_
 refine L.ag f20 fun a21 f21 => ?_
 refine wn hK9 ?_
 have f22 := f21.pk [0, 2, 3, 4, 5, 6]
 refine wp_block ?_
 clear f18 a17 f19 f20 a19 f21
 refine C.loop (fun gk a W => ∃ (i : Nat) (now : Int) (s : Ses) (Em : FE) (r : Rs), i + gk = l.length ∧ 0 ≤ now ∧ now ≤ 4 * i ∧ Two w.heap.size (4 * i) W p gs pr s Em r ∧ r.abs = s.abs ∧ SubsR Em r.ls ∧ Below w.heap.size w W ∧ Fr 64 a [(0, .slice A l.length c), (3, .pointer (some ⟨p, 0, none⟩)), (4, .pointer (some ⟨pr, 0, none⟩)), (5, .int .i64 now), (6, .int .i64 i)]) (l.length) ?_ ?_
 ·exact ⟨0, 0, s, [], r, by omega, by omega, by omega, HT, hab, hsub, HK, f22.sub (sx (sx (sx (sx (sx sn)))))⟩
 intro gk11 a23 w4 hI KL10 hKL10
 obtain ⟨i, now, s, Em, r, hi, hw0, hw4, HT, hab, hsub, HK, f23⟩ := hI
 try clear f22
 have szk := HK.size
 refine wp_seq_k fun K11 hK11 => C.sk fun K12 hK12 => ?_
 refine L.mv f23 fun a24 f24 => ?_
 refine L.mv f24 fun a25 f25 => ?_
 refine L.va f25 (E.lenL f25 Tryz.underlying22 rfl) fun a26 f26 => ?_
 refine L.va f26 (E.lss f26 rfl rfl) fun a27 f27 => ?_
 refine wn hK12 ?_
 have f28 := f27.pk [0, 3, 4, 5, 6, 15, 16, 17, 18]
 clear f23 a23 f24 a24 f25 a25 f26 a26 f27
 refine f28.splitD 18 rfl (fun h1 f29 => ?_) (fun h1 f29 => ?_)
 ·have h18 := h1
  obtain ⟨x, hxi⟩ := some_at l i (by omega)
  have hx := OK x (List.mem_of_getElem? hxi)
  obtain ⟨b0, off, hA⟩ := SL.addr (by omega)
  have hpb := place_bd x.now 5 (by decide)
  refine C.condT f29 rfl ?_
  refine wp_skip (hK11 _ _ ?_)
  have f30 := f29.pk [0, 3, 4, 5, 6, 15, 16, 17, 18]
  refine wp_seq_k fun K13 hK13 => ?_
  refine wp_block ?_
  refine C.sk fun K14 hK14 => ?_
  refine L.mv f30 fun a31 f31 => ?_
  refine L.mv f31 fun a32 f32 => ?_
  refine L.va f32 (E.indexA f32 (by assumption) Tryz.underlying22 wsz37_rp rfl rfl (by omega) (by omega)) fun a33 f33 => ?_
  refine L.va f33 (E.loadR f33 U37 rfl wsz37_rp rfl ((Sl.row (i := i) (cs := xc x) (sl_below SL HK) (by omega) hA (flat_at xc 35 (fun _ => rfl) l i x hxi))) rfl) fun a34 f34 => ?_
  refine L.alloc f34 wantedN (by decide) (z := (.agg #[(.int .u8 0), (.int .u8 0), (.int .u8 0), (.int .u8 0), (.bool false), (.int .i64 0), (.string ⟨#[]⟩), (.slice none 0 0), (.int .i64 0), (.bool false), (.int .i64 0), (.bool false), (.bool false), (.int .i64 0), (.int .i64 0), (.string ⟨#[]⟩), (.slice none 0 0), (.int .i64 0), (.string ⟨#[]⟩), (.bool false), (.int .i64 0), (.bool false), (.string ⟨#[]⟩), (.slice none 0 0), (.int .i64 0), (.bool false), (.bool false), (.bool false), (.string ⟨#[]⟩), (.slice none 0 0), (.bool false), (.int .i64 0), (.slice none 0 0), (.slice none 0 0), (.string ⟨#[]⟩)])) (fun _ => by kernel_rfl) rfl fun a35 w5 g4 N4 f35 => ?_
  have Bg4 := N4.blk
  have kg4 := N4.kept
  have log4 := N4.lo
  have ltg4 := Bg4.lt
  have szw5 := kg4.size
  have frg4 : w.heap.size ≤ g4 := Nat.le_trans HK.size log4
  replace HK := blwm HK (Mod.of_kept0 (T := []) (M := []) kg4)
  replace HT := HT.kept0 kg4
  clear f28 f29 f30 a27 f31 a31 f32 a32 f33 a33 N4 kg4
  refine L.storeR f35 wantedN wsz37_rp rfl rfl rfl Bg4 rfl rfl fun a36 w6 f36 NB6 ks6 => ?_
  have szw6 := ks6.size
  replace HK := blwm HK (Mod.of_blk1 (M := []) ks6 Bg4 (by omega))
  replace HT := HT.mod (Mod.of_blk1 (M := []) (B := w.heap.size) ks6 Bg4 (by omega)) (by decide)
  replace Bg4 := NB6
  clear f34 a34 ks6 f35 a35
  refine wn hK14 ?_
  have f37 := f36.pk [0, 3, 4, 5, 6, 7, 15, 16, 17, 18, 21, 22, 23, 24]
  refine wp_seq_k fun K15 hK15 => ?_
  refine wp_seq_k fun K16 hK16 => ?_
  obtain ⟨g7, rfl⟩ : ∃ g, g = g4 := ⟨_, rfl⟩
  have B7 : Blk w6 g7 37 (xc x).toArray := Bg4
  clear f36 Bg4
  refine C.region ?_
  refine L.fa 6 f37 U37 rfl wsz30_rp fun a38 f38 => ?_
  refine L.fa 1 f38 U30 rfl wsz28_rp fun a39 f39 => ?_
  refine L.va f39 (E.load f39 U28 rfl rfl ((B7).cl rfl)) fun a40 f40 => ?_
  refine L.va f40 (E.lenL f40 U28 rfl) fun a41 f41 => ?_
  refine L.va f41 (E.gtr f41 rfl rfl) fun a42 f42 => ?_
  refine L.mv f42 fun a43 f43 => ?_
  clear f37 a36 f38 a38 f39 a39 f40 a40 f41 a41 f42 a42
  refine f43.splitD 30 rfl (fun h2 f44 => ?_) (fun h2 f44 => ?_)
  ·have h30 := h2
   refine L.run f44 (rest' := []) (by kernel_rfl) fun a45 f45 => ?_
   clear f43
   refine wn hK16 ?_
   have f46 := f45.sub (sv 36 (.bool true) (sv 37 (.bool true) (sv 42 (.bool true) (sv 43 (.bool true) (sv 48 (.bool true) (pkR f45 [0, 3, 4, 5, 6, 7, 15, 16, 17, 18, 21, 22, 23, 24, 25, 26, 27, 28, 29, 30]))))))
   refine C.condT f46 rfl ?_
   refine C.sk fun K17 hK17 => ?_
   refine L.ag f46 fun a47 f47 => ?_
   have f48 := f47.pk [0, 2, 3, 4, 5, 6, 7, 15, 16, 17, 18, 21, 22, 23, 24, 25, 26, 27, 28, 29, 30, 36, 37, 42, 43, 48]
   refine wn hK17 (wp_ret ?_); (try simp only [xt, xb]); refine C.ret f48 rfl rfl ?_
   exact ⟨rfl, HK⟩
  have h30 := h2
  refine L.fa 6 f44 U37 rfl wsz30_rp (hw := (f44.yes rfl rfl)) fun a45 f45 => ?_
  refine L.fa 0 f45 U30 rfl wsz9_rp (hw := (f45.yes rfl rfl)) fun a46 f46 => ?_
  refine L.va f46 (E.load f46 U9 rfl rfl ((B7).cl rfl)) (hw := (f46.yes rfl rfl)) fun a47 f47 => ?_
  refine L.va f47 (E.lenS f47 U9 rfl) (hw := (f47.yes rfl rfl)) fun a48 f48 => ?_
  refine L.va f48 (E.gtr f48 rfl rfl) (hw := (f48.yes rfl rfl)) fun a49 f49 => ?_
  refine L.va f49 (E.pickF f49 rfl rfl) fun a50 f50 => ?_
  refine L.mv f50 fun a51 f51 => ?_
  clear f43 f44 a43 f45 a45 f46 a46 f47 a47 f48 a48 f49 a49 f50 a50
  refine f51.splitD 37 rfl (fun h3 f52 => ?_) (fun h3 f52 => ?_)
  ·have h37 := h3
   refine L.run f52 (rest' := []) (by kernel_rfl) fun a53 f53 => ?_
   clear f51
   refine wn hK16 ?_
   have f54 := f53.sub (sv 42 (.bool true) (sv 43 (.bool true) (sv 48 (.bool true) (pkR f53 [0, 3, 4, 5, 6, 7, 15, 16, 17, 18, 21, 22, 23, 24, 25, 26, 27, 28, 29, 30, 31, 32, 33, 34, 35, 36, 37]))))
   refine C.condT f54 rfl ?_
   refine C.sk fun K18 hK18 => ?_
   refine L.ag f54 fun a55 f55 => ?_
   have f56 := f55.pk [0, 2, 3, 4, 5, 6, 7, 15, 16, 17, 18, 21, 22, 23, 24, 25, 26, 27, 28, 29, 30, 31, 32, 33, 34, 35, 36, 37, 42, 43, 48]
   refine wn hK18 (wp_ret ?_); (try simp only [xt, xb]); refine C.ret f56 rfl rfl ?_
   exact ⟨rfl, HK⟩
  have h37 := h3
  refine L.fa 34 f52 U37 rfl wsz9_rp (hw := (f52.yes rfl rfl)) fun a53 f53 => ?_
  refine L.va f53 (E.load f53 U9 rfl rfl ((B7).cl rfl)) (hw := (f53.yes rfl rfl)) fun a54 f54 => ?_
  refine L.va f54 (E.lenS f54 U9 rfl) (hw := (f54.yes rfl rfl)) fun a55 f55 => ?_
  refine L.va f55 (E.gtr f55 rfl rfl) (hw := (f55.yes rfl rfl)) fun a56 f56 => ?_
  refine L.va f56 (E.pickF f56 rfl rfl) fun a57 f57 => ?_
  refine L.mv f57 fun a58 f58 => ?_
  clear f51 f52 a51 f53 a53 f54 a54 f55 a55 f56 a56 f57 a57
  refine f58.splitD 43 rfl (fun h4 f59 => ?_) (fun h4 f59 => ?_)
  ·have h43 := h4
   refine L.run f59 (rest' := []) (by kernel_rfl) fun a60 f60 => ?_
   clear f58
   refine wn hK16 ?_
   have f61 := f60.sub (sv 48 (.bool true) (pkR f60 [0, 3, 4, 5, 6, 7, 15, 16, 17, 18, 21, 22, 23, 24, 25, 26, 27, 28, 29, 30, 31, 32, 33, 34, 35, 36, 37, 38, 39, 40, 41, 42, 43]))
   refine C.condT f61 rfl ?_
   refine C.sk fun K19 hK19 => ?_
   refine L.ag f61 fun a62 f62 => ?_
   have f63 := f62.pk [0, 2, 3, 4, 5, 6, 7, 15, 16, 17, 18, 21, 22, 23, 24, 25, 26, 27, 28, 29, 30, 31, 32, 33, 34, 35, 36, 37, 38, 39, 40, 41, 42, 43, 48]
   refine wn hK19 (wp_ret ?_); (try simp only [xt, xb]); refine C.ret f63 rfl rfl ?_
   exact ⟨rfl, HK⟩
  have h43 := h4
  refine L.fa 10 f59 U37 rfl wsz35_rp (hw := (f59.yes rfl rfl)) fun a60 f60 => ?_
  refine L.va f60 (E.loadR f60 U35 rfl wsz35_rp rfl ((Blk.part B7 10 (x.p.cells x.ad).toList rfl)) rfl) (hw := (f60.yes rfl rfl)) fun a61 f61 => ?_
  refine L.cl f61 (run_call Tryz.call7 (args1 f61 rfl)) (light_any x.p x.ad _ (hx.pin HK) hx.reach) ?_ (hw := (f61.yes rfl rfl))
  clear f58 f59 a58 f60 a60
  rintro e w7 ⟨kc7, bl, rfl⟩
  refine ⟨_, rfl, fun a62 f62 => ?_⟩
  have szw7 := kc7.size
  replace HK := blwm HK (Mod.of_kept0 (T := []) (M := []) kc7)
  replace HT := HT.kept0 kc7
  replace B7 := B7.z kc7
  clear f61 a61 kc7
  refine L.va f62 (E.not f62 rfl) (hw := (f62.yes rfl rfl)) fun a63 f63 => ?_
  refine L.va f63 (E.pickF f63 rfl rfl) fun a64 f64 => ?_
  refine wn hK16 ?_
  have f65 := f64.pk [0, 3, 4, 5, 6, 7, 15, 16, 17, 18, 21, 22, 23, 24, 25, 26, 27, 28, 29, 30, 31, 32, 33, 34, 35, 36, 37, 38, 39, 40, 41, 42, 43, 44, 45, 46, 47, 48]
  clear f62 a62 f63 a63 f64
  refine f65.splitNB 48 rfl (fun h5 f66 => ?_) (fun h5 f66 => ?_)
  ·refine C.condT f66 rfl ?_
   refine C.sk fun K20 hK20 => ?_
   refine L.ag f66 fun a67 f67 => ?_
   have f68 := f67.pk [0, 2, 3, 4, 5, 6, 7, 15, 16, 17, 18, 21, 22, 23, 24, 25, 26, 27, 28, 29, 30, 31, 32, 33, 34, 35, 36, 37, 38, 39, 40, 41, 42, 43, 44, 45, 46, 47, 48]
   refine wn hK20 (wp_ret ?_); (try simp only [xt, xb]); refine C.ret f68 rfl rfl ?_
   exact ⟨rfl, HK⟩
  refine C.condF f66 rfl ?_
  refine wp_skip (hK15 _ _ ?_)
  have f67 := f66.pk [0, 3, 4, 5, 6, 7, 15, 16, 17, 18, 21, 22, 23, 24, 25, 26, 27, 28, 29, 30, 31, 32, 33, 34, 35, 36, 37, 38, 39, 40, 41, 42, 43, 44, 45, 46, 47, 48]
  obtain ⟨J16, hJ16⟩ : ∃ J : Act → World → Prop, J = fun a W => ∃ (n now2 : Int), 0 ≤ now2 ∧ now2 ≤ 4 * i + 4 ∧ Two w.heap.size (4 * i) W p gs pr s Em r ∧ Below w.heap.size w W ∧ Blk W g7 37 (xc { x with now := n }).toArray ∧ Fr 64 a [(0, .slice A l.length c), (3, .pointer (some ⟨p, 0, none⟩)), (4, .pointer (some ⟨pr, 0, none⟩)), (5, .int .i64 now2), (6, .int .i64 i), (7, .pointer (some ⟨g7, 0, none⟩))] := ⟨_, rfl⟩
  clear f65 f66
  refine C.cut J16 ?_ ?_
  ·skip
   refine C.sk fun K21 hK21 => ?_
   refine L.mv f67 fun a68 f68 => ?_
   refine L.va f68 (E.rem f68 rfl rfl (by omega) (Int.tmod_eq_emod_of_nonneg (by omega))) fun a69 f69 => ?_
   refine L.va f69 (E.lss f69 rfl rfl) fun a70 f70 => ?_
   refine wn hK21 ?_
   have f71 := f70.pk [0, 3, 4, 5, 6, 7, 15, 16, 17, 18, 21, 22, 23, 24, 25, 26, 27, 28, 29, 30, 31, 32, 33, 34, 35, 36, 37, 38, 39, 40, 41, 42, 43, 44, 45, 46, 47, 48, 49, 50, 51]
   clear f67 a64 f68 a68 f69 a69 f70
   refine f71.splitD 51 rfl (fun h6 f72 => ?_) (fun h6 f72 => ?_)
   ·have h51 := h6
    refine C.condT f72 rfl ?_
    refine C.sk fun K22 hK22 => ?_
    refine L.mv f72 fun a73 f73 => ?_
    refine L.fa 5 f73 U37 rfl wsz3_rp fun a74 f74 => ?_
    refine L.va f74 (E.load f74 U3 rfl rfl ((B7).cl rfl)) fun a75 f75 => ?_
    refine L.cl f75 (run_call Tryz.call8 (args2 f75 rfl rfl)) (place_any _ _ _ (by decide)) ?_
    clear f71 f72 a70 f73 a73 f74 a74
    rintro e w7x ⟨rfl, rfl⟩
    refine ⟨_, rfl, fun a76 f76 => ?_⟩
    refine L.va f76 (E.add f76 rfl rfl (IntWalk.i64_in _ (by omega))) fun a77 f77 => ?_
    refine L.ag f77 fun a78 f78 => ?_
    refine wn hK22 ?_
    have f79 := f78.pk [0, 3, 4, 5, 6, 7, 15, 16, 17, 18, 21, 22, 23, 24, 25, 26, 27, 28, 29, 30, 31, 32, 33, 34, 35, 36, 37, 38, 39, 40, 41, 42, 43, 44, 45, 46, 47, 48, 49, 50, 51, 52, 53, 54, 55, 56]
    refine C.region ?_
    refine L.mv f79 fun a80 f80 => ?_
    refine L.fa 5 f80 U37 rfl wsz3_rp fun a81 f81 => ?_
    refine L.store f81 wantedN wsz3_rp rfl rfl rfl B7 (by (simp [Value.cells]; done)) fun a82 w8 f82 NB8 ks8 => ?_
    have szw8 := ks8.size
    replace HK := blwm HK (Mod.of_blk1 (M := []) ks8 B7 (by omega))
    replace HT := HT.mod (Mod.of_blk1 (M := []) (B := w.heap.size) ks8 B7 (by omega)) (by decide)
    replace B7 := NB8
    simp only [Value.cells, List.setIfInBounds_toArray, List.set_cons_zero, List.set_cons_succ, Nat.reduceAdd, Nat.zero_add] at B7
    clear f75 a75 f76 a76 f77 a77 f78 f79 a78 f80 a80 ks8 f81 a81
    exact wpList_nil (jK J16 (by rw [hJ16]; exact ⟨now + placeI x.now 5, now + placeI x.now 5, by omega, by omega, HT, HK, B7, f82.sub (sx (sx (sx (sx (sx (sx sn))))))⟩))
   have h51 := h6
   refine C.condF f72 rfl ?_
   exact wp_skip (jK J16 (by rw [hJ16]; exact ⟨x.now, now, by omega, by omega, HT, HK, B7, f72.sub (sx (sx (sx (sx (sx (sx sn))))))⟩))
  intro a68 w8 hj
  rw [hJ16] at hj
  clear hJ16 J16
  obtain ⟨n, now2, hn0, hn4, HT, HK, B7, f68⟩ := hj
  try clear f67
  have szc := HK.size
  refine C.sk fun K23 hK23 => ?_
  refine L.mv f68 fun a69 f69 => ?_
  refine L.mv f69 fun a70 f70 => ?_
  refine L.va f70 (E.loadB f70 U37 rfl wsz37_rp rfl (B7) rfl) fun a71 f71 => ?_
  refine L.cl f71 (run_call Tryz.call9 (args3 f71 rfl rfl rfl)) (both_any w.heap.size (4 * i) p gs pr s Em r { x with now := n } _ HT hab hsub (by omega) hx.u (fun W hW => hx.pay' (HK.trans hW) (by omega)) (show x.s.size ≤ 30 by omega) hx.wf) ?_
  clear f68 a68 f69 a69 f70 a70
  rintro e w9 ⟨rfl, s2, E2, r2, HT2, hab2, hsub2, kc9⟩
  refine ⟨_, rfl, fun a72 f72 => ?_⟩
  have szw9 := kc9.size
  replace HK := HK.trans kc9
  clear f71 a71 kc9
  refine L.va f72 (E.not f72 rfl) fun a73 f73 => ?_
  refine wn hK23 ?_
  have f74 := f73.pk [0, 3, 4, 5, 6, 7, 59, 60, 61, 62, 63]
  refine C.condF f74 rfl ?_
  refine wp_skip (hK13 _ _ ?_)
  have f75 := f74.pk [0, 3, 4, 5, 6, 7, 59, 60, 61, 62, 63]
  refine C.region ?_
  refine L.mv f75 fun a76 f76 => ?_
  refine L.va f76 (E.add f76 rfl rfl (IntWalk.i64_in _ (by omega))) fun a77 f77 => ?_
  refine L.ag f77 fun a78 f78 => ?_
  clear f72 a72 f73 f74 f75 a73 f76 a76 f77 a77
  refine wpList_nil (hKL10 _ _ (gk11 - 1) ?_ ?_)
  ·omega
  exact ⟨i + 1, now2, s2, E2, r2, by omega, hn0, by omega, HT2.up (by omega), hab2, hsub2, HK, f78.sub (sx (sx (sx (sx (sx sn)))))⟩
 have h18 := h1
 refine C.condF f29 rfl ?_
 refine wp_exit (hK8 _ _ ?_)
 have f30 := f29.sub sn
 refine C.sk fun K24 hK24 => ?_
 refine L.ag f30 fun a31 f31 => ?_
 have f32 := f31.pk [2]
 refine wn hK24 (wp_ret ?_); (try simp only [xt, xb]); refine C.ret f32 rfl rfl ?_
 exact ⟨rfl, HK⟩
end Go.Proofs.YtdfllmiokgoekaaGreatDoor
namespace Go.Hub
open Go.RowKit Go.ChangeShapes Go.WideShapes Go.Deep
section
variable {H : Type} {enc : TypeId × Value → H} {P : Program} {w : World} {spare : Nat → Bool} {held : Bool}
theorem spot0 {b off : Nat} {s : Option Nat} {v : Value} (h : w.cell? ⟨b, off, s⟩ = some v) : s = none := World.cell?_spot h
theorem open_seq {M : Type} {t e size : Nat} {v : Value} {d : DataW H} {p : List MemPlace} {rel : List Value → M → Prop} (hsz : P.cellsOf e = size) (hpos : 0 < size) (ht : P.underlying t = some (.slice e))
    (hv : ∃ a len cap, v = .slice a len cap) (h : DataW.Trod enc P w 0 spare held t v d p) (hel : ∀ n cs y, DataW.trod enc P w 0 spare held n e cs = some y → ∃ m, rel cs m) :
    ∃ A len cap xs ms, v = .slice A len cap ∧ len ≤ cap ∧ cap ≤ maxLen ∧ ms.length = len ∧ Rds w w.heap.size size A len xs ∧ Seq size rel xs ms := by
  obtain ⟨a, len, cap, rfl⟩ := hv
  obtain ⟨fuel, hf⟩ := h
  rcases open_slice ht hf with ⟨hcs, _⟩ | ⟨a', len', cap', m, n, D, Pl, hcs, _, hl, hm, hmm, _, hi⟩
  · simp [Value.cells] at hcs
    obtain ⟨rfl, rfl, rfl⟩ := hcs
    exact ⟨none, 0, 0, [], [], rfl, Nat.le_refl _, by simp [maxLen], rfl, Rds.nil _ _ _ _, Seq.nil _ _⟩
  · simp [Value.cells] at hcs
    obtain ⟨rfl, rfl, rfl⟩ := hcs
    obtain ⟨b, off, s⟩ := a'
    have hlm : len ≤ m := by rw [hmm]; split <;> omega
    have key : ∀ k, k ≤ len → ∃ xs ms, ms.length = k ∧ Seq size rel xs ms ∧ (0 < k → s = none ∧ b < w.heap.size ∧ ∀ j u, xs[j]? = some u → w.cell? ⟨b, off + j, none⟩ = some u) := by
      intro k
      induction k with
      | zero => exact fun _ => ⟨[], [], rfl, Seq.nil _ _, fun h => absurd h (by omega)⟩
      | succ k ih =>
        intro hk
        obtain ⟨xs, ms, h1, h2, h3⟩ := ih (by omega)
        obtain ⟨cs', hc, htr⟩ := hi k (by omega)
        rw [hsz] at hc
        obtain ⟨_, hcl, hat⟩ := World.cells?_some hc
        obtain ⟨mm, hmm'⟩ := hel _ _ _ htr
        have hs : s = none ∧ b < w.heap.size := by
          rcases Nat.eq_zero_or_pos k with h0 | h0
          · subst h0
            have h00 := hat 0 hpos
            have e0 : cs'[0]? = some (cs'[0]'(by omega)) := List.getElem?_eq_getElem (by omega)
            rw [e0, Nat.zero_mul] at h00
            have h01 : w.cell? ⟨b, off, s⟩ = some (cs'[0]'(by omega)) := by simpa [Addr.add] using h00
            exact ⟨spot0 h01, World.block_lt_of_cell? w _ h01⟩
          · exact ⟨(h3 h0).1, (h3 h0).2.1⟩
        obtain ⟨rfl, hbw⟩ := hs
        refine ⟨xs ++ cs', ms ++ [mm], by simp [h1], h2.append (Seq.one hcl hmm'), fun _ => ⟨rfl, hbw, fun j u hu => ?_⟩⟩
        rcases Nat.lt_or_ge j xs.length with hj | hj
        · rw [List.getElem?_append_left hj] at hu
          have hk0 : 0 < k := by
            rcases Nat.eq_zero_or_pos k with h0 | h0
            · have := h2.1; rw [h1, h0] at this; omega
            · exact h0
          exact (h3 hk0).2.2 j u hu
        · rw [List.getElem?_append_right hj] at hu
          have hlt : j - xs.length < cs'.length := by
            rcases Nat.lt_or_ge (j - xs.length) cs'.length with h | h
            · exact h
            · rw [List.getElem?_eq_none h] at hu; cases hu
          have := hat (j - xs.length) (by omega)
          rw [hu, add_none, add_none] at this
          have e1 := h2.1
          rw [h1] at e1
          rw [show off + k * size + (j - xs.length) = off + j from by omega] at this
          exact this
    obtain ⟨xs, ms, h1, h2, h3⟩ := key len (Nat.le_refl _)
    refine ⟨_, len, cap, xs, ms, rfl, hl, hm, h1, ⟨by rw [h2.1, h1], fun hp => ?_⟩, h2⟩
    obtain ⟨rfl, hb, hc⟩ := h3 hp
    exact ⟨b, off, rfl, hb, hc⟩
theorem open_bytes {t e n : Nat} {cs : List Value} {y : DataW H × List MemPlace} (E : List TypeId) (ht : P.underlying t = some (.slice e)) (he : P.underlying e = some (.int .u8)) (hsz : P.cellsOf e = 1)
    (h : DataW.trod enc P w 0 spare held n t cs = some y) : ∃ A c l, cs = [.slice A l.length c] ∧ l.length ≤ maxLen ∧ Bs E w.heap.size w A l.length l := by
  rcases open_ints ht he hsz h with ⟨rfl, _⟩ | ⟨a, len, cap, zs, rfl, _, hl, hm, hz, _, hc, hw⟩
  · exact ⟨none, 0, [], rfl, by simp [maxLen], Bs.nil _ _ _ _⟩
  · have hzl : len ≤ zs.length := by rw [hz]; split <;> omega
    have hlen : ((zs.take len).map fun z => UInt8.ofNat z.toNat).length = len := by simp; omega
    refine ⟨some a, cap, (zs.take len).map fun z => UInt8.ofNat z.toNat, by rw [hlen], by rw [hlen]; omega, ?_⟩
    rw [hlen]
    refine ⟨hlen, fun hp => ?_⟩
    obtain ⟨b, off, s⟩ := a
    have h0 := hc 0 (by omega)
    have h01 : w.cell? ⟨b, off, s⟩ = some (.int .u8 (zs.getD 0 0)) := by simpa [Addr.add] using h0
    obtain rfl := spot0 h01
    have hbw := World.block_lt_of_cell? w _ h01
    refine ⟨b, off, rfl, hbw, .inl hbw, fun j x hx => ?_⟩
    simp only [List.getElem?_map, Option.map_eq_some_iff] at hx
    obtain ⟨z, hz2, rfl⟩ := hx
    have hj : j < len := by
      rcases Nat.lt_or_ge j len with h | h
      · exact h
      · rw [List.getElem?_take, if_neg (by omega)] at hz2; cases hz2
    rw [List.getElem?_take, if_pos hj] at hz2
    have := hc j (by omega)
    rw [add_none] at this
    rw [this]
    have hzw := bd_u8 (hw z (List.mem_of_getElem? hz2))
    have e1 : zs.getD j 0 = z := by simp [List.getD_eq_getElem?_getD, hz2]
    rw [e1]
    unfold u8
    rw [UInt8.toNat_ofNat']
    congr 2
    omega
end
end Go.Hub
namespace Go.Hub
open Go.RowKit Go.ChangeShapes Go.WideShapes Go.Deep
theorem weights_all {H : Type} {P : Program} {e : TypeId} : ∀ {ds : List (DataW H)} {d : DataW H}, d ∈ ds → ∀ {q : Nat}, q ∈ d.weights P e → q ∈ DataW.weightsAll P e ds
  | a :: r, d, h, q, hq => by
    simp only [DataW.weightsAll, List.mem_append]
    rcases List.mem_cons.1 h with rfl | h
    · exact .inl hq
    exact .inr (weights_all h hq)
section
variable {H : Type} {enc : TypeId × Value → H} {P : Program} {w : World} {spare : Nat → Bool} {held : Bool}
theorem open_seqZ {R : Nat} {M : Type} {t e size : Nat} {v : Value} {d : DataW H} {p : List MemPlace} {rel : List Value → M → Prop} (hsz : P.cellsOf e = size) (hpos : 0 < size) (ht : P.underlying t = some (.slice e))
    (hv : ∃ a len cap, v = .slice a len cap) (h : DataW.Trod enc P w 0 spare held t v d p) (hz : ∀ k ∈ d.weights P t, k ≤ R) (hel : ∀ n cs y, DataW.trod enc P w 0 spare held n e cs = some y → (∀ k ∈ y.1.weights P e, k ≤ R) → ∃ m, rel cs m) :
    ∃ A len cap xs ms, v = .slice A len cap ∧ len ≤ cap ∧ cap ≤ maxLen ∧ ms.length = len ∧ Rds w w.heap.size size A len xs ∧ Seq size rel xs ms := by
  obtain ⟨a, len, cap, rfl⟩ := hv
  obtain ⟨fuel, hf⟩ := h
  rcases open_slice ht hf with ⟨hcs, _⟩ | ⟨a', len', cap', m, n, D, Pl, hcs, _, hl, hm, hmm, hx, hi⟩
  · simp [Value.cells] at hcs
    obtain ⟨rfl, rfl, rfl⟩ := hcs
    exact ⟨none, 0, 0, [], [], rfl, Nat.le_refl _, by simp [maxLen], rfl, Rds.nil _ _ _ _, Seq.nil _ _⟩
  simp [Value.cells] at hcs
  obtain ⟨rfl, rfl, rfl⟩ := hcs
  obtain ⟨b, off, s⟩ := a'
  have hlm : len ≤ m := by rw [hmm]; split <;> omega
  injection hx with hd _
  subst hd
  simp only [DataW.weights, ht] at hz
  have key : ∀ k, k ≤ len → ∃ xs ms, ms.length = k ∧ Seq size rel xs ms ∧ (0 < k → s = none ∧ b < w.heap.size ∧ ∀ j u, xs[j]? = some u → w.cell? ⟨b, off + j, none⟩ = some u) := by
    intro k
    induction k with
    | zero => exact fun _ => ⟨[], [], rfl, Seq.nil _ _, fun h => absurd h (by omega)⟩
    | succ k ih =>
      intro hk
      obtain ⟨xs, ms, h1, h2, h3⟩ := ih (by omega)
      obtain ⟨cs', hc, htr⟩ := hi k (by omega)
      rw [hsz] at hc
      obtain ⟨_, hcl, hat⟩ := World.cells?_some hc
      obtain ⟨mm, hmm'⟩ := hel _ _ _ htr fun q hq => hz q (List.mem_cons_of_mem _ (List.mem_append_left _ (weights_all (List.mem_map.2 ⟨k, List.mem_range.2 (by omega), rfl⟩) hq)))
      have hs : s = none ∧ b < w.heap.size := by
        rcases Nat.eq_zero_or_pos k with h0 | h0
        · subst h0
          have h00 := hat 0 hpos
          have e0 : cs'[0]? = some (cs'[0]'(by omega)) := List.getElem?_eq_getElem (by omega)
          rw [e0, Nat.zero_mul] at h00
          have h01 : w.cell? ⟨b, off, s⟩ = some (cs'[0]'(by omega)) := by simpa [Addr.add] using h00
          exact ⟨spot0 h01, World.block_lt_of_cell? w _ h01⟩
        exact ⟨(h3 h0).1, (h3 h0).2.1⟩
      obtain ⟨rfl, hbw⟩ := hs
      refine ⟨xs ++ cs', ms ++ [mm], by simp [h1], h2.append (Seq.one hcl hmm'), fun _ => ⟨rfl, hbw, fun j u hu => ?_⟩⟩
      rcases Nat.lt_or_ge j xs.length with hj | hj
      · rw [List.getElem?_append_left hj] at hu
        have hk0 : 0 < k := by
          rcases Nat.eq_zero_or_pos k with h0 | h0
          · have := h2.1; rw [h1, h0] at this; omega
          exact h0
        exact (h3 hk0).2.2 j u hu
      rw [List.getElem?_append_right hj] at hu
      have hlt : j - xs.length < cs'.length := by
        rcases Nat.lt_or_ge (j - xs.length) cs'.length with h | h
        · exact h
        rw [List.getElem?_eq_none h] at hu; cases hu
      have := hat (j - xs.length) (by omega)
      rw [hu, add_none, add_none] at this
      have e1 := h2.1
      rw [h1] at e1
      rw [show off + k * size + (j - xs.length) = off + j from by omega] at this
      exact this
  obtain ⟨xs, ms, h1, h2, h3⟩ := key len (Nat.le_refl _)
  refine ⟨_, len, cap, xs, ms, rfl, hl, hm, h1, ⟨by rw [h2.1, h1], fun hp => ?_⟩, h2⟩
  obtain ⟨rfl, hb, hc⟩ := h3 hp
  exact ⟨b, off, rfl, hb, hc⟩
theorem open_bytesC {t e n : Nat} {cs : List Value} {y : DataW H × List MemPlace} (E : List TypeId) (ht : P.underlying t = some (.slice e)) (he : P.underlying e = some (.int .u8)) (hsz : P.cellsOf e = 1)
    (h : DataW.trod enc P w 0 spare held n t cs = some y) : ∃ A c l, cs = [.slice A l.length c] ∧ l.length ≤ c ∧ c ≤ maxLen ∧ Bs E w.heap.size w A l.length l := by
  rcases open_ints ht he hsz h with ⟨rfl, _⟩ | ⟨a, len, cap, zs, rfl, _, hl, hm, hz, _, hc, hw⟩
  · exact ⟨none, 0, [], rfl, Nat.le_refl _, by simp [maxLen], Bs.nil _ _ _ _⟩
  have hzl : len ≤ zs.length := by rw [hz]; split <;> omega
  have hlen : ((zs.take len).map fun z => UInt8.ofNat z.toNat).length = len := by simp; omega
  refine ⟨some a, cap, (zs.take len).map fun z => UInt8.ofNat z.toNat, by rw [hlen], by rw [hlen]; omega, by omega, ?_⟩
  rw [hlen]
  refine ⟨hlen, fun hp => ?_⟩
  obtain ⟨b, off, s⟩ := a
  have h0 := hc 0 (by omega)
  have h01 : w.cell? ⟨b, off, s⟩ = some (.int .u8 (zs.getD 0 0)) := by simpa [Addr.add] using h0
  obtain rfl := spot0 h01
  have hbw := World.block_lt_of_cell? w _ h01
  refine ⟨b, off, rfl, hbw, .inl hbw, fun j x hx => ?_⟩
  simp only [List.getElem?_map, Option.map_eq_some_iff] at hx
  obtain ⟨z, hz2, rfl⟩ := hx
  have hj : j < len := by
    rcases Nat.lt_or_ge j len with h | h
    · exact h
    rw [List.getElem?_take, if_neg (by omega)] at hz2; cases hz2
  rw [List.getElem?_take, if_pos hj] at hz2
  have := hc j (by omega)
  rw [add_none] at this
  rw [this]
  have hzw := bd_u8 (hw z (List.mem_of_getElem? hz2))
  have e1 : zs.getD j 0 = z := by simp [List.getD_eq_getElem?_getD, hz2]
  rw [e1]
  unfold u8
  rw [UInt8.toNat_ofNat']
  congr 2
  omega
end
end Go.Hub
set_option maxRecDepth 100000
namespace Go.Proofs.YtdfllmiokgoekaaGreatDoor
open Go.RowKit Go.Hub Go.Lib Go.Shelf Go.ChangeShapes Go.WideShapes Go.Deep
def laidU : List (String × DataW Unit) := [("unicode/utf8.acceptRanges", Rows.laid_unicode_utf8_acceptRanges), ("unicode/utf8.first", Rows.laid_unicode_utf8_first)]
def tabRen : Ren := ⟨fun n => n, fun | 119 => 146 | 138 => 148 | 139 => 149 | n => n, fun | 3 => 0 | 4 => 1 | n => n⟩
theorem tabTypes : U8Types Tryz.prog tabRen := { t5 := by kernel_rfl, t119 := by kernel_rfl, t138 := by kernel_rfl, t139 := by kernel_rfl }
theorem tabExtra : U8Extra Tryz.prog tabRen := { n3 := by kernel_rfl, n4 := by kernel_rfl, y3 := by kernel_rfl, y4 := by kernel_rfl, c5 := by kernel_rfl, c119 := by kernel_rfl, c138 := by kernel_rfl }
theorem first_eq : Rows.laid_unicode_utf8_first = firstData := by kernel_rfl
theorem accept_eq : (Rows.laid_unicode_utf8_acceptRanges : DataW Unit) = acceptData := by kernel_rfl
theorem tabs_of {w : World} (h : laidMet Tryz.prog laidU w) : Tabs w := by
  have h1 := laidMet.reads h (n := "unicode/utf8.first") (d := Rows.laid_unicode_utf8_first) (by simp [laidU])
  have h2 := laidMet.reads h (n := "unicode/utf8.acceptRanges") (d := Rows.laid_unicode_utf8_acceptRanges) (by simp [laidU])
  rw [first_eq] at h1
  rw [accept_eq] at h2
  exact utf8Tabs_of_readsT tabTypes tabExtra h1 h2
theorem laid_filter : (laidU.filter fun x => x.2.handleName?.isSome) = [] := by kernel_rfl
theorem met_of {w : World} (h : laidMetH Tryz.prog laidU w) : laidMet Tryz.prog laidU w := by
  unfold laidMetH at h
  rw [laid_filter] at h
  exact h
def layIn (cs : List Value) : Obj → Obj
  | .cells _ t frozen => .cells cs.toArray t frozen
  | o => o
def firstCells : List Value := (List.range 256).map fun c => Value.int .u8 (firstT c : Int)
def acceptCells : List Value := (List.range 32).map fun c => Value.int .u8 (if c % 2 = 0 then (accLo (c / 2) : Int) else (accHi (c / 2) : Int))
noncomputable def laidWorld (os : Os) : World :=
  { World.holding Tryz.prog os ⟨#[], #[], []⟩ with heap := ((World.holding Tryz.prog os ⟨#[], #[], []⟩).heap.modify 0 (layIn firstCells)).modify 1 (layIn acceptCells) }
theorem glob_of {w : World} (h : laidMet Tryz.prog laidU w) (hsh : w.ShapedOpen Tryz.prog) : Glob w := by
  obtain ⟨s0, hs⟩ := cell_of_shapedOpen_int (P := Tryz.prog) (g := 2) (t := 3) (zero := #[.int .i64 0]) hsh (of_decide_eq_true (by kernel_rfl)) (by kernel_rfl) rfl (by kernel_rfl) (by kernel_rfl) U3
  exact ⟨tabs_of h, s0, hs⟩
def _root_.Go.Hub.Pk.Fits (p : Pk) : Prop := p.pay.length ≤ maxLen ∧ p.wp.length ≤ maxLen ∧ p.pass.length ≤ maxLen ∧ p.subs.length ≤ maxLen ∧ p.codes.length ≤ maxLen
section
variable {H : Type} {enc : TypeId × Value → H} {w : World} {spare : Nat → Bool} {held : Bool}
theorem open_sub (n : Nat) (cs : List Value) (y : DataW H × List MemPlace) (h : DataW.trod enc Tryz.prog w 0 spare held n 66 cs = some y) : ∃ s : ByteArray × Int, cs = [.string s.1, .int .i64 s.2] := by
  obtain ⟨ys, n', _, _, hcl, hyl, hf⟩ := DataW.trod_struct U66 h
  have hcells : Tryz.prog.cellsOf 66 = 2 := by kernel_rfl
  rw [hcells] at hcl
  match cs, hcl with
  | [v0, v1], _ =>
    have c9 : Tryz.prog.cellsOf 9 = 1 := by kernel_rfl
    have c3 : Tryz.prog.cellsOf 3 = 1 := by kernel_rfl
    have f0 : DataW.trod enc Tryz.prog w 0 spare held n' 9 [v0] = ys[0]? := by have := hf 0 _ rfl; simpa [c9] using this
    have f1 : DataW.trod enc Tryz.prog w 0 spare held n' 3 [v1] = ys[1]? := by have := hf 1 _ rfl; simpa [c3] using this
    have l2 : ys.length = 2 := hyl
    rw [List.getElem?_eq_getElem (by omega)] at f0 f1
    obtain ⟨s, e0, _, _⟩ := DataW.trod_string U9 f0
    obtain ⟨q, e1, _, _⟩ := DataW.trod_int U3 f1
    simp at e0 e1
    subst e0 e1
    exact ⟨(s, q), rfl⟩
theorem open_int1 (n : Nat) (cs : List Value) (y : DataW H × List MemPlace) (h : DataW.trod enc Tryz.prog w 0 spare held n 3 cs = some y) : ∃ q : Int, cs = [.int .i64 q] := by
  obtain ⟨q, e1, _, _⟩ := DataW.trod_int U3 h
  exact ⟨q, e1⟩
theorem seq_subs {xs : List Value} {ms : List (ByteArray × Int)} (h : Seq 2 (fun cs s => cs = [.string s.1, .int .i64 s.2]) xs ms) : xs = subCells ms := by
  induction ms generalizing xs with
  | nil => have := h.1; simp at this; subst this; rfl
  | cons m r ih =>
    have h0 := h.2 0 m rfl
    have hd := ih (h.drop 1)
    simp at h0
    have e : xs = xs.take 2 ++ xs.drop 2 := (List.take_append_drop 2 xs).symm
    rw [e, h0]
    simp at hd
    rw [hd]
    simp [subCells]
theorem seq_codes {xs : List Value} {ms : List Int} (h : Seq 1 (fun cs q => cs = [.int .i64 q]) xs ms) : xs = codeCells ms := by
  induction ms generalizing xs with
  | nil => have := h.1; simp at this; subst this; rfl
  | cons m r ih =>
    have h0 := h.2 0 m rfl
    have hd := ih (h.drop 1)
    simp at h0
    have e : xs = xs.take 1 ++ xs.drop 1 := (List.take_append_drop 1 xs).symm
    rw [e, h0]
    simp at hd
    rw [List.drop_one, hd]
    simp [codeCells]
theorem cs_of_rds {E : List TypeId} {A : Option Addr} {n size : Nat} {xs : List Value} (h : Rds w w.heap.size size A n xs) : Cs E w.heap.size w A n size xs :=
  ⟨h.1, fun hn => by
    obtain ⟨b, off, e, hb, hc⟩ := h.2 hn
    exact ⟨b, off, e, hb, .inl hb, hc⟩⟩
theorem trod_slice1 {t e n : Nat} {v : Value} {y : DataW H × List MemPlace} (hu : Tryz.prog.underlying t = some (.slice e)) (h : DataW.trod enc Tryz.prog w 0 spare held n t [v] = some y) : ∃ a len cap, v = .slice a len cap := by
  rcases open_slice hu h with ⟨hcs, _⟩ | ⟨a', len', cap', m, n, D, Pl, hcs, _⟩
  · simp at hcs; exact ⟨_, _, _, hcs⟩
  simp at hcs; exact ⟨_, _, _, hcs⟩
theorem open_packet (n : Nat) (cs : List Value) (y : DataW H × List MemPlace) (h : DataW.trod enc Tryz.prog w 0 spare held n 35 cs = some y) : ∃ p s, cs = (Pk.cells p s).toList ∧ p.Ok [5, 66, 3] w.heap.size w s ∧ p.Fits := by
  obtain ⟨ys, n', _, _, hcl, hyl, hf⟩ := DataW.trod_struct U35 h
  have hcells : Tryz.prog.cellsOf 35 = 24 := by kernel_rfl
  rw [hcells] at hcl
  match cs, hcl with
  | [v0, v1, v2, v3, v4, v5, v6, v7, v8, v9, v10, v11, v12, v13, v14, v15, v16, v17, v18, v19, v20, v21, v22, v23], _ =>
    have k3 : Tryz.prog.cellsOf 3 = 1 := by kernel_rfl
    have k4 : Tryz.prog.cellsOf 4 = 1 := by kernel_rfl
    have k9 : Tryz.prog.cellsOf 9 = 1 := by kernel_rfl
    have k22 : Tryz.prog.cellsOf 28 = 1 := by kernel_rfl
    have k24 : Tryz.prog.cellsOf 31 = 4 := by kernel_rfl
    have k25 : Tryz.prog.cellsOf 32 = 1 := by kernel_rfl
    have k26 : Tryz.prog.cellsOf 33 = 1 := by kernel_rfl
    have l21 : ys.length = 21 := hyl
    have f0 : DataW.trod enc Tryz.prog w 0 spare held n' 3 [v0] = ys[0]? := by have := hf 0 _ rfl; simpa [k3] using this
    rw [List.getElem?_eq_getElem (by omega)] at f0
    have f1 : DataW.trod enc Tryz.prog w 0 spare held n' 4 [v1] = ys[1]? := by have := hf 1 _ rfl; simpa [k4] using this
    rw [List.getElem?_eq_getElem (by omega)] at f1
    have f2 : DataW.trod enc Tryz.prog w 0 spare held n' 4 [v2] = ys[2]? := by have := hf 2 _ rfl; simpa [k4] using this
    rw [List.getElem?_eq_getElem (by omega)] at f2
    have f3 : DataW.trod enc Tryz.prog w 0 spare held n' 3 [v3] = ys[3]? := by have := hf 3 _ rfl; simpa [k3] using this
    rw [List.getElem?_eq_getElem (by omega)] at f3
    have f4 : DataW.trod enc Tryz.prog w 0 spare held n' 3 [v4] = ys[4]? := by have := hf 4 _ rfl; simpa [k3] using this
    rw [List.getElem?_eq_getElem (by omega)] at f4
    have f5 : DataW.trod enc Tryz.prog w 0 spare held n' 9 [v5] = ys[5]? := by have := hf 5 _ rfl; simpa [k9] using this
    rw [List.getElem?_eq_getElem (by omega)] at f5
    have f6 : DataW.trod enc Tryz.prog w 0 spare held n' 28 [v6] = ys[6]? := by have := hf 6 _ rfl; simpa [k22] using this
    rw [List.getElem?_eq_getElem (by omega)] at f6
    have f7 : DataW.trod enc Tryz.prog w 0 spare held n' 3 [v7] = ys[7]? := by have := hf 7 _ rfl; simpa [k3] using this
    rw [List.getElem?_eq_getElem (by omega)] at f7
    have f8 : DataW.trod enc Tryz.prog w 0 spare held n' 9 [v8] = ys[8]? := by have := hf 8 _ rfl; simpa [k9] using this
    rw [List.getElem?_eq_getElem (by omega)] at f8
    have f9 : DataW.trod enc Tryz.prog w 0 spare held n' 4 [v9] = ys[9]? := by have := hf 9 _ rfl; simpa [k4] using this
    rw [List.getElem?_eq_getElem (by omega)] at f9
    have f10 : DataW.trod enc Tryz.prog w 0 spare held n' 3 [v10] = ys[10]? := by have := hf 10 _ rfl; simpa [k3] using this
    rw [List.getElem?_eq_getElem (by omega)] at f10
    have f11 : DataW.trod enc Tryz.prog w 0 spare held n' 4 [v11] = ys[11]? := by have := hf 11 _ rfl; simpa [k4] using this
    rw [List.getElem?_eq_getElem (by omega)] at f11
    have f12 : DataW.trod enc Tryz.prog w 0 spare held n' 31 [v12, v13, v14, v15] = ys[12]? := by have := hf 12 _ rfl; simpa [k24] using this
    rw [List.getElem?_eq_getElem (by omega)] at f12
    have f13 : DataW.trod enc Tryz.prog w 0 spare held n' 4 [v16] = ys[13]? := by have := hf 13 _ rfl; simpa [k4] using this
    rw [List.getElem?_eq_getElem (by omega)] at f13
    have f14 : DataW.trod enc Tryz.prog w 0 spare held n' 4 [v17] = ys[14]? := by have := hf 14 _ rfl; simpa [k4] using this
    rw [List.getElem?_eq_getElem (by omega)] at f14
    have f15 : DataW.trod enc Tryz.prog w 0 spare held n' 9 [v18] = ys[15]? := by have := hf 15 _ rfl; simpa [k9] using this
    rw [List.getElem?_eq_getElem (by omega)] at f15
    have f16 : DataW.trod enc Tryz.prog w 0 spare held n' 28 [v19] = ys[16]? := by have := hf 16 _ rfl; simpa [k22] using this
    rw [List.getElem?_eq_getElem (by omega)] at f16
    have f17 : DataW.trod enc Tryz.prog w 0 spare held n' 4 [v20] = ys[17]? := by have := hf 17 _ rfl; simpa [k4] using this
    rw [List.getElem?_eq_getElem (by omega)] at f17
    have f18 : DataW.trod enc Tryz.prog w 0 spare held n' 3 [v21] = ys[18]? := by have := hf 18 _ rfl; simpa [k3] using this
    rw [List.getElem?_eq_getElem (by omega)] at f18
    have f19 : DataW.trod enc Tryz.prog w 0 spare held n' 32 [v22] = ys[19]? := by have := hf 19 _ rfl; simpa [k25] using this
    rw [List.getElem?_eq_getElem (by omega)] at f19
    have f20 : DataW.trod enc Tryz.prog w 0 spare held n' 33 [v23] = ys[20]? := by have := hf 20 _ rfl; simpa [k26] using this
    rw [List.getElem?_eq_getElem (by omega)] at f20
    obtain ⟨zs, n2, _, _, _, hzl, hg⟩ := DataW.trod_struct Tryz.underlying31 f12
    have l4 : zs.length = 4 := hzl
    have g0 : DataW.trod enc Tryz.prog w 0 spare held n2 9 [v12] = zs[0]? := by have := hg 0 _ rfl; simpa [k9] using this
    have g1 : DataW.trod enc Tryz.prog w 0 spare held n2 28 [v13] = zs[1]? := by have := hg 1 _ rfl; simpa [k22] using this
    have g2 : DataW.trod enc Tryz.prog w 0 spare held n2 3 [v14] = zs[2]? := by have := hg 2 _ rfl; simpa [k3] using this
    have g3 : DataW.trod enc Tryz.prog w 0 spare held n2 4 [v15] = zs[3]? := by have := hg 3 _ rfl; simpa [k4] using this
    rw [List.getElem?_eq_getElem (by omega)] at g0 g1 g2 g3
    obtain ⟨x0, e0, _, _⟩ := DataW.trod_int U3 f0
    obtain ⟨x1, e1, _⟩ := DataW.trod_bool U4 f1
    obtain ⟨x2, e2, _⟩ := DataW.trod_bool U4 f2
    obtain ⟨x3, e3, _, _⟩ := DataW.trod_int U3 f3
    obtain ⟨x4, e4, _, _⟩ := DataW.trod_int U3 f4
    obtain ⟨x5, e5, _, _⟩ := DataW.trod_string U9 f5
    obtain ⟨A6, c6, x6, e6, l6, o6⟩ := open_bytes [5, 66, 3] U28 U5 (by kernel_rfl) f6
    obtain ⟨x7, e7, _, _⟩ := DataW.trod_int U3 f7
    obtain ⟨x8, e8, _, _⟩ := DataW.trod_string U9 f8
    obtain ⟨x9, e9, _⟩ := DataW.trod_bool U4 f9
    obtain ⟨x10, e10, _, _⟩ := DataW.trod_int U3 f10
    obtain ⟨x11, e11, _⟩ := DataW.trod_bool U4 f11
    obtain ⟨x16, e16, _⟩ := DataW.trod_bool U4 f13
    obtain ⟨x17, e17, _⟩ := DataW.trod_bool U4 f14
    obtain ⟨x18, e18, _, _⟩ := DataW.trod_string U9 f15
    obtain ⟨A19, c19, x19, e19, l19, o19⟩ := open_bytes [5, 66, 3] U28 U5 (by kernel_rfl) f16
    obtain ⟨x20, e20, _⟩ := DataW.trod_bool U4 f17
    obtain ⟨x21, e21, _, _⟩ := DataW.trod_int U3 f18
    obtain ⟨a22, l22_, d22, e22⟩ := trod_slice1 U32 f19
    obtain ⟨a23, l23_, d23, e23⟩ := trod_slice1 U33 f20
    obtain ⟨x12, e12, _, _⟩ := DataW.trod_string U9 g0
    obtain ⟨A13, c13, x13, e13, l13, o13⟩ := open_bytes [5, 66, 3] U28 U5 (by kernel_rfl) g1
    obtain ⟨x14, e14, _, _⟩ := DataW.trod_int U3 g2
    obtain ⟨x15, e15, _⟩ := DataW.trod_bool U4 g3
    subst e22 e23
    obtain ⟨A22, m22, c22, xs22, x22, q22, ha22, hb22, hl22, r22, s22⟩ := open_seq (rel := fun cs (s : ByteArray × Int) => cs = [.string s.1, .int .i64 s.2]) (show Tryz.prog.cellsOf 66 = 2 by kernel_rfl) (by omega) U32 ⟨_, _, _, rfl⟩ ⟨_, f19⟩ open_sub
    obtain ⟨A23, m23, c23, xs23, x23, q23, ha23, hb23, hl23, r23, s23⟩ := open_seq (rel := fun cs (q : Int) => cs = [.int .i64 q]) (show Tryz.prog.cellsOf 3 = 1 by kernel_rfl) (by omega) U33 ⟨_, _, _, rfl⟩ ⟨_, f20⟩ open_int1
    rw [q22, q23]
    rw [seq_subs s22] at r22
    rw [seq_codes s23] at r23
    subst hl22 hl23
    simp at e0 e1 e2 e3 e4 e5 e6 e7 e8 e9 e10 e11 e12 e13 e14 e15 e16 e17 e18 e19 e20 e21
    subst e0 e1 e2 e3 e4 e5 e6 e7 e8 e9 e10 e11 e12 e13 e14 e15 e16 e17 e18 e19 e20 e21
    exact ⟨⟨x0, x1, x2, x3, x4, x5, x6, x7, x8, x9, x10, x11, x12, x13, x14, x15, x16, x17, x18, x19, x20, x21, x22, x23⟩, ⟨A6, c6, A13, c13, A19, c19, A22, c22, A23, c23⟩, rfl, ⟨o6, o13, o19, cs_of_rds r22, cs_of_rds r23⟩, l6, l13, l19, Nat.le_trans ha22 hb22, Nat.le_trans ha23 hb23⟩
theorem size_str {n : Nat} {s : ByteArray} {y : DataW H × List MemPlace} (h : DataW.trod enc Tryz.prog w 0 spare held n 9 [.string s] = some y) (hz : ∀ k ∈ y.1.weights Tryz.prog 9, k ≤ reachBytes) : s.size ≤ 140737488355328 := by
  obtain ⟨r, e1, rfl, _⟩ := DataW.trod_string U9 h
  simp at e1
  subst e1
  have := hz s.data.toList.length (by simp [DataW.weights])
  have h2 := reachBytes_lt
  have e : s.data.toList.length = s.size := by simp
  omega
theorem size_bytes {n : Nat} {A : Option Addr} {m c : Nat} {y : DataW H × List MemPlace} (h : DataW.trod enc Tryz.prog w 0 spare held n 28 [.slice A m c] = some y) (hz : ∀ k ∈ y.1.weights Tryz.prog 28, k ≤ reachBytes) : m ≤ 140737488355328 := by
  rcases open_slice U28 h with ⟨hcs, _⟩ | ⟨a, len, cap, q, n2, D, Pl, hcs, _, _, _, _, rfl, _⟩
  · simp at hcs; omega
  simp at hcs
  obtain ⟨_, rfl, _⟩ := hcs
  have hb : Tryz.prog.bytesOf 5 = 1 := by kernel_rfl
  have := hz ((m + (q - m)) * 1) (by simp [DataW.weights, hb])
  have h2 := reachBytes_lt
  omega
theorem each {t : TypeId} {fs : Array Field} {n : Nat} {cs : List Value} {y : DataW H × List MemPlace} (ht : Tryz.prog.underlying t = some (.struct fs)) (h : DataW.trod enc Tryz.prog w 0 spare held n t cs = some y) (hz : ∀ k ∈ y.1.weights Tryz.prog t, k ≤ reachBytes)
    (i : Nat) (f : Field) (hf : fs[i]? = some f) : ∃ n' z, DataW.trod enc Tryz.prog w 0 spare held n' f.type ((cs.drop f.offset).take (Tryz.prog.cellsOf f.type)) = some z ∧ ∀ k ∈ z.1.weights Tryz.prog f.type, k ≤ reachBytes := by
  obtain ⟨ys, n', _, rfl, _, hyl, hg⟩ := DataW.trod_struct ht h
  have hi : i < ys.length := by rw [hyl]; exact (Array.getElem?_eq_some_iff.1 hf).1
  have hy : ys[i]? = some ys[i] := List.getElem?_eq_getElem hi
  refine ⟨n', ys[i], by rw [hg i f hf, hy], fun k hk => hz k ?_⟩
  simp only [DataW.weights, ht]
  exact DataW.weights_mem_each (j := i) (t := f.type) (d := ys[i].1) (by simp [← Array.getElem?_toList] at hf ⊢; exact ⟨f, hf, rfl⟩) (by simp [hy]) k hk
theorem reach_of {n : Nat} {p : Pk} {s : Ad} {y : DataW H × List MemPlace} (h : DataW.trod enc Tryz.prog w 0 spare held n 35 (Pk.cells p s).toList = some y) (hz : ∀ k ∈ y.1.weights Tryz.prog 35, k ≤ reachBytes) : p.Reach := by
  have k9 : Tryz.prog.cellsOf 9 = 1 := by kernel_rfl
  have k22 : Tryz.prog.cellsOf 28 = 1 := by kernel_rfl
  have k24 : Tryz.prog.cellsOf 31 = 4 := by kernel_rfl
  obtain ⟨_, _, a5, b5⟩ := each U35 h hz 5 _ rfl
  obtain ⟨_, _, a6, b6⟩ := each U35 h hz 6 _ rfl
  obtain ⟨_, _, a8, b8⟩ := each U35 h hz 8 _ rfl
  obtain ⟨n12, z12, a12, b12⟩ := each U35 h hz 12 _ rfl
  obtain ⟨_, _, a15, b15⟩ := each U35 h hz 15 _ rfl
  obtain ⟨_, _, a16, b16⟩ := each U35 h hz 16 _ rfl
  have a12' : DataW.trod enc Tryz.prog w 0 spare held n12 31 [.string p.wt, .slice s.wa p.wp.length s.wc, .int .i64 p.wq, .bool p.wr] = some z12 := by simpa [k24, Pk.cells] using a12
  obtain ⟨_, _, c0, d0⟩ := each (y := z12) Tryz.underlying31 a12' b12 0 _ rfl
  obtain ⟨_, _, c1, d1⟩ := each (y := z12) Tryz.underlying31 a12' b12 1 _ rfl
  exact ⟨size_str (s := p.topic) (by simpa [k9, Pk.cells] using a5) b5, size_bytes (A := s.pa) (c := s.pc) (by simpa [k22, Pk.cells] using a6) b6, size_str (s := p.client) (by simpa [k9, Pk.cells] using a8) b8, size_str (s := p.user) (by simpa [k9, Pk.cells] using a15) b15, size_bytes (A := s.sa) (c := s.sc) (by simpa [k22, Pk.cells] using a16) b16, size_str (s := p.wt) (by simpa [k9] using c0) d0, size_bytes (A := s.wa) (c := s.wc) (by simpa [k22] using c1) d1⟩
theorem trod_u8 {n : Nat} {v : Value} {y : DataW H × List MemPlace} (h : DataW.trod enc Tryz.prog w 0 spare held n 5 [v] = some y) : ∃ q : Int, v = .int .u8 q ∧ 0 ≤ q ∧ q < 256 := by
  obtain ⟨q, e1, _, hw⟩ := DataW.trod_int U5 h
  simp at e1
  have := bd_u8 hw
  exact ⟨q, e1, by omega⟩
theorem wf_id {n : Nat} {p : Pk} {s : Ad} {y : DataW H × List MemPlace} (h : DataW.trod enc Tryz.prog w 0 spare held n 35 (Pk.cells p s).toList = some y) : (Lit.int .i64 p.id).wf = true := by
  obtain ⟨ys, n', _, _, hcl, hyl, hf⟩ := DataW.trod_struct U35 h
  have k3 : Tryz.prog.cellsOf 3 = 1 := by kernel_rfl
  have l21 : ys.length = 21 := hyl
  have f4 : DataW.trod enc Tryz.prog w 0 spare held n' 3 [.int .i64 p.id] = ys[4]? := by have := hf 4 _ rfl; simpa [k3, Pk.cells] using this
  rw [List.getElem?_eq_getElem (by omega)] at f4
  obtain ⟨q, e, _, hw⟩ := DataW.trod_int U3 f4
  simp at e
  subst e
  exact hw
theorem open_act (n : Nat) (cs : List Value) (y : DataW H × List MemPlace) (h : DataW.trod enc Tryz.prog w 0 spare held n 37 cs = some y) (hz : ∀ k ∈ y.1.weights Tryz.prog 37, k ≤ reachBytes) : ∃ x : ActA, cs = xc x ∧ ActOk w x := by
  have hp0 := each (i := 7) U37 h hz
  obtain ⟨ys, n', _, _, hcl, hyl, hf⟩ := DataW.trod_struct U37 h
  have hcells : Tryz.prog.cellsOf 37 = 35 := by kernel_rfl
  rw [hcells] at hcl
  have l9 : ys.length = 9 := hyl
  have k3 : Tryz.prog.cellsOf 3 = 1 := by kernel_rfl
  have k4 : Tryz.prog.cellsOf 4 = 1 := by kernel_rfl
  have k5 : Tryz.prog.cellsOf 5 = 1 := by kernel_rfl
  have k9 : Tryz.prog.cellsOf 9 = 1 := by kernel_rfl
  have kb : Tryz.prog.cellsOf 28 = 1 := by kernel_rfl
  have km : Tryz.prog.cellsOf 30 = 4 := by kernel_rfl
  have kp : Tryz.prog.cellsOf 35 = 24 := by kernel_rfl
  match cs, hcl with
  | v0 :: v1 :: v2 :: v3 :: v4 :: v5 :: [mv0, mv1, mv2, mv3, pv0, pv1, pv2, pv3, pv4, pv5, pv6, pv7, pv8, pv9, pv10, pv11, pv12, pv13, pv14, pv15, pv16, pv17, pv18, pv19, pv20, pv21, pv22, pv23, v8], _ =>
    have f0 : DataW.trod enc Tryz.prog w 0 spare held n' 5 [v0] = ys[0]? := by have := hf 0 _ rfl; simpa [k5] using this
    have f1 : DataW.trod enc Tryz.prog w 0 spare held n' 5 [v1] = ys[1]? := by have := hf 1 _ rfl; simpa [k5] using this
    have f2 : DataW.trod enc Tryz.prog w 0 spare held n' 5 [v2] = ys[2]? := by have := hf 2 _ rfl; simpa [k5] using this
    have f3 : DataW.trod enc Tryz.prog w 0 spare held n' 5 [v3] = ys[3]? := by have := hf 3 _ rfl; simpa [k5] using this
    have f4 : DataW.trod enc Tryz.prog w 0 spare held n' 4 [v4] = ys[4]? := by have := hf 4 _ rfl; simpa [k4] using this
    have f5 : DataW.trod enc Tryz.prog w 0 spare held n' 3 [v5] = ys[5]? := by have := hf 5 _ rfl; simpa [k3] using this
    have f8 : DataW.trod enc Tryz.prog w 0 spare held n' 9 [v8] = ys[8]? := by have := hf 8 _ rfl; simpa [k9] using this
    have f6 : DataW.trod enc Tryz.prog w 0 spare held n' 30 [mv0, mv1, mv2, mv3] = ys[6]? := by have := hf 6 _ rfl; simpa [km] using this
    rw [List.getElem?_eq_getElem (by omega)] at f0 f1 f2 f3 f4 f5 f6 f8
    obtain ⟨n5, z5, a5, b5⟩ := hp0 _ rfl
    have a5' : DataW.trod enc Tryz.prog w 0 spare held n5 35 [pv0, pv1, pv2, pv3, pv4, pv5, pv6, pv7, pv8, pv9, pv10, pv11, pv12, pv13, pv14, pv15, pv16, pv17, pv18, pv19, pv20, pv21, pv22, pv23] = some z5 := by simpa [kp] using a5
    clear a5 hp0 h hz hf
    obtain ⟨x0, e0, w0⟩ := trod_u8 f0
    obtain ⟨x1, e1, w1⟩ := trod_u8 f1
    obtain ⟨x2, e2, w2⟩ := trod_u8 f2
    obtain ⟨x3, e3, w3⟩ := trod_u8 f3
    obtain ⟨x4, e4, _⟩ := DataW.trod_bool U4 f4
    obtain ⟨x5, e5, _, _⟩ := DataW.trod_int U3 f5
    obtain ⟨x8, e8, _, _⟩ := DataW.trod_string U9 f8
    obtain ⟨zs, n2, _, _, _, hzl, hg⟩ := DataW.trod_struct U30 f6
    have l4 : zs.length = 4 := hzl
    have g0 : DataW.trod enc Tryz.prog w 0 spare held n2 9 [mv0] = zs[0]? := by have := hg 0 _ rfl; simpa [k9] using this
    have g1 : DataW.trod enc Tryz.prog w 0 spare held n2 28 [mv1] = zs[1]? := by have := hg 1 _ rfl; simpa [kb] using this
    have g2 : DataW.trod enc Tryz.prog w 0 spare held n2 3 [mv2] = zs[2]? := by have := hg 2 _ rfl; simpa [k3] using this
    have g3 : DataW.trod enc Tryz.prog w 0 spare held n2 4 [mv3] = zs[3]? := by have := hg 3 _ rfl; simpa [k4] using this
    rw [List.getElem?_eq_getElem (by omega)] at g0 g1 g2 g3
    obtain ⟨y0, d0, _, _⟩ := DataW.trod_string U9 g0
    obtain ⟨A, c, yp, d1, hl, _, hb⟩ := open_bytesC [5] U28 U5 k5 g1
    obtain ⟨y2, d2, _, _⟩ := DataW.trod_int U3 g2
    obtain ⟨y3, d3, _⟩ := DataW.trod_bool U4 g3
    obtain ⟨p, s, ep, hok, _⟩ := open_packet _ _ _ a5'
    have a6 : DataW.trod enc Tryz.prog w 0 spare held n5 35 (Pk.cells p s).toList = some z5 := by rw [← ep]; exact a5'
    have hre := reach_of a6 b5
    have hid := wf_id a6
    simp at e4 e5 e8 d0 d1 d2 d3
    refine ⟨⟨x0, x1, x2, x3, x4, x5, ⟨y0, yp, y2, y3⟩, A, c, p, s, x8⟩, ?_, ⟨⟨w0, w1, w2, w3⟩, hb, hok, hre, hid⟩⟩
    have e9 : xc ⟨x0, x1, x2, x3, x4, x5, ⟨y0, yp, y2, y3⟩, A, c, p, s, x8⟩ = [.int .u8 x0, .int .u8 x1, .int .u8 x2, .int .u8 x3, .bool x4, .int .i64 x5, .string y0, .slice A yp.length c, .int .i64 y2, .bool y3] ++ ((Pk.cells p s).toList ++ [.string x8]) := rfl
    rw [e9, ← ep, e0, e1, e2, e3, e4, e5, e8, d0, d1, d2, d3]
    rfl
theorem seqc {M : Type} {size : Nat} {cell : M → List Value} {R : M → Prop} : ∀ (ms : List M) (xs : List Value), Seq size (fun cs m => cs = cell m ∧ R m) xs ms → xs = ms.flatMap cell ∧ ∀ m ∈ ms, R m
  | [], xs, h => by
    have := h.1
    simp at this
    exact ⟨by simp [this], by simp⟩
  | m :: r, xs, h => by
    have h0 := h.2 0 m rfl
    rw [Nat.zero_mul, List.drop_zero] at h0
    have h1 := h.drop 1
    rw [Nat.one_mul] at h1
    obtain ⟨i1, i2⟩ := seqc r _ h1
    refine ⟨?_, fun y hy => ?_⟩
    · rw [List.flatMap_cons, ← h0.1, ← i1, List.take_append_drop]
    rcases List.mem_cons.1 hy with rfl | hy
    · exact h0.2
    exact i2 y hy
def IsActs (w : World) (v : Value) : Prop := ∃ l A c, v = .slice A (l : List ActA).length c ∧ Sl w A l.length 35 (l.flatMap xc) ∧ ∀ x ∈ l, ActOk w x
theorem open_acts {r : Reach} {b0 : Nat} {v : Value} {d : DataW H} {p : List MemPlace} (hv : Value.okWide Tryz.prog w r b0 22 v) (h : DataW.Trod enc Tryz.prog w 0 spare held 22 v d p) (hz : ∀ k ∈ d.weights Tryz.prog 22, k ≤ reachBytes) : IsActs w v := by
  obtain ⟨A, m, q, xs, l, rfl, hm, hq, hl, rd, s⟩ := open_seqZ (rel := fun cs x => cs = xc x ∧ ActOk w x) (show Tryz.prog.cellsOf 37 = 35 by kernel_rfl) (by omega) Tryz.underlying22 (okWide_slice Tryz.underlying22 hv) h hz open_act
  subst hl
  obtain ⟨e, hall⟩ := seqc l xs s
  rw [e] at rd
  exact ⟨l, A, q, rfl, Sl.of_rds rd, hall⟩
end
theorem plays_row {v0 : Value} {w : World} (G : Glob w) (h0 : IsActs w v0) : Calls Tryz.prog 3 #[v0] w fun e w' => e = .returned (.bool true) ∧ Below w.heap.size w w' := by
  obtain ⟨l, A, c, rfl, SL, OK⟩ := h0
  exact plays_any l A c w G SL OK
end Go.Proofs.YtdfllmiokgoekaaGreatDoor
