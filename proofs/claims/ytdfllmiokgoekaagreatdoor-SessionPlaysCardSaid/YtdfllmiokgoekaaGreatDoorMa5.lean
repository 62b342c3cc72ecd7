/- Merged by program (shrink.py): contracts and plain laws that the claim's statement uses, part 5. -/
import Derived.Test.YtdfllmiokgoekaaGreatDoorMa4
set_option linter.all false
set_option maxRecDepth 100000
set_option maxHeartbeats 8000000

namespace Go.Proofs.YtdfllmiokgoekaaGreatDoor
open Go.RowKit Go.Hub
theorem wsz3_ri : (Tryz.prog.info? 3).map (·.size) = some 1 := by kernel_rfl
theorem wsz54_ri : (Tryz.prog.info? 54).map (·.size) = some 1 := by kernel_rfl
theorem wbl35_0_4_ri (x0 : Int) (x1 : Int) : Tryz.prog.built 35 [(0, .int .i64 x0), (4, .int .i64 x1)] = some #[.int .i64 x0, (.bool false), (.bool false), (.int .i64 0), .int .i64 x1, (.string ⟨#[]⟩), (.slice none 0 0), (.int .i64 0), (.string ⟨#[]⟩), (.bool false), (.int .i64 0), (.bool false), (.string ⟨#[]⟩), (.slice none 0 0), (.int .i64 0), (.bool false), (.bool false), (.bool false), (.string ⟨#[]⟩), (.slice none 0 0), (.bool false), (.int .i64 0), (.slice none 0 0), (.slice none 0 0)] := by kernel_rfl
theorem pk_blk {B g : Nat} {w W : World} {x : Pc} {cs : Array Value} (B9 : Blk W g 35 cs) (hc : cs.toList = pcell x) (hg : w.heap.size ≤ g) (hp : Pay B W x.A x.p.pay) : PkAt B w W (some ⟨g, 0, none⟩) 1 [x] := by
  have hs : cs.size = 24 := by rw [← Array.length_toList, hc]; rfl
  refine pk_one (x := x) ⟨rfl, .inr ⟨g, 0, 1, cs, rfl, B9, Nat.le_refl _, by decide, by omega, fun j u hu => ?_⟩⟩ hg hp
  rw [Nat.zero_add, ← Array.getElem?_toList, hc]
  exact hu
def GotPostR (B p : Nat) (s : Rs) (r : SA × Bool × List Pa) (w : World) (e : Ending) (w' : World) : Prop :=
  ∃ s' A c pks, e = .returned (.tuple #[.bool r.2.1, .slice A pks.length c]) ∧ RefAt B w' p s' ∧ s'.abs = r.1 ∧ pks.map (·.p) = r.2.2 ∧ Rs.Like w s s' ∧ Mod [] [s.im, s.gm] B w w' ∧ PkAt B w w' A c pks ∧ pks.length ≤ 1
section
variable {s : SA} {kind qos id : Int}
theorem gotS_0 (hk : kind = 3) (hq : qos = 0) : gotS s kind qos id = (s, true, []) := by subst hk hq; rfl
theorem gotS_1 (hk : kind = 3) (hq : qos = 1) : gotS s kind qos id = (s, true, [ackP 4 id]) := by subst hk hq; rfl
theorem gotS_2 (hk : kind = 3) (hq : qos = 2) : gotS s kind qos id = ({ s with got := insS id s.got }, !decide (id ∈ s.got), [ackP 5 id]) := by subst hk hq; rfl
theorem gotS_6 (hk : kind = 6) : gotS s kind qos id = ({ s with got := s.got.erase id }, false, [ackP 7 id]) := by subst hk; rfl
theorem gotS_n (hk : kind ≠ 6) (hq : kind ≠ 3 ∨ (qos ≠ 0 ∧ qos ≠ 1 ∧ qos ≠ 2)) : gotS s kind qos id = (s, false, []) := by
  unfold gotS
  rw [if_neg hk, if_pos (by omega)]
end
section
variable {B p : Nat} {A : Option Addr} {c : Nat} {s : Rs} {w W : World} {r : SA × Bool × List Pa} {b : Bool} {k id : Int} {S : List Int}
theorem gotR_nil (hS : RefAt B w p s) (HK : Mod [] [s.im, s.gm] B w W) (HK0 : Mod [] [] B w W) (h : r = (s.abs, b, [])) : GotPostR B p s r w (.returned (.tuple #[.bool b, .slice none 0 0])) W := by
  subst h
  exact ⟨s, none, 0, [], rfl, hS.mod HK0 (by simp), rfl, rfl, Rs.Like.refl _ _, HK, PkAt.nil _ _ _, by simp⟩
theorem gotR_one (hS : RefAt B w p s) (HK : Mod [] [s.im, s.gm] B w W) (HK0 : Mod [] [] B w W) (h : r = (s.abs, b, [ackP k id])) (PK : PkAt B w W A c [⟨ackP k id, none, 0⟩]) : GotPostR B p s r w (.returned (.tuple #[.bool b, .slice A 1 c])) W := by
  subst h
  exact ⟨s, A, c, [⟨ackP k id, none, 0⟩], rfl, hS.mod HK0 (by simp), rfl, rfl, Rs.Like.refl _ _, HK, PK, by simp⟩
theorem gotR_fin (hS : RefAt B w p s) (HK : Mod [] [s.im, s.gm] B w W) (HK2 : Mod [] [s.gm] B w W) (IN : IsSet Tryz.prog 3 4 W s.gm S) (h : r = ({ s.abs with got := S }, b, [ackP k id])) (PK : PkAt B w W A c [⟨ackP k id, none, 0⟩]) : GotPostR B p s r w (.returned (.tuple #[.bool b, .slice A 1 c])) W := by
  subst h
  exact ⟨{ s with got := S }, A, c, [⟨ackP k id, none, 0⟩], rfl, ⟨hS.top.mod HK2 (by simp), hS.ids.mod HK2 (by simp) (by simpa using hS.ne), hS.qu.mod HK2 (by simp), hS.fly.mod HK2 (by simp), hS.ls.mod HK2 (by simp), IN, hS.ne, hS.lop, hS.loi, hS.lom, hS.log, hS.tk, hS.perm, hS.ats, hS.idb⟩, rfl, rfl, ⟨rfl, rfl, rfl, rfl, fun b hb => .inl hb⟩, HK, PK, by simp⟩
end
theorem gotR_any (B p : Nat) (s : Rs) (kind qos id : Int) (pcs : Array Value) (hp0 : pcs.toList[0]? = some (.int .i64 kind)) (hp4 : pcs.toList[4]? = some (.int .i64 id)) (hp3 : pcs.toList[3]? = some (.int .i64 qos)) (w : World) (hS : RefAt B w p s) (hB : B ≤ w.heap.size) (hwf : (Lit.int .i64 id).wf = true) (hgl : s.got.length < maxLen) : Calls Tryz.prog 28 #[.pointer (some ⟨p, 0, none⟩), .agg pcs] w (GotPostR B p s (gotS s.abs kind qos id) w) := by
 have HK : Mod [] [s.im, s.gm] B w w := .refl _ _ _ _
 have HK2 : Mod [] [s.gm] B w w := .refl _ _ _ _
 have HK0 : Mod [] [] B w w := .refl _ _ _ _
 have BP := hS.top
 have IG := hS.got
 have hmap := hS.got.map
 have hpg : p ≠ s.gm := fun h => hS.top.not_map (h ▸ hmap)
 refine C.enter Tryz.func28 rfl Tryz.ntmps28 rfl ?_
 intro a0 f0
 have f1 : Fr 71 a0 [(0, .pointer (some ⟨p, 0, none⟩)), (1, .agg pcs)] := f0
 refine C.sk fun K0 hK0 => ?_
 refine L.box f1 wantedN (by decide) rfl rfl fun a2 w1 g0 N0 f2 => ?_
 have Bg0 := N0.blk
 have kg0 := N0.kept
 have log0 := N0.lo
 have ltg0 := Bg0.lt
 have szw1 := kg0.size
 have frg0 : w.heap.size ≤ g0 := Nat.le_trans HK.size log0
 have nep_g0 : p ≠ g0 := by have := BP.lt; omega
 replace HK := HK.trans (.of_kept0 kg0)
 replace HK2 := HK2.trans (.of_kept0 kg0)
 replace HK0 := HK0.trans (.of_kept0 kg0)
 replace BP := BP.z kg0
 replace IG := IG.mod (Mod.of_kept0 (T := []) (M := []) (B := B) kg0) (by simp)
 clear f0 N0 kg0
 refine L.ag f2 fun a3 f3 => ?_
 refine L.ag f3 fun a4 f4 => ?_
 refine wn hK0 ?_
 have f5 := f4.pk [0, 3, 4, 5]
 refine wp_seq_k fun K1 hK1 => ?_
 refine wp_block ?_
 refine C.sk fun K2 hK2 => ?_
 refine L.fa 0 f5 U35 rfl wsz3_ri fun a6 f6 => ?_
 refine L.va f6 (E.load f6 U3 rfl rfl (Bg0.cl hp0)) fun a7 f7 => ?_
 refine L.va f7 (E.eql f7 rfl rfl) fun a8 f8 => ?_
 refine L.mv f8 fun a9 f9 => ?_
 clear f1 a0 f2 a2 f3 a3 f4 f5 a4 f6 a6 f7 a7 f8 a8
 refine f9.splitD 11 rfl (fun h0 f10 => ?_) (fun h0 f10 => ?_)
 ·have k11 := h0
  refine L.fa 3 f10 U35 rfl wsz3_ri (hw := (f10.yes rfl rfl)) fun a11 f11 => ?_
  refine L.va f11 (E.load f11 U3 rfl rfl (Bg0.cl hp3)) (hw := (f11.yes rfl rfl)) fun a12 f12 => ?_
  refine L.va f12 (E.eql f12 rfl rfl) (hw := (f12.yes rfl rfl)) fun a13 f13 => ?_
  refine L.va f13 (E.pickT f13 rfl rfl) fun a14 f14 => ?_
  refine L.ag f14 fun a15 f15 => ?_
  refine wn hK2 ?_
  have f16 := f15.pk [0, 3, 4, 5, 7]
  clear f9 f10 a9 f11 a11 f12 a12 f13 a13 f14 a14 f15
  refine f16.splitD 7 rfl (fun h1 f17 => ?_) (fun h1 f17 => ?_)
  ·have k7 := h1
   refine C.condT f17 rfl ?_
   refine C.sk fun K3 hK3 => ?_
   refine L.ag f17 fun a18 f18 => ?_
   refine L.ag f18 fun a19 f19 => ?_
   have f20 := f19.pk [4, 5]
   refine wn hK3 (wp_ret ?_); (try simp only [xt, xb]); refine C.ret2 f20 rfl rfl rfl ?_
   exact gotR_nil hS HK HK0 (gotS_0 (by omega) (by omega))
  have k7 := h1
  refine C.condF f17 rfl ?_
  refine C.sk fun K4 hK4 => ?_
  refine L.fa 0 f17 U35 rfl wsz3_ri fun a18 f18 => ?_
  refine L.va f18 (E.load f18 U3 rfl rfl (Bg0.cl hp0)) fun a19 f19 => ?_
  refine L.va f19 (E.eql f19 rfl rfl) fun a20 f20 => ?_
  refine L.mv f20 fun a21 f21 => ?_
  clear f16 f17 a15 f18 a18 f19 a19 f20 a20
  refine f21.splitD 20 rfl (fun h2 f22 => ?_) (fun h2 f22 => ?_)
  ·have k20 := h2
   refine L.fa 3 f22 U35 rfl wsz3_ri (hw := (f22.yes rfl rfl)) fun a23 f23 => ?_
   refine L.va f23 (E.load f23 U3 rfl rfl (Bg0.cl hp3)) (hw := (f23.yes rfl rfl)) fun a24 f24 => ?_
   refine L.va f24 (E.eql f24 rfl rfl) (hw := (f24.yes rfl rfl)) fun a25 f25 => ?_
   refine L.va f25 (E.pickT f25 rfl rfl) fun a26 f26 => ?_
   refine L.ag f26 fun a27 f27 => ?_
   refine wn hK4 ?_
   have f28 := f27.pk [0, 3, 4, 5, 16]
   clear f21 f22 a21 f23 a23 f24 a24 f25 a25 f26 a26 f27
   refine f28.splitD 16 rfl (fun h3 f29 => ?_) (fun h3 f29 => ?_)
   ·have k16 := h3
    refine C.condT f29 rfl ?_
    refine wp_seq_k fun K5 hK5 => ?_
    refine R.begin (S := fun W => Kept [] w1 W) (by kernel_rfl) (by exact (Kept.refl _ _).drewN 1) ?_
    have hS4 : Kept [] w1 (w1.drewN 1) := (Kept.refl _ _).drewN 1
    have hd4 : Kept [] w1 (w1.drewN 1) := (Kept.refl _ _).drewN 1
    obtain ⟨w2, hww2⟩ : ∃ W, W = w1.drewN 1 := ⟨_, rfl⟩
    rw [← hww2] at hS4 hd4 ⊢
    clear f28 hww2
    have szw2 := hS4.size
    refine R.t 0 f29 rfl hS4 (fun W hW => (E.fa 4 f29 U35 rfl wsz3_ri)) fun a30 f30 => ?_
    refine R.t 1 f30 rfl hS4 (fun W hW => (E.load f30 U3 rfl rfl ((Bg0.z hW).cl hp4))) fun a31 f31 => ?_
    refine R.t 2 f31 rfl hS4 (fun W hW => (E.build f31 (parts2 f31 rfl rfl) (wbl35_0_4_ri _ _))) fun a32 f32 => ?_
    refine R.t 4 f32 rfl hS4 (fun W hW => (E.assign f32 rfl)) fun a33 f33 => ?_
    refine R.one 3 (by kernel_rfl) ?_
    refine O.buildSlice f33 rfl wantedN (by decide) (parts1 f33 rfl) U42 wzj35 rfl rfl (wpk1 ⟨ackP 4 id, none, 0⟩) (fun _ hk => hS4.trans hk (by simp)) fun a34 w3 g2 N2 hSn f34 => ?_
    have Bg2 := N2.blk
    have kg2 := N2.kept
    have log2 := N2.lo
    have ltg2 := Bg2.lt
    have szw3 := kg2.size
    have szSw3 := hS4.size
    clear f29 a27 f30 a30 f31 a31 f32 a32 f33 a33 N2 kg2
    replace hS4 := hSn
    clear hSn
    refine R.t 5 f34 rfl hS4 (fun W hW => (E.assign f34 rfl)) fun a35 f35 => ?_
    have szw3r := hS4.size
    replace HK := HK.trans (.of_kept0 hS4)
    replace HK2 := HK2.trans (.of_kept0 hS4)
    replace HK0 := HK0.trans (.of_kept0 hS4)
    replace BP := BP.z hS4
    replace IG := IG.mod (Mod.of_kept0 (T := []) (M := []) (B := B) hS4) (by simp)
    replace Bg0 := Bg0.z hS4
    clear f34 a34 hS4
    refine R.done (by kernel_rfl) (hK5 _ _ ?_)
    have f36 := f35.pk [4, 5]
    refine wp_ret ?_; (try simp only [xt, xb]); refine C.ret2 f36 rfl rfl rfl ?_
    exact gotR_one hS HK HK0 (gotS_1 (by omega) (by omega)) (pk_blk (x := ⟨ackP 4 id, none, 0⟩) Bg2 rfl (by omega) (Pay.nil _ _ _))
   have k16 := h3
   refine C.condF f29 rfl ?_
   refine C.sk fun K6 hK6 => ?_
   refine L.fa 0 f29 U35 rfl wsz3_ri fun a30 f30 => ?_
   refine L.va f30 (E.load f30 U3 rfl rfl (Bg0.cl hp0)) fun a31 f31 => ?_
   refine L.va f31 (E.eql f31 rfl rfl) fun a32 f32 => ?_
   refine L.mv f32 fun a33 f33 => ?_
   clear f28 f29 a27 f30 a30 f31 a31 f32 a32
   refine f33.splitD 33 rfl (fun h4 f34 => ?_) (fun h4 f34 => ?_)
   ·have k33 := h4
    refine L.fa 3 f34 U35 rfl wsz3_ri (hw := (f34.yes rfl rfl)) fun a35 f35 => ?_
    refine L.va f35 (E.load f35 U3 rfl rfl (Bg0.cl hp3)) (hw := (f35.yes rfl rfl)) fun a36 f36 => ?_
    refine L.va f36 (E.eql f36 rfl rfl) (hw := (f36.yes rfl rfl)) fun a37 f37 => ?_
    refine L.va f37 (E.pickT f37 rfl rfl) fun a38 f38 => ?_
    refine L.ag f38 fun a39 f39 => ?_
    refine wn hK6 ?_
    have f40 := f39.pk [0, 3, 4, 5, 29]
    clear f33 f34 a33 f35 a35 f36 a36 f37 a37 f38 a38 f39
    refine f40.splitD 29 rfl (fun h5 f41 => ?_) (fun h5 f41 => ?_)
    ·have k29 := h5
     refine C.condT f41 rfl ?_
     refine wp_seq_k fun K7 hK7 => ?_
     have hg0g : g0 ≠ s.gm := by have := hS.got.lt; omega
     refine R.begin (S := fun W => Kept [] w1 W) (by kernel_rfl) (by exact (Kept.refl _ _).drewN 1) ?_
     have hS6 : Kept [] w1 (w1.drewN 1) := (Kept.refl _ _).drewN 1
     have hd6 : Kept [] w1 (w1.drewN 1) := (Kept.refl _ _).drewN 1
     obtain ⟨w2, hww2⟩ : ∃ W, W = w1.drewN 1 := ⟨_, rfl⟩
     rw [← hww2] at hS6 hd6 ⊢
     clear f40 hww2
     have szw2 := hS6.size
     refine R.mv 0 f41 rfl hS6 fun a42 f42 => ?_
     refine R.t 1 f42 rfl hS6 (fun W hW => (E.nilCheck f42 rfl)) fun a43 f43 => ?_
     refine R.t 2 f43 rfl hS6 (fun W hW => (E.fa 5 f43 U64 rfl wsz54_ri)) fun a44 f44 => ?_
     refine R.t 3 f44 rfl hS6 (fun W hW => (E.load f44 Tryz.underlying54 rfl rfl ((BP.z hW).cl rfl))) fun a45 f45 => ?_
     refine R.t 4 f45 rfl hS6 (fun W hW => (E.fa 4 f45 U35 rfl wsz3_ri)) fun a46 f46 => ?_
     refine R.t 5 f46 rfl hS6 (fun W hW => (E.load f46 U3 rfl rfl ((Bg0.z hW).cl hp4))) fun a47 f47 => ?_
     refine R.t 6 f47 rfl hS6 (fun W hW => (E.look f47 (IG.kept hW (by simp)) U3 U4 Tryz.underlying54 (fun _ => by kernel_rfl) rfl rfl hwf)) fun a48 f48 => ?_
     clear f41 a39 f42 a42 f43 a43 f44 a44 f45 a45 f46 a46 f47 a47
     refine R.t 7 f48 rfl hS6 (fun W hW => (E.not f48 rfl)) fun a49 f49 => ?_
     refine R.t 8 f49 rfl hS6 (fun W hW => (E.assign f49 rfl)) fun a50 f50 => ?_
     have szw2r := hS6.size
     replace HK := HK.trans (.of_kept0 hS6)
     replace HK2 := HK2.trans (.of_kept0 hS6)
     replace HK0 := HK0.trans (.of_kept0 hS6)
     replace BP := BP.z hS6
     replace IG := IG.mod (Mod.of_kept0 (T := []) (M := []) (B := B) hS6) (by simp)
     replace Bg0 := Bg0.z hS6
     clear f48 a48 f49 a49 hS6
     refine R.done (by kernel_rfl) (hK7 _ _ ?_)
     have f51 := f50.pk [0, 3, 4, 5, 6]
     refine wp_seq_k fun K8 hK8 => ?_
     have KN := Kept.refl [] w2
     refine R.begin (S := fun W => Kept [s.gm] w2 W) (by kernel_rfl) (by exact (Kept.refl _ _).drewN 1) ?_
     have hS7 : Kept [s.gm] w2 (w2.drewN 1) := (Kept.refl _ _).drewN 1
     have hd7 : Kept [] w2 (w2.drewN 1) := (Kept.refl _ _).drewN 1
     obtain ⟨w3, hww3⟩ : ∃ W, W = w2.drewN 1 := ⟨_, rfl⟩
     rw [← hww3] at hS7 hd7 ⊢
     clear f50 hww3
     have szw3 := hS7.size
     replace KN := KN.trans hd7 (by simp)
     refine R.mv 0 f51 rfl hS7 fun a52 f52 => ?_
     refine R.t 1 f52 rfl hS7 (fun W hW => (E.nilCheck f52 rfl)) fun a53 f53 => ?_
     refine R.t 2 f53 rfl hS7 (fun W hW => (E.fa 5 f53 U64 rfl wsz54_ri)) fun a54 f54 => ?_
     refine R.t 3 f54 rfl hS7 (fun W hW => (E.load f54 Tryz.underlying54 rfl rfl ((BP.kept hW (by first | simpa using hpg | simpa using hg0g)).cl rfl))) fun a55 f55 => ?_
     refine R.t 4 f55 rfl hS7 (fun W hW => (E.fa 4 f55 U35 rfl wsz3_ri)) fun a56 f56 => ?_
     refine R.t 5 f56 rfl hS7 (fun W hW => (E.load f56 U3 rfl rfl ((Bg0.kept hW (by simpa using hg0g)).cl hp4))) fun a57 f57 => ?_
     refine R.one 6 (by kernel_rfl) ?_
     refine O.mapPut f57 rfl wantedN (IG.kept KN (by simp)) U3 U4 Tryz.underlying54 rfl rfl rfl hwf hgl (fun _ hk => hS7.trans hk (by simp)) fun a58 w4 IN ks f58 => ?_
     replace hS7 := hS7.trans ks (by simp)
     have szw4 := ks.size
     clear f51 a50 f52 a52 f53 a53 f54 a54 f55 a55 f56 a56 f57 a57 ks
     have szw4r := hS7.size
     have KM : Mod [] [s.gm] B _ w4 := Mod.of_kept hS7 (fun x hx _ => by obtain rfl := List.mem_singleton.1 hx; exact ⟨hS.log, .inr ⟨IG.map, by simp⟩⟩)
     replace HK := HK.step KM (by decide) (by simp) (by omega)
     replace HK2 := HK2.step KM (by decide) (by simp) (by omega)
     replace BP := BP.kept hS7 (by simpa using hpg)
     replace Bg0 := Bg0.kept hS7 (by simpa using hg0g)
     clear hS7
     refine R.done (by kernel_rfl) (hK8 _ _ ?_)
     have f59 := f58.pk [3, 4, 5, 6]
     refine wp_seq_k fun K9 hK9 => ?_
     refine R.begin (S := fun W => Kept [] w4 W) (by kernel_rfl) (by exact (Kept.refl _ _).drewN 1) ?_
     have hS8 : Kept [] w4 (w4.drewN 1) := (Kept.refl _ _).drewN 1
     have hd8 : Kept [] w4 (w4.drewN 1) := (Kept.refl _ _).drewN 1
     obtain ⟨w5, hww5⟩ : ∃ W, W = w4.drewN 1 := ⟨_, rfl⟩
     rw [← hww5] at hS8 hd8 ⊢
     clear f58 hww5
     have szw5 := hS8.size
     refine R.mv 0 f59 rfl hS8 fun a60 f60 => ?_
     refine R.t 1 f60 rfl hS8 (fun W hW => (E.fa 4 f60 U35 rfl wsz3_ri)) fun a61 f61 => ?_
     refine R.t 2 f61 rfl hS8 (fun W hW => (E.load f61 U3 rfl rfl ((Bg0.z hW).cl hp4))) fun a62 f62 => ?_
     refine R.t 3 f62 rfl hS8 (fun W hW => (E.build f62 (parts2 f62 rfl rfl) (wbl35_0_4_ri _ _))) fun a63 f63 => ?_
     refine R.t 5 f63 rfl hS8 (fun W hW => (E.assign f63 rfl)) fun a64 f64 => ?_
     refine R.one 4 (by kernel_rfl) ?_
     refine O.buildSlice f64 rfl wantedN (by decide) (parts1 f64 rfl) U42 wzj35 rfl rfl (wpk1 ⟨ackP 5 id, none, 0⟩) (fun _ hk => hS8.trans hk (by simp)) fun a65 w6 g5 N5 hSn f65 => ?_
     have Bg5 := N5.blk
     have kg5 := N5.kept
     have log5 := N5.lo
     have ltg5 := Bg5.lt
     have szw6 := kg5.size
     have szSw6 := hS8.size
     clear f59 a58 f60 a60 f61 a61 f62 a62 f63 a63 f64 a64 N5 kg5
     replace hS8 := hSn
     clear hSn
     refine R.t 6 f65 rfl hS8 (fun W hW => (E.assign f65 rfl)) fun a66 f66 => ?_
     have szw6r := hS8.size
     replace HK := HK.trans (.of_kept0 hS8)
     replace HK2 := HK2.trans (.of_kept0 hS8)
     replace BP := BP.z hS8
     replace Bg0 := Bg0.z hS8
     replace IN := IN.mod (Mod.of_kept0 (T := []) (M := []) (B := B) hS8) (by simp)
     clear f65 a65 hS8
     refine R.done (by kernel_rfl) (hK9 _ _ ?_)
     have f67 := f66.pk [4, 5]
     refine wp_ret ?_; (try simp only [xt, xb]); refine C.ret2 f67 rfl rfl rfl ?_
     exact gotR_fin hS HK HK2 IN (gotS_2 (by omega) (by omega)) (pk_blk (x := ⟨ackP 5 id, none, 0⟩) Bg5 rfl (by omega) (Pay.nil _ _ _))
    have k29 := h5
    refine C.condF f41 rfl ?_
    refine C.sk fun K10 hK10 => ?_
    refine L.fa 0 f41 U35 rfl wsz3_ri fun a42 f42 => ?_
    refine L.va f42 (E.load f42 U3 rfl rfl (Bg0.cl hp0)) fun a43 f43 => ?_
    refine L.va f43 (E.eql f43 rfl rfl) fun a44 f44 => ?_
    refine L.ag f44 fun a45 f45 => ?_
    refine wn hK10 ?_
    have f46 := f45.pk [0, 3, 4, 5, 57]
    clear f40 f41 a39 f42 a42 f43 a43 f44 a44 f45
    refine f46.splitD 57 rfl (fun h6 f47 => ?_) (fun h6 f47 => ?_)
    ·have k57 := h6
     refine C.condT f47 rfl ?_
     refine wp_seq_k fun K11 hK11 => ?_
     have KN := Kept.refl [] w1
     have hg0g : g0 ≠ s.gm := by have := hS.got.lt; omega
     refine R.begin (S := fun W => Kept [s.gm] w1 W) (by kernel_rfl) (by exact (Kept.refl _ _).drewN 1) ?_
     have hS10 : Kept [s.gm] w1 (w1.drewN 1) := (Kept.refl _ _).drewN 1
     have hd10 : Kept [] w1 (w1.drewN 1) := (Kept.refl _ _).drewN 1
     obtain ⟨w2, hww2⟩ : ∃ W, W = w1.drewN 1 := ⟨_, rfl⟩
     rw [← hww2] at hS10 hd10 ⊢
     clear f46 hww2
     have szw2 := hS10.size
     replace KN := KN.trans hd10 (by simp)
     refine R.mv 0 f47 rfl hS10 fun a48 f48 => ?_
     refine R.t 1 f48 rfl hS10 (fun W hW => (E.nilCheck f48 rfl)) fun a49 f49 => ?_
     refine R.t 2 f49 rfl hS10 (fun W hW => (E.fa 5 f49 U64 rfl wsz54_ri)) fun a50 f50 => ?_
     refine R.t 3 f50 rfl hS10 (fun W hW => (E.load f50 Tryz.underlying54 rfl rfl ((BP.kept hW (by first | simpa using hpg | simpa using hg0g)).cl rfl))) fun a51 f51 => ?_
     refine R.t 4 f51 rfl hS10 (fun W hW => (E.fa 4 f51 U35 rfl wsz3_ri)) fun a52 f52 => ?_
     refine R.t 5 f52 rfl hS10 (fun W hW => (E.load f52 U3 rfl rfl ((Bg0.kept hW (by simpa using hg0g)).cl hp4))) fun a53 f53 => ?_
     refine R.one 6 (by kernel_rfl) ?_
     refine O.mapDrop f53 rfl wantedN (IG.kept KN (by simp)) U3 Tryz.underlying54 rfl rfl hwf (fun _ hk => hS10.trans hk (by simp)) fun a54 w3 IN ks f54 => ?_
     replace hS10 := hS10.trans ks (by simp)
     have szw3 := ks.size
     clear f47 a45 f48 a48 f49 a49 f50 a50 f51 a51 f52 a52 f53 a53 ks
     have szw3r := hS10.size
     have KM : Mod [] [s.gm] B _ w3 := Mod.of_kept hS10 (fun x hx _ => by obtain rfl := List.mem_singleton.1 hx; exact ⟨hS.log, .inr ⟨IG.map, by simp⟩⟩)
     replace HK := HK.step KM (by decide) (by simp) (by omega)
     replace HK2 := HK2.step KM (by decide) (by simp) (by omega)
     replace BP := BP.kept hS10 (by simpa using hpg)
     replace Bg0 := Bg0.kept hS10 (by simpa using hg0g)
     clear hS10
     refine R.done (by kernel_rfl) (hK11 _ _ ?_)
     have f55 := f54.pk [3, 4, 5]
     refine wp_seq_k fun K12 hK12 => ?_
     refine R.begin (S := fun W => Kept [] w3 W) (by kernel_rfl) (by exact (Kept.refl _ _).drewN 1) ?_
     have hS11 : Kept [] w3 (w3.drewN 1) := (Kept.refl _ _).drewN 1
     have hd11 : Kept [] w3 (w3.drewN 1) := (Kept.refl _ _).drewN 1
     obtain ⟨w4, hww4⟩ : ∃ W, W = w3.drewN 1 := ⟨_, rfl⟩
     rw [← hww4] at hS11 hd11 ⊢
     clear f54 hww4
     have szw4 := hS11.size
     refine R.t 0 f55 rfl hS11 (fun W hW => (E.fa 4 f55 U35 rfl wsz3_ri)) fun a56 f56 => ?_
     refine R.t 1 f56 rfl hS11 (fun W hW => (E.load f56 U3 rfl rfl ((Bg0.z hW).cl hp4))) fun a57 f57 => ?_
     refine R.t 2 f57 rfl hS11 (fun W hW => (E.build f57 (parts2 f57 rfl rfl) (wbl35_0_4_ri _ _))) fun a58 f58 => ?_
     refine R.t 4 f58 rfl hS11 (fun W hW => (E.assign f58 rfl)) fun a59 f59 => ?_
     refine R.one 3 (by kernel_rfl) ?_
     refine O.buildSlice f59 rfl wantedN (by decide) (parts1 f59 rfl) U42 wzj35 rfl rfl (wpk1 ⟨ackP 7 id, none, 0⟩) (fun _ hk => hS11.trans hk (by simp)) fun a60 w5 g4 N4 hSn f60 => ?_
     have Bg4 := N4.blk
     have kg4 := N4.kept
     have log4 := N4.lo
     have ltg4 := Bg4.lt
     have szw5 := kg4.size
     have szSw5 := hS11.size
     clear f55 a54 f56 a56 f57 a57 f58 a58 f59 a59 N4 kg4
     replace hS11 := hSn
     clear hSn
     refine R.t 5 f60 rfl hS11 (fun W hW => (E.assign f60 rfl)) fun a61 f61 => ?_
     have szw5r := hS11.size
     replace HK := HK.trans (.of_kept0 hS11)
     replace HK2 := HK2.trans (.of_kept0 hS11)
     replace BP := BP.z hS11
     replace Bg0 := Bg0.z hS11
     replace IN := IN.mod (Mod.of_kept0 (T := []) (M := []) (B := B) hS11) (by simp)
     clear f60 a60 hS11
     refine R.done (by kernel_rfl) (hK12 _ _ ?_)
     have f62 := f61.pk [4, 5]
     refine wp_ret ?_; (try simp only [xt, xb]); refine C.ret2 f62 rfl rfl rfl ?_
     exact gotR_fin hS HK HK2 IN (gotS_6 (by omega)) (pk_blk (x := ⟨ackP 7 id, none, 0⟩) Bg4 rfl (by omega) (Pay.nil _ _ _))
    have k57 := h6
    refine C.condF f47 rfl ?_
    refine wp_skip (hK1 _ _ ?_)
    have f48 := f47.pk [4, 5]
    refine C.sk fun K13 hK13 => ?_
    refine L.ag f48 fun a49 f49 => ?_
    refine L.ag f49 fun a50 f50 => ?_
    have f51 := f50.pk [4, 5]
    refine wn hK13 (wp_ret ?_); (try simp only [xt, xb]); refine C.ret2 f51 rfl rfl rfl ?_
    exact gotR_nil hS HK HK0 (gotS_n (by omega) (by omega))
   have k33 := h4
   refine L.run f34 (rest' := []) (by kernel_rfl) fun a35 f35 => ?_
   clear f33
   refine wn hK6 ?_
   have f36 := f35.sub (sv 29 (.bool false) (pkR f35 [0, 3, 4, 5]))
   refine C.condF f36 rfl ?_
   refine C.sk fun K14 hK14 => ?_
   refine L.fa 0 f36 U35 rfl wsz3_ri fun a37 f37 => ?_
   refine L.va f37 (E.load f37 U3 rfl rfl (Bg0.cl hp0)) fun a38 f38 => ?_
   refine L.va f38 (E.eql f38 rfl rfl) fun a39 f39 => ?_
   refine L.ag f39 fun a40 f40 => ?_
   refine wn hK14 ?_
   have f41 := f40.pk [0, 3, 4, 5, 57]
   clear f35 f34 f36 a35 f37 a37 f38 a38 f39 a39 f40
   refine f41.splitD 57 rfl (fun h7 f42 => ?_) (fun h7 f42 => ?_)
   ·have k57 := h7
    refine C.condT f42 rfl ?_
    refine wp_seq_k fun K15 hK15 => ?_
    have KN := Kept.refl [] w1
    have hg0g : g0 ≠ s.gm := by have := hS.got.lt; omega
    refine R.begin (S := fun W => Kept [s.gm] w1 W) (by kernel_rfl) (by exact (Kept.refl _ _).drewN 1) ?_
    have hS10 : Kept [s.gm] w1 (w1.drewN 1) := (Kept.refl _ _).drewN 1
    have hd10 : Kept [] w1 (w1.drewN 1) := (Kept.refl _ _).drewN 1
    obtain ⟨w2, hww2⟩ : ∃ W, W = w1.drewN 1 := ⟨_, rfl⟩
    rw [← hww2] at hS10 hd10 ⊢
    clear f41 hww2
    have szw2 := hS10.size
    replace KN := KN.trans hd10 (by simp)
    refine R.mv 0 f42 rfl hS10 fun a43 f43 => ?_
    refine R.t 1 f43 rfl hS10 (fun W hW => (E.nilCheck f43 rfl)) fun a44 f44 => ?_
    refine R.t 2 f44 rfl hS10 (fun W hW => (E.fa 5 f44 U64 rfl wsz54_ri)) fun a45 f45 => ?_
    refine R.t 3 f45 rfl hS10 (fun W hW => (E.load f45 Tryz.underlying54 rfl rfl ((BP.kept hW (by first | simpa using hpg | simpa using hg0g)).cl rfl))) fun a46 f46 => ?_
    refine R.t 4 f46 rfl hS10 (fun W hW => (E.fa 4 f46 U35 rfl wsz3_ri)) fun a47 f47 => ?_
    refine R.t 5 f47 rfl hS10 (fun W hW => (E.load f47 U3 rfl rfl ((Bg0.kept hW (by simpa using hg0g)).cl hp4))) fun a48 f48 => ?_
    refine R.one 6 (by kernel_rfl) ?_
    refine O.mapDrop f48 rfl wantedN (IG.kept KN (by simp)) U3 Tryz.underlying54 rfl rfl hwf (fun _ hk => hS10.trans hk (by simp)) fun a49 w3 IN ks f49 => ?_
    replace hS10 := hS10.trans ks (by simp)
    have szw3 := ks.size
    clear f42 a40 f43 a43 f44 a44 f45 a45 f46 a46 f47 a47 f48 a48 ks
    have szw3r := hS10.size
    have KM : Mod [] [s.gm] B _ w3 := Mod.of_kept hS10 (fun x hx _ => by obtain rfl := List.mem_singleton.1 hx; exact ⟨hS.log, .inr ⟨IG.map, by simp⟩⟩)
    replace HK := HK.step KM (by decide) (by simp) (by omega)
    replace HK2 := HK2.step KM (by decide) (by simp) (by omega)
    replace BP := BP.kept hS10 (by simpa using hpg)
    replace Bg0 := Bg0.kept hS10 (by simpa using hg0g)
    clear hS10
    refine R.done (by kernel_rfl) (hK15 _ _ ?_)
    have f50 := f49.pk [3, 4, 5]
    refine wp_seq_k fun K16 hK16 => ?_
    refine R.begin (S := fun W => Kept [] w3 W) (by kernel_rfl) (by exact (Kept.refl _ _).drewN 1) ?_
    have hS11 : Kept [] w3 (w3.drewN 1) := (Kept.refl _ _).drewN 1
    have hd11 : Kept [] w3 (w3.drewN 1) := (Kept.refl _ _).drewN 1
    obtain ⟨w4, hww4⟩ : ∃ W, W = w3.drewN 1 := ⟨_, rfl⟩
    rw [← hww4] at hS11 hd11 ⊢
    clear f49 hww4
    have szw4 := hS11.size
    refine R.t 0 f50 rfl hS11 (fun W hW => (E.fa 4 f50 U35 rfl wsz3_ri)) fun a51 f51 => ?_
    refine R.t 1 f51 rfl hS11 (fun W hW => (E.load f51 U3 rfl rfl ((Bg0.z hW).cl hp4))) fun a52 f52 => ?_
    refine R.t 2 f52 rfl hS11 (fun W hW => (E.build f52 (parts2 f52 rfl rfl) (wbl35_0_4_ri _ _))) fun a53 f53 => ?_
    refine R.t 4 f53 rfl hS11 (fun W hW => (E.assign f53 rfl)) fun a54 f54 => ?_
    refine R.one 3 (by kernel_rfl) ?_
    refine O.buildSlice f54 rfl wantedN (by decide) (parts1 f54 rfl) U42 wzj35 rfl rfl (wpk1 ⟨ackP 7 id, none, 0⟩) (fun _ hk => hS11.trans hk (by simp)) fun a55 w5 g4 N4 hSn f55 => ?_
    have Bg4 := N4.blk
    have kg4 := N4.kept
    have log4 := N4.lo
    have ltg4 := Bg4.lt
    have szw5 := kg4.size
    have szSw5 := hS11.size
    clear f50 a49 f51 a51 f52 a52 f53 a53 f54 a54 N4 kg4
    replace hS11 := hSn
    clear hSn
    refine R.t 5 f55 rfl hS11 (fun W hW => (E.assign f55 rfl)) fun a56 f56 => ?_
    have szw5r := hS11.size
    replace HK := HK.trans (.of_kept0 hS11)
    replace HK2 := HK2.trans (.of_kept0 hS11)
    replace BP := BP.z hS11
    replace Bg0 := Bg0.z hS11
    replace IN := IN.mod (Mod.of_kept0 (T := []) (M := []) (B := B) hS11) (by simp)
    clear f55 a55 hS11
    refine R.done (by kernel_rfl) (hK16 _ _ ?_)
    have f57 := f56.pk [4, 5]
    refine wp_ret ?_; (try simp only [xt, xb]); refine C.ret2 f57 rfl rfl rfl ?_
    exact gotR_fin hS HK HK2 IN (gotS_6 (by omega)) (pk_blk (x := ⟨ackP 7 id, none, 0⟩) Bg4 rfl (by omega) (Pay.nil _ _ _))
   have k57 := h7
   refine C.condF f42 rfl ?_
   refine wp_skip (hK1 _ _ ?_)
   have f43 := f42.pk [4, 5]
   refine C.sk fun K17 hK17 => ?_
   refine L.ag f43 fun a44 f44 => ?_
   refine L.ag f44 fun a45 f45 => ?_
   have f46 := f45.pk [4, 5]
   refine wn hK17 (wp_ret ?_); (try simp only [xt, xb]); refine C.ret2 f46 rfl rfl rfl ?_
   exact gotR_nil hS HK HK0 (gotS_n (by omega) (by omega))
  have k20 := h2
  refine L.run f22 (rest' := []) (by kernel_rfl) fun a23 f23 => ?_
  clear f21
  refine wn hK4 ?_
  have f24 := f23.sub (sv 16 (.bool false) (pkR f23 [0, 3, 4, 5]))
  refine C.condF f24 rfl ?_
  refine C.sk fun K18 hK18 => ?_
  refine L.fa 0 f24 U35 rfl wsz3_ri fun a25 f25 => ?_
  refine L.va f25 (E.load f25 U3 rfl rfl (Bg0.cl hp0)) fun a26 f26 => ?_
  refine L.va f26 (E.eql f26 rfl rfl) fun a27 f27 => ?_
  refine L.mv f27 fun a28 f28 => ?_
  clear f23 f22 f24 a23 f25 a25 f26 a26 f27 a27
  refine f28.splitD 33 rfl (fun h8 f29 => ?_) (fun h8 f29 => ?_)
  ·have k33 := h8
   refine L.fa 3 f29 U35 rfl wsz3_ri (hw := (f29.yes rfl rfl)) fun a30 f30 => ?_
   refine L.va f30 (E.load f30 U3 rfl rfl (Bg0.cl hp3)) (hw := (f30.yes rfl rfl)) fun a31 f31 => ?_
   refine L.va f31 (E.eql f31 rfl rfl) (hw := (f31.yes rfl rfl)) fun a32 f32 => ?_
   refine L.va f32 (E.pickT f32 rfl rfl) fun a33 f33 => ?_
   refine L.ag f33 fun a34 f34 => ?_
   refine wn hK18 ?_
   have f35 := f34.pk [0, 3, 4, 5, 29]
   clear f28 f29 a28 f30 a30 f31 a31 f32 a32 f33 a33 f34
   refine f35.splitD 29 rfl (fun h9 f36 => ?_) (fun h9 f36 => ?_)
   ·have k29 := h9
    refine C.condT f36 rfl ?_
    refine wp_seq_k fun K19 hK19 => ?_
    have hg0g : g0 ≠ s.gm := by have := hS.got.lt; omega
    refine R.begin (S := fun W => Kept [] w1 W) (by kernel_rfl) (by exact (Kept.refl _ _).drewN 1) ?_
    have hS6 : Kept [] w1 (w1.drewN 1) := (Kept.refl _ _).drewN 1
    have hd6 : Kept [] w1 (w1.drewN 1) := (Kept.refl _ _).drewN 1
    obtain ⟨w2, hww2⟩ : ∃ W, W = w1.drewN 1 := ⟨_, rfl⟩
    rw [← hww2] at hS6 hd6 ⊢
    clear f35 hww2
    have szw2 := hS6.size
    refine R.mv 0 f36 rfl hS6 fun a37 f37 => ?_
    refine R.t 1 f37 rfl hS6 (fun W hW => (E.nilCheck f37 rfl)) fun a38 f38 => ?_
    refine R.t 2 f38 rfl hS6 (fun W hW => (E.fa 5 f38 U64 rfl wsz54_ri)) fun a39 f39 => ?_
    refine R.t 3 f39 rfl hS6 (fun W hW => (E.load f39 Tryz.underlying54 rfl rfl ((BP.z hW).cl rfl))) fun a40 f40 => ?_
    refine R.t 4 f40 rfl hS6 (fun W hW => (E.fa 4 f40 U35 rfl wsz3_ri)) fun a41 f41 => ?_
    refine R.t 5 f41 rfl hS6 (fun W hW => (E.load f41 U3 rfl rfl ((Bg0.z hW).cl hp4))) fun a42 f42 => ?_
    refine R.t 6 f42 rfl hS6 (fun W hW => (E.look f42 (IG.kept hW (by simp)) U3 U4 Tryz.underlying54 (fun _ => by kernel_rfl) rfl rfl hwf)) fun a43 f43 => ?_
    clear f36 a34 f37 a37 f38 a38 f39 a39 f40 a40 f41 a41 f42 a42
    refine R.t 7 f43 rfl hS6 (fun W hW => (E.not f43 rfl)) fun a44 f44 => ?_
    refine R.t 8 f44 rfl hS6 (fun W hW => (E.assign f44 rfl)) fun a45 f45 => ?_
    have szw2r := hS6.size
    replace HK := HK.trans (.of_kept0 hS6)
    replace HK2 := HK2.trans (.of_kept0 hS6)
    replace HK0 := HK0.trans (.of_kept0 hS6)
    replace BP := BP.z hS6
    replace IG := IG.mod (Mod.of_kept0 (T := []) (M := []) (B := B) hS6) (by simp)
    replace Bg0 := Bg0.z hS6
    clear f43 a43 f44 a44 hS6
    refine R.done (by kernel_rfl) (hK19 _ _ ?_)
    have f46 := f45.pk [0, 3, 4, 5, 6]
    refine wp_seq_k fun K20 hK20 => ?_
    have KN := Kept.refl [] w2
    refine R.begin (S := fun W => Kept [s.gm] w2 W) (by kernel_rfl) (by exact (Kept.refl _ _).drewN 1) ?_
    have hS7 : Kept [s.gm] w2 (w2.drewN 1) := (Kept.refl _ _).drewN 1
    have hd7 : Kept [] w2 (w2.drewN 1) := (Kept.refl _ _).drewN 1
    obtain ⟨w3, hww3⟩ : ∃ W, W = w2.drewN 1 := ⟨_, rfl⟩
    rw [← hww3] at hS7 hd7 ⊢
    clear f45 hww3
    have szw3 := hS7.size
    replace KN := KN.trans hd7 (by simp)
    refine R.mv 0 f46 rfl hS7 fun a47 f47 => ?_
    refine R.t 1 f47 rfl hS7 (fun W hW => (E.nilCheck f47 rfl)) fun a48 f48 => ?_
    refine R.t 2 f48 rfl hS7 (fun W hW => (E.fa 5 f48 U64 rfl wsz54_ri)) fun a49 f49 => ?_
    refine R.t 3 f49 rfl hS7 (fun W hW => (E.load f49 Tryz.underlying54 rfl rfl ((BP.kept hW (by first | simpa using hpg | simpa using hg0g)).cl rfl))) fun a50 f50 => ?_
    refine R.t 4 f50 rfl hS7 (fun W hW => (E.fa 4 f50 U35 rfl wsz3_ri)) fun a51 f51 => ?_
    refine R.t 5 f51 rfl hS7 (fun W hW => (E.load f51 U3 rfl rfl ((Bg0.kept hW (by simpa using hg0g)).cl hp4))) fun a52 f52 => ?_
    refine R.one 6 (by kernel_rfl) ?_
    refine O.mapPut f52 rfl wantedN (IG.kept KN (by simp)) U3 U4 Tryz.underlying54 rfl rfl rfl hwf hgl (fun _ hk => hS7.trans hk (by simp)) fun a53 w4 IN ks f53 => ?_
    replace hS7 := hS7.trans ks (by simp)
    have szw4 := ks.size
    clear f46 a45 f47 a47 f48 a48 f49 a49 f50 a50 f51 a51 f52 a52 ks
    have szw4r := hS7.size
    have KM : Mod [] [s.gm] B _ w4 := Mod.of_kept hS7 (fun x hx _ => by obtain rfl := List.mem_singleton.1 hx; exact ⟨hS.log, .inr ⟨IG.map, by simp⟩⟩)
    replace HK := HK.step KM (by decide) (by simp) (by omega)
    replace HK2 := HK2.step KM (by decide) (by simp) (by omega)
    replace BP := BP.kept hS7 (by simpa using hpg)
    replace Bg0 := Bg0.kept hS7 (by simpa using hg0g)
    clear hS7
    refine R.done (by kernel_rfl) (hK20 _ _ ?_)
    have f54 := f53.pk [3, 4, 5, 6]
    refine wp_seq_k fun K21 hK21 => ?_
    refine R.begin (S := fun W => Kept [] w4 W) (by kernel_rfl) (by exact (Kept.refl _ _).drewN 1) ?_
    have hS8 : Kept [] w4 (w4.drewN 1) := (Kept.refl _ _).drewN 1
    have hd8 : Kept [] w4 (w4.drewN 1) := (Kept.refl _ _).drewN 1
    obtain ⟨w5, hww5⟩ : ∃ W, W = w4.drewN 1 := ⟨_, rfl⟩
    rw [← hww5] at hS8 hd8 ⊢
    clear f53 hww5
    have szw5 := hS8.size
    refine R.mv 0 f54 rfl hS8 fun a55 f55 => ?_
    refine R.t 1 f55 rfl hS8 (fun W hW => (E.fa 4 f55 U35 rfl wsz3_ri)) fun a56 f56 => ?_
    refine R.t 2 f56 rfl hS8 (fun W hW => (E.load f56 U3 rfl rfl ((Bg0.z hW).cl hp4))) fun a57 f57 => ?_
    refine R.t 3 f57 rfl hS8 (fun W hW => (E.build f57 (parts2 f57 rfl rfl) (wbl35_0_4_ri _ _))) fun a58 f58 => ?_
    refine R.t 5 f58 rfl hS8 (fun W hW => (E.assign f58 rfl)) fun a59 f59 => ?_
    refine R.one 4 (by kernel_rfl) ?_
    refine O.buildSlice f59 rfl wantedN (by decide) (parts1 f59 rfl) U42 wzj35 rfl rfl (wpk1 ⟨ackP 5 id, none, 0⟩) (fun _ hk => hS8.trans hk (by simp)) fun a60 w6 g5 N5 hSn f60 => ?_
    have Bg5 := N5.blk
    have kg5 := N5.kept
    have log5 := N5.lo
    have ltg5 := Bg5.lt
    have szw6 := kg5.size
    have szSw6 := hS8.size
    clear f54 a53 f55 a55 f56 a56 f57 a57 f58 a58 f59 a59 N5 kg5
    replace hS8 := hSn
    clear hSn
    refine R.t 6 f60 rfl hS8 (fun W hW => (E.assign f60 rfl)) fun a61 f61 => ?_
    have szw6r := hS8.size
    replace HK := HK.trans (.of_kept0 hS8)
    replace HK2 := HK2.trans (.of_kept0 hS8)
    replace BP := BP.z hS8
    replace Bg0 := Bg0.z hS8
    replace IN := IN.mod (Mod.of_kept0 (T := []) (M := []) (B := B) hS8) (by simp)
    clear f60 a60 hS8
    refine R.done (by kernel_rfl) (hK21 _ _ ?_)
    have f62 := f61.pk [4, 5]
    refine wp_ret ?_; (try simp only [xt, xb]); refine C.ret2 f62 rfl rfl rfl ?_
    exact gotR_fin hS HK HK2 IN (gotS_2 (by omega) (by omega)) (pk_blk (x := ⟨ackP 5 id, none, 0⟩) Bg5 rfl (by omega) (Pay.nil _ _ _))
   have k29 := h9
   refine C.condF f36 rfl ?_
   refine C.sk fun K22 hK22 => ?_
   refine L.fa 0 f36 U35 rfl wsz3_ri fun a37 f37 => ?_
   refine L.va f37 (E.load f37 U3 rfl rfl (Bg0.cl hp0)) fun a38 f38 => ?_
   refine L.va f38 (E.eql f38 rfl rfl) fun a39 f39 => ?_
   refine L.ag f39 fun a40 f40 => ?_
   refine wn hK22 ?_
   have f41 := f40.pk [0, 3, 4, 5, 57]
   clear f35 f36 a34 f37 a37 f38 a38 f39 a39 f40
   refine f41.splitD 57 rfl (fun h10 f42 => ?_) (fun h10 f42 => ?_)
   ·have k57 := h10
    refine C.condT f42 rfl ?_
    refine wp_seq_k fun K23 hK23 => ?_
    have KN := Kept.refl [] w1
    have hg0g : g0 ≠ s.gm := by have := hS.got.lt; omega
    refine R.begin (S := fun W => Kept [s.gm] w1 W) (by kernel_rfl) (by exact (Kept.refl _ _).drewN 1) ?_
    have hS10 : Kept [s.gm] w1 (w1.drewN 1) := (Kept.refl _ _).drewN 1
    have hd10 : Kept [] w1 (w1.drewN 1) := (Kept.refl _ _).drewN 1
    obtain ⟨w2, hww2⟩ : ∃ W, W = w1.drewN 1 := ⟨_, rfl⟩
    rw [← hww2] at hS10 hd10 ⊢
    clear f41 hww2
    have szw2 := hS10.size
    replace KN := KN.trans hd10 (by simp)
    refine R.mv 0 f42 rfl hS10 fun a43 f43 => ?_
    refine R.t 1 f43 rfl hS10 (fun W hW => (E.nilCheck f43 rfl)) fun a44 f44 => ?_
    refine R.t 2 f44 rfl hS10 (fun W hW => (E.fa 5 f44 U64 rfl wsz54_ri)) fun a45 f45 => ?_
    refine R.t 3 f45 rfl hS10 (fun W hW => (E.load f45 Tryz.underlying54 rfl rfl ((BP.kept hW (by first | simpa using hpg | simpa using hg0g)).cl rfl))) fun a46 f46 => ?_
    refine R.t 4 f46 rfl hS10 (fun W hW => (E.fa 4 f46 U35 rfl wsz3_ri)) fun a47 f47 => ?_
    refine R.t 5 f47 rfl hS10 (fun W hW => (E.load f47 U3 rfl rfl ((Bg0.kept hW (by simpa using hg0g)).cl hp4))) fun a48 f48 => ?_
    refine R.one 6 (by kernel_rfl) ?_
    refine O.mapDrop f48 rfl wantedN (IG.kept KN (by simp)) U3 Tryz.underlying54 rfl rfl hwf (fun _ hk => hS10.trans hk (by simp)) fun a49 w3 IN ks f49 => ?_
    replace hS10 := hS10.trans ks (by simp)
    have szw3 := ks.size
    clear f42 a40 f43 a43 f44 a44 f45 a45 f46 a46 f47 a47 f48 a48 ks
    have szw3r := hS10.size
    have KM : Mod [] [s.gm] B _ w3 := Mod.of_kept hS10 (fun x hx _ => by obtain rfl := List.mem_singleton.1 hx; exact ⟨hS.log, .inr ⟨IG.map, by simp⟩⟩)
    replace HK := HK.step KM (by decide) (by simp) (by omega)
    replace HK2 := HK2.step KM (by decide) (by simp) (by omega)
    replace BP := BP.kept hS10 (by simpa using hpg)
    replace Bg0 := Bg0.kept hS10 (by simpa using hg0g)
    clear hS10
    refine R.done (by kernel_rfl) (hK23 _ _ ?_)
    have f50 := f49.pk [3, 4, 5]
    refine wp_seq_k fun K24 hK24 => ?_
    refine R.begin (S := fun W => Kept [] w3 W) (by kernel_rfl) (by exact (Kept.refl _ _).drewN 1) ?_
    have hS11 : Kept [] w3 (w3.drewN 1) := (Kept.refl _ _).drewN 1
    have hd11 : Kept [] w3 (w3.drewN 1) := (Kept.refl _ _).drewN 1
    obtain ⟨w4, hww4⟩ : ∃ W, W = w3.drewN 1 := ⟨_, rfl⟩
    rw [← hww4] at hS11 hd11 ⊢
    clear f49 hww4
    have szw4 := hS11.size
    refine R.t 0 f50 rfl hS11 (fun W hW => (E.fa 4 f50 U35 rfl wsz3_ri)) fun a51 f51 => ?_
    refine R.t 1 f51 rfl hS11 (fun W hW => (E.load f51 U3 rfl rfl ((Bg0.z hW).cl hp4))) fun a52 f52 => ?_
    refine R.t 2 f52 rfl hS11 (fun W hW => (E.build f52 (parts2 f52 rfl rfl) (wbl35_0_4_ri _ _))) fun a53 f53 => ?_
    refine R.t 4 f53 rfl hS11 (fun W hW => (E.assign f53 rfl)) fun a54 f54 => ?_
    refine R.one 3 (by kernel_rfl) ?_
    refine O.buildSlice f54 rfl wantedN (by decide) (parts1 f54 rfl) U42 wzj35 rfl rfl (wpk1 ⟨ackP 7 id, none, 0⟩) (fun _ hk => hS11.trans hk (by simp)) fun a55 w5 g4 N4 hSn f55 => ?_
    have Bg4 := N4.blk
    have kg4 := N4.kept
    have log4 := N4.lo
    have ltg4 := Bg4.lt
    have szw5 := kg4.size
    have szSw5 := hS11.size
    clear f50 a49 f51 a51 f52 a52 f53 a53 f54 a54 N4 kg4
    replace hS11 := hSn
    clear hSn
    refine R.t 5 f55 rfl hS11 (fun W hW => (E.assign f55 rfl)) fun a56 f56 => ?_
    have szw5r := hS11.size
    replace HK := HK.trans (.of_kept0 hS11)
    replace HK2 := HK2.trans (.of_kept0 hS11)
    replace BP := BP.z hS11
    replace Bg0 := Bg0.z hS11
    replace IN := IN.mod (Mod.of_kept0 (T := []) (M := []) (B := B) hS11) (by simp)
    clear f55 a55 hS11
    refine R.done (by kernel_rfl) (hK24 _ _ ?_)
    have f57 := f56.pk [4, 5]
    refine wp_ret ?_; (try simp only [xt, xb]); refine C.ret2 f57 rfl rfl rfl ?_
    exact gotR_fin hS HK HK2 IN (gotS_6 (by omega)) (pk_blk (x := ⟨ackP 7 id, none, 0⟩) Bg4 rfl (by omega) (Pay.nil _ _ _))
   have k57 := h10
   refine C.condF f42 rfl ?_
   refine wp_skip (hK1 _ _ ?_)
   have f43 := f42.pk [4, 5]
   refine C.sk fun K25 hK25 => ?_
   refine L.ag f43 fun a44 f44 => ?_
   refine L.ag f44 fun a45 f45 => ?_
   have f46 := f45.pk [4, 5]
   refine wn hK25 (wp_ret ?_); (try simp only [xt, xb]); refine C.ret2 f46 rfl rfl rfl ?_
   exact gotR_nil hS HK HK0 (gotS_n (by omega) (by omega))
  have k33 := h8
  refine L.run f29 (rest' := []) (by kernel_rfl) fun a30 f30 => ?_
  clear f28
  refine wn hK18 ?_
  have f31 := f30.sub (sv 29 (.bool false) (pkR f30 [0, 3, 4, 5]))
  refine C.condF f31 rfl ?_
  refine C.sk fun K26 hK26 => ?_
  refine L.fa 0 f31 U35 rfl wsz3_ri fun a32 f32 => ?_
  refine L.va f32 (E.load f32 U3 rfl rfl (Bg0.cl hp0)) fun a33 f33 => ?_
  refine L.va f33 (E.eql f33 rfl rfl) fun a34 f34 => ?_
  refine L.ag f34 fun a35 f35 => ?_
  refine wn hK26 ?_
  have f36 := f35.pk [0, 3, 4, 5, 57]
  clear f30 f29 f31 a30 f32 a32 f33 a33 f34 a34 f35
  refine f36.splitD 57 rfl (fun h11 f37 => ?_) (fun h11 f37 => ?_)
  ·have k57 := h11
   refine C.condT f37 rfl ?_
   refine wp_seq_k fun K27 hK27 => ?_
   have KN := Kept.refl [] w1
   have hg0g : g0 ≠ s.gm := by have := hS.got.lt; omega
   refine R.begin (S := fun W => Kept [s.gm] w1 W) (by kernel_rfl) (by exact (Kept.refl _ _).drewN 1) ?_
   have hS10 : Kept [s.gm] w1 (w1.drewN 1) := (Kept.refl _ _).drewN 1
   have hd10 : Kept [] w1 (w1.drewN 1) := (Kept.refl _ _).drewN 1
   obtain ⟨w2, hww2⟩ : ∃ W, W = w1.drewN 1 := ⟨_, rfl⟩
   rw [← hww2] at hS10 hd10 ⊢
   clear f36 hww2
   have szw2 := hS10.size
   replace KN := KN.trans hd10 (by simp)
   refine R.mv 0 f37 rfl hS10 fun a38 f38 => ?_
   refine R.t 1 f38 rfl hS10 (fun W hW => (E.nilCheck f38 rfl)) fun a39 f39 => ?_
   refine R.t 2 f39 rfl hS10 (fun W hW => (E.fa 5 f39 U64 rfl wsz54_ri)) fun a40 f40 => ?_
   refine R.t 3 f40 rfl hS10 (fun W hW => (E.load f40 Tryz.underlying54 rfl rfl ((BP.kept hW (by first | simpa using hpg | simpa using hg0g)).cl rfl))) fun a41 f41 => ?_
   refine R.t 4 f41 rfl hS10 (fun W hW => (E.fa 4 f41 U35 rfl wsz3_ri)) fun a42 f42 => ?_
   refine R.t 5 f42 rfl hS10 (fun W hW => (E.load f42 U3 rfl rfl ((Bg0.kept hW (by simpa using hg0g)).cl hp4))) fun a43 f43 => ?_
   refine R.one 6 (by kernel_rfl) ?_
   refine O.mapDrop f43 rfl wantedN (IG.kept KN (by simp)) U3 Tryz.underlying54 rfl rfl hwf (fun _ hk => hS10.trans hk (by simp)) fun a44 w3 IN ks f44 => ?_
   replace hS10 := hS10.trans ks (by simp)
   have szw3 := ks.size
   clear f37 a35 f38 a38 f39 a39 f40 a40 f41 a41 f42 a42 f43 a43 ks
   have szw3r := hS10.size
   have KM : Mod [] [s.gm] B _ w3 := Mod.of_kept hS10 (fun x hx _ => by obtain rfl := List.mem_singleton.1 hx; exact ⟨hS.log, .inr ⟨IG.map, by simp⟩⟩)
   replace HK := HK.step KM (by decide) (by simp) (by omega)
   replace HK2 := HK2.step KM (by decide) (by simp) (by omega)
   replace BP := BP.kept hS10 (by simpa using hpg)
   replace Bg0 := Bg0.kept hS10 (by simpa using hg0g)
   clear hS10
   refine R.done (by kernel_rfl) (hK27 _ _ ?_)
   have f45 := f44.pk [3, 4, 5]
   refine wp_seq_k fun K28 hK28 => ?_
   refine R.begin (S := fun W => Kept [] w3 W) (by kernel_rfl) (by exact (Kept.refl _ _).drewN 1) ?_
   have hS11 : Kept [] w3 (w3.drewN 1) := (Kept.refl _ _).drewN 1
   have hd11 : Kept [] w3 (w3.drewN 1) := (Kept.refl _ _).drewN 1
   obtain ⟨w4, hww4⟩ : ∃ W, W = w3.drewN 1 := ⟨_, rfl⟩
   rw [← hww4] at hS11 hd11 ⊢
   clear f44 hww4
   have szw4 := hS11.size
   refine R.t 0 f45 rfl hS11 (fun W hW => (E.fa 4 f45 U35 rfl wsz3_ri)) fun a46 f46 => ?_
   refine R.t 1 f46 rfl hS11 (fun W hW => (E.load f46 U3 rfl rfl ((Bg0.z hW).cl hp4))) fun a47 f47 => ?_
   refine R.t 2 f47 rfl hS11 (fun W hW => (E.build f47 (parts2 f47 rfl rfl) (wbl35_0_4_ri _ _))) fun a48 f48 => ?_
   refine R.t 4 f48 rfl hS11 (fun W hW => (E.assign f48 rfl)) fun a49 f49 => ?_
   refine R.one 3 (by kernel_rfl) ?_
   refine O.buildSlice f49 rfl wantedN (by decide) (parts1 f49 rfl) U42 wzj35 rfl rfl (wpk1 ⟨ackP 7 id, none, 0⟩) (fun _ hk => hS11.trans hk (by simp)) fun a50 w5 g4 N4 hSn f50 => ?_
   have Bg4 := N4.blk
   have kg4 := N4.kept
   have log4 := N4.lo
   have ltg4 := Bg4.lt
   have szw5 := kg4.size
   have szSw5 := hS11.size
   clear f45 a44 f46 a46 f47 a47 f48 a48 f49 a49 N4 kg4
   replace hS11 := hSn
   clear hSn
   refine R.t 5 f50 rfl hS11 (fun W hW => (E.assign f50 rfl)) fun a51 f51 => ?_
   have szw5r := hS11.size
   replace HK := HK.trans (.of_kept0 hS11)
   replace HK2 := HK2.trans (.of_kept0 hS11)
   replace BP := BP.z hS11
   replace Bg0 := Bg0.z hS11
   replace IN := IN.mod (Mod.of_kept0 (T := []) (M := []) (B := B) hS11) (by simp)
   clear f50 a50 hS11
   refine R.done (by kernel_rfl) (hK28 _ _ ?_)
   have f52 := f51.pk [4, 5]
   refine wp_ret ?_; (try simp only [xt, xb]); refine C.ret2 f52 rfl rfl rfl ?_
   exact gotR_fin hS HK HK2 IN (gotS_6 (by omega)) (pk_blk (x := ⟨ackP 7 id, none, 0⟩) Bg4 rfl (by omega) (Pay.nil _ _ _))
  have k57 := h11
  refine C.condF f37 rfl ?_
  refine wp_skip (hK1 _ _ ?_)
  have f38 := f37.pk [4, 5]
  refine C.sk fun K29 hK29 => ?_
  refine L.ag f38 fun a39 f39 => ?_
  refine L.ag f39 fun a40 f40 => ?_
  have f41 := f40.pk [4, 5]
  refine wn hK29 (wp_ret ?_); (try simp only [xt, xb]); refine C.ret2 f41 rfl rfl rfl ?_
  exact gotR_nil hS HK HK0 (gotS_n (by omega) (by omega))
 have k11 := h0
 refine L.run f10 (rest' := []) (by kernel_rfl) fun a11 f11 => ?_
 clear f9
 refine wn hK2 ?_
 have f12 := f11.sub (sv 7 (.bool false) (pkR f11 [0, 3, 4, 5]))
 refine C.condF f12 rfl ?_
 refine C.sk fun K30 hK30 => ?_
 refine L.fa 0 f12 U35 rfl wsz3_ri fun a13 f13 => ?_
 refine L.va f13 (E.load f13 U3 rfl rfl (Bg0.cl hp0)) fun a14 f14 => ?_
 refine L.va f14 (E.eql f14 rfl rfl) fun a15 f15 => ?_
 refine L.mv f15 fun a16 f16 => ?_
 clear f11 f10 f12 a11 f13 a13 f14 a14 f15 a15
 refine f16.splitD 20 rfl (fun h12 f17 => ?_) (fun h12 f17 => ?_)
 ·have k20 := h12
  refine L.fa 3 f17 U35 rfl wsz3_ri (hw := (f17.yes rfl rfl)) fun a18 f18 => ?_
  refine L.va f18 (E.load f18 U3 rfl rfl (Bg0.cl hp3)) (hw := (f18.yes rfl rfl)) fun a19 f19 => ?_
  refine L.va f19 (E.eql f19 rfl rfl) (hw := (f19.yes rfl rfl)) fun a20 f20 => ?_
  refine L.va f20 (E.pickT f20 rfl rfl) fun a21 f21 => ?_
  refine L.ag f21 fun a22 f22 => ?_
  refine wn hK30 ?_
  have f23 := f22.pk [0, 3, 4, 5, 16]
  clear f16 f17 a16 f18 a18 f19 a19 f20 a20 f21 a21 f22
  refine f23.splitD 16 rfl (fun h13 f24 => ?_) (fun h13 f24 => ?_)
  ·have k16 := h13
   refine C.condT f24 rfl ?_
   refine wp_seq_k fun K31 hK31 => ?_
   refine R.begin (S := fun W => Kept [] w1 W) (by kernel_rfl) (by exact (Kept.refl _ _).drewN 1) ?_
   have hS4 : Kept [] w1 (w1.drewN 1) := (Kept.refl _ _).drewN 1
   have hd4 : Kept [] w1 (w1.drewN 1) := (Kept.refl _ _).drewN 1
   obtain ⟨w2, hww2⟩ : ∃ W, W = w1.drewN 1 := ⟨_, rfl⟩
   rw [← hww2] at hS4 hd4 ⊢
   clear f23 hww2
   have szw2 := hS4.size
   refine R.t 0 f24 rfl hS4 (fun W hW => (E.fa 4 f24 U35 rfl wsz3_ri)) fun a25 f25 => ?_
   refine R.t 1 f25 rfl hS4 (fun W hW => (E.load f25 U3 rfl rfl ((Bg0.z hW).cl hp4))) fun a26 f26 => ?_
   refine R.t 2 f26 rfl hS4 (fun W hW => (E.build f26 (parts2 f26 rfl rfl) (wbl35_0_4_ri _ _))) fun a27 f27 => ?_
   refine R.t 4 f27 rfl hS4 (fun W hW => (E.assign f27 rfl)) fun a28 f28 => ?_
   refine R.one 3 (by kernel_rfl) ?_
   refine O.buildSlice f28 rfl wantedN (by decide) (parts1 f28 rfl) U42 wzj35 rfl rfl (wpk1 ⟨ackP 4 id, none, 0⟩) (fun _ hk => hS4.trans hk (by simp)) fun a29 w3 g2 N2 hSn f29 => ?_
   have Bg2 := N2.blk
   have kg2 := N2.kept
   have log2 := N2.lo
   have ltg2 := Bg2.lt
   have szw3 := kg2.size
   have szSw3 := hS4.size
   clear f24 a22 f25 a25 f26 a26 f27 a27 f28 a28 N2 kg2
   replace hS4 := hSn
   clear hSn
   refine R.t 5 f29 rfl hS4 (fun W hW => (E.assign f29 rfl)) fun a30 f30 => ?_
   have szw3r := hS4.size
   replace HK := HK.trans (.of_kept0 hS4)
   replace HK2 := HK2.trans (.of_kept0 hS4)
   replace HK0 := HK0.trans (.of_kept0 hS4)
   replace BP := BP.z hS4
   replace IG := IG.mod (Mod.of_kept0 (T := []) (M := []) (B := B) hS4) (by simp)
   replace Bg0 := Bg0.z hS4
   clear f29 a29 hS4
   refine R.done (by kernel_rfl) (hK31 _ _ ?_)
   have f31 := f30.pk [4, 5]
   refine wp_ret ?_; (try simp only [xt, xb]); refine C.ret2 f31 rfl rfl rfl ?_
   exact gotR_one hS HK HK0 (gotS_1 (by omega) (by omega)) (pk_blk (x := ⟨ackP 4 id, none, 0⟩) Bg2 rfl (by omega) (Pay.nil _ _ _))
  have k16 := h13
  refine C.condF f24 rfl ?_
  refine C.sk fun K32 hK32 => ?_
  refine L.fa 0 f24 U35 rfl wsz3_ri fun a25 f25 => ?_
  refine L.va f25 (E.load f25 U3 rfl rfl (Bg0.cl hp0)) fun a26 f26 => ?_
  refine L.va f26 (E.eql f26 rfl rfl) fun a27 f27 => ?_
  refine L.mv f27 fun a28 f28 => ?_
  clear f23 f24 a22 f25 a25 f26 a26 f27 a27
  refine f28.splitD 33 rfl (fun h14 f29 => ?_) (fun h14 f29 => ?_)
  ·have k33 := h14
   refine L.fa 3 f29 U35 rfl wsz3_ri (hw := (f29.yes rfl rfl)) fun a30 f30 => ?_
   refine L.va f30 (E.load f30 U3 rfl rfl (Bg0.cl hp3)) (hw := (f30.yes rfl rfl)) fun a31 f31 => ?_
   refine L.va f31 (E.eql f31 rfl rfl) (hw := (f31.yes rfl rfl)) fun a32 f32 => ?_
   refine L.va f32 (E.pickT f32 rfl rfl) fun a33 f33 => ?_
   refine L.ag f33 fun a34 f34 => ?_
   refine wn hK32 ?_
   have f35 := f34.pk [0, 3, 4, 5, 29]
   clear f28 f29 a28 f30 a30 f31 a31 f32 a32 f33 a33 f34
   refine f35.splitD 29 rfl (fun h15 f36 => ?_) (fun h15 f36 => ?_)
   ·have k29 := h15
    refine C.condT f36 rfl ?_
    refine wp_seq_k fun K33 hK33 => ?_
    have hg0g : g0 ≠ s.gm := by have := hS.got.lt; omega
    refine R.begin (S := fun W => Kept [] w1 W) (by kernel_rfl) (by exact (Kept.refl _ _).drewN 1) ?_
    have hS6 : Kept [] w1 (w1.drewN 1) := (Kept.refl _ _).drewN 1
    have hd6 : Kept [] w1 (w1.drewN 1) := (Kept.refl _ _).drewN 1
    obtain ⟨w2, hww2⟩ : ∃ W, W = w1.drewN 1 := ⟨_, rfl⟩
    rw [← hww2] at hS6 hd6 ⊢
    clear f35 hww2
    have szw2 := hS6.size
    refine R.mv 0 f36 rfl hS6 fun a37 f37 => ?_
    refine R.t 1 f37 rfl hS6 (fun W hW => (E.nilCheck f37 rfl)) fun a38 f38 => ?_
    refine R.t 2 f38 rfl hS6 (fun W hW => (E.fa 5 f38 U64 rfl wsz54_ri)) fun a39 f39 => ?_
    refine R.t 3 f39 rfl hS6 (fun W hW => (E.load f39 Tryz.underlying54 rfl rfl ((BP.z hW).cl rfl))) fun a40 f40 => ?_
    refine R.t 4 f40 rfl hS6 (fun W hW => (E.fa 4 f40 U35 rfl wsz3_ri)) fun a41 f41 => ?_
    refine R.t 5 f41 rfl hS6 (fun W hW => (E.load f41 U3 rfl rfl ((Bg0.z hW).cl hp4))) fun a42 f42 => ?_
    refine R.t 6 f42 rfl hS6 (fun W hW => (E.look f42 (IG.kept hW (by simp)) U3 U4 Tryz.underlying54 (fun _ => by kernel_rfl) rfl rfl hwf)) fun a43 f43 => ?_
    clear f36 a34 f37 a37 f38 a38 f39 a39 f40 a40 f41 a41 f42 a42
    refine R.t 7 f43 rfl hS6 (fun W hW => (E.not f43 rfl)) fun a44 f44 => ?_
    refine R.t 8 f44 rfl hS6 (fun W hW => (E.assign f44 rfl)) fun a45 f45 => ?_
    have szw2r := hS6.size
    replace HK := HK.trans (.of_kept0 hS6)
    replace HK2 := HK2.trans (.of_kept0 hS6)
    replace HK0 := HK0.trans (.of_kept0 hS6)
    replace BP := BP.z hS6
    replace IG := IG.mod (Mod.of_kept0 (T := []) (M := []) (B := B) hS6) (by simp)
    replace Bg0 := Bg0.z hS6
    clear f43 a43 f44 a44 hS6
    refine R.done (by kernel_rfl) (hK33 _ _ ?_)
    have f46 := f45.pk [0, 3, 4, 5, 6]
    refine wp_seq_k fun K34 hK34 => ?_
    have KN := Kept.refl [] w2
    refine R.begin (S := fun W => Kept [s.gm] w2 W) (by kernel_rfl) (by exact (Kept.refl _ _).drewN 1) ?_
    have hS7 : Kept [s.gm] w2 (w2.drewN 1) := (Kept.refl _ _).drewN 1
    have hd7 : Kept [] w2 (w2.drewN 1) := (Kept.refl _ _).drewN 1
    obtain ⟨w3, hww3⟩ : ∃ W, W = w2.drewN 1 := ⟨_, rfl⟩
    rw [← hww3] at hS7 hd7 ⊢
    clear f45 hww3
    have szw3 := hS7.size
    replace KN := KN.trans hd7 (by simp)
    refine R.mv 0 f46 rfl hS7 fun a47 f47 => ?_
    refine R.t 1 f47 rfl hS7 (fun W hW => (E.nilCheck f47 rfl)) fun a48 f48 => ?_
    refine R.t 2 f48 rfl hS7 (fun W hW => (E.fa 5 f48 U64 rfl wsz54_ri)) fun a49 f49 => ?_
    refine R.t 3 f49 rfl hS7 (fun W hW => (E.load f49 Tryz.underlying54 rfl rfl ((BP.kept hW (by first | simpa using hpg | simpa using hg0g)).cl rfl))) fun a50 f50 => ?_
    refine R.t 4 f50 rfl hS7 (fun W hW => (E.fa 4 f50 U35 rfl wsz3_ri)) fun a51 f51 => ?_
    refine R.t 5 f51 rfl hS7 (fun W hW => (E.load f51 U3 rfl rfl ((Bg0.kept hW (by simpa using hg0g)).cl hp4))) fun a52 f52 => ?_
    refine R.one 6 (by kernel_rfl) ?_
    refine O.mapPut f52 rfl wantedN (IG.kept KN (by simp)) U3 U4 Tryz.underlying54 rfl rfl rfl hwf hgl (fun _ hk => hS7.trans hk (by simp)) fun a53 w4 IN ks f53 => ?_
    replace hS7 := hS7.trans ks (by simp)
    have szw4 := ks.size
    clear f46 a45 f47 a47 f48 a48 f49 a49 f50 a50 f51 a51 f52 a52 ks
    have szw4r := hS7.size
    have KM : Mod [] [s.gm] B _ w4 := Mod.of_kept hS7 (fun x hx _ => by obtain rfl := List.mem_singleton.1 hx; exact ⟨hS.log, .inr ⟨IG.map, by simp⟩⟩)
    replace HK := HK.step KM (by decide) (by simp) (by omega)
    replace HK2 := HK2.step KM (by decide) (by simp) (by omega)
    replace BP := BP.kept hS7 (by simpa using hpg)
    replace Bg0 := Bg0.kept hS7 (by simpa using hg0g)
    clear hS7
    refine R.done (by kernel_rfl) (hK34 _ _ ?_)
    have f54 := f53.pk [3, 4, 5, 6]
    refine wp_seq_k fun K35 hK35 => ?_
    refine R.begin (S := fun W => Kept [] w4 W) (by kernel_rfl) (by exact (Kept.refl _ _).drewN 1) ?_
    have hS8 : Kept [] w4 (w4.drewN 1) := (Kept.refl _ _).drewN 1
    have hd8 : Kept [] w4 (w4.drewN 1) := (Kept.refl _ _).drewN 1
    obtain ⟨w5, hww5⟩ : ∃ W, W = w4.drewN 1 := ⟨_, rfl⟩
    rw [← hww5] at hS8 hd8 ⊢
    clear f53 hww5
    have szw5 := hS8.size
    refine R.mv 0 f54 rfl hS8 fun a55 f55 => ?_
    refine R.t 1 f55 rfl hS8 (fun W hW => (E.fa 4 f55 U35 rfl wsz3_ri)) fun a56 f56 => ?_
    refine R.t 2 f56 rfl hS8 (fun W hW => (E.load f56 U3 rfl rfl ((Bg0.z hW).cl hp4))) fun a57 f57 => ?_
    refine R.t 3 f57 rfl hS8 (fun W hW => (E.build f57 (parts2 f57 rfl rfl) (wbl35_0_4_ri _ _))) fun a58 f58 => ?_
    refine R.t 5 f58 rfl hS8 (fun W hW => (E.assign f58 rfl)) fun a59 f59 => ?_
    refine R.one 4 (by kernel_rfl) ?_
    refine O.buildSlice f59 rfl wantedN (by decide) (parts1 f59 rfl) U42 wzj35 rfl rfl (wpk1 ⟨ackP 5 id, none, 0⟩) (fun _ hk => hS8.trans hk (by simp)) fun a60 w6 g5 N5 hSn f60 => ?_
    have Bg5 := N5.blk
    have kg5 := N5.kept
    have log5 := N5.lo
    have ltg5 := Bg5.lt
    have szw6 := kg5.size
    have szSw6 := hS8.size
    clear f54 a53 f55 a55 f56 a56 f57 a57 f58 a58 f59 a59 N5 kg5
    replace hS8 := hSn
    clear hSn
    refine R.t 6 f60 rfl hS8 (fun W hW => (E.assign f60 rfl)) fun a61 f61 => ?_
    have szw6r := hS8.size
    replace HK := HK.trans (.of_kept0 hS8)
    replace HK2 := HK2.trans (.of_kept0 hS8)
    replace BP := BP.z hS8
    replace Bg0 := Bg0.z hS8
    replace IN := IN.mod (Mod.of_kept0 (T := []) (M := []) (B := B) hS8) (by simp)
    clear f60 a60 hS8
    refine R.done (by kernel_rfl) (hK35 _ _ ?_)
    have f62 := f61.pk [4, 5]
    refine wp_ret ?_; (try simp only [xt, xb]); refine C.ret2 f62 rfl rfl rfl ?_
    exact gotR_fin hS HK HK2 IN (gotS_2 (by omega) (by omega)) (pk_blk (x := ⟨ackP 5 id, none, 0⟩) Bg5 rfl (by omega) (Pay.nil _ _ _))
   have k29 := h15
   refine C.condF f36 rfl ?_
   refine C.sk fun K36 hK36 => ?_
   refine L.fa 0 f36 U35 rfl wsz3_ri fun a37 f37 => ?_
   refine L.va f37 (E.load f37 U3 rfl rfl (Bg0.cl hp0)) fun a38 f38 => ?_
   refine L.va f38 (E.eql f38 rfl rfl) fun a39 f39 => ?_
   refine L.ag f39 fun a40 f40 => ?_
   refine wn hK36 ?_
   have f41 := f40.pk [0, 3, 4, 5, 57]
   clear f35 f36 a34 f37 a37 f38 a38 f39 a39 f40
   refine f41.splitD 57 rfl (fun h16 f42 => ?_) (fun h16 f42 => ?_)
   ·have k57 := h16
    refine C.condT f42 rfl ?_
    refine wp_seq_k fun K37 hK37 => ?_
    have KN := Kept.refl [] w1
    have hg0g : g0 ≠ s.gm := by have := hS.got.lt; omega
    refine R.begin (S := fun W => Kept [s.gm] w1 W) (by kernel_rfl) (by exact (Kept.refl _ _).drewN 1) ?_
    have hS10 : Kept [s.gm] w1 (w1.drewN 1) := (Kept.refl _ _).drewN 1
    have hd10 : Kept [] w1 (w1.drewN 1) := (Kept.refl _ _).drewN 1
    obtain ⟨w2, hww2⟩ : ∃ W, W = w1.drewN 1 := ⟨_, rfl⟩
    rw [← hww2] at hS10 hd10 ⊢
    clear f41 hww2
    have szw2 := hS10.size
    replace KN := KN.trans hd10 (by simp)
    refine R.mv 0 f42 rfl hS10 fun a43 f43 => ?_
    refine R.t 1 f43 rfl hS10 (fun W hW => (E.nilCheck f43 rfl)) fun a44 f44 => ?_
    refine R.t 2 f44 rfl hS10 (fun W hW => (E.fa 5 f44 U64 rfl wsz54_ri)) fun a45 f45 => ?_
    refine R.t 3 f45 rfl hS10 (fun W hW => (E.load f45 Tryz.underlying54 rfl rfl ((BP.kept hW (by first | simpa using hpg | simpa using hg0g)).cl rfl))) fun a46 f46 => ?_
    refine R.t 4 f46 rfl hS10 (fun W hW => (E.fa 4 f46 U35 rfl wsz3_ri)) fun a47 f47 => ?_
    refine R.t 5 f47 rfl hS10 (fun W hW => (E.load f47 U3 rfl rfl ((Bg0.kept hW (by simpa using hg0g)).cl hp4))) fun a48 f48 => ?_
    refine R.one 6 (by kernel_rfl) ?_
    refine O.mapDrop f48 rfl wantedN (IG.kept KN (by simp)) U3 Tryz.underlying54 rfl rfl hwf (fun _ hk => hS10.trans hk (by simp)) fun a49 w3 IN ks f49 => ?_
    replace hS10 := hS10.trans ks (by simp)
    have szw3 := ks.size
    clear f42 a40 f43 a43 f44 a44 f45 a45 f46 a46 f47 a47 f48 a48 ks
    have szw3r := hS10.size
    have KM : Mod [] [s.gm] B _ w3 := Mod.of_kept hS10 (fun x hx _ => by obtain rfl := List.mem_singleton.1 hx; exact ⟨hS.log, .inr ⟨IG.map, by simp⟩⟩)
    replace HK := HK.step KM (by decide) (by simp) (by omega)
    replace HK2 := HK2.step KM (by decide) (by simp) (by omega)
    replace BP := BP.kept hS10 (by simpa using hpg)
    replace Bg0 := Bg0.kept hS10 (by simpa using hg0g)
    clear hS10
    refine R.done (by kernel_rfl) (hK37 _ _ ?_)
    have f50 := f49.pk [3, 4, 5]
    refine wp_seq_k fun K38 hK38 => ?_
    refine R.begin (S := fun W => Kept [] w3 W) (by kernel_rfl) (by exact (Kept.refl _ _).drewN 1) ?_
    have hS11 : Kept [] w3 (w3.drewN 1) := (Kept.refl _ _).drewN 1
    have hd11 : Kept [] w3 (w3.drewN 1) := (Kept.refl _ _).drewN 1
    obtain ⟨w4, hww4⟩ : ∃ W, W = w3.drewN 1 := ⟨_, rfl⟩
    rw [← hww4] at hS11 hd11 ⊢
    clear f49 hww4
    have szw4 := hS11.size
    refine R.t 0 f50 rfl hS11 (fun W hW => (E.fa 4 f50 U35 rfl wsz3_ri)) fun a51 f51 => ?_
    refine R.t 1 f51 rfl hS11 (fun W hW => (E.load f51 U3 rfl rfl ((Bg0.z hW).cl hp4))) fun a52 f52 => ?_
    refine R.t 2 f52 rfl hS11 (fun W hW => (E.build f52 (parts2 f52 rfl rfl) (wbl35_0_4_ri _ _))) fun a53 f53 => ?_
    refine R.t 4 f53 rfl hS11 (fun W hW => (E.assign f53 rfl)) fun a54 f54 => ?_
    refine R.one 3 (by kernel_rfl) ?_
    refine O.buildSlice f54 rfl wantedN (by decide) (parts1 f54 rfl) U42 wzj35 rfl rfl (wpk1 ⟨ackP 7 id, none, 0⟩) (fun _ hk => hS11.trans hk (by simp)) fun a55 w5 g4 N4 hSn f55 => ?_
    have Bg4 := N4.blk
    have kg4 := N4.kept
    have log4 := N4.lo
    have ltg4 := Bg4.lt
    have szw5 := kg4.size
    have szSw5 := hS11.size
    clear f50 a49 f51 a51 f52 a52 f53 a53 f54 a54 N4 kg4
    replace hS11 := hSn
    clear hSn
    refine R.t 5 f55 rfl hS11 (fun W hW => (E.assign f55 rfl)) fun a56 f56 => ?_
    have szw5r := hS11.size
    replace HK := HK.trans (.of_kept0 hS11)
    replace HK2 := HK2.trans (.of_kept0 hS11)
    replace BP := BP.z hS11
    replace Bg0 := Bg0.z hS11
    replace IN := IN.mod (Mod.of_kept0 (T := []) (M := []) (B := B) hS11) (by simp)
    clear f55 a55 hS11
    refine R.done (by kernel_rfl) (hK38 _ _ ?_)
    have f57 := f56.pk [4, 5]
    refine wp_ret ?_; (try simp only [xt, xb]); refine C.ret2 f57 rfl rfl rfl ?_
    exact gotR_fin hS HK HK2 IN (gotS_6 (by omega)) (pk_blk (x := ⟨ackP 7 id, none, 0⟩) Bg4 rfl (by omega) (Pay.nil _ _ _))
   have k57 := h16
   refine C.condF f42 rfl ?_
   refine wp_skip (hK1 _ _ ?_)
   have f43 := f42.pk [4, 5]
   refine C.sk fun K39 hK39 => ?_
   refine L.ag f43 fun a44 f44 => ?_
   refine L.ag f44 fun a45 f45 => ?_
   have f46 := f45.pk [4, 5]
   refine wn hK39 (wp_ret ?_); (try simp only [xt, xb]); refine C.ret2 f46 rfl rfl rfl ?_
   exact gotR_nil hS HK HK0 (gotS_n (by omega) (by omega))
  have k33 := h14
  refine L.run f29 (rest' := []) (by kernel_rfl) fun a30 f30 => ?_
  clear f28
  refine wn hK32 ?_
  have f31 := f30.sub (sv 29 (.bool false) (pkR f30 [0, 3, 4, 5]))
  refine C.condF f31 rfl ?_
  refine C.sk fun K40 hK40 => ?_
  refine L.fa 0 f31 U35 rfl wsz3_ri fun a32 f32 => ?_
  refine L.va f32 (E.load f32 U3 rfl rfl (Bg0.cl hp0)) fun a33 f33 => ?_
  refine L.va f33 (E.eql f33 rfl rfl) fun a34 f34 => ?_
  refine L.ag f34 fun a35 f35 => ?_
  refine wn hK40 ?_
  have f36 := f35.pk [0, 3, 4, 5, 57]
  clear f30 f29 f31 a30 f32 a32 f33 a33 f34 a34 f35
  refine f36.splitD 57 rfl (fun h17 f37 => ?_) (fun h17 f37 => ?_)
  ·have k57 := h17
   refine C.condT f37 rfl ?_
   refine wp_seq_k fun K41 hK41 => ?_
   have KN := Kept.refl [] w1
   have hg0g : g0 ≠ s.gm := by have := hS.got.lt; omega
   refine R.begin (S := fun W => Kept [s.gm] w1 W) (by kernel_rfl) (by exact (Kept.refl _ _).drewN 1) ?_
   have hS10 : Kept [s.gm] w1 (w1.drewN 1) := (Kept.refl _ _).drewN 1
   have hd10 : Kept [] w1 (w1.drewN 1) := (Kept.refl _ _).drewN 1
   obtain ⟨w2, hww2⟩ : ∃ W, W = w1.drewN 1 := ⟨_, rfl⟩
   rw [← hww2] at hS10 hd10 ⊢
   clear f36 hww2
   have szw2 := hS10.size
   replace KN := KN.trans hd10 (by simp)
   refine R.mv 0 f37 rfl hS10 fun a38 f38 => ?_
   refine R.t 1 f38 rfl hS10 (fun W hW => (E.nilCheck f38 rfl)) fun a39 f39 => ?_
   refine R.t 2 f39 rfl hS10 (fun W hW => (E.fa 5 f39 U64 rfl wsz54_ri)) fun a40 f40 => ?_
   refine R.t 3 f40 rfl hS10 (fun W hW => (E.load f40 Tryz.underlying54 rfl rfl ((BP.kept hW (by first | simpa using hpg | simpa using hg0g)).cl rfl))) fun a41 f41 => ?_
   refine R.t 4 f41 rfl hS10 (fun W hW => (E.fa 4 f41 U35 rfl wsz3_ri)) fun a42 f42 => ?_
   refine R.t 5 f42 rfl hS10 (fun W hW => (E.load f42 U3 rfl rfl ((Bg0.kept hW (by simpa using hg0g)).cl hp4))) fun a43 f43 => ?_
   refine R.one 6 (by kernel_rfl) ?_
   refine O.mapDrop f43 rfl wantedN (IG.kept KN (by simp)) U3 Tryz.underlying54 rfl rfl hwf (fun _ hk => hS10.trans hk (by simp)) fun a44 w3 IN ks f44 => ?_
   replace hS10 := hS10.trans ks (by simp)
   have szw3 := ks.size
   clear f37 a35 f38 a38 f39 a39 f40 a40 f41 a41 f42 a42 f43 a43 ks
   have szw3r := hS10.size
   have KM : Mod [] [s.gm] B _ w3 := Mod.of_kept hS10 (fun x hx _ => by obtain rfl := List.mem_singleton.1 hx; exact ⟨hS.log, .inr ⟨IG.map, by simp⟩⟩)
   replace HK := HK.step KM (by decide) (by simp) (by omega)
   replace HK2 := HK2.step KM (by decide) (by simp) (by omega)
   replace BP := BP.kept hS10 (by simpa using hpg)
   replace Bg0 := Bg0.kept hS10 (by simpa using hg0g)
   clear hS10
   refine R.done (by kernel_rfl) (hK41 _ _ ?_)
   have f45 := f44.pk [3, 4, 5]
   refine wp_seq_k fun K42 hK42 => ?_
   refine R.begin (S := fun W => Kept [] w3 W) (by kernel_rfl) (by exact (Kept.refl _ _).drewN 1) ?_
   have hS11 : Kept [] w3 (w3.drewN 1) := (Kept.refl _ _).drewN 1
   have hd11 : Kept [] w3 (w3.drewN 1) := (Kept.refl _ _).drewN 1
   obtain ⟨w4, hww4⟩ : ∃ W, W = w3.drewN 1 := ⟨_, rfl⟩
   rw [← hww4] at hS11 hd11 ⊢
   clear f44 hww4
   have szw4 := hS11.size
   refine R.t 0 f45 rfl hS11 (fun W hW => (E.fa 4 f45 U35 rfl wsz3_ri)) fun a46 f46 => ?_
   refine R.t 1 f46 rfl hS11 (fun W hW => (E.load f46 U3 rfl rfl ((Bg0.z hW).cl hp4))) fun a47 f47 => ?_
   refine R.t 2 f47 rfl hS11 (fun W hW => (E.build f47 (parts2 f47 rfl rfl) (wbl35_0_4_ri _ _))) fun a48 f48 => ?_
   refine R.t 4 f48 rfl hS11 (fun W hW => (E.assign f48 rfl)) fun a49 f49 => ?_
   refine R.one 3 (by kernel_rfl) ?_
   refine O.buildSlice f49 rfl wantedN (by decide) (parts1 f49 rfl) U42 wzj35 rfl rfl (wpk1 ⟨ackP 7 id, none, 0⟩) (fun _ hk => hS11.trans hk (by simp)) fun a50 w5 g4 N4 hSn f50 => ?_
   have Bg4 := N4.blk
   have kg4 := N4.kept
   have log4 := N4.lo
   have ltg4 := Bg4.lt
   have szw5 := kg4.size
   have szSw5 := hS11.size
   clear f45 a44 f46 a46 f47 a47 f48 a48 f49 a49 N4 kg4
   replace hS11 := hSn
   clear hSn
   refine R.t 5 f50 rfl hS11 (fun W hW => (E.assign f50 rfl)) fun a51 f51 => ?_
   have szw5r := hS11.size
   replace HK := HK.trans (.of_kept0 hS11)
   replace HK2 := HK2.trans (.of_kept0 hS11)
   replace BP := BP.z hS11
   replace Bg0 := Bg0.z hS11
   replace IN := IN.mod (Mod.of_kept0 (T := []) (M := []) (B := B) hS11) (by simp)
   clear f50 a50 hS11
   refine R.done (by kernel_rfl) (hK42 _ _ ?_)
   have f52 := f51.pk [4, 5]
   refine wp_ret ?_; (try simp only [xt, xb]); refine C.ret2 f52 rfl rfl rfl ?_
   exact gotR_fin hS HK HK2 IN (gotS_6 (by omega)) (pk_blk (x := ⟨ackP 7 id, none, 0⟩) Bg4 rfl (by omega) (Pay.nil _ _ _))
  have k57 := h17
  refine C.condF f37 rfl ?_
  refine wp_skip (hK1 _ _ ?_)
  have f38 := f37.pk [4, 5]
  refine C.sk fun K43 hK43 => ?_
  refine L.ag f38 fun a39 f39 => ?_
  refine L.ag f39 fun a40 f40 => ?_
  have f41 := f40.pk [4, 5]
  refine wn hK43 (wp_ret ?_); (try simp only [xt, xb]); refine C.ret2 f41 rfl rfl rfl ?_
  exact gotR_nil hS HK HK0 (gotS_n (by omega) (by omega))
 have k20 := h12
 refine L.run f17 (rest' := []) (by kernel_rfl) fun a18 f18 => ?_
 clear f16
 refine wn hK30 ?_
 have f19 := f18.sub (sv 16 (.bool false) (pkR f18 [0, 3, 4, 5]))
 refine C.condF f19 rfl ?_
 refine C.sk fun K44 hK44 => ?_
 refine L.fa 0 f19 U35 rfl wsz3_ri fun a20 f20 => ?_
 refine L.va f20 (E.load f20 U3 rfl rfl (Bg0.cl hp0)) fun a21 f21 => ?_
 refine L.va f21 (E.eql f21 rfl rfl) fun a22 f22 => ?_
 refine L.mv f22 fun a23 f23 => ?_
 clear f18 f17 f19 a18 f20 a20 f21 a21 f22 a22
 refine f23.splitD 33 rfl (fun h18 f24 => ?_) (fun h18 f24 => ?_)
 ·have k33 := h18
  refine L.fa 3 f24 U35 rfl wsz3_ri (hw := (f24.yes rfl rfl)) fun a25 f25 => ?_
  refine L.va f25 (E.load f25 U3 rfl rfl (Bg0.cl hp3)) (hw := (f25.yes rfl rfl)) fun a26 f26 => ?_
  refine L.va f26 (E.eql f26 rfl rfl) (hw := (f26.yes rfl rfl)) fun a27 f27 => ?_
  refine L.va f27 (E.pickT f27 rfl rfl) fun a28 f28 => ?_
  refine L.ag f28 fun a29 f29 => ?_
  refine wn hK44 ?_
  have f30 := f29.pk [0, 3, 4, 5, 29]
  clear f23 f24 a23 f25 a25 f26 a26 f27 a27 f28 a28 f29
  refine f30.splitD 29 rfl (fun h19 f31 => ?_) (fun h19 f31 => ?_)
  ·have k29 := h19
   refine C.condT f31 rfl ?_
   refine wp_seq_k fun K45 hK45 => ?_
   have hg0g : g0 ≠ s.gm := by have := hS.got.lt; omega
   refine R.begin (S := fun W => Kept [] w1 W) (by kernel_rfl) (by exact (Kept.refl _ _).drewN 1) ?_
   have hS6 : Kept [] w1 (w1.drewN 1) := (Kept.refl _ _).drewN 1
   have hd6 : Kept [] w1 (w1.drewN 1) := (Kept.refl _ _).drewN 1
   obtain ⟨w2, hww2⟩ : ∃ W, W = w1.drewN 1 := ⟨_, rfl⟩
   rw [← hww2] at hS6 hd6 ⊢
   clear f30 hww2
   have szw2 := hS6.size
   refine R.mv 0 f31 rfl hS6 fun a32 f32 => ?_
   refine R.t 1 f32 rfl hS6 (fun W hW => (E.nilCheck f32 rfl)) fun a33 f33 => ?_
   refine R.t 2 f33 rfl hS6 (fun W hW => (E.fa 5 f33 U64 rfl wsz54_ri)) fun a34 f34 => ?_
   refine R.t 3 f34 rfl hS6 (fun W hW => (E.load f34 Tryz.underlying54 rfl rfl ((BP.z hW).cl rfl))) fun a35 f35 => ?_
   refine R.t 4 f35 rfl hS6 (fun W hW => (E.fa 4 f35 U35 rfl wsz3_ri)) fun a36 f36 => ?_
   refine R.t 5 f36 rfl hS6 (fun W hW => (E.load f36 U3 rfl rfl ((Bg0.z hW).cl hp4))) fun a37 f37 => ?_
   refine R.t 6 f37 rfl hS6 (fun W hW => (E.look f37 (IG.kept hW (by simp)) U3 U4 Tryz.underlying54 (fun _ => by kernel_rfl) rfl rfl hwf)) fun a38 f38 => ?_
   clear f31 a29 f32 a32 f33 a33 f34 a34 f35 a35 f36 a36 f37 a37
   refine R.t 7 f38 rfl hS6 (fun W hW => (E.not f38 rfl)) fun a39 f39 => ?_
   refine R.t 8 f39 rfl hS6 (fun W hW => (E.assign f39 rfl)) fun a40 f40 => ?_
   have szw2r := hS6.size
   replace HK := HK.trans (.of_kept0 hS6)
   replace HK2 := HK2.trans (.of_kept0 hS6)
   replace HK0 := HK0.trans (.of_kept0 hS6)
   replace BP := BP.z hS6
   replace IG := IG.mod (Mod.of_kept0 (T := []) (M := []) (B := B) hS6) (by simp)
   replace Bg0 := Bg0.z hS6
   clear f38 a38 f39 a39 hS6
   refine R.done (by kernel_rfl) (hK45 _ _ ?_)
   have f41 := f40.pk [0, 3, 4, 5, 6]
   refine wp_seq_k fun K46 hK46 => ?_
   have KN := Kept.refl [] w2
   refine R.begin (S := fun W => Kept [s.gm] w2 W) (by kernel_rfl) (by exact (Kept.refl _ _).drewN 1) ?_
   have hS7 : Kept [s.gm] w2 (w2.drewN 1) := (Kept.refl _ _).drewN 1
   have hd7 : Kept [] w2 (w2.drewN 1) := (Kept.refl _ _).drewN 1
   obtain ⟨w3, hww3⟩ : ∃ W, W = w2.drewN 1 := ⟨_, rfl⟩
   rw [← hww3] at hS7 hd7 ⊢
   clear f40 hww3
   have szw3 := hS7.size
   replace KN := KN.trans hd7 (by simp)
   refine R.mv 0 f41 rfl hS7 fun a42 f42 => ?_
   refine R.t 1 f42 rfl hS7 (fun W hW => (E.nilCheck f42 rfl)) fun a43 f43 => ?_
   refine R.t 2 f43 rfl hS7 (fun W hW => (E.fa 5 f43 U64 rfl wsz54_ri)) fun a44 f44 => ?_
   refine R.t 3 f44 rfl hS7 (fun W hW => (E.load f44 Tryz.underlying54 rfl rfl ((BP.kept hW (by first | simpa using hpg | simpa using hg0g)).cl rfl))) fun a45 f45 => ?_
   refine R.t 4 f45 rfl hS7 (fun W hW => (E.fa 4 f45 U35 rfl wsz3_ri)) fun a46 f46 => ?_
   refine R.t 5 f46 rfl hS7 (fun W hW => (E.load f46 U3 rfl rfl ((Bg0.kept hW (by simpa using hg0g)).cl hp4))) fun a47 f47 => ?_
   refine R.one 6 (by kernel_rfl) ?_
   refine O.mapPut f47 rfl wantedN (IG.kept KN (by simp)) U3 U4 Tryz.underlying54 rfl rfl rfl hwf hgl (fun _ hk => hS7.trans hk (by simp)) fun a48 w4 IN ks f48 => ?_
   replace hS7 := hS7.trans ks (by simp)
   have szw4 := ks.size
   clear f41 a40 f42 a42 f43 a43 f44 a44 f45 a45 f46 a46 f47 a47 ks
   have szw4r := hS7.size
   have KM : Mod [] [s.gm] B _ w4 := Mod.of_kept hS7 (fun x hx _ => by obtain rfl := List.mem_singleton.1 hx; exact ⟨hS.log, .inr ⟨IG.map, by simp⟩⟩)
   replace HK := HK.step KM (by decide) (by simp) (by omega)
   replace HK2 := HK2.step KM (by decide) (by simp) (by omega)
   replace BP := BP.kept hS7 (by simpa using hpg)
   replace Bg0 := Bg0.kept hS7 (by simpa using hg0g)
   clear hS7
   refine R.done (by kernel_rfl) (hK46 _ _ ?_)
   have f49 := f48.pk [3, 4, 5, 6]
   refine wp_seq_k fun K47 hK47 => ?_
   refine R.begin (S := fun W => Kept [] w4 W) (by kernel_rfl) (by exact (Kept.refl _ _).drewN 1) ?_
   have hS8 : Kept [] w4 (w4.drewN 1) := (Kept.refl _ _).drewN 1
   have hd8 : Kept [] w4 (w4.drewN 1) := (Kept.refl _ _).drewN 1
   obtain ⟨w5, hww5⟩ : ∃ W, W = w4.drewN 1 := ⟨_, rfl⟩
   rw [← hww5] at hS8 hd8 ⊢
   clear f48 hww5
   have szw5 := hS8.size
   refine R.mv 0 f49 rfl hS8 fun a50 f50 => ?_
   refine R.t 1 f50 rfl hS8 (fun W hW => (E.fa 4 f50 U35 rfl wsz3_ri)) fun a51 f51 => ?_
   refine R.t 2 f51 rfl hS8 (fun W hW => (E.load f51 U3 rfl rfl ((Bg0.z hW).cl hp4))) fun a52 f52 => ?_
   refine R.t 3 f52 rfl hS8 (fun W hW => (E.build f52 (parts2 f52 rfl rfl) (wbl35_0_4_ri _ _))) fun a53 f53 => ?_
   refine R.t 5 f53 rfl hS8 (fun W hW => (E.assign f53 rfl)) fun a54 f54 => ?_
   refine R.one 4 (by kernel_rfl) ?_
   refine O.buildSlice f54 rfl wantedN (by decide) (parts1 f54 rfl) U42 wzj35 rfl rfl (wpk1 ⟨ackP 5 id, none, 0⟩) (fun _ hk => hS8.trans hk (by simp)) fun a55 w6 g5 N5 hSn f55 => ?_
   have Bg5 := N5.blk
   have kg5 := N5.kept
   have log5 := N5.lo
   have ltg5 := Bg5.lt
   have szw6 := kg5.size
   have szSw6 := hS8.size
   clear f49 a48 f50 a50 f51 a51 f52 a52 f53 a53 f54 a54 N5 kg5
   replace hS8 := hSn
   clear hSn
   refine R.t 6 f55 rfl hS8 (fun W hW => (E.assign f55 rfl)) fun a56 f56 => ?_
   have szw6r := hS8.size
   replace HK := HK.trans (.of_kept0 hS8)
   replace HK2 := HK2.trans (.of_kept0 hS8)
   replace BP := BP.z hS8
   replace Bg0 := Bg0.z hS8
   replace IN := IN.mod (Mod.of_kept0 (T := []) (M := []) (B := B) hS8) (by simp)
   clear f55 a55 hS8
   refine R.done (by kernel_rfl) (hK47 _ _ ?_)
   have f57 := f56.pk [4, 5]
   refine wp_ret ?_; (try simp only [xt, xb]); refine C.ret2 f57 rfl rfl rfl ?_
   exact gotR_fin hS HK HK2 IN (gotS_2 (by omega) (by omega)) (pk_blk (x := ⟨ackP 5 id, none, 0⟩) Bg5 rfl (by omega) (Pay.nil _ _ _))
  have k29 := h19
  refine C.condF f31 rfl ?_
  refine C.sk fun K48 hK48 => ?_
  refine L.fa 0 f31 U35 rfl wsz3_ri fun a32 f32 => ?_
  refine L.va f32 (E.load f32 U3 rfl rfl (Bg0.cl hp0)) fun a33 f33 => ?_
  refine L.va f33 (E.eql f33 rfl rfl) fun a34 f34 => ?_
  refine L.ag f34 fun a35 f35 => ?_
  refine wn hK48 ?_
  have f36 := f35.pk [0, 3, 4, 5, 57]
  clear f30 f31 a29 f32 a32 f33 a33 f34 a34 f35
  refine f36.splitD 57 rfl (fun h20 f37 => ?_) (fun h20 f37 => ?_)
  ·have k57 := h20
   refine C.condT f37 rfl ?_
   refine wp_seq_k fun K49 hK49 => ?_
   have KN := Kept.refl [] w1
   have hg0g : g0 ≠ s.gm := by have := hS.got.lt; omega
   refine R.begin (S := fun W => Kept [s.gm] w1 W) (by kernel_rfl) (by exact (Kept.refl _ _).drewN 1) ?_
   have hS10 : Kept [s.gm] w1 (w1.drewN 1) := (Kept.refl _ _).drewN 1
   have hd10 : Kept [] w1 (w1.drewN 1) := (Kept.refl _ _).drewN 1
   obtain ⟨w2, hww2⟩ : ∃ W, W = w1.drewN 1 := ⟨_, rfl⟩
   rw [← hww2] at hS10 hd10 ⊢
   clear f36 hww2
   have szw2 := hS10.size
   replace KN := KN.trans hd10 (by simp)
   refine R.mv 0 f37 rfl hS10 fun a38 f38 => ?_
   refine R.t 1 f38 rfl hS10 (fun W hW => (E.nilCheck f38 rfl)) fun a39 f39 => ?_
   refine R.t 2 f39 rfl hS10 (fun W hW => (E.fa 5 f39 U64 rfl wsz54_ri)) fun a40 f40 => ?_
   refine R.t 3 f40 rfl hS10 (fun W hW => (E.load f40 Tryz.underlying54 rfl rfl ((BP.kept hW (by first | simpa using hpg | simpa using hg0g)).cl rfl))) fun a41 f41 => ?_
   refine R.t 4 f41 rfl hS10 (fun W hW => (E.fa 4 f41 U35 rfl wsz3_ri)) fun a42 f42 => ?_
   refine R.t 5 f42 rfl hS10 (fun W hW => (E.load f42 U3 rfl rfl ((Bg0.kept hW (by simpa using hg0g)).cl hp4))) fun a43 f43 => ?_
   refine R.one 6 (by kernel_rfl) ?_
   refine O.mapDrop f43 rfl wantedN (IG.kept KN (by simp)) U3 Tryz.underlying54 rfl rfl hwf (fun _ hk => hS10.trans hk (by simp)) fun a44 w3 IN ks f44 => ?_
   replace hS10 := hS10.trans ks (by simp)
   have szw3 := ks.size
   clear f37 a35 f38 a38 f39 a39 f40 a40 f41 a41 f42 a42 f43 a43 ks
   have szw3r := hS10.size
   have KM : Mod [] [s.gm] B _ w3 := Mod.of_kept hS10 (fun x hx _ => by obtain rfl := List.mem_singleton.1 hx; exact ⟨hS.log, .inr ⟨IG.map, by simp⟩⟩)
   replace HK := HK.step KM (by decide) (by simp) (by omega)
   replace HK2 := HK2.step KM (by decide) (by simp) (by omega)
   replace BP := BP.kept hS10 (by simpa using hpg)
   replace Bg0 := Bg0.kept hS10 (by simpa using hg0g)
   clear hS10
   refine R.done (by kernel_rfl) (hK49 _ _ ?_)
   have f45 := f44.pk [3, 4, 5]
   refine wp_seq_k fun K50 hK50 => ?_
   refine R.begin (S := fun W => Kept [] w3 W) (by kernel_rfl) (by exact (Kept.refl _ _).drewN 1) ?_
   have hS11 : Kept [] w3 (w3.drewN 1) := (Kept.refl _ _).drewN 1
   have hd11 : Kept [] w3 (w3.drewN 1) := (Kept.refl _ _).drewN 1
   obtain ⟨w4, hww4⟩ : ∃ W, W = w3.drewN 1 := ⟨_, rfl⟩
   rw [← hww4] at hS11 hd11 ⊢
   clear f44 hww4
   have szw4 := hS11.size
   refine R.t 0 f45 rfl hS11 (fun W hW => (E.fa 4 f45 U35 rfl wsz3_ri)) fun a46 f46 => ?_
   refine R.t 1 f46 rfl hS11 (fun W hW => (E.load f46 U3 rfl rfl ((Bg0.z hW).cl hp4))) fun a47 f47 => ?_
   refine R.t 2 f47 rfl hS11 (fun W hW => (E.build f47 (parts2 f47 rfl rfl) (wbl35_0_4_ri _ _))) fun a48 f48 => ?_
   refine R.t 4 f48 rfl hS11 (fun W hW => (E.assign f48 rfl)) fun a49 f49 => ?_
   refine R.one 3 (by kernel_rfl) ?_
   refine O.buildSlice f49 rfl wantedN (by decide) (parts1 f49 rfl) U42 wzj35 rfl rfl (wpk1 ⟨ackP 7 id, none, 0⟩) (fun _ hk => hS11.trans hk (by simp)) fun a50 w5 g4 N4 hSn f50 => ?_
   have Bg4 := N4.blk
   have kg4 := N4.kept
   have log4 := N4.lo
   have ltg4 := Bg4.lt
   have szw5 := kg4.size
   have szSw5 := hS11.size
   clear f45 a44 f46 a46 f47 a47 f48 a48 f49 a49 N4 kg4
   replace hS11 := hSn
   clear hSn
   refine R.t 5 f50 rfl hS11 (fun W hW => (E.assign f50 rfl)) fun a51 f51 => ?_
   have szw5r := hS11.size
   replace HK := HK.trans (.of_kept0 hS11)
   replace HK2 := HK2.trans (.of_kept0 hS11)
   replace BP := BP.z hS11
   replace Bg0 := Bg0.z hS11
   replace IN := IN.mod (Mod.of_kept0 (T := []) (M := []) (B := B) hS11) (by simp)
   clear f50 a50 hS11
   refine R.done (by kernel_rfl) (hK50 _ _ ?_)
   have f52 := f51.pk [4, 5]
   refine wp_ret ?_; (try simp only [xt, xb]); refine C.ret2 f52 rfl rfl rfl ?_
   exact gotR_fin hS HK HK2 IN (gotS_6 (by omega)) (pk_blk (x := ⟨ackP 7 id, none, 0⟩) Bg4 rfl (by omega) (Pay.nil _ _ _))
  have k57 := h20
  refine C.condF f37 rfl ?_
  refine wp_skip (hK1 _ _ ?_)
  have f38 := f37.pk [4, 5]
  refine C.sk fun K51 hK51 => ?_
  refine L.ag f38 fun a39 f39 => ?_
  refine L.ag f39 fun a40 f40 => ?_
  have f41 := f40.pk [4, 5]
  refine wn hK51 (wp_ret ?_); (try simp only [xt, xb]); refine C.ret2 f41 rfl rfl rfl ?_
  exact gotR_nil hS HK HK0 (gotS_n (by omega) (by omega))
 have k33 := h18
 refine L.run f24 (rest' := []) (by kernel_rfl) fun a25 f25 => ?_
 clear f23
 refine wn hK44 ?_
 have f26 := f25.sub (sv 29 (.bool false) (pkR f25 [0, 3, 4, 5]))
 refine C.condF f26 rfl ?_
 refine C.sk fun K52 hK52 => ?_
 refine L.fa 0 f26 U35 rfl wsz3_ri fun a27 f27 => ?_
 refine L.va f27 (E.load f27 U3 rfl rfl (Bg0.cl hp0)) fun a28 f28 => ?_
 refine L.va f28 (E.eql f28 rfl rfl) fun a29 f29 => ?_
 refine L.ag f29 fun a30 f30 => ?_
 refine wn hK52 ?_
 have f31 := f30.pk [0, 3, 4, 5, 57]
 clear f25 f24 f26 a25 f27 a27 f28 a28 f29 a29 f30
 refine f31.splitD 57 rfl (fun h21 f32 => ?_) (fun h21 f32 => ?_)
 ·have k57 := h21
  refine C.condT f32 rfl ?_
  refine wp_seq_k fun K53 hK53 => ?_
  have KN := Kept.refl [] w1
  have hg0g : g0 ≠ s.gm := by have := hS.got.lt; omega
  refine R.begin (S := fun W => Kept [s.gm] w1 W) (by kernel_rfl) (by exact (Kept.refl _ _).drewN 1) ?_
  have hS10 : Kept [s.gm] w1 (w1.drewN 1) := (Kept.refl _ _).drewN 1
  have hd10 : Kept [] w1 (w1.drewN 1) := (Kept.refl _ _).drewN 1
  obtain ⟨w2, hww2⟩ : ∃ W, W = w1.drewN 1 := ⟨_, rfl⟩
  rw [← hww2] at hS10 hd10 ⊢
  clear f31 hww2
  have szw2 := hS10.size
  replace KN := KN.trans hd10 (by simp)
  refine R.mv 0 f32 rfl hS10 fun a33 f33 => ?_
  refine R.t 1 f33 rfl hS10 (fun W hW => (E.nilCheck f33 rfl)) fun a34 f34 => ?_
  refine R.t 2 f34 rfl hS10 (fun W hW => (E.fa 5 f34 U64 rfl wsz54_ri)) fun a35 f35 => ?_
  refine R.t 3 f35 rfl hS10 (fun W hW => (E.load f35 Tryz.underlying54 rfl rfl ((BP.kept hW (by first | simpa using hpg | simpa using hg0g)).cl rfl))) fun a36 f36 => ?_
  refine R.t 4 f36 rfl hS10 (fun W hW => (E.fa 4 f36 U35 rfl wsz3_ri)) fun a37 f37 => ?_
  refine R.t 5 f37 rfl hS10 (fun W hW => (E.load f37 U3 rfl rfl ((Bg0.kept hW (by simpa using hg0g)).cl hp4))) fun a38 f38 => ?_
  refine R.one 6 (by kernel_rfl) ?_
  refine O.mapDrop f38 rfl wantedN (IG.kept KN (by simp)) U3 Tryz.underlying54 rfl rfl hwf (fun _ hk => hS10.trans hk (by simp)) fun a39 w3 IN ks f39 => ?_
  replace hS10 := hS10.trans ks (by simp)
  have szw3 := ks.size
  clear f32 a30 f33 a33 f34 a34 f35 a35 f36 a36 f37 a37 f38 a38 ks
  have szw3r := hS10.size
  have KM : Mod [] [s.gm] B _ w3 := Mod.of_kept hS10 (fun x hx _ => by obtain rfl := List.mem_singleton.1 hx; exact ⟨hS.log, .inr ⟨IG.map, by simp⟩⟩)
  replace HK := HK.step KM (by decide) (by simp) (by omega)
  replace HK2 := HK2.step KM (by decide) (by simp) (by omega)
  replace BP := BP.kept hS10 (by simpa using hpg)
  replace Bg0 := Bg0.kept hS10 (by simpa using hg0g)
  clear hS10
  refine R.done (by kernel_rfl) (hK53 _ _ ?_)
  have f40 := f39.pk [3, 4, 5]
  refine wp_seq_k fun K54 hK54 => ?_
  refine R.begin (S := fun W => Kept [] w3 W) (by kernel_rfl) (by exact (Kept.refl _ _).drewN 1) ?_
  have hS11 : Kept [] w3 (w3.drewN 1) := (Kept.refl _ _).drewN 1
  have hd11 : Kept [] w3 (w3.drewN 1) := (Kept.refl _ _).drewN 1
  obtain ⟨w4, hww4⟩ : ∃ W, W = w3.drewN 1 := ⟨_, rfl⟩
  rw [← hww4] at hS11 hd11 ⊢
  clear f39 hww4
  have szw4 := hS11.size
  refine R.t 0 f40 rfl hS11 (fun W hW => (E.fa 4 f40 U35 rfl wsz3_ri)) fun a41 f41 => ?_
  refine R.t 1 f41 rfl hS11 (fun W hW => (E.load f41 U3 rfl rfl ((Bg0.z hW).cl hp4))) fun a42 f42 => ?_
  refine R.t 2 f42 rfl hS11 (fun W hW => (E.build f42 (parts2 f42 rfl rfl) (wbl35_0_4_ri _ _))) fun a43 f43 => ?_
  refine R.t 4 f43 rfl hS11 (fun W hW => (E.assign f43 rfl)) fun a44 f44 => ?_
  refine R.one 3 (by kernel_rfl) ?_
  refine O.buildSlice f44 rfl wantedN (by decide) (parts1 f44 rfl) U42 wzj35 rfl rfl (wpk1 ⟨ackP 7 id, none, 0⟩) (fun _ hk => hS11.trans hk (by simp)) fun a45 w5 g4 N4 hSn f45 => ?_
  have Bg4 := N4.blk
  have kg4 := N4.kept
  have log4 := N4.lo
  have ltg4 := Bg4.lt
  have szw5 := kg4.size
  have szSw5 := hS11.size
  clear f40 a39 f41 a41 f42 a42 f43 a43 f44 a44 N4 kg4
  replace hS11 := hSn
  clear hSn
  refine R.t 5 f45 rfl hS11 (fun W hW => (E.assign f45 rfl)) fun a46 f46 => ?_
  have szw5r := hS11.size
  replace HK := HK.trans (.of_kept0 hS11)
  replace HK2 := HK2.trans (.of_kept0 hS11)
  replace BP := BP.z hS11
  replace Bg0 := Bg0.z hS11
  replace IN := IN.mod (Mod.of_kept0 (T := []) (M := []) (B := B) hS11) (by simp)
  clear f45 a45 hS11
  refine R.done (by kernel_rfl) (hK54 _ _ ?_)
  have f47 := f46.pk [4, 5]
  refine wp_ret ?_; (try simp only [xt, xb]); refine C.ret2 f47 rfl rfl rfl ?_
  exact gotR_fin hS HK HK2 IN (gotS_6 (by omega)) (pk_blk (x := ⟨ackP 7 id, none, 0⟩) Bg4 rfl (by omega) (Pay.nil _ _ _))
 have k57 := h21
 refine C.condF f32 rfl ?_
 refine wp_skip (hK1 _ _ ?_)
 have f33 := f32.pk [4, 5]
 refine C.sk fun K55 hK55 => ?_
 refine L.ag f33 fun a34 f34 => ?_
 refine L.ag f34 fun a35 f35 => ?_
 have f36 := f35.pk [4, 5]
 refine wn hK55 (wp_ret ?_); (try simp only [xt, xb]); refine C.ret2 f36 rfl rfl rfl ?_
 exact gotR_nil hS HK HK0 (gotS_n (by omega) (by omega))
end Go.Proofs.YtdfllmiokgoekaaGreatDoor
namespace Go.Proofs.YtdfllmiokgoekaaGreatDoor
open Go.RowKit Go.Hub
theorem wzib35_rj : (Tryz.prog.info? 35).map (fun i => (i.zero, i.size, i.bytes)) = some (some (.agg #[(.int .i64 0), (.bool false), (.bool false), (.int .i64 0), (.int .i64 0), (.string ⟨#[]⟩), (.slice none 0 0), (.int .i64 0), (.string ⟨#[]⟩), (.bool false), (.int .i64 0), (.bool false), (.string ⟨#[]⟩), (.slice none 0 0), (.int .i64 0), (.bool false), (.bool false), (.bool false), (.string ⟨#[]⟩), (.slice none 0 0), (.bool false), (.int .i64 0), (.slice none 0 0), (.slice none 0 0)]), 24, 288) := by kernel_rfl
theorem wsz3_rj : (Tryz.prog.info? 3).map (·.size) = some 1 := by kernel_rfl
theorem wsz4_rj : (Tryz.prog.info? 4).map (·.size) = some 1 := by kernel_rfl
theorem wsz30_rj : (Tryz.prog.info? 30).map (·.size) = some 4 := by kernel_rfl
theorem wsz62_rj : (Tryz.prog.info? 62).map (·.size) = some 1 := by kernel_rfl
theorem wsz97_rj : (Tryz.prog.info? 97).map (·.size) = some 7 := by kernel_rfl
theorem wbl35_0_4_rj (x0 : Int) (x1 : Int) : Tryz.prog.built 35 [(0, .int .i64 x0), (4, .int .i64 x1)] = some #[.int .i64 x0, (.bool false), (.bool false), (.int .i64 0), .int .i64 x1, (.string ⟨#[]⟩), (.slice none 0 0), (.int .i64 0), (.string ⟨#[]⟩), (.bool false), (.int .i64 0), (.bool false), (.string ⟨#[]⟩), (.slice none 0 0), (.int .i64 0), (.bool false), (.bool false), (.bool false), (.string ⟨#[]⟩), (.slice none 0 0), (.bool false), (.int .i64 0), (.slice none 0 0), (.slice none 0 0)] := by kernel_rfl
theorem _root_.Go.Hub.Blk.part {w : World} {g t : Nat} {ca : Array Value} (h : Blk w g t ca) (o : Nat) (cs' : List Value) (hc : (ca.toList.drop o).take cs'.length = cs') : w.rangeAt g o cs' := fun j v hv => by
  refine h.cl (i := o + j) ?_
  have e : (ca.toList.drop o)[j]? = some v := by
    rw [← hc] at hv
    rw [List.getElem?_take] at hv
    split at hv
    · exact hv
    cases hv
  rw [List.getElem?_drop] at e
  exact e
def AgainPostR (B p : Nat) (s : Rs) (now ago : Int) (w : World) (e : Ending) (w' : World) : Prop :=
  ∃ s' A c pks, e = .returned (.slice A pks.length c) ∧ RefAt B w' p s' ∧ s'.abs = (againS s.abs now ago).1 ∧ pks.map (·.p) = (againS s.abs now ago).2 ∧ Rs.Like w s s' ∧ Mod [97] [] B w w' ∧ PkAt B w w' A c pks ∧ pks.length ≤ 4
theorem FlyR.seg {B : Nat} {w w' : World} {A : Option Addr} {c k : Nat} {dn rs : List Fc} {f f' : Fc} {v : Value} (h : FlyR B w A c (dn ++ f :: rs)) (hf : (dn ++ f :: rs)[k]? = some f) (hm : Mod [97] [] B w w') (hk : dn.length = k) (O : Own w' 97 7 (.slice A (dn ++ f :: rs).length c) (dn ++ f :: rs).length (((dn ++ f :: rs).flatMap rcell).set (k * 7 + 1) v)) (hv : rcell f' = (rcell f).set 1 v) (hp : f'.x = f.x) : FlyR B w' A c (dn ++ f' :: rs) := by
  subst hk
  have hx : ((dn ++ f :: rs).flatMap rcell).set (dn.length * 7 + 1) v = (dn ++ f' :: rs).flatMap rcell := by
    rw [List.flatMap_append, List.flatMap_append, List.set_append_right _ _ (by rw [rcell_len]; omega), rcell_len, List.flatMap_cons, List.flatMap_cons, show dn.length * 7 + 1 - dn.length * 7 = 1 by omega, List.set_append_left _ _ (by simp), hv]
  have hl : (dn ++ f :: rs).length = (dn ++ f' :: rs).length := by simp
  rw [hx, hl] at O
  refine ⟨O, fun g hg => ?_, h.loA, by rw [← hl]; exact h.len⟩
  rcases List.mem_append.1 hg with hg | hg
  · exact (h.pay g (List.mem_append_left _ hg)).mod hm (by decide)
  rcases List.mem_cons.1 hg with rfl | hg
  · rw [hp]; exact (h.pay f (by simp)).mod hm (by decide)
  exact (h.pay g (by simp [hg])).mod hm (by decide)
theorem againR_fin {B p k : Nat} {s : Rs} {now ago : Int} {w W : World} {dn rs : List Fc} {Ao : Option Addr} {co : Nat} {pks : List Pc} (hS : RefAt B w p s) (hrs : rs = s.fly.drop k) (FL : FlyR B W s.FA s.fc (dn ++ rs)) (hq : againF now ago (s.fly.map Fc.abs) = (dn.map Fc.abs ++ (againF now ago (rs.map Fc.abs)).1, pks.map (·.p) ++ (againF now ago (rs.map Fc.abs)).2)) (hids : dn.map (·.id) = (s.fly.take k).map (·.id)) (hats : ∀ f ∈ dn, -1099511627776 ≤ f.at_ ∧ f.at_ ≤ 1099511627776)
    (PK : PkAt B w W Ao co pks) (HK : Mod [97] [] B w W) (BP : Blk W p 64 s.cells) (h : s.fly.length ≤ k ∧ pks.length ≤ 4) : AgainPostR B p s now ago w (.returned (.slice Ao pks.length co)) W := by
  obtain rfl : rs = [] := by rw [hrs, List.drop_eq_nil_of_le h.1]
  rw [List.take_of_length_le h.1] at hids
  simp only [List.append_nil, List.map_nil, againF] at FL hq
  have hl : dn.length = s.fly.length := by have := congrArg List.length hids; simpa using this
  have hidb : ∀ f ∈ dn, 1 ≤ f.id ∧ f.id ≤ 65535 := fun f hf => by
    have : f.id ∈ s.fly.map (·.id) := hids ▸ List.mem_map_of_mem hf
    obtain ⟨g, hg, e⟩ := List.mem_map.1 this
    rw [← e]; exact hS.idb g hg
  refine ⟨{ s with fly := dn }, Ao, co, pks, rfl, ⟨?_, hS.ids.mod HK (by decide) (by simp), hS.qu.mod HK (by decide), FL, hS.ls.mod HK (by decide), hS.got.mod HK (by simp), hS.ne, hS.lop, hS.loi, hS.lom, hS.log, hS.tk, ?_, hats, hidb⟩, ?_, ?_, ⟨rfl, rfl, rfl, rfl, fun b hb => .inl hb⟩, HK, PK, h.2⟩
  · show Blk W p 64 #[.string s.cl, .slice s.LA s.ls.length s.lc, .pointer (some ⟨s.ip, 0, none⟩), .pointer (some ⟨s.q, 0, none⟩), .slice s.FA dn.length s.fc, .map (some s.gm)]
    rw [hl]; exact BP
  · show s.used.Perm (dn.map (·.id))
    rw [hids]; exact hS.perm
  · unfold againS Rs.abs
    simp only
    rw [hq]
  unfold againS Rs.abs
  simp only
  rw [hq]
theorem againF_far {now a b : Int} (ha : a ≤ -2199023255552) (hb : b ≤ -2199023255552) : ∀ (l : List Fa), (∀ f ∈ l, -1099511627776 ≤ f.at_ ∧ f.at_ ≤ 1099511627776) → againF now a l = againF now b l
  | [], _ => rfl
  | f :: r, h => by
    have h1 := h f (by simp)
    have h2 := near_bd now
    simp only [againF]
    rw [againF_far ha hb r (fun g hg => h g (by simp [hg])), if_neg (show ¬ nearI now - f.at_ < a by omega), if_neg (show ¬ nearI now - f.at_ < b by omega)]
theorem resumeR_is {B p : Nat} {w : World} {s : Rs} {now : Int} (hS : RefAt B w p s) : resumeS s.abs now = ((drainS (againS s.abs now (-1152921504606846976)).1 now).1, (againS s.abs now (-1152921504606846976)).2 ++ (drainS (againS s.abs now (-1152921504606846976)).1 now).2) := by
  have h := againF_far (now := now) (a := -4398046511104) (b := -1152921504606846976) (by decide) (by decide) s.abs.fly (fun f hf => by
    obtain ⟨g, hg, e⟩ := List.mem_map.1 hf
    rw [← e]; exact hS.ats g hg)
  unfold resumeS againS
  rw [h]
theorem resend_any (B p : Nat) (s : Rs) (now ago : Int) (w : World) (hS : RefAt B w p s) (hB : B ≤ w.heap.size) : Calls Tryz.prog 58 #[.pointer (some ⟨p, 0, none⟩), .int .i64 now, .int .i64 ago] w (AgainPostR B p s now ago w) := by
 have HK : Mod [97] [] B w w := .refl _ _ _ _
 have BP := hS.top
 have hl4 := hS.fly.len
 refine C.enter Tryz.func58 rfl Tryz.ntmps58 rfl ?_
 intro a0 f0
 have f1 : Fr 59 a0 [(0, .pointer (some ⟨p, 0, none⟩)), (1, .int .i64 now), (2, .int .i64 ago)] := f0
 refine C.sk fun K0 hK0 => ?_
 refine L.ag f1 fun a2 f2 => ?_
 have f3 := f2.pk [0, 1, 2, 6]
 refine wn hK0 (C.sk fun K1 hK1 => ?_)
 refine L.ag f3 fun a4 f4 => ?_
 refine wn hK1 ?_
 have f5 := f4.pk [0, 1, 2, 6, 7]
 refine wp_seq_k fun K2 hK2 => C.sk fun K3 hK3 => ?_
 refine L.ag f5 fun a6 f6 => ?_
 refine wn hK3 ?_
 have f7 := f6.pk [0, 1, 2, 6, 7, 8]
 refine wp_block ?_
 clear f0 f1 a0 f2 f3 a2 f4 f5 a4 f6
 refine C.loop (fun gk a W => ∃ (k : Nat) (dn rs : List Fc) (Ao : Option Addr) (co : Nat) (pks : List Pc), k + gk = s.fly.length ∧ dn.length = k ∧ rs = s.fly.drop k ∧ FlyR B W s.FA s.fc (dn ++ rs) ∧ againF now ago (s.fly.map Fc.abs) = (dn.map Fc.abs ++ (againF now ago (rs.map Fc.abs)).1, pks.map (·.p) ++ (againF now ago (rs.map Fc.abs)).2) ∧ dn.map (·.id) = (s.fly.take k).map (·.id) ∧ (∀ f ∈ dn, -1099511627776 ≤ f.at_ ∧ f.at_ ≤ 1099511627776) ∧ PkAt B w W Ao co pks ∧ pks.length ≤ k ∧ Mod [97] [] B w W ∧ Blk W p 64 s.cells ∧ Fr 59 a [(0, .pointer (some ⟨p, 0, none⟩)), (1, .int .i64 now), (2, .int .i64 ago), (7, .slice Ao pks.length co), (8, .int .i64 k)]) (s.fly.length) ?_ ?_
 ·exact ⟨0, [], s.fly, none, 0, [], by omega, rfl, rfl, hS.fly, by simp, rfl, by simp, PkAt.nil _ _ _, by simp, HK, BP, f7.sub (sx (sx (sx (sx (sx sn)))))⟩
 intro gk5 a8 w1 hI KL4 hKL4
 obtain ⟨k, dn, rs, Ao, co, pks, hk, hdk, hrs, FL, hq, hids, hats, PK, hpk, HK, BP, f8⟩ := hI
 try clear f7
 have szw1x := HK.size
 refine wp_seq_k fun K5 hK5 => C.sk fun K6 hK6 => ?_
 refine L.mv f8 fun a9 f9 => ?_
 refine L.mv f9 fun a10 f10 => ?_
 refine L.va f10 (E.nilCheck f10 rfl) fun a11 f11 => ?_
 refine L.fa 4 f11 U64 rfl wsz62_rj fun a12 f12 => ?_
 refine L.va f12 (E.load f12 Tryz.underlying62 rfl rfl ((BP).cl rfl)) fun a13 f13 => ?_
 refine L.va f13 (E.lenL f13 Tryz.underlying62 rfl) fun a14 f14 => ?_
 refine L.va f14 (E.lss f14 rfl rfl) fun a15 f15 => ?_
 clear f8 a8 f9 a9 f10 a10 f11 a11 f12 a12 f13 a13 f14 a14
 refine wn hK6 ?_
 have f16 := f15.pk [0, 1, 2, 7, 8, 10, 11, 12, 13, 14, 15, 16]
 clear f15
 refine f16.splitD 16 rfl (fun h0 f17 => ?_) (fun h0 f17 => ?_)
 ·obtain ⟨f, hfs⟩ : ∃ f, s.fly[k]? = some f := ⟨s.fly[k]'(by omega), List.getElem?_eq_getElem _⟩
  have hfm := List.mem_of_getElem? hfs
  obtain ⟨rs', hrs', hrs0⟩ := drop_at hrs hfs
  clear f16
  subst hrs0
  have hf : (dn ++ f :: rs')[k]? = some f := by rw [← hdk]; simp
  have hlen : (dn ++ f :: rs').length = s.fly.length := by simp; have := congrArg List.length hrs'; simp at this; omega
  obtain ⟨b, off, hA⟩ := (Sl.of_own FL.own).addr (by omega)
  have hats0 := hS.ats f hfm
  have hnb := near_bd now
  have hbl := (FL.own.blk b (by rw [hA]; rfl)).1
  refine C.condT f17 rfl ?_
  refine wp_skip (hK5 _ _ ?_)
  have f18 := f17.pk [0, 1, 2, 7, 8, 10, 11, 12, 13, 14, 15, 16]
  refine wp_seq_k fun K7 hK7 => ?_
  refine wp_block ?_
  refine C.sk fun K8 hK8 => ?_
  refine L.mv f18 fun a19 f19 => ?_
  refine L.va f19 (E.nilCheck f19 rfl) fun a20 f20 => ?_
  refine L.fa 4 f20 U64 rfl wsz62_rj fun a21 f21 => ?_
  refine L.va f21 (E.load f21 Tryz.underlying62 rfl rfl ((BP).cl rfl)) fun a22 f22 => ?_
  refine L.mv f22 fun a23 f23 => ?_
  refine L.va f23 (E.indexA f23 (by assumption) Tryz.underlying62 wsz97_rj rfl rfl (by omega) (by omega)) fun a24 f24 => ?_
  refine L.va f24 (E.loadR f24 U97 rfl wsz97_rj rfl (Sl.row (i := k) (cs := rcell f) (Sl.of_own FL.own) (by omega) hA (flat_at rcell 7 (fun _ => rfl) (dn ++ f :: rs') k f hf)) rfl) fun a25 f25 => ?_
  clear f17 f18 a15 f19 a19 f20 a20 f21 a21 f22 a22 f23 a23 f24 a24
  refine L.alloc f25 wantedN (by decide) (z := (.agg #[(.int .i64 0), (.int .i64 0), (.string ⟨#[]⟩), (.slice none 0 0), (.int .i64 0), (.bool false), (.bool false)])) (fun _ => by kernel_rfl) rfl fun a26 w2 g1 N1 f26 => ?_
  have Bg1 := N1.blk
  have kg1 := N1.kept
  have log1 := N1.lo
  have ltg1 := Bg1.lt
  have szw2 := kg1.size
  have frg1 : w.heap.size ≤ g1 := Nat.le_trans HK.size log1
  have nep_g1 : p ≠ g1 := by have := BP.lt; omega
  replace HK := HK.trans (.of_kept0 kg1)
  replace BP := BP.z kg1
  replace FL := FL.mod (Mod.of_kept0 (T := []) (M := []) (B := B) kg1) (by decide)
  replace PK := PK.mod (Mod.of_kept0 (T := []) (M := []) (B := B) kg1) (by decide)
  clear N1 kg1
  refine L.storeR f26 wantedN wsz97_rj rfl rfl rfl Bg1 rfl rfl fun a27 w3 f27 NB3 ks3 => ?_
  have szw3 := ks3.size
  replace HK := HK.kept_new ks3 (by simp; omega)
  replace BP := BP.kept ks3 (by simp; omega)
  replace FL := FL.knew ks3 Bg1 (by omega) (fun b' hb' e => by rw [hA] at hb'; injection hb' with hb'; simp at hb'; omega)
  replace PK := PK.mod (Mod.of_blk1 (M := []) (B := B) ks3 Bg1 (by omega)) (by decide)
  replace Bg1 := NB3
  clear f25 a25 ks3 f26 a26
  refine wn hK8 ?_
  have f28 := f27.pk [0, 1, 2, 7, 8, 9, 10, 11, 12, 13, 14, 15, 16, 19, 20, 21, 22, 23, 24, 25]
  refine wp_seq_k fun K9 hK9 => ?_
  refine wp_seq_k fun K10 hK10 => ?_
  refine R.begin (S := fun W => Kept [] w3 W) (by kernel_rfl) (by exact (Kept.refl _ _).drewN 1) ?_
  have hS6 : Kept [] w3 (w3.drewN 1) := (Kept.refl _ _).drewN 1
  have hd6 : Kept [] w3 (w3.drewN 1) := (Kept.refl _ _).drewN 1
  obtain ⟨w4, hww4⟩ : ∃ W, W = w3.drewN 1 := ⟨_, rfl⟩
  rw [← hww4] at hS6 hd6 ⊢
  clear f27 hww4
  have szw4 := hS6.size
  refine R.mv 0 f28 rfl hS6 fun a29 f29 => ?_
  refine R.t 2 f29 rfl hS6 (fun W hW => (E.fa 1 f29 U97 rfl wsz3_rj)) fun a30 f30 => ?_
  refine R.t 3 f30 rfl hS6 (fun W hW => (E.load f30 U3 rfl rfl ((Bg1.z hW).cl rfl))) fun a31 f31 => ?_
  refine R.mv 5 f31 rfl hS6 fun a32 f32 => ?_
  refine R.call 1 f32 rfl rfl (by decide) (by kernel_rfl) wantedN (run_call Tryz.call55 (args1 f32 rfl)) (timeR_any now _) ?_
  clear f28 a27 f29 a29 f30 a30 f31 a31
  rintro e w4x ⟨rfl, rfl⟩
  refine ⟨_, rfl, hS6, fun a33 f33 => ?_⟩
  refine R.t 4 f33 rfl hS6 (fun W hW => (E.sub f33 rfl rfl (IntWalk.i64_in _ (by omega)))) fun a34 f34 => ?_
  refine R.t 6 f34 rfl hS6 (fun W hW => (E.lss f34 rfl rfl)) fun a35 f35 => ?_
  have szw4r := hS6.size
  replace HK := HK.trans (.of_kept0 hS6)
  replace BP := BP.z hS6
  replace FL := FL.mod (Mod.of_kept0 (T := []) (M := []) (B := B) hS6) (by decide)
  replace PK := PK.mod (Mod.of_kept0 (T := []) (M := []) (B := B) hS6) (by decide)
  replace Bg1 := Bg1.z hS6
  clear f32 a32 f33 a33 f34 a34 hS6
  refine R.done (by kernel_rfl) (hK10 _ _ ?_)
  have f36 := f35.pk [0, 1, 2, 7, 8, 9, 10, 11, 12, 13, 14, 15, 16, 19, 20, 21, 22, 23, 24, 25, 26, 27, 28, 29, 30, 31, 32]
  clear f35
  refine f36.splitD 32 rfl (fun h1 f37 => ?_) (fun h1 f37 => ?_)
  ·have hlt := h1
   refine C.condT f37 rfl ?_
   refine wp_exit (hK7 _ _ ?_)
   have f38 := f37.pk [0, 1, 2, 7, 8, 9, 10, 11, 12, 13, 14, 15, 16, 19, 20, 21, 22, 23, 24, 25, 26, 27, 28, 29, 30, 31, 32]
   refine C.region ?_
   refine L.mv f38 fun a39 f39 => ?_
   refine L.va f39 (E.add f39 rfl rfl (IntWalk.i64_in _ (by omega))) fun a40 f40 => ?_
   refine L.ag f40 fun a41 f41 => ?_
   clear f36 f37 f38 a35 f39 a39 f40 a40
   refine wpList_nil (hKL4 _ _ (gk5 - 1) ?_ ?_)
   ·omega
   exact ⟨k + 1, dn ++ [f], rs', Ao, co, pks, by omega, by simp; omega, hrs', by simpa using FL, by rw [hq]; exact again_skip (by omega), again_ids hids hfs rfl, again_ats hats (hS.ats f hfm), PK, by omega, HK, BP, by simpa using f41.sub (sx (sx (sx (sx (sx sn)))))⟩
  have hge := h1
  refine C.condF f37 rfl ?_
  refine wp_skip (hK9 _ _ ?_)
  have f38 := f37.pk [0, 1, 2, 7, 8, 9, 10, 11, 12, 13, 14, 15, 16, 19, 20, 21, 22, 23, 24, 25, 26, 27, 28, 29, 30, 31, 32]
  refine wp_seq_k fun K11 hK11 => ?_
  refine RB.begin (S := fun W => Kept [] w4 W) 7 (by kernel_rfl) (by exact (Kept.refl _ _).drewN 1) ?_
  have hS7 : Kept [] w4 (w4.drewN 1) := (Kept.refl _ _).drewN 1
  have hd7 : Kept [] w4 (w4.drewN 1) := (Kept.refl _ _).drewN 1
  obtain ⟨w5, hww5⟩ : ∃ W, W = w4.drewN 1 := ⟨_, rfl⟩
  rw [← hww5] at hS7 hd7 ⊢
  clear f36 f37 hww5
  have szw5 := hS7.size
  refine RB.tk 0 f38 rfl hS7 (fun W hW => (E.move f38 rfl)) fun a39 f39 => ?_
  refine RB.tk 1 f39 rfl hS7 (fun W hW => (E.nilCheck f39 rfl)) fun a40 f40 => ?_
  refine RB.tk 2 f40 rfl hS7 (fun W hW => (E.fa 4 f40 U64 rfl wsz62_rj)) fun a41 f41 => ?_
  refine RB.tk 3 f41 rfl hS7 (fun W hW => (E.load f41 Tryz.underlying62 rfl rfl ((BP.z hW).cl rfl))) fun a42 f42 => ?_
  refine RB.tk 4 f42 rfl hS7 (fun W hW => (E.move f42 rfl)) fun a43 f43 => ?_
  refine RB.tk 5 f43 rfl hS7 (fun W hW => (E.move f43 rfl)) fun a44 f44 => ?_
  refine RB.call 6 f44 rfl rfl (by decide) (by kernel_rfl) (by kernel_rfl) wantedN (run_call Tryz.call55 (args1 f44 rfl)) (timeR_any now _) ?_
  clear f38 a35 f39 a39 f40 a40 f41 a41 f42 a42 f43 a43
  rintro e w5x ⟨rfl, rfl⟩
  refine ⟨_, rfl, hS7, fun a45 f45 => ?_⟩
  refine RB.stop (by kernel_rfl) ?_
  have szw5r := hS7.size
  replace HK := HK.trans (.of_kept0 hS7)
  replace BP := BP.z hS7
  replace FL := FL.mod (Mod.of_kept0 (T := []) (M := []) (B := B) hS7) (by decide)
  replace PK := PK.mod (Mod.of_kept0 (T := []) (M := []) (B := B) hS7) (by decide)
  replace Bg1 := Bg1.z hS7
  clear f44 a44 hS7
  refine R.t 7 f45 rfl trivial (fun W hW => (E.indexA f45 (by assumption) Tryz.underlying62 wsz97_rj rfl rfl (by omega) (by omega))) fun a46 f46 => ?_
  refine R.t 8 f46 rfl trivial (fun W hW => (E.fa 1 f46 U97 rfl wsz3_rj)) fun a47 f47 => ?_
  refine R.one 9 (by kernel_rfl) ?_
  refine OT.storeO f47 rfl wantedN wsz3_rj (j := k * 7 + 1) hA FL.own rfl (show off + (k : Int).toNat * 7 + 1 = _ by omega) (by rw [rcell_len]; omega) rfl rfl fun a48 w6 f48 OW2 ks => ?_
  have szw6 := ks.size
  have KM : Mod [97] [] B _ w6 := .of_own1 hA ks FL.own hS.fly.loA (by simp)
  have FL2 := FL.seg hf (f' := { f with at_ := nearI now }) KM hdk OW2 rfl rfl
  replace Bg1 := Bg1.kept ks (by simp; omega)
  replace HK := HK.step KM (by decide) (by simp) (by omega)
  replace BP := BP.mod KM (by decide)
  replace PK := PK.mod KM (by decide)
  clear f45 a45 f46 a46 f47 a47 ks KM OW2
  refine R.done (by kernel_rfl) (hK11 _ _ ?_)
  have f49 := f48.pk [0, 1, 2, 7, 8, 9, 10, 11, 12, 13, 14, 15, 16, 19, 20, 21, 22, 23, 24, 25, 26, 27, 28, 29, 30, 31, 32, 33, 34, 35, 36, 37, 38, 39, 40, 41]
  refine C.sk fun K12 hK12 => ?_
  refine L.fa 6 f49 U97 rfl wsz4_rj fun a50 f50 => ?_
  refine L.va f50 (E.load f50 U4 rfl rfl ((Bg1).cl rfl)) fun a51 f51 => ?_
  refine wn hK12 ?_
  have f52 := f51.pk [0, 1, 2, 7, 8, 9, 10, 11, 12, 13, 14, 15, 16, 19, 20, 21, 22, 23, 24, 25, 26, 27, 28, 29, 30, 31, 32, 33, 34, 35, 36, 37, 38, 39, 40, 41, 42, 43]
  clear f48 f49 a48 f50 a50 f51
  refine f52.split 43 rfl (fun h2 f53 => ?_) (fun h2 f53 => ?_)
  ·have hrc := h2
   refine C.condT f53 rfl ?_
   refine C.region ?_
   refine L.mv f53 fun a54 f54 => ?_
   refine L.fa 0 f54 U97 rfl wsz3_rj fun a55 f55 => ?_
   refine L.va f55 (E.load f55 U3 rfl rfl ((Bg1).cl rfl)) fun a56 f56 => ?_
   refine L.va f56 (E.build f56 (parts2 f56 rfl rfl) (wbl35_0_4_rj _ _)) fun a57 f57 => ?_
   refine L.buildSlice f57 wantedN (by decide) (parts1 f57 rfl) U42 wzj35 rfl rfl (wpk1 ⟨ackP 6 f.id, none, 0⟩) fun a58 w7 g6 N6 f58 => ?_
   have Bg6 := N6.blk
   have kg6 := N6.kept
   have log6 := N6.lo
   have ltg6 := Bg6.lt
   have szw7 := kg6.size
   have frg6 : w.heap.size ≤ g6 := Nat.le_trans HK.size log6
   have nep_g6 : p ≠ g6 := by have := BP.lt; omega
   have neg1_g6 : g1 ≠ g6 := by have := Bg1.lt; omega
   replace HK := HK.trans (.of_kept0 kg6)
   replace BP := BP.z kg6
   replace PK := PK.mod (Mod.of_kept0 (T := []) (M := []) (B := B) kg6) (by decide)
   replace FL2 := FL2.mod (Mod.of_kept0 (T := []) (M := []) (B := B) kg6) (by decide)
   replace Bg1 := Bg1.z kg6
   clear f52 f53 a51 f54 a54 f55 a55 f56 a56 N6 kg6
   refine L.append f58 wantedN (by decide) U42 wzib35_rj rfl rfl rfl rfl (PK.fr.own) ((show Sl _ _ 1 24 (pcell ⟨ackP 6 f.id, none, 0⟩) from sl_blk Bg6 rfl)) (pcell_one _) (by unfold maxLen; omega) (by omega) fun a59 w8 A2 c2 AP8 f59 => ?_
   have kap8 : Mod [35] [] B w7 w8 := .of_app AP8 PK.fr.own (fun a ha => Nat.le_trans hB (PK.fr.from a ha)) (by simp)
   have PK2 := PK.push (x := ⟨ackP 6 f.id, none, 0⟩) AP8 HK.size hB (Pay.nil _ _ _)
   replace HK := HK.app_new AP8 PK.fr
   have szw8 := kap8.size
   replace BP := BP.mod kap8 (by decide)
   replace FL2 := FL2.mod kap8 (by decide)
   replace Bg1 := Bg1.mod kap8 (by decide)
   clear f57 a57 f58 a58 kap8
   refine L.ag f59 fun a60 f60 => ?_
   refine wn hK7 ?_
   have f61 := f60.pk [0, 1, 2, 7, 8, 9, 10, 11, 12, 13, 14, 15, 16, 19, 20, 21, 22, 23, 24, 25, 26, 27, 28, 29, 30, 31, 32, 33, 34, 35, 36, 37, 38, 39, 40, 41, 42, 43, 44, 45, 46, 47, 48, 49]
   refine C.region ?_
   refine L.mv f61 fun a62 f62 => ?_
   refine L.va f62 (E.add f62 rfl rfl (IntWalk.i64_in _ (by omega))) fun a63 f63 => ?_
   refine L.ag f63 fun a64 f64 => ?_
   clear f59 a59 f60 f61 a60 f62 a62 f63 a63
   refine wpList_nil (hKL4 _ _ (gk5 - 1) ?_ ?_)
   ·omega
   exact ⟨k + 1, dn ++ [{ f with at_ := nearI now }], rs', A2, c2, pks ++ [⟨ackP 6 f.id, none, 0⟩], by omega, by simp; omega, hrs', by simpa using FL2, by rw [hq]; exact again_do (by omega) (by rw [show f.rc = true from hrc]; rfl), again_ids hids hfs rfl, again_ats hats (near_bd now), by simpa using PK2, by simp; omega, HK, BP, by simpa using f64.sub (sx (sx (sx (sx (sx sn)))))⟩
  have hrc := h2
  refine C.condF f53 rfl ?_
  refine C.region ?_
  refine L.mv f53 fun a54 f54 => ?_
  refine L.fa 2 f54 U97 rfl wsz30_rj fun a55 f55 => ?_
  refine L.va f55 (E.loadR f55 U30 rfl wsz30_rj rfl ((Bg1.part 2 (mcell f.x) rfl)) rfl) fun a56 f56 => ?_
  refine L.fa 0 f56 U97 rfl wsz3_rj fun a57 f57 => ?_
  refine L.va f57 (E.load f57 U3 rfl rfl ((Bg1).cl rfl)) fun a58 f58 => ?_
  refine L.cl f58 (run_call Tryz.call50 (args3 f58 rfl rfl rfl)) (publishR_any f.x.m f.x.A f.x.c f.id true _) ?_
  clear f52 f53 a51 f54 a54 f55 a55 f56 a56 f57 a57
  rintro e w7 ⟨kc7, rfl⟩
  refine ⟨_, rfl, fun a59 f59 => ?_⟩
  have szw7 := kc7.size
  replace HK := HK.trans (.of_kept0 kc7)
  replace BP := BP.z kc7
  replace PK := PK.mod (Mod.of_kept0 (T := []) (M := []) (B := B) kc7) (by decide)
  replace FL2 := FL2.mod (Mod.of_kept0 (T := []) (M := []) (B := B) kc7) (by decide)
  replace Bg1 := Bg1.z kc7
  clear f58 a58 kc7
  refine L.buildSlice f59 wantedN (by decide) (parts1 f59 rfl) U42 wzj35 rfl rfl (wpk1 ⟨pubP f.x.m f.id true, f.x.A, f.x.c⟩) fun a60 w8 g7 N7 f60 => ?_
  have Bg7 := N7.blk
  have kg7 := N7.kept
  have log7 := N7.lo
  have ltg7 := Bg7.lt
  have szw8 := kg7.size
  have frg7 : w.heap.size ≤ g7 := Nat.le_trans HK.size log7
  have nep_g7 : p ≠ g7 := by have := BP.lt; omega
  have neg1_g7 : g1 ≠ g7 := by have := Bg1.lt; omega
  replace HK := HK.trans (.of_kept0 kg7)
  replace BP := BP.z kg7
  replace PK := PK.mod (Mod.of_kept0 (T := []) (M := []) (B := B) kg7) (by decide)
  replace FL2 := FL2.mod (Mod.of_kept0 (T := []) (M := []) (B := B) kg7) (by decide)
  replace Bg1 := Bg1.z kg7
  clear N7 kg7
  refine L.append f60 wantedN (by decide) U42 wzib35_rj rfl rfl rfl rfl (PK.fr.own) ((show Sl _ _ 1 24 (pcell ⟨pubP f.x.m f.id true, f.x.A, f.x.c⟩) from sl_blk Bg7 rfl)) (pcell_one _) (by unfold maxLen; omega) (by omega) fun a61 w9 A2 c2 AP9 f61 => ?_
  have kap9 : Mod [35] [] B w8 w9 := .of_app AP9 PK.fr.own (fun a ha => Nat.le_trans hB (PK.fr.from a ha)) (by simp)
  have PK2 := PK.push (x := ⟨pubP f.x.m f.id true, f.x.A, f.x.c⟩) AP9 HK.size hB (FL2.pay { f with at_ := nearI now } (List.mem_append_right dn List.mem_cons_self))
  replace HK := HK.app_new AP9 PK.fr
  have szw9 := kap9.size
  replace BP := BP.mod kap9 (by decide)
  replace FL2 := FL2.mod kap9 (by decide)
  replace Bg1 := Bg1.mod kap9 (by decide)
  clear f59 a59 f60 a60 kap9
  refine L.ag f61 fun a62 f62 => ?_
  refine wn hK7 ?_
  have f63 := f62.pk [0, 1, 2, 7, 8, 9, 10, 11, 12, 13, 14, 15, 16, 19, 20, 21, 22, 23, 24, 25, 26, 27, 28, 29, 30, 31, 32, 33, 34, 35, 36, 37, 38, 39, 40, 41, 42, 43, 50, 51, 52, 53, 54, 55, 56, 57]
  refine C.region ?_
  refine L.mv f63 fun a64 f64 => ?_
  refine L.va f64 (E.add f64 rfl rfl (IntWalk.i64_in _ (by omega))) fun a65 f65 => ?_
  refine L.ag f65 fun a66 f66 => ?_
  clear f61 a61 f62 f63 a62 f64 a64 f65 a65
  refine wpList_nil (hKL4 _ _ (gk5 - 1) ?_ ?_)
  ·omega
  exact ⟨k + 1, dn ++ [{ f with at_ := nearI now }], rs', A2, c2, pks ++ [⟨pubP f.x.m f.id true, f.x.A, f.x.c⟩], by omega, by simp; omega, hrs', by simpa using FL2, by rw [hq]; exact again_do (by omega) (by rw [show f.rc = false from hrc]; rfl), again_ids hids hfs rfl, again_ats hats (near_bd now), by simpa using PK2, by simp; omega, HK, BP, by simpa using f66.sub (sx (sx (sx (sx (sx sn)))))⟩
 refine C.condF f17 rfl ?_
 refine wp_exit (hK2 _ _ ?_)
 have f18 := f17.pk [7]
 refine C.sk fun K13 hK13 => ?_
 refine L.mv f18 fun a19 f19 => ?_
 refine L.ag f19 fun a20 f20 => ?_
 have f21 := f20.pk [6]
 refine wn hK13 (wp_ret ?_); (try simp only [xt, xb]); refine C.ret f21 rfl rfl ?_
 exact againR_fin hS hrs FL hq hids hats PK HK BP (by omega)
theorem AgainR_any (B p : Nat) (s : Rs) (now : Int) (w : World) (hS : RefAt B w p s) (hB : B ≤ w.heap.size) : Calls Tryz.prog 32 #[.pointer (some ⟨p, 0, none⟩), .int .i64 now] w (OutPostR [64, 92, 97, 76] B p s (againS s.abs now 8) w) := by
 refine C.enter Tryz.func32 rfl Tryz.ntmps32 rfl ?_
 intro a0 f0
 have f1 : Fr 8 a0 [(0, .pointer (some ⟨p, 0, none⟩)), (1, .int .i64 now)] := f0
 refine C.sk fun K0 hK0 => ?_
 refine L.ag f1 fun a2 f2 => ?_
 have f3 := f2.pk [0, 1, 4]
 refine wn hK0 (C.sk fun K1 hK1 => ?_)
 refine L.mv f3 fun a4 f4 => ?_
 refine L.mv f4 fun a5 f5 => ?_
 refine L.cl f5 (run_call Tryz.call58 (args3 f5 rfl rfl rfl)) (resend_any B p s now 8 _ hS hB) ?_
 clear f0 f1 a0 f2 f3 a2 f4 a4
 rintro e w1 ⟨s2, A2, c2, pks, rfl, HS2, hab, hpp, hL, kc1, PK, hlp⟩
 refine ⟨_, rfl, fun a6 f6 => ?_⟩
 have szw1 := kc1.size
 refine L.ag f6 fun a7 f7 => ?_
 have f8 := f7.pk [4]
 refine wn hK1 (wp_ret ?_); (try simp only [xt, xb]); refine C.ret f8 rfl rfl ?_
 exact ⟨s2, A2, c2, pks, rfl, HS2, by rw [hab, hpp], hL, kc1.mono (by decide) (by simp) (Nat.le_refl _), PK, by omega⟩
theorem ResumeR_any (B p : Nat) (s : Rs) (now : Int) (w : World) (hS : RefAt B w p s) (hB : B ≤ w.heap.size) : Calls Tryz.prog 30 #[.pointer (some ⟨p, 0, none⟩), .int .i64 now] w (OutPostR [64, 92, 97, 76] B p s (resumeS s.abs now) w) := by
 have HK : Mod [64, 92, 97, 76] [s.im, s.gm] B w w := .refl _ _ _ _
 refine C.enter Tryz.func30 rfl Tryz.ntmps30 rfl ?_
 intro a0 f0
 have f1 : Fr 14 a0 [(0, .pointer (some ⟨p, 0, none⟩)), (1, .int .i64 now)] := f0
 refine C.sk fun K0 hK0 => ?_
 refine L.ag f1 fun a2 f2 => ?_
 have f3 := f2.pk [0, 1, 4]
 refine wn hK0 (C.sk fun K1 hK1 => ?_)
 refine L.mv f3 fun a4 f4 => ?_
 refine L.mv f4 fun a5 f5 => ?_
 refine L.cl f5 (run_call Tryz.call58 (args3 f5 rfl rfl rfl)) (resend_any B p s now (-1152921504606846976) _ hS hB) ?_
 clear f0 f1 a0 f2 f3 a2 f4 a4
 rintro e w1 ⟨s2, A2, c2, pks, rfl, HS2, hab, hpp, hL, kc1, PK, hlp⟩
 refine ⟨_, rfl, fun a6 f6 => ?_⟩
 have szw1 := kc1.size
 replace HK := HK.step kc1 (by decide) (by simp) (by omega)
 clear f5 a5 kc1
 refine L.ag f6 fun a7 f7 => ?_
 have f8 := f7.pk [0, 1, 4, 5]
 refine wn hK1 (C.sk fun K2 hK2 => ?_)
 refine L.mv f8 fun a9 f9 => ?_
 refine L.mv f9 fun a10 f10 => ?_
 refine L.mv f10 fun a11 f11 => ?_
 refine L.cl f11 (run_call Tryz.call59 (args2 f11 rfl rfl)) (drainR_any B p s2 now _ HS2 (by omega)) ?_
 clear f6 a6 f7 f8 a7 f9 a9 f10 a10
 rintro e w2 ⟨s3, A3, c3, pks3, rfl, HS3, hab3, hpp3, hL3, kc2, PK2⟩
 rw [hL.im] at kc2
 have hl3 := congrArg List.length hpp3
 rw [List.length_map] at hl3
 have hd5 := drainS_len s2.abs now
 refine ⟨_, rfl, fun a12 f12 => ?_⟩
 have szw2 := kc2.size
 replace HK := HK.step kc2 (by decide) (by simp) (by omega)
 replace PK := PK.mod kc2 (by decide)
 clear f11 a11 kc2
 refine L.append f12 wantedN (by decide) U42 wzib35_rj rfl rfl rfl rfl (PK.fr.own) (PK2.fr.sl) (pcells_one _) (by unfold maxLen; omega) (by omega) fun a13 w3 A4 c4 AP3 f13 => ?_
 have kap3 : Mod [35] [] B w2 w3 := .of_app AP3 PK.fr.own (fun a ha => Nat.le_trans hB (PK.fr.from a ha)) (by simp)
 have PK3 := PK.app AP3 HK.size hB PK2.pay
 replace HK := HK.app_new AP3 PK.fr
 have szw3 := kap3.size
 replace HS3 := HS3.mod kap3 (by decide)
 clear f12 a12 kap3
 refine L.ag f13 fun a14 f14 => ?_
 have f15 := f14.pk [4]
 refine wn hK2 (wp_ret ?_); (try simp only [xt, xb]); refine C.ret f15 rfl rfl ?_
 exact ⟨s3, A4, c4, pks ++ pks3, by simp, HS3, by rw [resumeR_is hS, ← hab, hab3, List.map_append, hpp, hpp3], hL.trans hL3 (by omega), HK, PK3, by simp; omega⟩
end Go.Proofs.YtdfllmiokgoekaaGreatDoor
namespace Go.Proofs.YtdfllmiokgoekaaGreatDoor
open Go.RowKit Go.Hub Go.Lib
section
variable {E : FE} {has : List Int} {k : Nat}
def AscF (l : FE) : Prop := ∀ (i j : Nat) (p q : ByteArray × Int), i < j → l[i]? = some p → l[j]? = some q → ltF p.1 q.1
theorem asc_of {out : FE} (hp : out.Perm E) (hn : (E.map (·.1)).Nodup) (hs : ∀ (i j : Nat) (p q : ByteArray × Int), i < j → out[i]? = some p → out[j]? = some q → ¬ ltF q.1 p.1) : AscF out := by
  have hd : (out.map (·.1)).Nodup := (hp.map _).nodup_iff.2 hn
  intro i j p q hij hi hj
  rcases ltF_tri p.1 q.1 with h | h | h
  · exact h
  · exfalso
    have hli := (List.getElem?_eq_some_iff.1 hi).1
    have hlj := (List.getElem?_eq_some_iff.1 hj).1
    have := (List.getElem_inj (i := i) (j := j) (h₀ := by rw [List.length_map]; exact hli) (h₁ := by rw [List.length_map]; exact hlj) hd).1 (by
      rw [List.getElem_map, List.getElem_map, (List.getElem?_eq_some_iff.1 hi).2, (List.getElem?_eq_some_iff.1 hj).2]; exact h)
    omega
  exact absurd h (hs i j p q hij hi hj)
end
end Go.Proofs.YtdfllmiokgoekaaGreatDoor
namespace Go.Proofs.YtdfllmiokgoekaaGreatDoor
open Go.RowKit Go.Hub Go.Lib
def AscP (l : FE) : Prop := l.Pairwise fun p q => ltF p.1 q.1
def insF : FE → ByteArray → Int → FE
  | [], f, q => [(f, q)]
  | p :: r, f, q => if ltF p.1 f then p :: insF r f q else if p.1 = f then (f, q) :: r else (f, q) :: p :: r
def stF (l : FE) (f : ByteArray) : FE := l.filter fun p => !decide (p.1 = f)
def hasF (l : FE) (f : ByteArray) : Bool := l.any fun p => decide (p.1 = f)
def okF (f : ByteArray) (q : Int) : Prop := filterB f = true ∧ 0 ≤ q ∧ q ≤ 2
section
variable {l : FE} {f : ByteArray} {q : Int} {k : Nat} {x : ByteArray × Int}
theorem insF_eq : ∀ {l : FE} {k : Nat}, (∀ p ∈ l.take k, ltF p.1 f) → l[k]? = some x → x.1 = f → insF l f q = l.set k (f, q)
  | [], k, _, h, _ => by simp at h
  | p :: r, 0, _, h, e => by
    obtain rfl : p = x := by simpa using h
    have hn : ¬ ltF p.1 f := by rw [e]; exact ltF_irrefl _
    rw [insF, if_neg hn, if_pos e]
    rfl
  | p :: r, k + 1, h1, h, e => by
    rw [insF, if_pos (h1 p (by simp)), insF_eq (k := k) (fun y hy => h1 y (by simp [hy])) (by simpa using h) e]
    rfl
theorem insF_new : ∀ {l : FE} {k : Nat}, (∀ p ∈ l.take k, ltF p.1 f) → (∀ x, l[k]? = some x → ¬ ltF x.1 f ∧ x.1 ≠ f) → k ≤ l.length → insF l f q = l.take k ++ (f, q) :: l.drop k
  | [], k, _, _, hk => by obtain rfl : k = 0 := by simpa using hk
                          rfl
  | p :: r, 0, _, h, _ => by
    obtain ⟨h1, h2⟩ := h p (by simp)
    rw [insF, if_neg h1, if_neg h2]
    rfl
  | p :: r, k + 1, h1, h, hk => by
    rw [insF, if_pos (h1 p (by simp)), insF_new (k := k) (fun y hy => h1 y (by simp [hy])) (fun y hy => h y (by simpa using hy)) (by simpa using hk)]
    rfl
theorem hasF_y (h : l[k]? = some x) (e : x.1 = f) : hasF l f = true := List.any_eq_true.2 ⟨x, List.mem_of_getElem? h, by simpa using e⟩
theorem asc_gt (hA : AscP l) (h : l[k]? = some x) {j : Nat} (hj : k < j) {y : ByteArray × Int} (hy : l[j]? = some y) : ltF x.1 y.1 := by
  obtain ⟨h1, h2⟩ := List.getElem?_eq_some_iff.1 h
  obtain ⟨h3, h4⟩ := List.getElem?_eq_some_iff.1 hy
  have := List.pairwise_iff_getElem.1 hA k j h1 h3 hj
  rw [h2, h4] at this
  exact this
theorem hasF_n (hA : AscP l) (h1 : ∀ p ∈ l.take k, ltF p.1 f) (h2 : ∀ x, l[k]? = some x → ¬ ltF x.1 f ∧ x.1 ≠ f) : hasF l f = false := by
  rw [hasF, List.any_eq_false]
  intro y hy
  obtain ⟨j, hj, e⟩ := List.mem_iff_getElem.1 hy
  have hyj : l[j]? = some y := by rw [List.getElem?_eq_getElem hj, e]
  simp only [decide_eq_true_eq]
  intro he
  rcases Nat.lt_trichotomy j k with h | h | h
  · have : y ∈ l.take k := List.mem_of_getElem? (i := j) (by rw [List.getElem?_take_of_lt h]; exact hyj)
    have := h1 y this
    rw [he] at this
    exact ltF_irrefl _ this
  · subst h
    exact (h2 y hyj).2 he
  have hk : k < l.length := by omega
  have hx := List.getElem?_eq_getElem hk
  obtain ⟨h3, h4⟩ := h2 _ hx
  have h5 := asc_gt hA hx h hyj
  rw [he] at h5
  exact h3 h5
theorem stF_id (h : ∀ p ∈ l, p.1 ≠ f) : stF l f = l := List.filter_eq_self.2 fun p hp => by simpa using h p hp
theorem asc_ne {p : ByteArray × Int} {r : FE} (hA : AscP (p :: r)) : ∀ y ∈ r, y.1 ≠ p.1 := fun y hy e => by
  have := (List.pairwise_cons.1 hA).1 y hy
  rw [e] at this
  exact ltF_irrefl _ this
theorem insF_perm : ∀ {l : FE}, AscP l → (insF l f q).Perm ((f, q) :: stF l f)
  | [], _ => List.Perm.refl _
  | p :: r, hA => by
    have hr := (List.pairwise_cons.1 hA).2
    rw [insF]
    split
    · next h =>
      have hne : p.1 ≠ f := fun e => by rw [e] at h; exact ltF_irrefl _ h
      rw [stF, List.filter_cons, if_pos (by simpa using hne)]
      exact ((insF_perm hr).cons p).trans (List.Perm.swap _ _ _)
    split
    · next h =>
      rw [stF, List.filter_cons, if_neg (by simpa using h)]
      have : stF r f = r := stF_id (h ▸ asc_ne hA)
      rw [stF] at this
      rw [this]
    next h1 h2 =>
    have hlt : ltF f p.1 := (ltF_tri p.1 f).elim (fun h => absurd h h1) (fun h => h.elim (fun h => absurd h h2) id)
    have : stF (p :: r) f = p :: r := stF_id fun y hy e => by
      rcases List.mem_cons.1 hy with rfl | hy
      · exact h2 e
      have := ltF_trans hlt ((List.pairwise_cons.1 hA).1 y hy)
      rw [e] at this
      exact ltF_irrefl _ this
    rw [this]
theorem insF_asc : ∀ {l : FE}, AscP l → AscP (insF l f q)
  | [], _ => by simp [insF, AscP]
  | p :: r, hA => by
    obtain ⟨h0, hr⟩ := List.pairwise_cons.1 hA
    rw [insF]
    split
    · next h =>
      refine List.pairwise_cons.2 ⟨fun y hy => ?_, insF_asc hr⟩
      rcases List.mem_cons.1 ((insF_perm hr).mem_iff.1 hy) with rfl | hy
      · exact h
      exact h0 y (List.mem_filter.1 hy).1
    split
    · next h =>
      subst h
      exact List.pairwise_cons.2 ⟨h0, hr⟩
    next h1 h2 =>
    have hlt : ltF f p.1 := (ltF_tri p.1 f).elim (fun h => absurd h h1) (fun h => h.elim (fun h => absurd h h2) id)
    refine List.pairwise_cons.2 ⟨fun y hy => ?_, hA⟩
    rcases List.mem_cons.1 hy with rfl | hy
    · exact hlt
    exact ltF_trans hlt (h0 y hy)
theorem stF_asc (hA : AscP l) : AscP (stF l f) := hA.sublist List.filter_sublist
theorem erase_is : ∀ {l : FE} {k : Nat}, AscP l → l[k]? = some x → x.1 = f → l.eraseIdx k = stF l f
  | [], k, _, h, _ => by simp at h
  | p :: r, 0, hA, h, e => by
    obtain rfl : p = x := by simpa using h
    rw [stF, List.filter_cons, if_neg (by simpa using e)]
    have : stF r f = r := stF_id (e ▸ asc_ne hA)
    rw [stF] at this
    rw [this]
    rfl
  | p :: r, k + 1, hA, h, e => by
    have hx : x ∈ r := List.mem_of_getElem? (by simpa using h)
    have hne : p.1 ≠ f := fun he => asc_ne hA x hx (by rw [e, he])
    rw [stF, List.filter_cons, if_pos (by simpa using hne), List.eraseIdx_cons_succ, erase_is (List.pairwise_cons.1 hA).2 (by simpa using h) e]
    rfl
structure SubsR (E l : FE) : Prop where
  perm : l.Perm E
  asc : AscP l
theorem SubsR.nil : SubsR [] [] := ⟨List.Perm.refl _, List.Pairwise.nil⟩
variable {E : FE}
theorem lk_has : ∀ (E : FE), (lk E f).isSome = hasF E f
  | [] => rfl
  | p :: r => by
    have ih := lk_has r
    unfold lk hasF at ih ⊢
    rw [List.find?_cons, List.any_cons]
    by_cases h : p.1 = f
    · simp [h]
    simp only [h, decide_false, Bool.false_or]
    exact ih
theorem SubsR.has (h : SubsR E l) : hasF l f = (lk E f).isSome := by
  rw [lk_has, Bool.eq_iff_iff, hasF, hasF, List.any_eq_true, List.any_eq_true]
  exact ⟨fun ⟨x, hx, e⟩ => ⟨x, h.perm.mem_iff.1 hx, e⟩, fun ⟨x, hx, e⟩ => ⟨x, h.perm.mem_iff.2 hx, e⟩⟩
theorem SubsR.put (h : SubsR E l) : SubsR ((f, q) :: Go.Hub.strike E f : FE) (insF l f q) :=
  ⟨(insF_perm h.asc).trans ((h.perm.filter _).cons _), insF_asc h.asc⟩
theorem SubsR.drop (h : SubsR E l) : SubsR (Go.Hub.strike E f : FE) (stF l f) := ⟨h.perm.filter _, stF_asc h.asc⟩
theorem SubsR.tells (h : SubsR E l) (hn : (E.map (·.1)).Nodup) {out : FE} (hp : out.Perm E) (hs : ∀ (i j : Nat) (p q : ByteArray × Int), i < j → out[i]? = some p → out[j]? = some q → ¬ ltF q.1 p.1) : out = l := by
  have ha := asc_of hp hn hs
  have hP : AscP out := List.pairwise_iff_getElem.2 fun i j hi hj hij => ha i j _ _ hij (List.getElem?_eq_getElem hi) (List.getElem?_eq_getElem hj)
  exact List.Perm.eq_of_pairwise (fun a b _ _ h1 h2 => absurd (ltF_trans h1 h2) (ltF_irrefl _)) hP h.asc (hp.trans h.perm.symm)
end
end Go.Proofs.YtdfllmiokgoekaaGreatDoor
namespace Go.Proofs.YtdfllmiokgoekaaGreatDoor
open Go.RowKit Go.Hub Go.Lib
theorem wzib9_tj : (Tryz.prog.info? 9).map (fun i => (i.zero, i.size, i.bytes)) = some (some (.string ⟨#[]⟩), 1, 16) := by kernel_rfl
theorem wzi9_tj : (Tryz.prog.info? 9).map (fun i => (i.zero, i.size)) = some (some (.string ⟨#[]⟩), 1) := by kernel_rfl
theorem wbs94_1_tj (x0 : ByteArray) : Instr.fill (fun i => some (i * 1, 1)) ((Array.range (1 * 1)).map fun j => (Value.cells (.string ⟨#[]⟩))[j % (Value.cells (.string ⟨#[]⟩)).size]!) [(0, .string x0)] = some #[.string x0] := by kernel_rfl
theorem wsz9_tj : (Tryz.prog.info? 9).map (·.size) = some 1 := by kernel_rfl
def levGo (acc : List ByteArray) : List UInt8 → List ByteArray
  | [] => acc
  | b :: r => if b = 47 then levGo (acc ++ [⟨#[]⟩]) r else levGo (acc.set (acc.length - 1) (acc.getD (acc.length - 1) ⟨#[]⟩ ++ ⟨#[b]⟩)) r
def lev2 (s : ByteArray) : List ByteArray := levGo [⟨#[]⟩] s.data.toList
def LevPost2 (s : ByteArray) (w : World) (e : Ending) (w' : World) : Prop := Kept [] w w' ∧ ∃ A c, e = .returned (.slice A (lev2 s).length c) ∧ Ss w' A (lev2 s) ∧ (lev2 s).length ≤ c ∧ 1 ≤ (lev2 s).length ∧ (lev2 s).length ≤ s.size + 1
theorem own_one {w : World} {g : Nat} {x : ByteArray} (B : Blk w g 9 #[.string x]) : Own w 9 1 (.slice (some ⟨g, 0, none⟩) 1 1) 1 [.string x] :=
  ⟨rfl, .inr ⟨g, 0, 1, _, rfl, B, by omega, by unfold maxLen; omega, by simp, fun j u hu => by simpa using hu⟩⟩
theorem fresh_one {w w' : World} {g : Nat} {x : ByteArray} (B : Blk w' g 9 #[.string x]) (hg : w.heap.size ≤ g) : Fresh w w' 9 1 (some ⟨g, 0, none⟩) 1 1 [.string x] :=
  ⟨own_one B, fun b hb => by simp at hb; omega⟩
theorem sl_oneS (w : World) (g : Nat) (x : ByteArray) (B : Blk w g 9 #[.string x]) : Sl w (some ⟨g, 0, none⟩) 1 1 [.string x] := Sl.of_own (own_one B)
theorem ss_fresh {w w' : World} {A : Option Addr} {c : Nat} {l : List ByteArray} (F : Fresh w w' 9 1 A l.length c (l.map Value.string)) : Ss w' A l := F.sl
theorem last_cell {w w' : World} {A : Option Addr} {b off c : Nat} {l : List ByteArray} {x : ByteArray} (F : Fresh w w' 9 1 A l.length c (l.map Value.string)) (hA : A = some ⟨b, off, none⟩) (hx : l[l.length - 1]? = some x) (h1 : 1 ≤ l.length) : w'.cell? ⟨b, off + Int.toNat ((l.length : Int) - 1) * 1, none⟩ = some (.string x) := by
  rw [show Int.toNat ((l.length : Int) - 1) * 1 = l.length - 1 by omega]
  exact F.sl.cell (by omega) hA (by simp [hx])
theorem lev_next1 {s : ByteArray} {k : Nat} {b : UInt8} {acc : List ByteArray} (hb : s[k]? = some b) (h : ((b.toNat : Nat) : Int) = 47) : levGo (acc ++ [⟨#[]⟩]) (s.data.toList.drop (k + 1)) = levGo acc (s.data.toList.drop k) := by
  rw [byte_at, ← Array.getElem?_toList] at hb
  obtain ⟨hk, rfl⟩ := List.getElem?_eq_some_iff.1 hb
  conv => rhs; rw [List.drop_eq_getElem_cons hk]
  rw [levGo, if_pos (UInt8.toNat_inj.1 (by have : (47 : UInt8).toNat = 47 := rfl; omega))]
theorem ext_one {s : ByteArray} {k : Nat} {b : UInt8} (hb : s[k]? = some b) : s.extract k (k + 1) = ⟨#[b]⟩ := by
  rw [byte_at] at hb
  obtain ⟨hk, rfl⟩ := Array.getElem?_eq_some_iff.1 hb
  apply ByteArray.ext
  rw [ByteArray.data_extract]
  apply Array.ext
  · have : s.data.size = s.size := rfl
    simp; omega
  intro i h1 h2
  simp at h2
  subst h2
  simp
theorem lev_next2 {s : ByteArray} {k : Nat} {b : UInt8} {x : ByteArray} {acc : List ByteArray} (hb : s[k]? = some b) (hx : acc[acc.length - 1]? = some x) (h : ¬ ((b.toNat : Nat) : Int) = 47) : levGo (acc.set (acc.length - 1) (x ++ s.extract k (k + 1))) (s.data.toList.drop (k + 1)) = levGo acc (s.data.toList.drop k) := by
  rw [ext_one hb]
  rw [byte_at, ← Array.getElem?_toList] at hb
  obtain ⟨hk, rfl⟩ := List.getElem?_eq_some_iff.1 hb
  conv => rhs; rw [List.drop_eq_getElem_cons hk]
  rw [levGo, if_neg (fun e => h (by rw [e]; rfl))]
  rw [List.getD_eq_getElem?_getD, hx]
  rfl
theorem szs1 {acc : List ByteArray} {k : Nat} (h : ∀ p ∈ acc, p.size ≤ k) : ∀ p ∈ acc ++ [(⟨#[]⟩ : ByteArray)], p.size ≤ k + 1 := by
  intro p hp
  simp at hp
  rcases hp with hp | rfl
  · have := h p hp; omega
  exact Nat.zero_le _
theorem szs2 {s : ByteArray} {acc : List ByteArray} {k j : Nat} {x : ByteArray} (h : ∀ p ∈ acc, p.size ≤ k) (hx : x.size ≤ k) : ∀ p ∈ acc.set j (x ++ s.extract k (k + 1)), p.size ≤ k + 1 := by
  intro p hp
  rcases List.mem_or_eq_of_mem_set hp with hp | rfl
  · have := h p hp; omega
  rw [ByteArray.size_append, ByteArray.size_extract]; omega
section
variable {P : Program} {ops : Array Oper} {Q : Exit → Act → World → Prop} {a : Act} {w w0 : World} {n d : Nat} {l : FL} {v : Value} {ty : TypeId} {ps : String} {af : Array Edge} {gd : Option (Nat × Bool)} {x y : Operand} {t : TypeId} {K : Act → World → Prop} {i : Nat}
theorem OT.storeF (f : Fr n a l) (hio : ops[i]? = some ⟨none, .store t x y, ty, ps, af, gd⟩) (hw : Region.wanted ⟨none, .store t x y, ty, ps, af, gd⟩ (yielded ops a.tmps) = true) (hi : (P.info? t).map (·.size) = some 1) {b off o j e size k c : Nat} {A : Option Addr} {xs : List Value} (hA : A = some ⟨b, off, none⟩) (F : Fresh w0 w e size A k c xs) (hx : evl l x = some (.pointer (some ⟨b, o, none⟩))) (ho : o = off + j) (hj : j < xs.length) (hy : evl l y = some v) (h1 : v.oneCell' = true)
    (hK : ∀ a' w', Fr n a' l → Fresh w0 w' e size A k c (xs.set j v) → Kept [b] w w' → w0.heap.size ≤ b → K a' w') : wpOp P ops Q i (fun a w => True ∧ K a w) a w := by
  subst ho
  obtain ⟨⟨old, h2⟩, h3, h4⟩ := F.own.set_ hA hj v
  exact O.act (S := fun _ => True) f hio rfl hw (E.store f hi hx hy h1 h2 h3) trivial fun a' f' => hK a' _ f' ⟨h4, F.lo⟩ (setCell_kept w b _ v) (F.lo b (by rw [hA]; rfl))
end
theorem levR_any (s : ByteArray) (w : World) (G : Glob w) (hs : s.size ≤ 1000000) : Calls Tryz.prog 74 #[.string s] w (LevPost2 s w) := by
 have HK : Kept [] w w := Kept.refl [] w
 refine C.enter Tryz.func74 rfl Tryz.ntmps74 rfl ?_
 intro a0 f0
 have f1 : Fr 33 a0 [(0, .string s)] := f0
 refine C.sk fun K0 hK0 => ?_
 refine L.ag f1 fun a2 f2 => ?_
 have f3 := f2.pk [0, 2]
 refine wn hK0 (C.sk fun K1 hK1 => ?_)
 refine L.buildSlice f3 wantedN (by decide) (parts1 f3 rfl) Tryz.underlying94 wzi9_tj rfl rfl (wbs94_1_tj _) fun a4 w1 g0 N0 f4 => ?_
 have F1 : Fresh w w1 9 1 (some ⟨g0, 0, none⟩) [(⟨#[]⟩ : ByteArray)].length 1 ([(⟨#[]⟩ : ByteArray)].map Value.string) := fresh_one N0.blk N0.lo
 have Bg0 := N0.blk
 have kg0 := N0.kept
 have log0 := N0.lo
 have ltg0 := Bg0.lt
 have szw1 := kg0.size
 have frg0 : w.heap.size ≤ g0 := Nat.le_trans HK.size log0
 replace HK := HK.z kg0
 clear f0 f1 a0 f2 N0 kg0
 refine L.ag f4 fun a5 f5 => ?_
 refine wn hK1 ?_
 have f6 := f5.pk [0, 2, 3]
 refine wp_seq_k fun K2 hK2 => C.sk fun K3 hK3 => ?_
 refine L.ag f6 fun a7 f7 => ?_
 refine wn hK3 ?_
 have f8 := f7.pk [0, 2, 3, 4]
 refine wp_block ?_
 clear f3 a2 f4 a4 f5 f6 a5 f7
 refine C.loop (fun gk a W => ∃ (k : Nat) (A : Option Addr) (c : Nat) (acc : List ByteArray), k + gk = s.size ∧ 1 ≤ acc.length ∧ acc.length ≤ k + 1 ∧ levGo acc ((s.data.toList).drop k) = lev2 s ∧ (∀ p ∈ acc, p.size ≤ k) ∧ Kept [] w W ∧ Fresh w W 9 1 A acc.length c (acc.map Value.string) ∧ Fr 33 a [(0, .string s), (3, .slice A acc.length c), (4, .int .i64 k)]) (s.size) ?_ ?_
 ·exact ⟨0, some ⟨g0, 0, none⟩, 1, [⟨#[]⟩], by omega, by simp, by simp, rfl, fun p hp => by rw [List.mem_singleton.1 hp]; exact Nat.le_refl _, HK, F1, f8.sub (sx (sx (sx sn)))⟩
 intro gk5 a9 w2 hI KL4 hKL4
 obtain ⟨k, A, c, acc, hk, ha1, hak, hq, hps, HK, F, f9⟩ := hI
 try clear f8
 have hFb : ∀ b, A.map (·.block) = some b → b < w2.heap.size := fun b hb => (F.own.blk b ((own_block _ _ _ b).2 hb)).1
 refine wp_seq_k fun K5 hK5 => C.sk fun K6 hK6 => ?_
 refine L.mv f9 fun a10 f10 => ?_
 refine L.mv f10 fun a11 f11 => ?_
 refine L.va f11 (E.lenS f11 U9 rfl) fun a12 f12 => ?_
 refine L.va f12 (E.lss f12 rfl rfl) fun a13 f13 => ?_
 refine wn hK6 ?_
 have f14 := f13.pk [0, 3, 4, 6, 7, 8, 9]
 clear f9 a9 f10 a10 f11 a11 f12 a12 f13
 refine f14.splitD 9 rfl (fun h0 f15 => ?_) (fun h0 f15 => ?_)
 ·obtain ⟨b, hb⟩ : ∃ b, s[k]? = some b := ⟨s[k]'(by omega), getElem?_pos s k (by omega)⟩
  refine C.condT f15 rfl ?_
  refine wp_skip (hK5 _ _ ?_)
  have f16 := f15.pk [0, 3, 4, 6, 7, 8, 9]
  refine wp_seq_k fun K7 hK7 => ?_
  refine wp_block ?_
  refine C.sk fun K8 hK8 => ?_
  refine L.mv f16 fun a17 f17 => ?_
  refine L.mv f17 fun a18 f18 => ?_
  refine L.va f18 (E.indexS f18 U9 rfl rfl (by omega) (by assumption)) fun a19 f19 => ?_
  refine L.va f19 (E.eql f19 rfl rfl) fun a20 f20 => ?_
  refine wn hK8 ?_
  have f21 := f20.pk [0, 3, 4, 6, 7, 8, 9, 12, 13, 14, 15]
  clear f14 f15 f16 a13 f17 a17 f18 a18 f19 a19 f20
  refine f21.splitD 15 rfl (fun h1 f22 => ?_) (fun h1 f22 => ?_)
  ·have h15 := h1
   refine C.condT f22 rfl ?_
   refine C.region ?_
   refine L.mv f22 fun a23 f23 => ?_
   refine L.buildSlice f23 wantedN (by decide) (parts1 f23 rfl) Tryz.underlying94 wzi9_tj rfl rfl (wbs94_1_tj _) fun a24 w3 g2 N2 f24 => ?_
   have Bg2 := N2.blk
   have kg2 := N2.kept
   have log2 := N2.lo
   have ltg2 := Bg2.lt
   have szw3 := kg2.size
   have frg2 : w.heap.size ≤ g2 := Nat.le_trans HK.size log2
   replace HK := HK.z kg2
   replace F := F.kept0 kg2
   clear f21 f22 a20 N2 kg2
   refine L.append f24 wantedN (by decide) Tryz.underlying94 wzib9_tj rfl rfl rfl rfl (F.own) ((sl_oneS _ _ _ Bg2)) (fun u hu => by simp at hu; subst hu; rfl) (by unfold maxLen; omega) (by omega) fun a25 w4 Ay cy AP4 f25 => ?_
   have FY : Fresh w w4 9 1 Ay (acc.length + 1) cy (acc.map Value.string ++ [.string ⟨#[]⟩]) := AP4.next F HK.size
   replace HK := AP4.grow F HK
   have kap4 := AP4.kept
   have szw4 := kap4.size
   clear f23 a23 f24 a24 kap4
   refine L.ag f25 fun a26 f26 => ?_
   refine wn hK7 ?_
   have f27 := f26.pk [0, 3, 4, 6, 7, 8, 9, 12, 13, 14, 15, 16, 17, 18]
   refine C.region ?_
   refine L.mv f27 fun a28 f28 => ?_
   refine L.va f28 (E.add f28 rfl rfl (IntWalk.i64_in _ (by omega))) fun a29 f29 => ?_
   refine L.ag f29 fun a30 f30 => ?_
   clear f25 a25 f26 f27 a26 f28 a28 f29 a29
   refine wpList_nil (hKL4 _ _ (gk5 - 1) ?_ ?_)
   ·omega
   exact ⟨k + 1, Ay, cy, acc ++ [⟨#[]⟩], by omega, by simp, by simp; omega, (lev_next1 hb h15).trans hq, szs1 hps, HK, by simpa using FY, f30.sub (sx (sub_cons (by rw [List.length_append]; rfl) (sx sn)))⟩
  have h15 := h1
  obtain ⟨x, hx⟩ : ∃ x, acc[acc.length - 1]? = some x := ⟨acc[acc.length - 1]'(by omega), List.getElem?_eq_getElem _⟩
  obtain ⟨bk, off, hA⟩ := F.sl.addr (by omega)
  have hxs := hps x (List.mem_of_getElem? hx)
  refine C.condF f22 rfl ?_
  refine RB.begin (S := fun W => Kept [] w2 W) 12 (by kernel_rfl) (by exact (Kept.refl _ _).drewN 1) ?_
  have hS7 : Kept [] w2 (w2.drewN 1) := (Kept.refl _ _).drewN 1
  have hd7 : Kept [] w2 (w2.drewN 1) := (Kept.refl _ _).drewN 1
  obtain ⟨w3, hww3⟩ : ∃ W, W = w2.drewN 1 := ⟨_, rfl⟩
  rw [← hww3] at hS7 hd7 ⊢
  clear f21 hww3
  have szw3 := hS7.size
  refine RB.tk 0 f22 rfl hS7 (fun W hW => (E.move f22 rfl)) fun a23 f23 => ?_
  refine RB.tk 1 f23 rfl hS7 (fun W hW => (E.move f23 rfl)) fun a24 f24 => ?_
  refine RB.tk 2 f24 rfl hS7 (fun W hW => (E.lenL f24 Tryz.underlying94 rfl)) fun a25 f25 => ?_
  refine RB.tk 3 f25 rfl hS7 (fun W hW => (E.sub f25 rfl rfl (IntWalk.i64_in _ (by omega)))) fun a26 f26 => ?_
  refine RB.tk 4 f26 rfl hS7 (fun W hW => (E.indexA f26 (by assumption) Tryz.underlying94 wsz9_tj rfl rfl (by omega) (by omega))) fun a27 f27 => ?_
  refine RB.tk 5 f27 rfl hS7 (fun W hW => (E.load f27 U9 rfl rfl (last_cell (F.kept0 hW) hA hx ha1))) fun a28 f28 => ?_
  refine RB.tk 6 f28 rfl hS7 (fun W hW => (E.move f28 rfl)) fun a29 f29 => ?_
  clear f22 a20 f23 a23 f24 a24 f25 a25 f26 a26 f27 a27 f28 a28
  refine RB.tk 7 f29 rfl hS7 (fun W hW => (E.move f29 rfl)) fun a30 f30 => ?_
  refine RB.tk 8 f30 rfl hS7 (fun W hW => (E.move f30 rfl)) fun a31 f31 => ?_
  refine RB.tk 9 f31 rfl hS7 (fun W hW => (E.add f31 rfl rfl (IntWalk.i64_in _ (by omega)))) fun a32 f32 => ?_
  refine RB.tk 10 f32 rfl hS7 (fun W hW => (E.slS f32 U9 rfl rfl rfl (by omega) (by omega) (by omega) )) fun a33 f33 => ?_
  refine RB.tk 11 f33 rfl hS7 (fun W hW => (E.addS f33 rfl rfl (by rw [ByteArray.size_extract]; omega))) fun a34 f34 => ?_
  refine RB.stop (by kernel_rfl) ?_
  have szw3r := hS7.size
  replace HK := HK.trans hS7 (by simp)
  replace F := F.kept0 hS7
  clear f29 a29 f30 a30 f31 a31 f32 a32 f33 a33 hS7
  refine R.t 12 f34 rfl trivial (fun W hW => (E.indexA f34 (by assumption) Tryz.underlying94 wsz9_tj rfl rfl (by omega) (by omega))) fun a35 f35 => ?_
  refine R.one 13 (by kernel_rfl) ?_
  refine OT.storeF f35 rfl wantedN wsz9_tj hA F (j := acc.length - 1) rfl (by omega) (by rw [List.length_map]; omega) rfl rfl fun a36 w4 f36 FS ks loS => ?_
  have szw4 := ks.size
  replace HK := HK.trans ks (by intro x hx hlt; simp at hx; subst hx; exfalso; omega)
  replace F := FS
  refine R.done (by kernel_rfl) (hK7 _ _ ?_)
  have f37 := f36.pk [0, 3, 4, 6, 7, 8, 9, 12, 13, 14, 15, 19, 20, 21, 22, 23, 24, 25, 26, 27, 28, 29, 30, 31]
  refine C.region ?_
  refine L.mv f37 fun a38 f38 => ?_
  refine L.va f38 (E.add f38 rfl rfl (IntWalk.i64_in _ (by omega))) fun a39 f39 => ?_
  refine L.ag f39 fun a40 f40 => ?_
  clear f34 a34 f35 a35 f36 f37 a36 f38 a38 f39 a39
  refine wpList_nil (hKL4 _ _ (gk5 - 1) ?_ ?_)
  ·omega
  exact ⟨k + 1, A, c, acc.set (acc.length - 1) (x ++ s.extract k (k + 1)), by omega, by simp; omega, by simp; omega, (lev_next2 hb hx h15).trans hq, szs2 hps hxs, HK, by simpa using F, f40.sub (sx (sub_cons (by rw [List.length_set]; rfl) (sx sn)))⟩
 have hend := h0
 refine C.condF f15 rfl ?_
 refine wp_exit (hK2 _ _ ?_)
 have f16 := f15.pk [3]
 refine C.sk fun K9 hK9 => ?_
 refine L.mv f16 fun a17 f17 => ?_
 refine L.ag f17 fun a18 f18 => ?_
 have f19 := f18.pk [2]
 refine wn hK9 (wp_ret ?_); (try simp only [xt, xb]); refine C.ret f19 rfl rfl ?_
 rw [List.drop_eq_nil_of_le (by have : s.data.toList.length = s.size := rfl; omega)] at hq
 have e : lev2 s = acc := hq.symm
 obtain ⟨A', c', e1, e2, _⟩ := F.own.form
 clear f14 f15 f16 a13 f17 a17 f18
 injection e1 with e1 e3 e4
 exact ⟨HK, A, c, by rw [e], by rw [e]; exact ss_fresh F, by rw [e]; omega, by rw [e]; exact ha1, by rw [e]; omega⟩
end Go.Proofs.YtdfllmiokgoekaaGreatDoor
namespace Go.Proofs.YtdfllmiokgoekaaGreatDoor
open Go.RowKit Go.Hub Go.Lib
def sp : List UInt8 → List (List UInt8)
  | [] => [[]]
  | b :: l => if b = 47 then [] :: sp l else match sp l with
    | h :: t => (b :: h) :: t
    | [] => [[b]]
def consH (x : List UInt8) : List (List UInt8) → List (List UInt8)
  | h :: t => (x ++ h) :: t
  | [] => []
theorem consH_nil (m : List (List UInt8)) : consH [] m = m := by cases m <;> rfl
theorem sp_ne (l : List UInt8) : ∃ h t, sp l = h :: t := by
  cases l with
  | nil => exact ⟨[], [], rfl⟩
  | cons b l =>
    rw [sp]
    split
    · exact ⟨_, _, rfl⟩
    split <;> exact ⟨_, _, rfl⟩
theorem split_eq (l : List UInt8) : Lib.split (47 :: l) [47] = [] :: Lib.split l [47] := by
  have hix : index (47 :: l) [47] = ((0 : Nat) : Int) := by rw [index]; simp [List.isPrefixOf]
  unfold Lib.split
  rw [count_cons_eq, Nat.add_comm, splitK, hix]
  simp
theorem split_ne {b : UInt8} (l : List UInt8) (h : b ≠ 47) : Lib.split (b :: l) [47] = consH [b] (Lib.split l [47]) := by
  have hp : ([47] : List UInt8).isPrefixOf (b :: l) = false := by simp [List.isPrefixOf, Ne.symm h]
  have hix : index (b :: l) [47] = if index l [47] == -1 then -1 else index l [47] + 1 := by rw [index, hp]; simp
  unfold Lib.split
  rw [count_cons_ne b 47 l h]
  by_cases hm : index l [47] = -1
  · rw [count_miss hm]
    rfl
  have hge := index_ge l [47]
  obtain ⟨j, hj⟩ : ∃ j : Nat, index l [47] = j := ⟨(index l [47]).toNat, by omega⟩
  have hix' : index (b :: l) [47] = ((j + 1 : Nat) : Int) := by rw [hix, if_neg (fun e => hm (beq_iff_eq.1 e)), hj]; omega
  rw [count_hit (by simp) hj, Nat.add_comm, splitK, splitK, hix', hj]
  rw [if_neg (by rw [beq_iff_eq]; omega), if_neg (by rw [beq_iff_eq]; omega)]
  simp only [Int.toNat_natCast, Nat.add_zero, List.length_cons, List.length_nil, Nat.zero_add, List.take_succ_cons, List.drop_succ_cons, consH, List.singleton_append]
theorem sp_split : ∀ l : List UInt8, sp l = Lib.split l [47]
  | [] => by rfl
  | b :: l => by
    by_cases h : b = 47
    · subst h
      rw [sp, if_pos rfl, split_eq, sp_split l]
    obtain ⟨x, t, e⟩ := sp_ne l
    rw [sp, if_neg h, split_ne l h, ← sp_split l, e]
    rfl
theorem levGo_is : ∀ (l : List UInt8) (init : List ByteArray) (x : ByteArray), (levGo (init ++ [x]) l).map (·.data.toList) = init.map (·.data.toList) ++ consH x.data.toList (sp l)
  | [], init, x => by simp [levGo, sp, consH]
  | b :: l, init, x => by
    obtain ⟨h, t, e⟩ := sp_ne l
    by_cases hb : b = 47
    · rw [levGo, if_pos hb, levGo_is l (init ++ [x]) ⟨#[]⟩, sp, if_pos hb]
      simp [consH, e]
    rw [levGo, if_neg hb]
    have e1 : (init ++ [x]).getD ((init ++ [x]).length - 1) ⟨#[]⟩ = x := by simp [List.getD]
    have e2 : (init ++ [x]).set ((init ++ [x]).length - 1) (x ++ ⟨#[b]⟩) = init ++ [x ++ ⟨#[b]⟩] := by simp
    rw [e1, e2, levGo_is l init (x ++ ⟨#[b]⟩), sp, if_neg hb, e]
    simp [consH, ByteArray.data_append]
theorem map_inj {l m : List ByteArray} (h : l.map (·.data.toList) = m.map (·.data.toList)) : l = m := by
  refine List.map_inj_right (f := fun s : ByteArray => s.data.toList) ?_ |>.1 h
  intro x y hxy
  exact ByteArray.ext (Array.toList_inj.1 hxy)
theorem lev2_is (s : ByteArray) : lev2 s = levelsL s := by
  apply map_inj
  have h := levGo_is s.data.toList [] ⟨#[]⟩
  unfold lev2 levelsL
  rw [splitB_data]
  rw [List.nil_append] at h
  rw [h]
  simp only [List.map_nil, List.nil_append]
  rw [consH_nil, sp_split]
  rfl
end Go.Proofs.YtdfllmiokgoekaaGreatDoor
namespace Go.Proofs.YtdfllmiokgoekaaGreatDoor
open Go.RowKit Go.Hub Go.Lib
theorem wsz9_tl : (Tryz.prog.info? 9).map (·.size) = some 1 := by kernel_rfl
def verB (a p1 b p2 last : Bool) : Bool := (a && !p1) || (b && (!p2 || !last))
theorem okL_is (p : ByteArray) (last : Bool) : okL p last = !verB (hasB p 43) (decide (p = ⟨#[43]⟩)) (hasB p 35) (decide (p = ⟨#[35]⟩)) last := by
  unfold okL verB
  rw [any_has]
  by_cases h1 : p = ⟨#[43]⟩
  · rw [h1]
    rw [show hasB ⟨#[43]⟩ 43 = true by kernel_rfl, show hasB ⟨#[43]⟩ 35 = false by kernel_rfl, decide_eq_true rfl]
    rfl
  rw [decide_eq_false h1]
  by_cases h2 : p = ⟨#[35]⟩
  · rw [h2]
    rw [show hasB ⟨#[35]⟩ 43 = false by kernel_rfl, show hasB ⟨#[35]⟩ 35 = true by kernel_rfl, decide_eq_true rfl]
    cases last <;> rfl
  rw [decide_eq_false h2]
  cases hasB p 43 <;> cases hasB p 35 <;> cases last <;> rfl
theorem levelsR_any (s : ByteArray) (w : World) (G : Glob w) (hs : s.size ≤ 1000000) : Calls Tryz.prog 74 #[.string s] w (LevPost s w) := by
  refine (levR_any s w G hs).mono ?_
  rintro e w' ⟨hk, A, c, h⟩
  rw [lev2_is] at h
  exact ⟨hk, A, c, h⟩
theorem sp_mem : ∀ (l p : List UInt8), p ∈ sp l → p.length ≤ l.length
  | [], p, h => by
    rw [sp, List.mem_singleton] at h
    simp [h]
  | b :: l, p, h => by
    obtain ⟨x, t, e⟩ := sp_ne l
    have ih := sp_mem l
    rw [e] at ih
    rw [sp] at h
    split at h
    · rw [e, List.mem_cons] at h
      rcases h with rfl | h
      · simp
      have := ih p h
      simp; omega
    rw [e] at h
    simp only [List.mem_cons] at h
    rcases h with rfl | h
    · have := ih x (by simp)
      simp; omega
    have := ih p (by simp [h])
    simp; omega
theorem lev_size {s p : ByteArray} (hs : s.size ≤ 1000000) (h : p ∈ levelsL s) : p.size ≤ 1000000 := by
  have e : (levelsL s).map (·.data.toList) = sp s.data.toList := by
    unfold levelsL
    rw [splitB_data, sp_split]
    rfl
  have hm : p.data.toList ∈ sp s.data.toList := by rw [← e]; exact List.mem_map.2 ⟨p, h, rfl⟩
  have := sp_mem _ _ hm
  have e1 : p.data.toList.length = p.size := rfl
  have e2 : s.data.toList.length = s.size := rfl
  omega
theorem filterR_any (s : ByteArray) (w : World) (G : Glob w) (hs : s.size ≤ 1000000) : Calls Tryz.prog 48 #[.string s] w (fun e w' => Kept [] w w' ∧ e = .returned (.bool (filterB s))) := by
 have HK : Kept [] w w := Kept.refl [] w
 refine C.enter Tryz.func48 rfl Tryz.ntmps48 rfl ?_
 intro a0 f0
 have f1 : Fr 49 a0 [(0, .string s)] := f0
 refine C.sk fun K0 hK0 => ?_
 refine L.ag f1 fun a2 f2 => ?_
 refine wn hK0 ?_
 have f3 := f2.pk [0, 2]
 refine wp_seq_k fun K1 hK1 => C.sk fun K2 hK2 => ?_
 refine L.mv f3 fun a4 f4 => ?_
 refine L.cl f4 (run_call Tryz.call73 (args1 f4 rfl)) (textR_any s w (G.kept HK).1 hs) ?_
 clear f0 f1 a0 f2 f3 a2
 rintro e w1 ⟨kc1, rfl⟩
 refine ⟨_, rfl, fun a5 f5 => ?_⟩
 have szw1 := kc1.size
 replace HK := HK.z kc1
 clear f4 a4 kc1
 refine L.va f5 (E.not f5 rfl) fun a6 f6 => ?_
 refine wn hK2 ?_
 have f7 := f6.pk [0, 2, 7]
 clear f5 a5 f6
 refine f7.splitNB 7 rfl (fun h0 f8 => ?_) (fun h0 f8 => ?_)
 ·have h7 := h0
  refine C.condT f8 rfl ?_
  refine C.sk fun K3 hK3 => ?_
  refine L.ag f8 fun a9 f9 => ?_
  have f10 := f9.pk [0, 2]
  refine wn hK3 (wp_ret ?_); (try simp only [xt, xb]); refine C.ret f10 rfl rfl ?_
  exact ⟨HK, by unfold filterB; simp [*]⟩
 have h7 := h0
 refine C.condF f8 rfl ?_
 refine wp_skip (hK1 _ _ ?_)
 have f9 := f8.pk [0, 2]
 refine C.sk fun K4 hK4 => ?_
 refine L.mv f9 fun a10 f10 => ?_
 refine L.cl f10 (run_call Tryz.call74 (args1 f10 rfl)) (levelsR_any s w1 (G.kept HK) hs) ?_
 clear f7 f8 f9 a6
 rintro e w2 ⟨kc2, A, c, rfl, LS, l2, l3, l4⟩
 refine ⟨_, rfl, fun a11 f11 => ?_⟩
 have szw2 := kc2.size
 replace HK := HK.z kc2
 clear f10 a10 kc2
 refine L.ag f11 fun a12 f12 => ?_
 refine wn hK4 ?_
 have f13 := f12.pk [2, 3]
 refine wp_seq_k fun K5 hK5 => C.sk fun K6 hK6 => ?_
 refine L.ag f13 fun a14 f14 => ?_
 refine wn hK6 ?_
 have f15 := f14.pk [2, 3, 4]
 refine wp_block ?_
 clear f11 a11 f12 f13 a12 f14
 refine C.loop (fun gk a W => ∃ k : Nat, k + gk = (levelsL s).length ∧ okAll ((levelsL s).drop k) = okAll (levelsL s) ∧ Kept [] w W ∧ Ss W A (levelsL s) ∧ Fr 49 a [(3, .slice A (levelsL s).length c), (4, .int .i64 k)]) ((levelsL s).length) ?_ ?_
 ·exact ⟨0, by omega, rfl, HK, LS, f15.sub (sx (sx sn))⟩
 intro gk8 a16 w3 hI KL7 hKL7
 obtain ⟨k, hk, hq, HK, LS, f16⟩ := hI
 try clear f15
 refine wp_seq_k fun K8 hK8 => C.sk fun K9 hK9 => ?_
 refine L.mv f16 fun a17 f17 => ?_
 refine L.mv f17 fun a18 f18 => ?_
 refine L.va f18 (E.lenL f18 Tryz.underlying94 rfl) fun a19 f19 => ?_
 refine L.va f19 (E.lss f19 rfl rfl) fun a20 f20 => ?_
 refine wn hK9 ?_
 have f21 := f20.pk [3, 4, 10, 11, 12, 13]
 clear f16 a16 f17 a17 f18 a18 f19 a19 f20
 refine f21.splitD 13 rfl (fun h1 f22 => ?_) (fun h1 f22 => ?_)
 ·obtain ⟨p, hx⟩ : ∃ p, (levelsL s)[k]? = some p := ⟨(levelsL s)[k]'(by omega), List.getElem?_eq_getElem _⟩
  obtain ⟨b1, o1, hA⟩ := LS.addr (k := k) (by omega)
  have hps := lev_size hs (List.mem_of_getElem? hx)
  refine C.condT f22 rfl ?_
  refine wp_skip (hK8 _ _ ?_)
  have f23 := f22.pk [3, 4, 10, 11, 12, 13]
  refine wp_seq_k fun K10 hK10 => ?_
  refine wp_block ?_
  refine C.sk fun K11 hK11 => ?_
  refine L.mv f23 fun a24 f24 => ?_
  refine L.mv f24 fun a25 f25 => ?_
  refine L.va f25 (E.indexA f25 (by assumption) Tryz.underlying94 wsz9_tl rfl rfl (by omega) (by omega)) fun a26 f26 => ?_
  refine L.va f26 (E.load f26 U9 rfl rfl (ss_cell LS hA hx)) fun a27 f27 => ?_
  refine L.cl f27 (run_call Tryz.call75 (args2 f27 rfl rfl)) (has_any p 43 _ hps) ?_
  clear f21 f22 f23 a20 f24 a24 f25 a25 f26 a26
  rintro e w3x ⟨rfl, rfl⟩
  refine ⟨_, rfl, fun a28 f28 => ?_⟩
  refine L.mv f28 fun a29 f29 => ?_
  clear f27 a27 f28 a28
  refine f29.split 21 rfl (fun h2 f30 => ?_) (fun h2 f30 => ?_)
  ·have h21 := h2
   refine L.mv f30 (hw := (f30.yes rfl rfl)) fun a31 f31 => ?_
   refine L.mv f31 (hw := (f31.yes rfl rfl)) fun a32 f32 => ?_
   refine L.va f32 (E.indexA f32 (by assumption) Tryz.underlying94 wsz9_tl rfl rfl (by omega) (by omega)) (hw := (f32.yes rfl rfl)) fun a33 f33 => ?_
   refine L.va f33 (E.load f33 U9 rfl rfl (ss_cell LS hA hx)) (hw := (f33.yes rfl rfl)) fun a34 f34 => ?_
   refine L.va f34 (E.neqS f34 rfl rfl) (hw := (f34.yes rfl rfl)) fun a35 f35 => ?_
   refine L.va f35 (E.pickT f35 rfl rfl) fun a36 f36 => ?_
   refine L.mv f36 fun a37 f37 => ?_
   clear f29 f30 a29 f31 a31 f32 a32 f33 a33 f34 a34 f35 a35 f36 a36
   refine f37.splitN 28 rfl (fun h3 f38 => ?_) (fun h3 f38 => ?_)
   ·have h28 := h3
    refine L.run f38 (rest' := []) (by kernel_rfl) fun a39 f39 => ?_
    clear f37
    refine wn hK11 ?_
    have f40 := f39.sub (sv 48 (.bool true) (pkR f39 [3, 4, 10, 11, 12, 13, 16, 17, 18, 19, 20, 21, 22, 23, 24, 25, 26, 27, 28]))
    refine C.condT f40 rfl ?_
    refine C.sk fun K12 hK12 => ?_
    refine L.ag f40 fun a41 f41 => ?_
    have f42 := f41.pk [2, 3, 4, 10, 11, 12, 13, 16, 17, 18, 19, 20, 21, 22, 23, 24, 25, 26, 27, 28, 48]
    refine wn hK12 (wp_ret ?_); (try simp only [xt, xb]); refine C.ret f42 rfl rfl ?_
    exact ⟨HK, by unfold filterB; rw [← hq, ok_at hx]; rw [okL_is, show hasB p 43 = true from h21, decide_eq_false h28]; simp [verB]⟩
   have h28 := h3
   refine L.mv f38 (hw := (f38.yes rfl rfl)) fun a39 f39 => ?_
   refine L.mv f39 (hw := (f39.yes rfl rfl)) fun a40 f40 => ?_
   refine L.va f40 (E.indexA f40 (by assumption) Tryz.underlying94 wsz9_tl rfl rfl (by omega) (by omega)) (hw := (f40.yes rfl rfl)) fun a41 f41 => ?_
   refine L.va f41 (E.load f41 U9 rfl rfl (ss_cell LS hA hx)) (hw := (f41.yes rfl rfl)) fun a42 f42 => ?_
   refine L.cl f42 (run_call Tryz.call75 (args2 f42 rfl rfl)) (has_any p 35 _ hps) ?_ (hw := (f42.yes rfl rfl))
   clear f37 f38 a37 f39 a39 f40 a40 f41 a41
   rintro e w3x ⟨rfl, rfl⟩
   refine ⟨_, rfl, fun a43 f43 => ?_⟩
   refine L.mv f43 (hw := (f43.yes rfl rfl)) fun a44 f44 => ?_
   clear f42 a42 f43 a43
   refine f44.split 34 rfl (fun h4 f45 => ?_) (fun h4 f45 => ?_)
   ·have h34 := h4
    refine L.mv f45 (hw := (f45.yes rfl rfl)) fun a46 f46 => ?_
    refine L.mv f46 (hw := (f46.yes rfl rfl)) fun a47 f47 => ?_
    refine L.va f47 (E.indexA f47 (by assumption) Tryz.underlying94 wsz9_tl rfl rfl (by omega) (by omega)) (hw := (f47.yes rfl rfl)) fun a48 f48 => ?_
    refine L.va f48 (E.load f48 U9 rfl rfl (ss_cell LS hA hx)) (hw := (f48.yes rfl rfl)) fun a49 f49 => ?_
    refine L.va f49 (E.neqS f49 rfl rfl) (hw := (f49.yes rfl rfl)) fun a50 f50 => ?_
    refine L.mv f50 (hw := (f50.yes rfl rfl)) fun a51 f51 => ?_
    clear f44 f45 a44 f46 a46 f47 a47 f48 a48 f49 a49 f50 a50
    refine f51.splitN 40 rfl (fun h5 f52 => ?_) (fun h5 f52 => ?_)
    ·have h40 := h5
     refine L.run f52 (rest' := []) (by kernel_rfl) fun a53 f53 => ?_
     clear f51
     refine wn hK11 ?_
     have f54 := f53.sub (sv 46 (.bool true) (sv 47 (.bool true) (sv 48 (.bool true) (pkR f53 [3, 4, 10, 11, 12, 13, 16, 17, 18, 19, 20, 21, 22, 23, 24, 25, 26, 27, 28, 29, 30, 31, 32, 33, 34, 35, 36, 37, 38, 39, 40]))))
     refine C.condT f54 rfl ?_
     refine C.sk fun K13 hK13 => ?_
     refine L.ag f54 fun a55 f55 => ?_
     have f56 := f55.pk [2, 3, 4, 10, 11, 12, 13, 16, 17, 18, 19, 20, 21, 22, 23, 24, 25, 26, 27, 28, 29, 30, 31, 32, 33, 34, 35, 36, 37, 38, 39, 40, 46, 47, 48]
     refine wn hK13 (wp_ret ?_); (try simp only [xt, xb]); refine C.ret f56 rfl rfl ?_
     exact ⟨HK, by unfold filterB; rw [← hq, ok_at hx]; rw [okL_is, show hasB p 43 = true from h21, decide_eq_true h28, show hasB p 35 = true from h34, decide_eq_false h40]; simp [verB]⟩
    have h40 := h5
    refine L.mv f52 (hw := (f52.yes rfl rfl)) fun a53 f53 => ?_
    refine L.mv f53 (hw := (f53.yes rfl rfl)) fun a54 f54 => ?_
    refine L.va f54 (E.lenL f54 Tryz.underlying94 rfl) (hw := (f54.yes rfl rfl)) fun a55 f55 => ?_
    refine L.va f55 (E.sub f55 rfl rfl (IntWalk.i64_in _ (by omega))) (hw := (f55.yes rfl rfl)) fun a56 f56 => ?_
    refine L.va f56 (E.lss f56 rfl rfl) (hw := (f56.yes rfl rfl)) fun a57 f57 => ?_
    refine L.va f57 (E.pickF f57 rfl rfl) (hw := (f57.yes rfl rfl)) fun a58 f58 => ?_
    refine L.va f58 (E.pickT f58 rfl rfl) (hw := (f58.yes rfl rfl)) fun a59 f59 => ?_
    clear f51 f52 a51 f53 a53 f54 a54 f55 a55 f56 a56 f57 a57 f58 a58
    refine L.va f59 (E.pickF f59 rfl rfl) fun a60 f60 => ?_
    refine wn hK11 ?_
    have f61 := f60.pk [3, 4, 10, 11, 12, 13, 16, 17, 18, 19, 20, 21, 22, 23, 24, 25, 26, 27, 28, 29, 30, 31, 32, 33, 34, 35, 36, 37, 38, 39, 40, 41, 42, 43, 44, 45, 46, 47, 48]
    clear f59 a59 f60
    refine f61.splitD 48 rfl (fun h6 f62 => ?_) (fun h6 f62 => ?_)
    ·have h48 := h6
     refine C.condT f62 rfl ?_
     refine C.sk fun K14 hK14 => ?_
     refine L.ag f62 fun a63 f63 => ?_
     have f64 := f63.pk [2, 3, 4, 10, 11, 12, 13, 16, 17, 18, 19, 20, 21, 22, 23, 24, 25, 26, 27, 28, 29, 30, 31, 32, 33, 34, 35, 36, 37, 38, 39, 40, 41, 42, 43, 44, 45, 46, 47, 48]
     refine wn hK14 (wp_ret ?_); (try simp only [xt, xb]); refine C.ret f64 rfl rfl ?_
     exact ⟨HK, by unfold filterB; rw [← hq, ok_at hx]; rw [okL_is, show hasB p 43 = true from h21, decide_eq_true h28, show hasB p 35 = true from h34, decide_eq_true h40, show decide (((k : Nat) : Int) = ((levelsL s).length : Int) - 1) = false from decide_eq_false (by omega)]; simp [verB]⟩
    have h48 := h6
    refine C.condF f62 rfl ?_
    refine wp_skip (hK10 _ _ ?_)
    have f63 := f62.pk [3, 4, 10, 11, 12, 13, 16, 17, 18, 19, 20, 21, 22, 23, 24, 25, 26, 27, 28, 29, 30, 31, 32, 33, 34, 35, 36, 37, 38, 39, 40, 41, 42, 43, 44, 45, 46, 47, 48]
    refine C.region ?_
    refine L.mv f63 fun a64 f64 => ?_
    refine L.va f64 (E.add f64 rfl rfl (IntWalk.i64_in _ (by omega))) fun a65 f65 => ?_
    refine L.ag f65 fun a66 f66 => ?_
    clear f61 f62 f63 a60 f64 a64 f65 a65
    refine wpList_nil (hKL7 _ _ (gk8 - 1) ?_ ?_)
    ·omega
    exact ⟨k + 1, by omega, (ok_next hx (by rw [okL_is, show hasB p 43 = true from h21, decide_eq_true h28, show hasB p 35 = true from h34, decide_eq_true h40, show decide (((k : Nat) : Int) = ((levelsL s).length : Int) - 1) = true from decide_eq_true (by omega)]; simp [verB])).trans hq, HK, LS, f66.sub (sx (sx sn))⟩
   have h34 := h4
   refine L.run f45 (rest' := []) (by kernel_rfl) fun a46 f46 => ?_
   clear f44
   refine wn hK11 ?_
   have f47 := f46.sub (sv 47 (.bool false) (sv 48 (.bool false) (pkR f46 [3, 4, 10, 11, 12, 13, 16, 17, 18, 19, 20, 21, 22, 23, 24, 25, 26, 27, 28, 29, 30, 31, 32, 33, 34])))
   refine C.condF f47 rfl ?_
   refine wp_skip (hK10 _ _ ?_)
   have f48 := f47.pk [3, 4, 10, 11, 12, 13, 16, 17, 18, 19, 20, 21, 22, 23, 24, 25, 26, 27, 28, 29, 30, 31, 32, 33, 34, 47, 48]
   refine C.region ?_
   refine L.mv f48 fun a49 f49 => ?_
   refine L.va f49 (E.add f49 rfl rfl (IntWalk.i64_in _ (by omega))) fun a50 f50 => ?_
   refine L.ag f50 fun a51 f51 => ?_
   clear f46 f45 f47 f48 a46 f49 a49 f50 a50
   refine wpList_nil (hKL7 _ _ (gk8 - 1) ?_ ?_)
   ·omega
   exact ⟨k + 1, by omega, (ok_next hx (by rw [okL_is, show hasB p 43 = true from h21, decide_eq_true h28, show hasB p 35 = false from (by simpa using h34)]; simp [verB])).trans hq, HK, LS, f51.sub (sx (sx sn))⟩
  have h21 := h2
  refine L.skip f30 (f30.noT rfl rfl) rfl (by decide) fun a31 f31 => ?_
  refine L.skip f31 (f31.noT rfl rfl) rfl (by decide) fun a32 f32 => ?_
  refine L.skip f32 (f32.noT rfl rfl) rfl (by decide) fun a33 f33 => ?_
  refine L.skip f33 (f33.noT rfl rfl) rfl (by decide) fun a34 f34 => ?_
  refine L.skip f34 (f34.noT rfl rfl) rfl (by decide) fun a35 f35 => ?_
  refine L.va f35 (E.pickF f35 rfl rfl) fun a36 f36 => ?_
  refine L.mv f36 fun a37 f37 => ?_
  clear f29 f30 a29 f31 a31 f32 a32 f33 a33 f34 a34 f35 a35 f36 a36
  refine L.mv f37 (hw := (f37.yes rfl rfl)) fun a38 f38 => ?_
  refine L.mv f38 (hw := (f38.yes rfl rfl)) fun a39 f39 => ?_
  refine L.va f39 (E.indexA f39 (by assumption) Tryz.underlying94 wsz9_tl rfl rfl (by omega) (by omega)) (hw := (f39.yes rfl rfl)) fun a40 f40 => ?_
  refine L.va f40 (E.load f40 U9 rfl rfl (ss_cell LS hA hx)) (hw := (f40.yes rfl rfl)) fun a41 f41 => ?_
  refine L.cl f41 (run_call Tryz.call75 (args2 f41 rfl rfl)) (has_any p 35 _ hps) ?_ (hw := (f41.yes rfl rfl))
  clear f37 a37 f38 a38 f39 a39 f40 a40
  rintro e w3x ⟨rfl, rfl⟩
  refine ⟨_, rfl, fun a42 f42 => ?_⟩
  refine L.mv f42 (hw := (f42.yes rfl rfl)) fun a43 f43 => ?_
  clear f41 a41 f42 a42
  refine f43.split 34 rfl (fun h7 f44 => ?_) (fun h7 f44 => ?_)
  ·have h34 := h7
   refine L.mv f44 (hw := (f44.yes rfl rfl)) fun a45 f45 => ?_
   refine L.mv f45 (hw := (f45.yes rfl rfl)) fun a46 f46 => ?_
   refine L.va f46 (E.indexA f46 (by assumption) Tryz.underlying94 wsz9_tl rfl rfl (by omega) (by omega)) (hw := (f46.yes rfl rfl)) fun a47 f47 => ?_
   refine L.va f47 (E.load f47 U9 rfl rfl (ss_cell LS hA hx)) (hw := (f47.yes rfl rfl)) fun a48 f48 => ?_
   refine L.va f48 (E.neqS f48 rfl rfl) (hw := (f48.yes rfl rfl)) fun a49 f49 => ?_
   refine L.mv f49 (hw := (f49.yes rfl rfl)) fun a50 f50 => ?_
   clear f43 f44 a43 f45 a45 f46 a46 f47 a47 f48 a48 f49 a49
   refine f50.splitN 40 rfl (fun h8 f51 => ?_) (fun h8 f51 => ?_)
   ·have h40 := h8
    refine L.run f51 (rest' := []) (by kernel_rfl) fun a52 f52 => ?_
    clear f50
    refine wn hK11 ?_
    have f53 := f52.sub (sv 46 (.bool true) (sv 47 (.bool true) (sv 48 (.bool true) (pkR f52 [3, 4, 10, 11, 12, 13, 16, 17, 18, 19, 20, 21, 22, 23, 24, 25, 26, 27, 28, 29, 30, 31, 32, 33, 34, 35, 36, 37, 38, 39, 40]))))
    refine C.condT f53 rfl ?_
    refine C.sk fun K15 hK15 => ?_
    refine L.ag f53 fun a54 f54 => ?_
    have f55 := f54.pk [2, 3, 4, 10, 11, 12, 13, 16, 17, 18, 19, 20, 21, 22, 23, 24, 25, 26, 27, 28, 29, 30, 31, 32, 33, 34, 35, 36, 37, 38, 39, 40, 46, 47, 48]
    refine wn hK15 (wp_ret ?_); (try simp only [xt, xb]); refine C.ret f55 rfl rfl ?_
    exact ⟨HK, by unfold filterB; rw [← hq, ok_at hx]; rw [okL_is, show hasB p 43 = false from (by simpa using h21), show hasB p 35 = true from h34, decide_eq_false h40]; simp [verB]⟩
   have h40 := h8
   refine L.mv f51 (hw := (f51.yes rfl rfl)) fun a52 f52 => ?_
   refine L.mv f52 (hw := (f52.yes rfl rfl)) fun a53 f53 => ?_
   refine L.va f53 (E.lenL f53 Tryz.underlying94 rfl) (hw := (f53.yes rfl rfl)) fun a54 f54 => ?_
   refine L.va f54 (E.sub f54 rfl rfl (IntWalk.i64_in _ (by omega))) (hw := (f54.yes rfl rfl)) fun a55 f55 => ?_
   refine L.va f55 (E.lss f55 rfl rfl) (hw := (f55.yes rfl rfl)) fun a56 f56 => ?_
   refine L.va f56 (E.pickF f56 rfl rfl) (hw := (f56.yes rfl rfl)) fun a57 f57 => ?_
   refine L.va f57 (E.pickT f57 rfl rfl) (hw := (f57.yes rfl rfl)) fun a58 f58 => ?_
   clear f50 f51 a50 f52 a52 f53 a53 f54 a54 f55 a55 f56 a56 f57 a57
   refine L.va f58 (E.pickF f58 rfl rfl) fun a59 f59 => ?_
   refine wn hK11 ?_
   have f60 := f59.pk [3, 4, 10, 11, 12, 13, 16, 17, 18, 19, 20, 21, 22, 23, 24, 25, 26, 27, 28, 29, 30, 31, 32, 33, 34, 35, 36, 37, 38, 39, 40, 41, 42, 43, 44, 45, 46, 47, 48]
   clear f58 a58 f59
   refine f60.splitD 48 rfl (fun h9 f61 => ?_) (fun h9 f61 => ?_)
   ·have h48 := h9
    refine C.condT f61 rfl ?_
    refine C.sk fun K16 hK16 => ?_
    refine L.ag f61 fun a62 f62 => ?_
    have f63 := f62.pk [2, 3, 4, 10, 11, 12, 13, 16, 17, 18, 19, 20, 21, 22, 23, 24, 25, 26, 27, 28, 29, 30, 31, 32, 33, 34, 35, 36, 37, 38, 39, 40, 41, 42, 43, 44, 45, 46, 47, 48]
    refine wn hK16 (wp_ret ?_); (try simp only [xt, xb]); refine C.ret f63 rfl rfl ?_
    exact ⟨HK, by unfold filterB; rw [← hq, ok_at hx]; rw [okL_is, show hasB p 43 = false from (by simpa using h21), show hasB p 35 = true from h34, decide_eq_true h40, show decide (((k : Nat) : Int) = ((levelsL s).length : Int) - 1) = false from decide_eq_false (by omega)]; simp [verB]⟩
   have h48 := h9
   refine C.condF f61 rfl ?_
   refine wp_skip (hK10 _ _ ?_)
   have f62 := f61.pk [3, 4, 10, 11, 12, 13, 16, 17, 18, 19, 20, 21, 22, 23, 24, 25, 26, 27, 28, 29, 30, 31, 32, 33, 34, 35, 36, 37, 38, 39, 40, 41, 42, 43, 44, 45, 46, 47, 48]
   refine C.region ?_
   refine L.mv f62 fun a63 f63 => ?_
   refine L.va f63 (E.add f63 rfl rfl (IntWalk.i64_in _ (by omega))) fun a64 f64 => ?_
   refine L.ag f64 fun a65 f65 => ?_
   clear f60 f61 f62 a59 f63 a63 f64 a64
   refine wpList_nil (hKL7 _ _ (gk8 - 1) ?_ ?_)
   ·omega
   exact ⟨k + 1, by omega, (ok_next hx (by rw [okL_is, show hasB p 43 = false from (by simpa using h21), show hasB p 35 = true from h34, decide_eq_true h40, show decide (((k : Nat) : Int) = ((levelsL s).length : Int) - 1) = true from decide_eq_true (by omega)]; simp [verB])).trans hq, HK, LS, f65.sub (sx (sx sn))⟩
  have h34 := h7
  refine L.run f44 (rest' := []) (by kernel_rfl) fun a45 f45 => ?_
  clear f43
  refine wn hK11 ?_
  have f46 := f45.sub (sv 47 (.bool false) (sv 48 (.bool false) (pkR f45 [3, 4, 10, 11, 12, 13, 16, 17, 18, 19, 20, 21, 22, 23, 24, 25, 26, 27, 28, 29, 30, 31, 32, 33, 34])))
  refine C.condF f46 rfl ?_
  refine wp_skip (hK10 _ _ ?_)
  have f47 := f46.pk [3, 4, 10, 11, 12, 13, 16, 17, 18, 19, 20, 21, 22, 23, 24, 25, 26, 27, 28, 29, 30, 31, 32, 33, 34, 47, 48]
  refine C.region ?_
  refine L.mv f47 fun a48 f48 => ?_
  refine L.va f48 (E.add f48 rfl rfl (IntWalk.i64_in _ (by omega))) fun a49 f49 => ?_
  refine L.ag f49 fun a50 f50 => ?_
  clear f45 f44 f46 f47 a45 f48 a48 f49 a49
  refine wpList_nil (hKL7 _ _ (gk8 - 1) ?_ ?_)
  ·omega
  exact ⟨k + 1, by omega, (ok_next hx (by rw [okL_is, show hasB p 43 = false from (by simpa using h21), show hasB p 35 = false from (by simpa using h34)]; simp [verB])).trans hq, HK, LS, f50.sub (sx (sx sn))⟩
 have hend := h1
 refine C.condF f22 rfl ?_
 refine wp_exit (hK5 _ _ ?_)
 have f23 := f22.sub sn
 refine C.sk fun K17 hK17 => ?_
 refine L.ag f23 fun a24 f24 => ?_
 have f25 := f24.pk [2]
 refine wn hK17 (wp_ret ?_); (try simp only [xt, xb]); refine C.ret f25 rfl rfl ?_
 exact ⟨HK, by unfold filterB; rw [← hq, List.drop_eq_nil_of_le (by omega)]; simp [okAll, h7]⟩
end Go.Proofs.YtdfllmiokgoekaaGreatDoor
namespace Go.Proofs.YtdfllmiokgoekaaGreatDoor
open Go.RowKit Go.Hub Go.Lib
theorem wzib66_ss1 : (Tryz.prog.info? 66).map (fun i => (i.zero, i.size, i.bytes)) = some (some (.agg #[(.string ⟨#[]⟩), (.int .i64 0)]), 2, 24) := by kernel_rfl
theorem wzi66_ss1 : (Tryz.prog.info? 66).map (fun i => (i.zero, i.size)) = some (some (.agg #[(.string ⟨#[]⟩), (.int .i64 0)]), 2) := by kernel_rfl
theorem wbs32_1_ss1 (x0_0 x0_1 : Value) : Instr.fill (fun i => some (i * 2, 2)) ((Array.range (1 * 2)).map fun j => (Value.cells (.agg #[(.string ⟨#[]⟩), (.int .i64 0)]))[j % (Value.cells (.agg #[(.string ⟨#[]⟩), (.int .i64 0)])).size]!) [(0, .agg #[x0_0, x0_1])] = some #[x0_0, x0_1] := by kernel_rfl
theorem wsz49_ss1 : (Tryz.prog.info? 49).map (·.size) = some 1 := by kernel_rfl
theorem wbl66_0_1_ss1 (x0 : ByteArray) (x1 : Int) : Tryz.prog.built 66 [(0, .string x0), (1, .int .i64 x1)] = some #[.string x0, .int .i64 x1] := by kernel_rfl
theorem sl_b1 {M : Type} {cell : M → List Value} {w : World} {g t : Nat} (m : M) (B : Blk w g t (cell m).toArray) : Sl w (some ⟨g, 0, none⟩) 1 (cell m).length ([m].flatMap cell) :=
  ⟨by simp, fun _ => ⟨g, 0, rfl, B.lt, fun j u hu => by rw [Nat.zero_add]; exact B.cell_ (by simpa using hu)⟩⟩
theorem scp_one (l : FE) : ∀ u ∈ l.flatMap scp, u.oneCell' = true := fun u hu => by
  obtain ⟨x, _, hx⟩ := List.mem_flatMap.1 hu
  simp only [scp, List.mem_cons, List.not_mem_nil, or_false] at hx
  rcases hx with rfl | rfl <;> rfl
theorem perm_strike : ∀ {R : FE} {k : ByteArray} {u : Int}, (R.map (·.1)).Nodup → (k, u) ∈ R → R.Perm ((k, u) :: (Go.Hub.strike R k : FE))
  | a :: r, k, u, hn, hm => by
    rw [List.map_cons, List.nodup_cons] at hn
    unfold Go.Hub.strike
    rw [List.filter_cons]
    rcases List.mem_cons.1 hm with e | hm
    · subst e
      have e2 : (r.filter fun p => !decide (p.1 = k)) = r := List.filter_eq_self.2 fun p hp => by
        have : p.1 ≠ k := fun e => hn.1 (List.mem_map.2 ⟨p, hp, e⟩)
        simp [this]
      simp [e2]
    have hne : a.1 ≠ k := fun e => hn.1 (by rw [e]; exact List.mem_map.2 ⟨(k, u), hm, rfl⟩)
    rw [if_pos (by simp [hne])]
    exact ((perm_strike hn.2 hm).cons a).trans (List.Perm.swap _ _ _)
theorem perm_next {lo R Em : FE} {k : ByteArray} {u : Int} (h : (lo ++ R).Perm Em) (hs : R.Perm ((k, u) :: (Go.Hub.strike R k : FE))) : ((lo ++ [(k, u)]) ++ (Go.Hub.strike R k : FE)).Perm Em := by
  refine List.Perm.trans ?_ h
  rw [List.append_assoc]
  exact (hs.symm).append_left lo
def SubsPost (p gs : Nat) (cs : Array Value) (Em : FE) (w : World) (e : Ending) (w' : World) : Prop := Kept [] w w' ∧ ∃ A c, ∃ out : FE, e = .returned (.slice A out.length c) ∧ out.Perm Em ∧ SortedF out ∧ Sl w' A out.length 2 (out.flatMap scp) ∧ Blk w' p 57 cs ∧ IsAss subM Tryz.prog w' gs Em
theorem subs_any (p gs : Nat) (v0 v2 v3 v4 v5 : Value) (Em : FE) (w : World) (BP : Blk w p 57 #[v0, .map (some gs), v2, v3, v4, v5]) (IA : IsAss subM Tryz.prog w gs Em) (hne : p ≠ gs) (hE : Em.length ≤ 1000000) : Calls Tryz.prog 34 #[.pointer (some ⟨p, 0, none⟩)] w (SubsPost p gs #[v0, .map (some gs), v2, v3, v4, v5] Em w) := by
 have HK : Kept [] w w := Kept.refl [] w
 have ltp := BP.lt
 have ltg := IsAss.lt IA
 refine C.enter Tryz.func34 rfl Tryz.ntmps34 rfl ?_
 intro a0 f0
 have f1 : Fr 25 a0 [(0, .pointer (some ⟨p, 0, none⟩))] := f0
 refine C.sk fun K0 hK0 => ?_
 refine L.ag f1 fun a2 f2 => ?_
 have f3 := f2.pk [0, 2]
 refine wn hK0 (C.sk fun K1 hK1 => ?_)
 refine L.ag f3 fun a4 f4 => ?_
 refine wn hK1 ?_
 have f5 := f4.pk [0, 2, 3]
 refine wp_seq_k fun K2 hK2 => C.sk fun K3 hK3 => ?_
 refine L.mv f5 fun a6 f6 => ?_
 refine L.va f6 (E.nilCheck f6 rfl) fun a7 f7 => ?_
 refine L.fa 1 f7 U57 rfl wsz49_ss1 fun a8 f8 => ?_
 refine L.va f8 (E.load f8 Tryz.underlying49 rfl rfl ((BP).cl rfl)) fun a9 f9 => ?_
 clear f0 f1 a0 f2 f3 a2 f4 f5 a4 f6 a6 f7 a7 f8 a8
 refine L.rangeA f9 wantedN (by decide) IA subOk Tryz.underlying49 rfl fun a10 w1 r IN ks lor f10 => ?_
 have szw1 := ks.size
 have frr : w.heap.size ≤ r := Nat.le_trans HK.size lor
 have hrlt := InRange.lt IN
 replace HK := HK.trans ks (by simp)
 replace BP := BP.z ks
 clear ks f9 a9
 have HR := Kept.refl [r] w1
 have hwr := HK.size
 refine wn hK3 ?_
 have f11 := f10.pk [2, 3, 10]
 refine wp_block ?_
 clear f10
 refine C.loop (fun gk a W => ∃ (Rm : FE) (c : Nat) (lo : FE) (A3 : Option Addr) (c3 : Nat), c ≤ gk ∧ (lo ++ Rm).Perm Em ∧ Kept [] w W ∧ Kept [r] w1 W ∧ Blk W p 57 #[v0, .map (some gs), v2, v3, v4, v5] ∧ InRange subM Tryz.prog W gs r Em Rm c ∧ Fresh w1 W 66 2 A3 lo.length c3 (lo.flatMap scp) ∧ Fr 25 a [(3, .slice A3 lo.length c3), (10, .pointer (some ⟨r, 0, none⟩))]) (Em.length) ?_ ?_
 ·exact ⟨Em, Em.length, [], none, 0, Nat.le_refl _, List.Perm.refl _, HK, HR, BP, IN, Fresh.nil _ _ _ _, f11.sub (sx (sx sn))⟩
 intro gk5 a12 w2 hI KL4 hKL4
 obtain ⟨Rm, c, lo, A3, c3, hcg, hpm, HK, HR, BP, IN, FR, f12⟩ := hI
 try clear f11
 have hll := hpm.length_eq
 rw [List.length_append] at hll
 refine C.sk fun K5 hK5 => ?_
 refine L.nextA f12 wantedN (by decide) IN subOk subKv rfl ?_ ?_
 ·skip
  intro hR a13 f13
  subst hR
  refine L.va f13 (E.extract f13 rfl rfl) fun a14 f14 => ?_
  refine wn hK5 ?_
  have f15 := f14.pk [3, 10, 11, 12]
  refine wp_seq_k fun K6 hK6 => ?_
  refine C.condF f15 rfl ?_
  refine wp_exit (hK2 _ _ ?_)
  have f16 := f15.pk [3]
  refine C.sk fun K7 hK7 => ?_
  refine L.mv f16 fun a17 f17 => ?_
  refine L.cl f17 (run_call Tryz.call60 (args2 f17 rfl rfl)) (sortR_any w1 A3 c3 lo w2 FR (by omega)) ?_
  clear f12 f13 f14 f15 f16 a14
  rintro e w3 ⟨⟨rfl, kc3⟩, out, hol, hop, hos, SO⟩
  have hnb : ∀ x, x ∈ (Value.slice A3 lo.length c3).ownBlock.toList → w1.heap.size ≤ x := fun x hx => FR.lo x ((own_block _ _ _ _).1 (by simpa using hx))
  have HK9 := HK.trans kc3 (fun x hx hlt => by exfalso; have := hnb x hx; omega)
  have BP9 := BP.kept kc3 (fun hx => by have := hnb _ hx; omega)
  have IA9 := IsAss.kept (InRange.ass IN) kc3 (fun hx => by have := hnb _ hx; omega)
  refine ⟨_, rfl, fun a18 f18 => ?_⟩
  have szw3 := kc3.size
  clear f17 a17 kc3
  have f19 := f18.pk [3]
  refine wn hK7 (C.sk fun K8 hK8 => ?_)
  refine L.mv f19 fun a20 f20 => ?_
  refine L.ag f20 fun a21 f21 => ?_
  have f22 := f21.pk [2]
  refine wn hK8 (wp_ret ?_); (try simp only [xt, xb]); refine C.ret f22 rfl rfl ?_
  exact ⟨HK9, A3, c3, out, by rw [hol], (hop.trans (by have h : (lo ++ ([] : FE)).Perm Em := hpm; rw [List.append_nil] at h; exact h)), hos, SO, BP9, IA9⟩
 skip
 intro (key : ByteArray) (u : Int) a13 w3 c2 hm IN2 hc2 kn hent f13
 have hps := perm_strike IN.2.1 hm
 have HK2 := HK.trans kn (fun x hx hlt => by obtain rfl := List.mem_singleton.1 hx; exfalso; omega)
 have HR2 := HR.trans kn (by simp)
 have FR2 := FR.kept kn (fun b hb hm => by have := FR.lo b hb; obtain rfl := List.mem_singleton.1 hm; omega)
 have BP2 := BP.kept kn (by simp; omega)
 clear IN HK HR FR BP
 have HK := HK2
 have HR := HR2
 have FR := FR2
 have BP := BP2
 have IN : InRange subM Tryz.prog w3 gs r Em (Go.Hub.strike Rm key : FE) c2 := IN2
 clear HK2 HR2 FR2 BP2 IN2 kn
 have hent2 : (Instr.entry (.pointer (some ⟨r, 0, none⟩))).run Tryz.prog w3 = .ok (.tuple #[.string key, .int .i64 u]) w3 := hent
 clear hent
 refine L.va f13 (E.extract f13 rfl rfl) fun a14 f14 => ?_
 refine wn hK5 ?_
 have f15 := f14.pk [3, 10, 11, 12]
 refine wp_seq_k fun K9 hK9 => ?_
 refine C.condT f15 rfl ?_
 refine wp_skip (hK9 _ _ ?_)
 have f16 := f15.pk [3, 10, 11, 12]
 refine wp_block ?_
 refine C.sk fun K10 hK10 => ?_
 refine L.va f16 (E.entryA f16 hent2 rfl) fun a17 f17 => ?_
 refine L.va f17 (E.extract f17 rfl rfl) fun a18 f18 => ?_
 refine L.va f18 (E.extract f18 rfl rfl) fun a19 f19 => ?_
 refine L.ag f19 fun a20 f20 => ?_
 refine L.ag f20 fun a21 f21 => ?_
 clear f12 f13 f14 f15 f16 a14 f17 a17 f18 a18 f19 a19 f20 a20
 refine wn hK10 ?_
 have f22 := f21.pk [3, 4, 5, 10, 11, 12, 13, 14, 15]
 refine C.region ?_
 refine L.mv f22 fun a23 f23 => ?_
 refine L.mv f23 fun a24 f24 => ?_
 refine L.mv f24 fun a25 f25 => ?_
 refine L.va f25 (E.build f25 (parts2 f25 rfl rfl) (wbl66_0_1_ss1 _ _)) fun a26 f26 => ?_
 refine L.buildSlice f26 wantedN (by decide) (parts1 f26 rfl) U32 wzi66_ss1 rfl rfl (wbs32_1_ss1 _ _) fun a27 w4 g3 N3 f27 => ?_
 have Bg3 := N3.blk
 have kg3 := N3.kept
 have log3 := N3.lo
 have ltg3 := Bg3.lt
 have szw4 := kg3.size
 have frg3 : w.heap.size ≤ g3 := Nat.le_trans HK.size log3
 have frg3_HR : w1.heap.size ≤ g3 := Nat.le_trans HR.size log3
 have nep_g3 : p ≠ g3 := by have := BP.lt; omega
 replace HK := HK.z kg3
 replace HR := HR.trans kg3 (by simp)
 replace BP := BP.z kg3
 replace IN := InRange.kept IN kg3 (by simp) (by simp)
 replace FR := FR.kept0 kg3
 clear f21 f22 a21 f23 a23 f24 a24 f25 a25 N3 kg3
 refine L.append f27 wantedN (by decide) U32 wzib66_ss1 rfl rfl rfl rfl (FR.own) ((sl_b1 (cell := scp) (key, u) Bg3)) (fun v hv => scp_one [(key, u)] v hv) (by unfold maxLen; omega) (by omega) fun a28 w5 Ay cy AP5 f28 => ?_
 have FY : Fresh w1 w5 66 2 Ay (lo ++ [(key, u)]).length cy ((lo ++ [(key, u)]).flatMap scp) := by have h := AP5.next FR HR.size; rw [List.length_append, List.flatMap_append]; exact h
 have HK2 := AP5.grow (FR.lower hwr) HK
 have HR2 := AP5.grow FR HR
 have kap5 := AP5.kept
 replace HK := HK2
 replace HR := HR2
 replace BP := BP.kept kap5 (fun hx => by have := FR.lo p ((own_block _ _ _ _).1 (by simpa using hx)); omega)
 replace IN := InRange.kept IN kap5 (fun hx => by have := FR.lo gs ((own_block _ _ _ _).1 (by simpa using hx)); omega) (fun hx => by have := FR.lo r ((own_block _ _ _ _).1 (by simpa using hx)); omega)
 replace f28 := f28.as (i := 21) (v' := .slice Ay (lo ++ [(key, u)]).length cy) rfl (by rw [List.length_append]; rfl)
 have szw5 := kap5.size
 clear f26 a26 f27 a27 kap5
 refine L.ag f28 fun a29 f29 => ?_
 clear f28 a28
 refine wpList_nil (hKL4 _ _ (c2) ?_ ?_)
 ·omega
 exact ⟨(Go.Hub.strike Rm key : FE), c2, lo ++ [(key, u)], Ay, cy, Nat.le_refl _, perm_next hpm hps, HK, HR, BP, IN, FY, f29.sub (sx (sx sn))⟩
end Go.Proofs.YtdfllmiokgoekaaGreatDoor
