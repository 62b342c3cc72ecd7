/- Contracts: the document's levels. -/
import Derived.Test.YtpdacegpjofdeaaDoorTi
set_option linter.all false
namespace Go.Proofs.YtpdacegpjofdeaaDoor
open Go.RowKit Go.Hub Go.Lib
theorem wzib9_tj : (Tryd.prog.info? 9).map (fun i => (i.zero, i.size, i.bytes)) = some (some (.string ⟨#[]⟩), 1, 16) := by kernel_rfl
theorem wzi9_tj : (Tryd.prog.info? 9).map (fun i => (i.zero, i.size)) = some (some (.string ⟨#[]⟩), 1) := by kernel_rfl
theorem wbs26_1_tj (x0 : ByteArray) : Instr.fill (fun i => some (i * 1, 1)) ((Array.range (1 * 1)).map fun j => (Value.cells (.string ⟨#[]⟩))[j % (Value.cells (.string ⟨#[]⟩)).size]!) [(0, .string x0)] = some #[.string x0] := by kernel_rfl
theorem wsz9_tj : (Tryd.prog.info? 9).map (·.size) = some 1 := by kernel_rfl

def levGo (acc : List ByteArray) : List UInt8 → List ByteArray
  | [] => acc
  | b :: r => if b = 47 then levGo (acc ++ [⟨#[]⟩]) r else levGo (acc.set (acc.length - 1) (acc.getD (acc.length - 1) ⟨#[]⟩ ++ ⟨#[b]⟩)) r
def lev2 (s : ByteArray) : List ByteArray := levGo [⟨#[]⟩] s.data.toList
def LevPost2 (s : ByteArray) (w : World) (e : Ending) (w' : World) : Prop := Kept [] w w' ∧ ∃ A c, e = .returned (.slice A (lev2 s).length c) ∧ Ss w' A (lev2 s) ∧ (lev2 s).length ≤ c ∧ 1 ≤ (lev2 s).length ∧ (lev2 s).length ≤ s.size + 1
theorem own_one {w : World} {g : Nat} {x : ByteArray} (B : Blk w g 9 #[.string x]) : Own w 9 1 (.slice (some ⟨g, 0, none⟩) 1 1) 1 [.string x] :=
  ⟨rfl, .inr ⟨g, 0, 1, _, rfl, B, by omega, by unfold maxLen; omega, by simp, fun j u hu => by simpa using hu⟩⟩
theorem fresh_one {w w' : World} {g : Nat} {x : ByteArray} (B : Blk w' g 9 #[.string x]) (hg : w.heap.size ≤ g) : Fresh w w' 9 1 (some ⟨g, 0, none⟩) 1 1 [.string x] :=
  ⟨own_one B, fun b hb => by simp at hb; omega⟩
theorem sl_oneS (w : World) (g : Nat) (x : ByteArray) (B : Blk w g 9 #[.string x]) : Sl w (some ⟨g, 0, none⟩) 1 1 [.string x] := Sl.of_own (own_one B)
theorem ss_fresh {w w' : World} {A : Option Addr} {c : Nat} {l : List ByteArray} (F : Fresh w w' 9 1 A l.length c (l.map Value.string)) : Ss w' A l := F.sl
theorem last_cell {w w' : World} {A : Option Addr} {b off c : Nat} {l : List ByteArray} {x : ByteArray} (F : Fresh w w' 9 1 A l.length c (l.map Value.string)) (hA : A = some ⟨b, off, none⟩) (hx : l[l.length - 1]? = some x) (h1 : 1 ≤ l.length) : w'.cell? ⟨b, off + Int.toNat ((l.length : Int) - 1) * 1, none⟩ = some (.string x) := by
  rw [show Int.toNat ((l.length : Int) - 1) * 1 = l.length - 1 by omega]
  exact F.sl.cell (by omega) hA (by simp [hx])
theorem lev_next1 {s : ByteArray} {k : Nat} {b : UInt8} {acc : List ByteArray} (hb : s[k]? = some b) (h : ((b.toNat : Nat) : Int) = 47) : levGo (acc ++ [⟨#[]⟩]) (s.data.toList.drop (k + 1)) = levGo acc (s.data.toList.drop k) := by
  rw [byte_at, ← Array.getElem?_toList] at hb
  obtain ⟨hk, rfl⟩ := List.getElem?_eq_some_iff.1 hb
  conv => rhs; rw [List.drop_eq_getElem_cons hk]
  rw [levGo, if_pos (UInt8.toNat_inj.1 (by have : (47 : UInt8).toNat = 47 := rfl; omega))]
theorem ext_one {s : ByteArray} {k : Nat} {b : UInt8} (hb : s[k]? = some b) : s.extract k (k + 1) = ⟨#[b]⟩ := by
  rw [byte_at] at hb
  obtain ⟨hk, rfl⟩ := Array.getElem?_eq_some_iff.1 hb
  apply ByteArray.ext
  rw [ByteArray.data_extract]
  apply Array.ext
  · have : s.data.size = s.size := rfl
    simp; omega
  · intro i h1 h2
    simp at h2
    subst h2
    simp
theorem lev_next2 {s : ByteArray} {k : Nat} {b : UInt8} {x : ByteArray} {acc : List ByteArray} (hb : s[k]? = some b) (hx : acc[acc.length - 1]? = some x) (h : ¬ ((b.toNat : Nat) : Int) = 47) : levGo (acc.set (acc.length - 1) (x ++ s.extract k (k + 1))) (s.data.toList.drop (k + 1)) = levGo acc (s.data.toList.drop k) := by
  rw [ext_one hb]
  rw [byte_at, ← Array.getElem?_toList] at hb
  obtain ⟨hk, rfl⟩ := List.getElem?_eq_some_iff.1 hb
  conv => rhs; rw [List.drop_eq_getElem_cons hk]
  rw [levGo, if_neg (fun e => h (by rw [e]; rfl))]
  rw [List.getD_eq_getElem?_getD, hx]
  rfl
theorem szs1 {acc : List ByteArray} {k : Nat} (h : ∀ p ∈ acc, p.size ≤ k) : ∀ p ∈ acc ++ [(⟨#[]⟩ : ByteArray)], p.size ≤ k + 1 := by
  intro p hp
  simp at hp
  rcases hp with hp | rfl
  · have := h p hp; omega
  · exact Nat.zero_le _
theorem szs2 {s : ByteArray} {acc : List ByteArray} {k j : Nat} {x : ByteArray} (h : ∀ p ∈ acc, p.size ≤ k) (hx : x.size ≤ k) : ∀ p ∈ acc.set j (x ++ s.extract k (k + 1)), p.size ≤ k + 1 := by
  intro p hp
  rcases List.mem_or_eq_of_mem_set hp with hp | rfl
  · have := h p hp; omega
  · rw [ByteArray.size_append, ByteArray.size_extract]; omega
section
variable {P : Program} {ops : Array Oper} {Q : Exit → Act → World → Prop} {a : Act} {w w0 : World} {n d : Nat} {l : FL} {v : Value} {ty : TypeId} {ps : String} {af : Array Edge} {gd : Option (Nat × Bool)} {x y : Operand} {t : TypeId} {K : Act → World → Prop} {i : Nat}
theorem OT.storeF (f : Fr n a l) (hio : ops[i]? = some ⟨none, .store t x y, ty, ps, af, gd⟩) (hw : Region.wanted ⟨none, .store t x y, ty, ps, af, gd⟩ (yielded ops a.tmps) = true) (hi : (P.info? t).map (·.size) = some 1) {b off o j e size k c : Nat} {A : Option Addr} {xs : List Value} (hA : A = some ⟨b, off, none⟩) (F : Fresh w0 w e size A k c xs) (hx : evl l x = some (.pointer (some ⟨b, o, none⟩))) (ho : o = off + j) (hj : j < xs.length) (hy : evl l y = some v) (h1 : v.oneCell' = true)
    (hK : ∀ a' w', Fr n a' l → Fresh w0 w' e size A k c (xs.set j v) → Kept [b] w w' → w0.heap.size ≤ b → K a' w') : wpOp P ops Q i (fun a w => True ∧ K a w) a w := by
  subst ho
  obtain ⟨⟨old, h2⟩, h3, h4⟩ := F.own.set_ hA hj v
  exact O.act (S := fun _ => True) f hio rfl hw (E.store f hi hx hy h1 h2 h3) trivial fun a' f' => hK a' _ f' ⟨h4, F.lo⟩ (setCell_kept w b _ v) (F.lo b (by rw [hA]; rfl))
end

set_option maxHeartbeats 1000000 in
theorem levR_any (s : ByteArray) (w : World) (G : Glob w) (hs : s.size ≤ 1000000) : Calls Tryd.prog 18 #[.string s] w (LevPost2 s w) := by
  have HK : Kept [] w w := Kept.refl [] w
  refine C.enter Tryd.func18 rfl Tryd.ntmps18 rfl ?_
  intro a0 f0
  have f1 : Fr 33 a0 [(0, .string s)] := f0
  clear f0
  refine wp_seq_k fun K0 hK0 => ?_
  refine C.region ?_
  refine L.val f1 wantedN rfl (by decide) (E.assign f1 rfl) fun a2 f2 => ?_
  clear f1 a0
  refine wpList_nil (hK0 _ _ ?_)
  try clear hK0 K0
  have f3 := f2.sub (sub_cons (i := 0) rfl (sub_cons (i := 2) rfl sub_nil))
  clear f2
  refine wp_seq_k fun K1 hK1 => ?_
  refine C.region ?_
  refine L.buildSlice f3 wantedN (by decide) (parts1 f3 rfl) Tryd.underlying26 wzi9_tj rfl rfl (wbs26_1_tj _) fun a4 w1 g0 N0 f4 => ?_
  have F1 : Fresh w w1 9 1 (some ⟨g0, 0, none⟩) [(⟨#[]⟩ : ByteArray)].length 1 ([(⟨#[]⟩ : ByteArray)].map Value.string) := fresh_one N0.blk N0.lo
  have Bg0 := N0.blk
  have kg0 := N0.kept
  have log0 := N0.lo
  have ltg0 := Bg0.lt
  have szw1 := kg0.size
  have frg0 : w.heap.size ≤ g0 := Nat.le_trans HK.size log0
  replace HK := HK.trans kg0 (by simp)
  clear N0 kg0
  clear f3 a2
  refine L.val f4 wantedN rfl (by decide) (E.assign f4 rfl) fun a5 f5 => ?_
  clear f4 a4
  refine wpList_nil (hK1 _ _ ?_)
  try clear hK1 K1
  have f6 := f5.sub (sub_cons (i := 0) rfl (sub_cons (i := 2) rfl (sub_cons (i := 3) rfl sub_nil)))
  clear f5
  refine wp_seq_k fun K2 hK2 => ?_
  refine wp_seq_k fun K3 hK3 => ?_
  refine C.region ?_
  refine L.val f6 wantedN rfl (by decide) (E.assign f6 rfl) fun a7 f7 => ?_
  clear f6 a5
  refine wpList_nil (hK3 _ _ ?_)
  try clear hK3 K3
  have f8 := f7.sub (sub_cons (i := 0) rfl (sub_cons (i := 2) rfl (sub_cons (i := 3) rfl (sub_cons (i := 4) rfl sub_nil))))
  clear f7
  refine wp_block ?_
  refine C.loop (fun gk a W => ∃ (k : Nat) (A : Option Addr) (c : Nat) (acc : List ByteArray), k + gk = s.size ∧ 1 ≤ acc.length ∧ acc.length ≤ k + 1 ∧ levGo acc ((s.data.toList).drop k) = lev2 s ∧ (∀ p ∈ acc, p.size ≤ k) ∧ Kept [] w W ∧ Fresh w W 9 1 A acc.length c (acc.map Value.string) ∧ Fr 33 a [(0, .string s), (3, .slice A acc.length c), (4, .int .i64 k)]) (s.size) ?_ ?_
  · exact ⟨0, some ⟨g0, 0, none⟩, 1, [⟨#[]⟩], by omega, by simp, by simp, rfl, fun p hp => by rw [List.mem_singleton.1 hp]; exact Nat.le_refl _, HK, F1, f8.sub (sub_cons rfl (sub_cons rfl (sub_cons rfl sub_nil)))⟩
  · intro gk5 a9 w2 hI KL4 hKL4
    obtain ⟨k, A, c, acc, hk, ha1, hak, hq, hps, HK, F, f9⟩ := hI
    try clear f8
    have hFb : ∀ b, A.map (·.block) = some b → b < w2.heap.size := fun b hb => (F.own.blk b ((own_block _ _ _ b).2 hb)).1
    refine wp_seq_k fun K5 hK5 => ?_
    refine wp_seq_k fun K6 hK6 => ?_
    refine C.region ?_
    refine L.val f9 wantedN rfl (by decide) (E.move f9 rfl) fun a10 f10 => ?_
    clear f9 a9
    refine L.val f10 wantedN rfl (by decide) (E.move f10 rfl) fun a11 f11 => ?_
    clear f10 a10
    refine L.val f11 wantedN rfl (by decide) (E.lenS f11 Tryd.underlying9 rfl) fun a12 f12 => ?_
    clear f11 a11
    refine L.val f12 wantedN rfl (by decide) (E.lss f12 rfl rfl) fun a13 f13 => ?_
    clear f12 a12
    refine wpList_nil (hK6 _ _ ?_)
    try clear hK6 K6
    have f14 := f13.sub (sub_cons (i := 0) rfl (sub_cons (i := 3) rfl (sub_cons (i := 4) rfl (sub_cons (i := 6) rfl (sub_cons (i := 7) rfl (sub_cons (i := 8) rfl (sub_cons (i := 9) rfl sub_nil)))))))
    clear f13
    first | refine f14.splitD 9 rfl (fun h0 f15 => ?_) (fun h0 f15 => ?_) | refine f14.splitN 9 rfl (fun h0 f15 => ?_) (fun h0 f15 => ?_) | refine f14.splitNB 9 rfl (fun h0 f15 => ?_) (fun h0 f15 => ?_) | refine f14.split 9 rfl (fun h0 f15 => ?_) (fun h0 f15 => ?_)
    · clear f14
      obtain ⟨b, hb⟩ : ∃ b, s[k]? = some b := ⟨s[k]'(by omega), getElem?_pos s k (by omega)⟩
      refine C.condT f15 rfl ?_
      refine wp_skip (hK5 _ _ ?_)
      try clear hK5 K5
      have f16 := f15.sub (sub_cons (i := 0) rfl (sub_cons (i := 3) rfl (sub_cons (i := 4) rfl (sub_cons (i := 6) rfl (sub_cons (i := 7) rfl (sub_cons (i := 8) rfl (sub_cons (i := 9) rfl sub_nil)))))))
      clear f15
      refine wp_seq_k fun K7 hK7 => ?_
      refine wp_block ?_
      refine wp_seq_k fun K8 hK8 => ?_
      refine C.region ?_
      refine L.val f16 wantedN rfl (by decide) (E.move f16 rfl) fun a17 f17 => ?_
      clear f16 a13
      refine L.val f17 wantedN rfl (by decide) (E.move f17 rfl) fun a18 f18 => ?_
      clear f17 a17
      refine L.val f18 wantedN rfl (by decide) (E.indexS f18 Tryd.underlying9 rfl rfl (by omega) (by assumption)) fun a19 f19 => ?_
      clear f18 a18
      refine L.val f19 wantedN rfl (by decide) (E.eql f19 rfl rfl) fun a20 f20 => ?_
      clear f19 a19
      refine wpList_nil (hK8 _ _ ?_)
      try clear hK8 K8
      have f21 := f20.sub (sub_cons (i := 0) rfl (sub_cons (i := 3) rfl (sub_cons (i := 4) rfl (sub_cons (i := 6) rfl (sub_cons (i := 7) rfl (sub_cons (i := 8) rfl (sub_cons (i := 9) rfl (sub_cons (i := 12) rfl (sub_cons (i := 13) rfl (sub_cons (i := 14) rfl (sub_cons (i := 15) rfl sub_nil)))))))))))
      clear f20
      first | refine f21.splitD 15 rfl (fun h1 f22 => ?_) (fun h1 f22 => ?_) | refine f21.splitN 15 rfl (fun h1 f22 => ?_) (fun h1 f22 => ?_) | refine f21.splitNB 15 rfl (fun h1 f22 => ?_) (fun h1 f22 => ?_) | refine f21.split 15 rfl (fun h1 f22 => ?_) (fun h1 f22 => ?_)
      · clear f21
        have h15 := h1
        refine C.condT f22 rfl ?_
        refine C.region ?_
        refine L.val f22 wantedN rfl (by decide) (E.move f22 rfl) fun a23 f23 => ?_
        clear f22 a20
        refine L.buildSlice f23 wantedN (by decide) (parts1 f23 rfl) Tryd.underlying26 wzi9_tj rfl rfl (wbs26_1_tj _) fun a24 w3 g2 N2 f24 => ?_
        have Bg2 := N2.blk
        have kg2 := N2.kept
        have log2 := N2.lo
        have ltg2 := Bg2.lt
        have szw3 := kg2.size
        have frg2 : w.heap.size ≤ g2 := Nat.le_trans HK.size log2
        replace HK := HK.trans kg2 (by simp)
        replace F := F.kept0 kg2
        clear N2 kg2
        clear f23 a23
        refine L.append f24 wantedN (by decide) Tryd.underlying26 wzib9_tj rfl rfl rfl rfl (F.own) ((sl_oneS _ _ _ Bg2)) (fun u hu => by simp at hu; subst hu; rfl) (by unfold maxLen; omega) (by omega) fun a25 w4 Ay cy AP4 f25 => ?_
        clear f24 a24
        have FY : Fresh w w4 9 1 Ay (acc.length + 1) cy (acc.map Value.string ++ [.string ⟨#[]⟩]) := AP4.next F HK.size
        replace HK := AP4.grow F HK
        have kap4 := AP4.kept
        have szw4 := kap4.size
        clear kap4
        refine L.val f25 wantedN rfl (by decide) (E.assign f25 rfl) fun a26 f26 => ?_
        clear f25 a25
        refine wpList_nil (hK7 _ _ ?_)
        try clear hK7 K7
        have f27 := f26.sub (sub_cons (i := 0) rfl (sub_cons (i := 3) rfl (sub_cons (i := 4) rfl (sub_cons (i := 6) rfl (sub_cons (i := 7) rfl (sub_cons (i := 8) rfl (sub_cons (i := 9) rfl (sub_cons (i := 12) rfl (sub_cons (i := 13) rfl (sub_cons (i := 14) rfl (sub_cons (i := 15) rfl (sub_cons (i := 16) rfl (sub_cons (i := 17) rfl (sub_cons (i := 18) rfl sub_nil))))))))))))))
        clear f26
        refine C.region ?_
        refine L.val f27 wantedN rfl (by decide) (E.move f27 rfl) fun a28 f28 => ?_
        clear f27 a26
        refine L.val f28 wantedN rfl (by decide) (E.add f28 rfl rfl (IntWalk.i64_in _ (by omega))) fun a29 f29 => ?_
        clear f28 a28
        refine L.val f29 wantedN rfl (by decide) (E.assign f29 rfl) fun a30 f30 => ?_
        clear f29 a29
        refine wpList_nil (hKL4 _ _ (gk5 - 1) ?_ ?_)
        · omega
        · exact ⟨k + 1, Ay, cy, acc ++ [⟨#[]⟩], by omega, by simp, by simp; omega, (lev_next1 hb h15).trans hq, szs1 hps, HK, by simpa using FY, f30.sub (sub_cons rfl (sub_cons (by rw [List.length_append]; rfl) (sub_cons rfl sub_nil)))⟩
      · clear f21
        have h15 := h1
        obtain ⟨x, hx⟩ : ∃ x, acc[acc.length - 1]? = some x := ⟨acc[acc.length - 1]'(by omega), List.getElem?_eq_getElem _⟩
        obtain ⟨bk, off, hA⟩ := F.sl.addr (by omega)
        have hxs := hps x (List.mem_of_getElem? hx)
        refine C.condF f22 rfl ?_
        refine RB.begin (S := fun W => Kept [] w2 W) 12 (by kernel_rfl) (by exact (Kept.refl _ _).drewN 1) ?_
        have hS7 : Kept [] w2 (w2.drewN 1) := (Kept.refl _ _).drewN 1
        have hd7 : Kept [] w2 (w2.drewN 1) := (Kept.refl _ _).drewN 1
        obtain ⟨w3, hww3⟩ : ∃ W, W = w2.drewN 1 := ⟨_, rfl⟩
        rw [← hww3] at hS7 hd7 ⊢
        clear hww3
        have szw3 := hS7.size
        refine RB.take 0 f22 rfl rfl (by decide) (by kernel_rfl) (by kernel_rfl) (by kernel_rfl) (by kernel_rfl) (fun _ _ _ _ h => h) wantedN hS7 (fun W hW => (E.move f22 rfl)) fun a23 f23 => ?_
        clear f22 a20
        refine RB.take 1 f23 rfl rfl (by decide) (by kernel_rfl) (by kernel_rfl) (by kernel_rfl) (by kernel_rfl) (fun _ _ _ _ h => h) wantedN hS7 (fun W hW => (E.move f23 rfl)) fun a24 f24 => ?_
        clear f23 a23
        refine RB.take 2 f24 rfl rfl (by decide) (by kernel_rfl) (by kernel_rfl) (by kernel_rfl) (by kernel_rfl) (fun _ _ _ _ h => h) wantedN hS7 (fun W hW => (E.lenL f24 Tryd.underlying26 rfl)) fun a25 f25 => ?_
        clear f24 a24
        refine RB.take 3 f25 rfl rfl (by decide) (by kernel_rfl) (by kernel_rfl) (by kernel_rfl) (by kernel_rfl) (fun _ _ _ _ h => h) wantedN hS7 (fun W hW => (E.sub f25 rfl rfl (IntWalk.i64_in _ (by omega)))) fun a26 f26 => ?_
        clear f25 a25
        refine RB.take 4 f26 rfl rfl (by decide) (by kernel_rfl) (by kernel_rfl) (by kernel_rfl) (by kernel_rfl) (fun _ _ _ _ h => h) wantedN hS7 (fun W hW => (E.indexA f26 (by first | rfl | assumption) Tryd.underlying26 wsz9_tj rfl rfl (by omega) (by omega))) fun a27 f27 => ?_
        clear f26 a26
        refine RB.take 5 f27 rfl rfl (by decide) (by kernel_rfl) (by kernel_rfl) (by kernel_rfl) (by kernel_rfl) (fun _ _ _ _ h => h) wantedN hS7 (fun W hW => (by exact E.load f27 Tryd.underlying9 rfl rfl (last_cell (F.kept0 hW) hA hx ha1))) fun a28 f28 => ?_
        clear f27 a27
        refine RB.take 6 f28 rfl rfl (by decide) (by kernel_rfl) (by kernel_rfl) (by kernel_rfl) (by kernel_rfl) (fun _ _ _ _ h => h) wantedN hS7 (fun W hW => (E.move f28 rfl)) fun a29 f29 => ?_
        clear f28 a28
        refine RB.take 7 f29 rfl rfl (by decide) (by kernel_rfl) (by kernel_rfl) (by kernel_rfl) (by kernel_rfl) (fun _ _ _ _ h => h) wantedN hS7 (fun W hW => (E.move f29 rfl)) fun a30 f30 => ?_
        clear f29 a29
        refine RB.take 8 f30 rfl rfl (by decide) (by kernel_rfl) (by kernel_rfl) (by kernel_rfl) (by kernel_rfl) (fun _ _ _ _ h => h) wantedN hS7 (fun W hW => (E.move f30 rfl)) fun a31 f31 => ?_
        clear f30 a30
        refine RB.take 9 f31 rfl rfl (by decide) (by kernel_rfl) (by kernel_rfl) (by kernel_rfl) (by kernel_rfl) (fun _ _ _ _ h => h) wantedN hS7 (fun W hW => (E.add f31 rfl rfl (IntWalk.i64_in _ (by omega)))) fun a32 f32 => ?_
        clear f31 a31
        refine RB.take 10 f32 rfl rfl (by decide) (by kernel_rfl) (by kernel_rfl) (by kernel_rfl) (by kernel_rfl) (fun _ _ _ _ h => h) wantedN hS7 (fun W hW => (E.slS f32 Tryd.underlying9 rfl rfl rfl (by omega) (by omega) (by omega) )) fun a33 f33 => ?_
        clear f32 a32
        refine RB.take 11 f33 rfl rfl (by decide) (by kernel_rfl) (by kernel_rfl) (by kernel_rfl) (by kernel_rfl) (fun _ _ _ _ h => h) wantedN hS7 (fun W hW => (E.addS f33 rfl rfl (by rw [ByteArray.size_extract]; omega))) fun a34 f34 => ?_
        clear f33 a33
        refine RB.stop (by kernel_rfl) ?_
        have szw3r := hS7.size
        replace HK := HK.trans hS7 (by simp)
        replace F := F.kept0 hS7
        clear hS7
        refine R.take 12 f34 rfl rfl (by decide) (by kernel_rfl) (by kernel_rfl) (by kernel_rfl) (fun _ _ _ _ h => h) wantedN trivial (fun W hW => (E.indexA f34 (by first | rfl | assumption) Tryd.underlying26 wsz9_tj rfl rfl (by omega) (by omega))) fun a35 f35 => ?_
        clear f34 a34
        refine R.one 13 (by kernel_rfl) ?_
        refine OT.storeF f35 rfl wantedN wsz9_tj hA F (j := acc.length - 1) rfl (by omega) (by rw [List.length_map]; omega) rfl rfl fun a36 w4 f36 FS ks loS => ?_
        clear f35 a35
        have szw4 := ks.size
        replace HK := HK.trans ks (by intro x hx hlt; simp at hx; subst hx; exfalso; omega)
        replace F := FS
        refine R.done (by kernel_rfl) (hK7 _ _ ?_)
        try clear hK7 K7
        have f37 := f36.sub (sub_cons (i := 0) rfl (sub_cons (i := 3) rfl (sub_cons (i := 4) rfl (sub_cons (i := 6) rfl (sub_cons (i := 7) rfl (sub_cons (i := 8) rfl (sub_cons (i := 9) rfl (sub_cons (i := 12) rfl (sub_cons (i := 13) rfl (sub_cons (i := 14) rfl (sub_cons (i := 15) rfl (sub_cons (i := 19) rfl (sub_cons (i := 20) rfl (sub_cons (i := 21) rfl (sub_cons (i := 22) rfl (sub_cons (i := 23) rfl (sub_cons (i := 24) rfl (sub_cons (i := 25) rfl (sub_cons (i := 26) rfl (sub_cons (i := 27) rfl (sub_cons (i := 28) rfl (sub_cons (i := 29) rfl (sub_cons (i := 30) rfl (sub_cons (i := 31) rfl sub_nil))))))))))))))))))))))))
        clear f36
        refine C.region ?_
        refine L.val f37 wantedN rfl (by decide) (E.move f37 rfl) fun a38 f38 => ?_
        clear f37 a36
        refine L.val f38 wantedN rfl (by decide) (E.add f38 rfl rfl (IntWalk.i64_in _ (by omega))) fun a39 f39 => ?_
        clear f38 a38
        refine L.val f39 wantedN rfl (by decide) (E.assign f39 rfl) fun a40 f40 => ?_
        clear f39 a39
        refine wpList_nil (hKL4 _ _ (gk5 - 1) ?_ ?_)
        · omega
        · exact ⟨k + 1, A, c, acc.set (acc.length - 1) (x ++ s.extract k (k + 1)), by omega, by simp; omega, by simp; omega, (lev_next2 hb hx h15).trans hq, szs2 hps hxs, HK, by simpa using F, f40.sub (sub_cons rfl (sub_cons (by rw [List.length_set]; rfl) (sub_cons rfl sub_nil)))⟩
    · clear f14
      have hend := h0
      refine C.condF f15 rfl ?_
      refine wp_exit (hK2 _ _ ?_)
      try clear hK2 K2
      have f16 := f15.sub (sub_cons (i := 3) rfl sub_nil)
      clear f15
      refine wp_seq_k fun K9 hK9 => ?_
      refine C.region ?_
      refine L.val f16 wantedN rfl (by decide) (E.move f16 rfl) fun a17 f17 => ?_
      clear f16 a13
      refine L.val f17 wantedN rfl (by decide) (E.assign f17 rfl) fun a18 f18 => ?_
      clear f17 a17
      refine wpList_nil (hK9 _ _ ?_)
      try clear hK9 K9
      have f19 := f18.sub (sub_cons (i := 2) rfl sub_nil)
      clear f18
      refine wp_ret ?_
      try simp only [Exit.inBlock, Exit.then]
      refine C.ret (P := Tryd.prog) (fn := Tryd.f18) f19 rfl rfl ?_
      rw [List.drop_eq_nil_of_le (by have : s.data.toList.length = s.size := rfl; omega)] at hq
      have e : lev2 s = acc := hq.symm
      obtain ⟨A', c', e1, e2, _⟩ := F.own.form
      injection e1 with e1 e3 e4
      exact ⟨HK, A, c, by rw [e], by rw [e]; exact ss_fresh F, by rw [e]; omega, by rw [e]; exact ha1, by rw [e]; omega⟩

end Go.Proofs.YtpdacegpjofdeaaDoor
