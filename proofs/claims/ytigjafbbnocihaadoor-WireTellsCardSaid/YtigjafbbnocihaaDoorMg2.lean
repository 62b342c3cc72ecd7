/- Merged by program (shrink.py): contracts and plain laws that the claim's statement uses, part 2. -/
import Derived.Test.YtigjafbbnocihaaDoorMg1
set_option linter.all false

namespace Go.Hub
open Go.RowKit
def readyAt (md : Region.Mode) (ops : Array Oper) (listed : Array Bool) (i : Nat) : Bool :=
  Nat.blt i ops.size && (!listed.getD i true && ((ops[i]?).map (·.after.all fun e => !Region.binds md e || listed.getD e.on false)).getD false)
def waits (md : Region.Mode) (o : Oper) (i : Nat) : Bool := o.after.any fun e => Region.binds md e && e.on == i
def tame (md : Region.Mode) (ops : Array Oper) : Bool := (List.range ops.size).all fun i => match ops[i]? with
  | none => false
  | some oi => (List.range ops.size).all fun j => j == i || match ops[j]? with
    | some oj => waits md oj i || waits md oi j || oi.apart ops oj
    | none => true
theorem readyAt_spec {md : Region.Mode} {ops : Array Oper} {listed : Array Bool} {i : Nat} (h : readyAt md ops listed i = true) : (Region.ready md ops listed).contains i = true := by
  unfold readyAt at h
  rw [Bool.and_eq_true] at h
  rw [List.contains_iff_mem]
  exact List.mem_filter.2 ⟨List.mem_range.2 (Nat.le_of_ble_eq_true h.1), h.2⟩
theorem free_of_tame {md : Region.Mode} {ops : Array Oper} {listed : Array Bool} {i : Nat} (ht : tame md ops = true) (h : readyAt md ops listed i = true) : Region.free md ops listed i = true := by
  unfold readyAt at h
  rw [Bool.and_eq_true, Bool.and_eq_true] at h
  obtain ⟨h1, h2, h3⟩ := h
  unfold Region.free
  have ht1 := List.all_eq_true.1 ht i (List.mem_range.2 (Nat.le_of_ble_eq_true h1))
  cases hi : ops[i]? with
  | none => rw [hi] at h3; simp at h3
  | some oi =>
    rw [hi] at ht1 h3
    simp only [Option.map_some, Option.getD_some] at h3
    simp only at ht1 ⊢
    refine List.all_eq_true.2 fun j hj => ?_
    have h4 := List.all_eq_true.1 ht1 j hj
    rw [Bool.or_eq_true] at h4
    rcases h4 with h4 | h4
    · simp [h4]
    · cases hoj : ops[j]? with
      | none => simp
      | some oj =>
        rw [hoj] at h4
        simp only [Bool.or_eq_true] at h4 ⊢
        rcases h4 with (h4 | h4) | h4
        · exact .inr (.inl h4)
        · refine .inl (.inr ?_)
          unfold waits at h4
          obtain ⟨e, he, hb⟩ := Array.any_eq_true'.1 h4
          rw [Bool.and_eq_true] at hb
          have h5 := Array.all_eq_true_iff_forall_mem.1 h3 e he
          have hon : e.on = j := by simpa using hb.2
          rw [hb.1, hon] at h5
          simp only [Bool.not_true, Bool.false_or] at h5
          rcases Nat.lt_or_ge j listed.size with hl | hl
          · simp [hl] at h5 ⊢; exact h5
          · simp [Array.getElem?_eq_none hl] at h5
        · exact .inr (.inr h4)
section
variable {P : Program} {ops : Array Oper} {Q : Exit → Act → World → Prop} {md : Region.Mode} {S : World → Prop} {a : Act} {w w' : World} {n d : Nat} {l : FL} {v : Value} {o : Oper}
theorem R.beginT {id : Nat} (hm : P.follows .mixedOrders = true) (hc : (Region.noSelect ops && tame .any ops) = true) (hS : S (w.drewN 1))
    (h : (Region.noSelect ops = true ∧ tame .any ops = true) → wpAnyH P .any ops Q S ops.size (Array.replicate ops.size false) a (w.drewN 1)) : (Code.region id ops true).wp P Q a w := R.begin hm hS (h (by simpa using hc))
theorem R.u (i : Nat) {fuel : Nat} {listed : Array Bool} (f : Fr n a l) (hi : ops[i]? = some o) (ht : Region.noSelect ops = true ∧ tame md ops = true) (hS : S w) (hv : ∀ w, S w → (execOp a.eval o).run P w = .ok (.value v) w)
    (hK : ∀ a', Fr n a' ((d, v) :: l) → wpAnyH P md ops Q S fuel (listed.setIfInBounds i true) a' w) (hw : Region.wanted o (yielded ops a.tmps) = true := by exact wantedN) (hd : o.dst = some d := by rfl) (hn : d < n := by decide)
    (hr : readyAt md ops listed i = true := by kernel_rfl)
    (hQ : ∀ c (a : Act) (u : Value) w, Q (.panic c) (a.put (some d) u) w → Q (.panic c) a w := by exact fun _ _ _ _ h => h) : wpAnyH P md ops Q S (fuel + 1) listed a w := R.take i f hi hd hn ht.1 (free_of_tame ht.2 hr) (readyAt_spec hr) hQ hw hS hv hK
theorem R.us (i : Nat) {fuel : Nat} {listed : Array Bool} (f : Fr n a l) (hi : ops[i]? = some o) (ht : Region.noSelect ops = true ∧ tame md ops = true) (hS : S w) (hw : Region.wanted o (yielded ops a.tmps) = false)
    (hK : ∀ a', Fr n a' ((d, undef) :: l) → wpAnyH P md ops Q S fuel (listed.setIfInBounds i true) a' w) (hd : o.dst = some d := by rfl) (hn : d < n := by decide)
    (hr : readyAt md ops listed i = true := by kernel_rfl)
    (hQ : ∀ c (a : Act) (u : Value) w, Q (.panic c) (a.put (some d) u) w → Q (.panic c) a w := by exact fun _ _ _ _ h => h) : wpAnyH P md ops Q S (fuel + 1) listed a w := R.takeSkip i f hi hd hn ht.1 (free_of_tame ht.2 hr) (readyAt_spec hr) hQ hw hS hK
end
def runT (md : Region.Mode) (ops : Array Oper) (n : Nat) : List Nat → FL → Array Bool → FL × Array Bool × Bool
  | [], l, listed => (l, listed, true)
  | i :: r, l, listed => match ops[i]? with
    | none => (l, listed, false)
    | some o => match o.dst, stepS ops n l o with
      | some _, some l' => bif readyAt md ops listed i then runT md ops n r l' (listed.setIfInBounds i true) else (l, listed, false)
      | _, _ => (l, listed, false)
section
variable {P : Program} {ops : Array Oper} {Q : Exit → Act → World → Prop} {md : Region.Mode} {S : World → Prop} {a : Act} {w : World} {n : Nat} {l : FL}
theorem R.runAllT (ht : Region.noSelect ops = true ∧ tame md ops = true) (hQ : ∀ c (a : Act) (x : Nat × Value) w, Q (.panic c) (a.put (some x.1) x.2) w → Q (.panic c) a w) (hS : S w) {fuel : Nat} : ∀ (is : List Nat) (l : FL) (listed : Array Bool) (a : Act), Fr n a l → (runT md ops n is l listed).2.2 = true →
    (∀ a', Fr n a' (runT md ops n is l listed).1 → wpAnyH P md ops Q S fuel (runT md ops n is l listed).2.1 a' w) → wpAnyH P md ops Q S (fuel + is.length) listed a w
  | [], l, listed, a, f, _, hK => hK a f
  | i :: r, l, listed, a, f, hd, hK => by
    unfold runT at hd hK
    cases ho : ops[i]? with
    | none => simp only [ho] at hd; cases hd
    | some o =>
      simp only [ho] at hd hK
      cases hdst : o.dst with
      | none => simp only [hdst] at hd; cases hd
      | some d =>
        cases hst : stepS ops n l o with
        | none => simp only [hdst, hst] at hd; cases hd
        | some l' =>
          simp only [hdst, hst] at hd hK
          cases hc : readyAt md ops listed i
          · simp only [hc] at hd; cases hd
          · simp only [hc, cond_true] at hd hK
            have hc' : Region.free md ops listed i = true ∧ (Region.ready md ops listed).contains i = true := ⟨free_of_tame ht.2 hc, readyAt_spec hc⟩
            rw [List.length_cons, ← Nat.add_assoc]
            unfold stepS at hst
            split at hst
            · cases hst
            · rename_i hg
              rw [hdst] at hst
              simp only at hst
              cases hb : Nat.blt d n
              · rw [hb] at hst; cases hst
              · rw [hb] at hst
                cases hst
                exact R.takeSkip i f ho hdst (by simpa [Nat.blt_eq] using hb) ht.1 hc'.1 hc'.2 (fun c a u w => hQ c a (d, u) w) (gd_spec f hg) hS fun a' f' => R.runAllT ht hQ hS r _ _ a' f' hd hK
            · rename_i hg
              rw [hdst] at hst
              cases hv : simpleOp l o.op with
              | none => simp [hv] at hst
              | some v =>
                simp only [hv] at hst
                cases hb : Nat.blt d n
                · rw [hb] at hst; cases hst
                · rw [hb] at hst
                  cases hst
                  exact R.take i f ho hdst (by simpa [Nat.blt_eq] using hb) ht.1 hc'.1 hc'.2 (fun c a u w => hQ c a (d, u) w) (gd_spec f hg) hS (fun w _ => simpleOp_spec f hv) fun a' f' => R.runAllT ht hQ hS r _ _ a' f' hd hK
theorem runT_look (i : Nat) : ∀ (is : List Nat) (l : FL) (listed : Array Bool), dstInD ops i is = false → look (runT md ops n is l listed).1 i = look l i
  | [], l, listed, _ => rfl
  | j :: r, l, listed, h => by
    unfold dstInD at h
    rw [Bool.or_eq_false_iff] at h
    unfold runT
    cases ho : ops[j]? with
    | none => rfl
    | some o =>
      simp only
      cases hdst : o.dst with
      | none => rfl
      | some d =>
        cases hst : stepS ops n l o with
        | none => rfl
        | some l' =>
          simp only
          cases hc : readyAt md ops listed j
          · rfl
          · simp only [cond_true]
            rw [runT_look i r l' _ h.2]
            have h1 := h.1
            rw [ho] at h1
            simp only [Option.bind_some, hdst] at h1
            exact stepS_look hst hdst h1
theorem R.runT (is : List Nat) {listed : Array Bool} (listed' : Array Bool) {fuel : Nat} (f : Fr n a l) (ht : Region.noSelect ops = true ∧ tame md ops = true) (hQ : ∀ c (a : Act) (x : Nat × Value) w, Q (.panic c) (a.put (some x.1) x.2) w → Q (.panic c) a w) (hS : S w)
    (h : ((runT md ops n is l listed).2.2 && ((runT md ops n is l listed).2.1 == listed')) = true) (hK : ∀ a', Fr n a' (runT md ops n is l listed).1 → wpAnyH P md ops Q S fuel listed' a' w) : wpAnyH P md ops Q S (fuel + is.length) listed a w := by
  rw [Bool.and_eq_true] at h
  refine R.runAllT ht hQ hS is l listed a f h.1 ?_
  rw [eq_of_beq h.2]
  exact hK
theorem Fr.keptT {is : List Nat} {listed : Array Bool} (f : Fr n a (runT md ops n is l listed).1) {i : Nat} {v : Value} (hd : dstInD ops i is = false) (h : look l i = some v) : look (runT md ops n is l listed).1 i = some v := (runT_look i is l listed hd).trans h
end
end Go.Hub
namespace Go.Proofs.YtigjafbbnocihaaDoor
open Go.RowKit Go.Hub Go.Lib Go.Vl
theorem wsz3_wb : (Tryd.prog.info? 3).map (·.size) = some 1 := by kernel_rfl
theorem wsz4_wb : (Tryd.prog.info? 4).map (·.size) = some 1 := by kernel_rfl
theorem wsz9_wb : (Tryd.prog.info? 9).map (·.size) = some 1 := by kernel_rfl
theorem wsz22_wb : (Tryd.prog.info? 22).map (·.size) = some 1 := by kernel_rfl
theorem wsz24_wb : (Tryd.prog.info? 24).map (·.size) = some 4 := by kernel_rfl
theorem wsz25_wb : (Tryd.prog.info? 25).map (·.size) = some 1 := by kernel_rfl
theorem wsz26_wb : (Tryd.prog.info? 26).map (·.size) = some 1 := by kernel_rfl
theorem wsz28_wb : (Tryd.prog.info? 28).map (·.size) = some 24 := by kernel_rfl
theorem wsz70_wb : (Tryd.prog.info? 70).map (·.size) = some 2 := by kernel_rfl
theorem same_eq (p q : Pk) : samePk p q = (decide (p.kind = q.kind) && (p.dup == q.dup) && (p.retain == q.retain) && decide (p.qos = q.qos) && decide (p.id = q.id) && decide (p.topic = q.topic) && decide (p.pay = q.pay) && greetB p q && willB p q && decide (p.subs = q.subs) && decide (p.codes = q.codes)) := rfl
theorem willB_refl (p : Pk) : willB p p = true := by simp [willB]
theorem will_row {w : World} {g : Nat} {t : TypeId} {p : Pk} {s : Ad} (B : Blk w g t (p.cells s)) : w.rangeAt g (0 + 12) [.string p.wt, .slice s.wa p.wp.length s.wc, .int .i64 p.wq, .bool p.wr] := fun j u hj => by
  match j, hj with
  | 0, hj => simp at hj; subst hj; exact B.cl rfl
  | 1, hj => simp at hj; subst hj; exact B.cl rfl
  | 2, hj => simp at hj; subst hj; exact B.cl rfl
  | 3, hj => simp at hj; subst hj; exact B.cl rfl
  | j + 4, hj => simp at hj
theorem toList_len (s : ByteArray) : s.toList.length = s.size := by rw [ByteArray.toList_eq]; rfl
theorem tx_t {s : ByteArray} (h2 : s.size ≤ 65535) : txB s = decide (chk s.toList < 0) := by simp [txB, h2]
theorem tx_f {s : ByteArray} (h : ¬ s.size ≤ 65535) : txB s = false := by simp [txB, h]
section
variable {P : Program} {ops : Array Oper} {rest : List Oper} {a : Act} {w : World} {Q : Exit → Act → World → Prop} {n d : Nat} {l : FL} {ty : TypeId} {ps : String} {af : Array Edge} {gd : Option (Nat × Bool)} {x : Operand} {src dst u8t : TypeId}
theorem L.convSB (f : Fr n a l) (hw : Region.wanted ⟨some d, .convert src dst x, ty, ps, af, gd⟩ (yielded ops a.tmps) = true) (hn : d < n) (hs : P.underlying src = some .string) (hd : P.underlying dst = some (.slice 5)) (he : P.underlying 5 = some (.int .u8)) {s : ByteArray} (hx : evl l x = some (.string s))
    (hm : s.size ≤ 1000000) (hK : ∀ a' w' c, Fr n a' ((d, .slice (some ⟨w.heap.size, 0, none⟩) s.toList.length c) :: l) → (s.toList.length ≤ c ∧ c ≤ maxLen) → Bs [5] w'.heap.size w' (some ⟨w.heap.size, 0, none⟩) s.toList.length s.toList → Kept [] w w' → wpList P ops Q rest a' w') : wpList P ops Q (⟨some d, .convert src dst x, ty, ps, af, gd⟩ :: rest) a w := by
  have h := run_bytes_of_string (P := P) w src dst 5 s hs hd he
  refine L.val (v := .slice (some ⟨w.heap.size, 0, none⟩) s.size (grownCap w s.size 0 5)) (w' := w.drew.alloc (.cells (bytesRow s (grownCap w s.size 0 5)) 5 ((bytesRow s (grownCap w s.size 0 5)).size, (bytesRow s (grownCap w s.size 0 5)).size + 1))) f hw rfl hn (by simp only [execOp, f.ev hx, Sem.run_bind, h, Result.andThen, Sem.run_pure]) fun a' f' => hK a' _ (grownCap w s.size 0 5) (by rw [toList_len]; exact f') ?_ ?_ ?_
  · rw [toList_len]
    exact ⟨grownCap_ge _ _ _ _, grownCap_le_maxLen _ _ _ _ (by unfold maxLen; omega)⟩
  · rw [ByteArray.toList_eq]
    exact bs_conv [5] _ w s 5 (by simp) _ _
  exact ((Kept.refl [] w).drewN 1).alloc _
end
theorem in_take {α : Type} {l : List α} {k : Nat} {d : α} {p : α → Prop} (h : ∀ x ∈ l.take k, p x) (hd : l[k]? = some d) (hp : p d) : ∀ x ∈ l.take (k + 1), p x := fun x hx => by
  rw [List.take_add_one, hd] at hx
  rcases List.mem_append.1 hx with hx | hx
  · exact h x hx
  simp at hx; subst hx; exact hp
theorem all_take {α : Type} {l : List α} {k : Nat} {p : α → Prop} (h : ∀ x ∈ l.take k, p x) (hk : l.length ≤ k) : ∀ x ∈ l, p x := by rwa [List.take_of_length_le hk] at h
theorem subB_t {m : Int} {l : List (ByteArray × Int)} (h : ∀ x ∈ l, (txB x.1 && inB x.2 0 m) = true) : subB m l = true := List.all_eq_true.2 h
theorem subB_f {m : Int} {l : List (ByteArray × Int)} {d : ByteArray × Int} (hd : d ∈ l) (h : (txB d.1 && inB d.2 0 m) = false) : subB m l = false := List.all_eq_false.2 ⟨d, hd, by simp [h]⟩
theorem codB_t {l : List Int} (h : ∀ x ∈ l, (inB x 0 2 || decide (x = 128)) = true) : codB l = true := List.all_eq_true.2 h
theorem codB_f {l : List Int} {d : Int} (hd : d ∈ l) (h : (inB d 0 2 || decide (d = 128)) = false) : codB l = false := List.all_eq_false.2 ⟨d, hd, by simp [h]⟩
theorem con_eq {r : Int} {l : List Int} (h : 0 ≤ r ↔ codB l = false) : decide (0 ≤ r) = !codB l := by
  by_cases hr : 0 ≤ r
  · rw [h.1 hr]; simp [hr]
  have : codB l = true := by
    cases hc : codB l
    · exact absurd (h.2 hc) hr
    rfl
  rw [this]; simp [hr]
theorem flg_bd (b : Bool) (n : Int) (h : 0 ≤ n) : 0 ≤ flg b n ∧ flg b n ≤ n := by cases b <;> simp [flg] <;> omega
def BarePost (p : Pk) (w : World) (e : Ending) (w' : World) : Prop := Kept [] w w' ∧ ∃ t, e = .returned (.agg ((bareP p).cells t)) ∧ (bareP p).In w' t
set_option maxHeartbeats 1000000 in
theorem same_any (p q : Pk) (s t : Ad) (w : World) (IP : p.In w s) (IQ : q.In w t) (hl : p.subs.length ≤ 1000000) (hl2 : p.codes.length ≤ 1000000) : Calls Tryd.prog 21 #[.agg (p.cells s), .agg (q.cells t)] w (fun e w' => Kept [] w w' ∧ e = .returned (.bool (samePk p q))) := by
 have HK : Kept [] w w := Kept.refl [] w
 refine C.enter Tryd.func21 rfl Tryd.ntmps21 rfl ?_
 intro a0 f0
 have f1 : Fr 78 a0 [(0, .agg (p.cells s)), (1, .agg (q.cells t))] := f0
 refine C.sk fun K0 hK0 => ?_
 refine L.box f1 wantedN (by decide) rfl rfl fun a2 w1 g0 N0 f2 => ?_
 have Bg0 := N0.blk
 have kg0 := N0.kept
 have log0 := N0.lo
 have ltg0 := Bg0.lt
 have szw1 := kg0.size
 have frg0 : w.heap.size ≤ g0 := Nat.le_trans HK.size log0
 replace HK := HK.trans kg0 (by simp)
 clear f0 N0 kg0
 refine L.box f2 wantedN (by decide) rfl rfl fun a3 w2 g1 N1 f3 => ?_
 have Bg1 := N1.blk
 have kg1 := N1.kept
 have log1 := N1.lo
 have ltg1 := Bg1.lt
 have szw2 := kg1.size
 have frg1 : w.heap.size ≤ g1 := Nat.le_trans HK.size log1
 have neg0_g1 : g0 ≠ g1 := by have := Bg0.lt; omega
 replace HK := HK.trans kg1 (by simp)
 replace Bg0 := Bg0.kept kg1 (by simp)
 clear f1 a0 N1 kg1
 refine L.ag f3 fun a4 f4 => ?_
 refine wpList_nil (hK0 _ _ ?_)
 have f5 := f4.sub (sc 2 (sc 3 sn))
 refine C.sk fun K1 hK1 => ?_
 refine L.fa 0 f5 U28 rfl wsz3_wb fun a6 f6 => ?_
 refine L.ld f6 U3 Bg0 fun a7 f7 => ?_
 refine L.fa 0 f7 U28 rfl wsz3_wb fun a8 f8 => ?_
 refine L.ld f8 U3 Bg1 fun a9 f9 => ?_
 refine L.va f9 (E.eq f9) fun a10 f10 => ?_
 clear f2 a2 f3 a3 f4 f5 a4 f6 a6 f7 a7 f8 a8 f9 a9
 refine L.mv f10 fun a11 f11 => ?_
 clear f10 a10
 refine f11.splitD 10 rfl (fun h0 f12 => ?_) (fun h0 f12 => ?_)
 ·refine L.fa 1 f12 U28 rfl wsz4_wb (hw := (f12.yes rfl rfl)) fun a13 f13 => ?_
  refine L.ld f13 U4 Bg0 (hw := (f13.yes rfl rfl)) fun a14 f14 => ?_
  refine L.fa 1 f14 U28 rfl wsz4_wb (hw := (f14.yes rfl rfl)) fun a15 f15 => ?_
  refine L.ld f15 U4 Bg1 (hw := (f15.yes rfl rfl)) fun a16 f16 => ?_
  refine L.va f16 (E.eqlB f16 U4 rfl rfl) (hw := (f16.yes rfl rfl)) fun a17 f17 => ?_
  refine L.va f17 (E.pickT f17 rfl rfl) fun a18 f18 => ?_
  refine L.mv f18 fun a19 f19 => ?_
  clear f11 f12 a11 f13 a13 f14 a14 f15 a15 f16 a16 f17 a17 f18 a18
  refine f19.splitD 17 rfl (fun h1 f20 => ?_) (fun h1 f20 => ?_)
  ·refine L.fa 2 f20 U28 rfl wsz4_wb (hw := (f20.yes rfl rfl)) fun a21 f21 => ?_
   refine L.ld f21 U4 Bg0 (hw := (f21.yes rfl rfl)) fun a22 f22 => ?_
   refine L.fa 2 f22 U28 rfl wsz4_wb (hw := (f22.yes rfl rfl)) fun a23 f23 => ?_
   refine L.ld f23 U4 Bg1 (hw := (f23.yes rfl rfl)) fun a24 f24 => ?_
   refine L.va f24 (E.eqlB f24 U4 rfl rfl) (hw := (f24.yes rfl rfl)) fun a25 f25 => ?_
   refine L.va f25 (E.pickT f25 rfl rfl) fun a26 f26 => ?_
   refine L.mv f26 fun a27 f27 => ?_
   clear f19 f20 a19 f21 a21 f22 a22 f23 a23 f24 a24 f25 a25 f26 a26
   refine f27.splitD 24 rfl (fun h2 f28 => ?_) (fun h2 f28 => ?_)
   ·refine L.fa 3 f28 U28 rfl wsz3_wb (hw := (f28.yes rfl rfl)) fun a29 f29 => ?_
    refine L.ld f29 U3 Bg0 (hw := (f29.yes rfl rfl)) fun a30 f30 => ?_
    refine L.fa 3 f30 U28 rfl wsz3_wb (hw := (f30.yes rfl rfl)) fun a31 f31 => ?_
    refine L.ld f31 U3 Bg1 (hw := (f31.yes rfl rfl)) fun a32 f32 => ?_
    refine L.va f32 (E.eq f32) (hw := (f32.yes rfl rfl)) fun a33 f33 => ?_
    refine L.va f33 (E.pickT f33 rfl rfl) fun a34 f34 => ?_
    refine L.mv f34 fun a35 f35 => ?_
    clear f27 f28 a27 f29 a29 f30 a30 f31 a31 f32 a32 f33 a33 f34 a34
    refine f35.splitD 31 rfl (fun h3 f36 => ?_) (fun h3 f36 => ?_)
    ·refine L.fa 4 f36 U28 rfl wsz3_wb (hw := (f36.yes rfl rfl)) fun a37 f37 => ?_
     refine L.ld f37 U3 Bg0 (hw := (f37.yes rfl rfl)) fun a38 f38 => ?_
     refine L.fa 4 f38 U28 rfl wsz3_wb (hw := (f38.yes rfl rfl)) fun a39 f39 => ?_
     refine L.ld f39 U3 Bg1 (hw := (f39.yes rfl rfl)) fun a40 f40 => ?_
     refine L.va f40 (E.eq f40) (hw := (f40.yes rfl rfl)) fun a41 f41 => ?_
     refine L.va f41 (E.pickT f41 rfl rfl) fun a42 f42 => ?_
     refine L.mv f42 fun a43 f43 => ?_
     clear f35 f36 a35 f37 a37 f38 a38 f39 a39 f40 a40 f41 a41 f42 a42
     refine f43.splitD 38 rfl (fun h4 f44 => ?_) (fun h4 f44 => ?_)
     ·refine L.fa 5 f44 U28 rfl wsz9_wb (hw := (f44.yes rfl rfl)) fun a45 f45 => ?_
      refine L.ld f45 U9 Bg0 (hw := (f45.yes rfl rfl)) fun a46 f46 => ?_
      refine L.fa 5 f46 U28 rfl wsz9_wb (hw := (f46.yes rfl rfl)) fun a47 f47 => ?_
      refine L.ld f47 U9 Bg1 (hw := (f47.yes rfl rfl)) fun a48 f48 => ?_
      refine L.va f48 (E.eqlS f48 rfl rfl) (hw := (f48.yes rfl rfl)) fun a49 f49 => ?_
      refine L.va f49 (E.pickT f49 rfl rfl) fun a50 f50 => ?_
      refine L.mv f50 fun a51 f51 => ?_
      clear f43 f44 a43 f45 a45 f46 a46 f47 a47 f48 a48 f49 a49 f50 a50
      refine f51.splitD 45 rfl (fun h5 f52 => ?_) (fun h5 f52 => ?_)
      ·refine L.fa 6 f52 U28 rfl wsz22_wb (hw := (f52.yes rfl rfl)) fun a53 f53 => ?_
       refine L.ld f53 U22 Bg0 (hw := (f53.yes rfl rfl)) fun a54 f54 => ?_
       refine L.fa 6 f54 U28 rfl wsz22_wb (hw := (f54.yes rfl rfl)) fun a55 f55 => ?_
       refine L.ld f55 U22 Bg1 (hw := (f55.yes rfl rfl)) fun a56 f56 => ?_
       refine L.cl f56 (run_call Tryd.call51 (args2 f56 rfl rfl)) (beq_any _ _ _ _ _ _ _ (IP.pay.kept HK) (IQ.pay.kept HK)) ?_ (hw := (f56.yes rfl rfl))
       clear f51 f52 a51 f53 a53 f54 a54 f55 a55
       rintro e w2x ⟨rfl, rfl⟩
       refine ⟨_, rfl, fun a57 f57 => ?_⟩
       refine L.va f57 (E.pickT f57 rfl rfl) fun a58 f58 => ?_
       refine L.mv f58 fun a59 f59 => ?_
       clear f56 a56 f57 a57 f58 a58
       refine f59.splitD 52 rfl (fun h6 f60 => ?_) (fun h6 f60 => ?_)
       ·refine L.va f60 (by exact E.loadB f60 U28 rfl wsz28_wb rfl (Bg0) rfl) (hw := (f60.yes rfl rfl)) fun a61 f61 => ?_
        refine L.va f61 (by exact E.loadB f61 U28 rfl wsz28_wb rfl (Bg1) rfl) (hw := (f61.yes rfl rfl)) fun a62 f62 => ?_
        refine L.cl f62 (run_call Tryd.call52 (args2 f62 rfl rfl)) (greets_any p q s t _ (IP.kept HK) (IQ.kept HK)) ?_ (hw := (f62.yes rfl rfl))
        clear f59 f60 a59 f61 a61
        rintro e w3 ⟨kc3, rfl⟩
        refine ⟨_, rfl, fun a63 f63 => ?_⟩
        have szw3 := kc3.size
        replace HK := HK.trans kc3 (by simp)
        replace Bg0 := Bg0.kept kc3 (by simp)
        replace Bg1 := Bg1.kept kc3 (by simp)
        clear f62 a62 kc3
        refine L.va f63 (E.pickT f63 rfl rfl) fun a64 f64 => ?_
        refine L.mv f64 fun a65 f65 => ?_
        clear f63 a63 f64 a64
        refine f65.split 57 rfl (fun h7 f66 => ?_) (fun h7 f66 => ?_)
        ·refine L.fa 12 f66 U28 rfl wsz24_wb (hw := (f66.yes rfl rfl)) fun a67 f67 => ?_
         refine L.va f67 (by exact E.loadR f67 U24 rfl wsz24_wb rfl (will_row Bg0) rfl) (hw := (f67.yes rfl rfl)) fun a68 f68 => ?_
         refine L.fa 12 f68 U28 rfl wsz24_wb (hw := (f68.yes rfl rfl)) fun a69 f69 => ?_
         refine L.va f69 (by exact E.loadR f69 U24 rfl wsz24_wb rfl (will_row Bg1) rfl) (hw := (f69.yes rfl rfl)) fun a70 f70 => ?_
         refine L.cl f70 (run_call Tryd.call53 (args2 f70 rfl rfl)) (wills_any p q s t _ (IP.kept HK) (IQ.kept HK)) ?_ (hw := (f70.yes rfl rfl))
         clear f65 f66 a65 f67 a67 f68 a68 f69 a69
         rintro e w4 ⟨kc4, rfl⟩
         refine ⟨_, rfl, fun a71 f71 => ?_⟩
         have szw4 := kc4.size
         replace HK := HK.trans kc4 (by simp)
         replace Bg0 := Bg0.kept kc4 (by simp)
         replace Bg1 := Bg1.kept kc4 (by simp)
         clear f70 a70 kc4
         refine L.va f71 (E.pickT f71 rfl rfl) fun a72 f72 => ?_
         refine L.mv f72 fun a73 f73 => ?_
         clear f71 a71 f72 a72
         refine f73.split 64 rfl (fun h8 f74 => ?_) (fun h8 f74 => ?_)
         ·refine L.fa 22 f74 U28 rfl wsz25_wb (hw := (f74.yes rfl rfl)) fun a75 f75 => ?_
          refine L.ld f75 U25 Bg0 (hw := (f75.yes rfl rfl)) fun a76 f76 => ?_
          refine L.fa 22 f76 U28 rfl wsz25_wb (hw := (f76.yes rfl rfl)) fun a77 f77 => ?_
          refine L.ld f77 U25 Bg1 (hw := (f77.yes rfl rfl)) fun a78 f78 => ?_
          refine L.cl f78 (run_call Tryd.call54 (args2 f78 rfl rfl)) (eqSub_any _ _ _ _ _ _ _ (IP.subs.kept HK) (IQ.subs.kept HK) (by omega)) ?_ (hw := (f78.yes rfl rfl))
          clear f73 f74 a73 f75 a75 f76 a76 f77 a77
          rintro e w5 ⟨kc5, rfl⟩
          refine ⟨_, rfl, fun a79 f79 => ?_⟩
          have szw5 := kc5.size
          replace HK := HK.trans kc5 (by simp)
          replace Bg0 := Bg0.kept kc5 (by simp)
          replace Bg1 := Bg1.kept kc5 (by simp)
          clear f78 a78 kc5
          refine L.va f79 (E.pickT f79 rfl rfl) fun a80 f80 => ?_
          refine L.mv f80 fun a81 f81 => ?_
          clear f79 a79 f80 a80
          refine f81.splitD 71 rfl (fun h9 f82 => ?_) (fun h9 f82 => ?_)
          ·refine L.fa 23 f82 U28 rfl wsz26_wb (hw := (f82.yes rfl rfl)) fun a83 f83 => ?_
           refine L.ld f83 U26 Bg0 (hw := (f83.yes rfl rfl)) fun a84 f84 => ?_
           refine L.fa 23 f84 U28 rfl wsz26_wb (hw := (f84.yes rfl rfl)) fun a85 f85 => ?_
           refine L.ld f85 U26 Bg1 (hw := (f85.yes rfl rfl)) fun a86 f86 => ?_
           refine L.cl f86 (run_call Tryd.call55 (args2 f86 rfl rfl)) (eqInt_any _ _ _ _ _ _ _ (IP.codes.kept HK) (IQ.codes.kept HK) (by omega)) ?_ (hw := (f86.yes rfl rfl))
           clear f81 f82 a81 f83 a83 f84 a84 f85 a85
           rintro e w6 ⟨kc6, rfl⟩
           refine ⟨_, rfl, fun a87 f87 => ?_⟩
           have szw6 := kc6.size
           replace HK := HK.trans kc6 (by simp)
           replace Bg0 := Bg0.kept kc6 (by simp)
           replace Bg1 := Bg1.kept kc6 (by simp)
           clear f86 a86 kc6
           refine L.va f87 (E.pickT f87 rfl rfl) fun a88 f88 => ?_
           refine L.ag f88 fun a89 f89 => ?_
           refine wpList_nil (hK1 _ _ ?_)
           have f90 := f89.sub (sc 4 sn)
           refine wp_ret ?_
           try simp only [Exit.inBlock, Exit.then]
           refine C.ret (P := Tryd.prog) (fn := Tryd.f21) f90 rfl rfl ?_
           exact ⟨HK, by rw [same_eq]; simp [*]⟩
          refine L.run f82 (rest' := []) (by kernel_rfl) fun a83 f83 => ?_
          clear f81
          skip
          refine wpList_nil (hK1 _ _ ?_)
          have f84 := f83.sub (sub_cons (i := 4) (v := .bool false) (by kernel_rfl) sn)
          refine wp_ret ?_
          try simp only [Exit.inBlock, Exit.then]
          refine C.ret (P := Tryd.prog) (fn := Tryd.f21) f84 rfl rfl ?_
          exact ⟨HK, by rw [same_eq]; simp [*]⟩
         refine L.run f74 (rest' := []) (by kernel_rfl) fun a75 f75 => ?_
         clear f73
         skip
         refine wpList_nil (hK1 _ _ ?_)
         have f76 := f75.sub (sub_cons (i := 4) (v := .bool false) (by kernel_rfl) sn)
         refine wp_ret ?_
         try simp only [Exit.inBlock, Exit.then]
         refine C.ret (P := Tryd.prog) (fn := Tryd.f21) f76 rfl rfl ?_
         exact ⟨HK, by rw [same_eq]; simp [*]⟩
        refine L.run f66 (rest' := []) (by kernel_rfl) fun a67 f67 => ?_
        clear f65
        skip
        refine wpList_nil (hK1 _ _ ?_)
        have f68 := f67.sub (sub_cons (i := 4) (v := .bool false) (by kernel_rfl) sn)
        refine wp_ret ?_
        try simp only [Exit.inBlock, Exit.then]
        refine C.ret (P := Tryd.prog) (fn := Tryd.f21) f68 rfl rfl ?_
        exact ⟨HK, by rw [same_eq]; simp [*]⟩
       refine L.run f60 (rest' := []) (by kernel_rfl) fun a61 f61 => ?_
       clear f59
       skip
       refine wpList_nil (hK1 _ _ ?_)
       have f62 := f61.sub (sub_cons (i := 4) (v := .bool false) (by kernel_rfl) sn)
       refine wp_ret ?_
       try simp only [Exit.inBlock, Exit.then]
       refine C.ret (P := Tryd.prog) (fn := Tryd.f21) f62 rfl rfl ?_
       exact ⟨HK, by rw [same_eq]; simp [*]⟩
      refine L.run f52 (rest' := []) (by kernel_rfl) fun a53 f53 => ?_
      clear f51
      skip
      refine wpList_nil (hK1 _ _ ?_)
      have f54 := f53.sub (sub_cons (i := 4) (v := .bool false) (by kernel_rfl) sn)
      refine wp_ret ?_
      try simp only [Exit.inBlock, Exit.then]
      refine C.ret (P := Tryd.prog) (fn := Tryd.f21) f54 rfl rfl ?_
      exact ⟨HK, by rw [same_eq]; simp [*]⟩
     refine L.run f44 (rest' := []) (by kernel_rfl) fun a45 f45 => ?_
     clear f43
     skip
     refine wpList_nil (hK1 _ _ ?_)
     have f46 := f45.sub (sub_cons (i := 4) (v := .bool false) (by kernel_rfl) sn)
     refine wp_ret ?_
     try simp only [Exit.inBlock, Exit.then]
     refine C.ret (P := Tryd.prog) (fn := Tryd.f21) f46 rfl rfl ?_
     exact ⟨HK, by rw [same_eq]; simp [*]⟩
    refine L.run f36 (rest' := []) (by kernel_rfl) fun a37 f37 => ?_
    clear f35
    skip
    refine wpList_nil (hK1 _ _ ?_)
    have f38 := f37.sub (sub_cons (i := 4) (v := .bool false) (by kernel_rfl) sn)
    refine wp_ret ?_
    try simp only [Exit.inBlock, Exit.then]
    refine C.ret (P := Tryd.prog) (fn := Tryd.f21) f38 rfl rfl ?_
    exact ⟨HK, by rw [same_eq]; simp [*]⟩
   refine L.run f28 (rest' := []) (by kernel_rfl) fun a29 f29 => ?_
   clear f27
   skip
   refine wpList_nil (hK1 _ _ ?_)
   have f30 := f29.sub (sub_cons (i := 4) (v := .bool false) (by kernel_rfl) sn)
   refine wp_ret ?_
   try simp only [Exit.inBlock, Exit.then]
   refine C.ret (P := Tryd.prog) (fn := Tryd.f21) f30 rfl rfl ?_
   exact ⟨HK, by rw [same_eq]; simp [*]⟩
  refine L.run f20 (rest' := []) (by kernel_rfl) fun a21 f21 => ?_
  clear f19
  skip
  refine wpList_nil (hK1 _ _ ?_)
  have f22 := f21.sub (sub_cons (i := 4) (v := .bool false) (by kernel_rfl) sn)
  refine wp_ret ?_
  try simp only [Exit.inBlock, Exit.then]
  refine C.ret (P := Tryd.prog) (fn := Tryd.f21) f22 rfl rfl ?_
  exact ⟨HK, by rw [same_eq]; simp [*]⟩
 refine L.run f12 (rest' := []) (by kernel_rfl) fun a13 f13 => ?_
 clear f11
 skip
 refine wpList_nil (hK1 _ _ ?_)
 have f14 := f13.sub (sub_cons (i := 4) (v := .bool false) (by kernel_rfl) sn)
 refine wp_ret ?_
 try simp only [Exit.inBlock, Exit.then]
 refine C.ret (P := Tryd.prog) (fn := Tryd.f21) f14 rfl rfl ?_
 exact ⟨HK, by rw [same_eq]; simp [*]⟩
set_option maxRecDepth 100000 in
set_option maxHeartbeats 2000000 in
theorem sameR_any (p q : Pk) (s t : Ad) (w : World) (IP : p.In w s) (IQ : q.In w t) (hl : p.subs.length ≤ 1000000) (hl2 : p.codes.length ≤ 1000000) : Calls Tryd.prog 22 #[.agg (p.cells s), .agg (q.cells t)] w (fun e w' => Kept [] w w' ∧ e = .returned (.bool (samePk p q))) := by
 have HK : Kept [] w w := Kept.refl [] w
 refine C.enter Tryd.func22 rfl Tryd.ntmps22 rfl ?_
 intro a0 f0
 have f1 : Fr 195 a0 [(0, .agg (p.cells s)), (1, .agg (q.cells t))] := f0
 refine C.sk fun K0 hK0 => ?_
 refine L.box f1 wantedN (by decide) rfl rfl fun a2 w1 g0 N0 f2 => ?_
 have Bg0 := N0.blk
 have kg0 := N0.kept
 have log0 := N0.lo
 have ltg0 := Bg0.lt
 have szw1 := kg0.size
 have frg0 : w.heap.size ≤ g0 := Nat.le_trans HK.size log0
 replace HK := HK.trans kg0 (by simp)
 clear f0 N0 kg0
 refine L.box f2 wantedN (by decide) rfl rfl fun a3 w2 g1 N1 f3 => ?_
 have Bg1 := N1.blk
 have kg1 := N1.kept
 have log1 := N1.lo
 have ltg1 := Bg1.lt
 have szw2 := kg1.size
 have frg1 : w.heap.size ≤ g1 := Nat.le_trans HK.size log1
 have neg0_g1 : g0 ≠ g1 := by have := Bg0.lt; omega
 replace HK := HK.trans kg1 (by simp)
 replace Bg0 := Bg0.kept kg1 (by simp)
 clear f1 a0 N1 kg1
 refine L.ag f3 fun a4 f4 => ?_
 refine wpList_nil (hK0 _ _ ?_)
 have f5 := f4.sub (sc 2 (sc 3 sn))
 obtain ⟨J3, hJ3⟩ : ∃ J : Act → World → Prop, J = fun a W => Kept [] w W ∧ Blk W g0 28 (p.cells s) ∧ Blk W g1 28 (q.cells t) ∧ (p.subs.length = q.subs.length ∧ p.codes.length = q.codes.length ∧ p.pay = q.pay ∧ p.pass = q.pass ∧ willB p q = true) ∧ Fr 195 a [(2, .pointer (some ⟨g0, 0, none⟩)), (3, .pointer (some ⟨g1, 0, none⟩))] := ⟨_, rfl⟩
 clear f2 a2 f3 a3 f4
 refine C.cut J3 ?_ ?_
 ·skip
  refine C.sk fun K1 hK1 => ?_
  refine L.fa 22 f5 U28 rfl wsz25_wb fun a6 f6 => ?_
  refine L.ld f6 U25 Bg0 fun a7 f7 => ?_
  refine L.va f7 (E.lenL f7 U25 rfl) fun a8 f8 => ?_
  refine L.fa 22 f8 U28 rfl wsz25_wb fun a9 f9 => ?_
  refine L.ld f9 U25 Bg1 fun a10 f10 => ?_
  refine L.va f10 (E.lenL f10 U25 rfl) fun a11 f11 => ?_
  refine L.va f11 (E.neq f11 rfl rfl) fun a12 f12 => ?_
  clear f5 a4 f6 a6 f7 a7 f8 a8 f9 a9 f10 a10 f11 a11
  refine L.mv f12 fun a13 f13 => ?_
  clear f12 a12
  refine f13.splitN 14 rfl (fun h0 f14 => ?_) (fun h0 f14 => ?_)
  ·refine L.run f14 (rest' := []) (by kernel_rfl) fun a15 f15 => ?_
   clear f13
   skip
   refine wpList_nil (hK1 _ _ ?_)
   have f16 := f15.sub (sub_cons (i := 2) (Fr.kept f15 (by kernel_rfl) rfl) (sub_cons (i := 3) (Fr.kept f15 (by kernel_rfl) rfl) (sub_cons (i := 48) (v := .bool true) (by kernel_rfl) sn)))
   refine C.condT f16 rfl ?_
   refine C.sk fun K2 hK2 => ?_
   refine L.ag f16 fun a17 f17 => ?_
   refine wpList_nil (hK2 _ _ ?_)
   have f18 := f17.sub (sc 4 sn)
   refine wp_ret ?_
   try simp only [Exit.inBlock, Exit.then]
   refine C.ret (P := Tryd.prog) (fn := Tryd.f22) f18 rfl rfl ?_
   refine ⟨HK, ?_⟩
   rw [samePk_f (p := p) (q := q) (fun e => by subst e; (apply absurd rfl; assumption))]
  refine L.fa 23 f14 U28 rfl wsz26_wb (hw := (f14.yes rfl rfl)) fun a15 f15 => ?_
  refine L.ld f15 U26 Bg0 (hw := (f15.yes rfl rfl)) fun a16 f16 => ?_
  refine L.va f16 (E.lenL f16 U26 rfl) (hw := (f16.yes rfl rfl)) fun a17 f17 => ?_
  refine L.fa 23 f17 U28 rfl wsz26_wb (hw := (f17.yes rfl rfl)) fun a18 f18 => ?_
  refine L.ld f18 U26 Bg1 (hw := (f18.yes rfl rfl)) fun a19 f19 => ?_
  refine L.va f19 (E.lenL f19 U26 rfl) (hw := (f19.yes rfl rfl)) fun a20 f20 => ?_
  refine L.va f20 (E.neq f20 rfl rfl) (hw := (f20.yes rfl rfl)) fun a21 f21 => ?_
  clear f13 f14 a13 f15 a15 f16 a16 f17 a17 f18 a18 f19 a19 f20 a20
  refine L.va f21 (E.pickF f21 rfl rfl) fun a22 f22 => ?_
  refine L.mv f22 fun a23 f23 => ?_
  clear f21 a21 f22 a22
  refine f23.splitN 23 rfl (fun h1 f24 => ?_) (fun h1 f24 => ?_)
  ·refine L.run f24 (rest' := []) (by kernel_rfl) fun a25 f25 => ?_
   clear f23
   skip
   refine wpList_nil (hK1 _ _ ?_)
   have f26 := f25.sub (sub_cons (i := 2) (Fr.kept f25 (by kernel_rfl) rfl) (sub_cons (i := 3) (Fr.kept f25 (by kernel_rfl) rfl) (sub_cons (i := 48) (v := .bool true) (by kernel_rfl) sn)))
   refine C.condT f26 rfl ?_
   refine C.sk fun K3 hK3 => ?_
   refine L.ag f26 fun a27 f27 => ?_
   refine wpList_nil (hK3 _ _ ?_)
   have f28 := f27.sub (sc 4 sn)
   refine wp_ret ?_
   try simp only [Exit.inBlock, Exit.then]
   refine C.ret (P := Tryd.prog) (fn := Tryd.f22) f28 rfl rfl ?_
   refine ⟨HK, ?_⟩
   rw [samePk_f (p := p) (q := q) (fun e => by subst e; (apply absurd rfl; assumption))]
  refine L.fa 6 f24 U28 rfl wsz22_wb (hw := (f24.yes rfl rfl)) fun a25 f25 => ?_
  refine L.ld f25 U22 Bg0 (hw := (f25.yes rfl rfl)) fun a26 f26 => ?_
  refine L.va f26 (E.toStr f26 rfl U22 U5 U9 (IP.pay.kept HK)) (hw := (f26.yes rfl rfl)) fun a27 f27 => ?_
  refine L.fa 6 f27 U28 rfl wsz22_wb (hw := (f27.yes rfl rfl)) fun a28 f28 => ?_
  refine L.ld f28 U22 Bg1 (hw := (f28.yes rfl rfl)) fun a29 f29 => ?_
  refine L.va f29 (E.toStr f29 rfl U22 U5 U9 (IQ.pay.kept HK)) (hw := (f29.yes rfl rfl)) fun a30 f30 => ?_
  refine L.va f30 (E.neqS f30 rfl rfl) (hw := (f30.yes rfl rfl)) fun a31 f31 => ?_
  clear f23 f24 a23 f25 a25 f26 a26 f27 a27 f28 a28 f29 a29 f30 a30
  refine L.va f31 (E.pickF f31 rfl rfl) fun a32 f32 => ?_
  refine L.mv f32 fun a33 f33 => ?_
  clear f31 a31 f32 a32
  refine f33.splitN 32 rfl (fun h2 f34 => ?_) (fun h2 f34 => ?_)
  ·refine L.run f34 (rest' := []) (by kernel_rfl) fun a35 f35 => ?_
   clear f33
   skip
   refine wpList_nil (hK1 _ _ ?_)
   have f36 := f35.sub (sub_cons (i := 2) (Fr.kept f35 (by kernel_rfl) rfl) (sub_cons (i := 3) (Fr.kept f35 (by kernel_rfl) rfl) (sub_cons (i := 48) (v := .bool true) (by kernel_rfl) sn)))
   refine C.condT f36 rfl ?_
   refine C.sk fun K4 hK4 => ?_
   refine L.ag f36 fun a37 f37 => ?_
   refine wpList_nil (hK4 _ _ ?_)
   have f38 := f37.sub (sc 4 sn)
   refine wp_ret ?_
   try simp only [Exit.inBlock, Exit.then]
   refine C.ret (P := Tryd.prog) (fn := Tryd.f22) f38 rfl rfl ?_
   refine ⟨HK, ?_⟩
   rw [samePk_f (p := p) (q := q) (fun e => by subst e; (apply absurd rfl; assumption))]
  have hpay := bytes_eq.1 h2
  refine L.fa 19 f34 U28 rfl wsz22_wb (hw := (f34.yes rfl rfl)) fun a35 f35 => ?_
  refine L.ld f35 U22 Bg0 (hw := (f35.yes rfl rfl)) fun a36 f36 => ?_
  refine L.va f36 (E.toStr f36 rfl U22 U5 U9 (IP.pass.kept HK)) (hw := (f36.yes rfl rfl)) fun a37 f37 => ?_
  refine L.fa 19 f37 U28 rfl wsz22_wb (hw := (f37.yes rfl rfl)) fun a38 f38 => ?_
  refine L.ld f38 U22 Bg1 (hw := (f38.yes rfl rfl)) fun a39 f39 => ?_
  refine L.va f39 (E.toStr f39 rfl U22 U5 U9 (IQ.pass.kept HK)) (hw := (f39.yes rfl rfl)) fun a40 f40 => ?_
  refine L.va f40 (E.neqS f40 rfl rfl) (hw := (f40.yes rfl rfl)) fun a41 f41 => ?_
  clear f33 f34 a33 f35 a35 f36 a36 f37 a37 f38 a38 f39 a39 f40 a40
  refine L.va f41 (E.pickF f41 rfl rfl) fun a42 f42 => ?_
  refine L.mv f42 fun a43 f43 => ?_
  clear f41 a41 f42 a42
  refine f43.splitN 41 rfl (fun h3 f44 => ?_) (fun h3 f44 => ?_)
  ·refine L.run f44 (rest' := []) (by kernel_rfl) fun a45 f45 => ?_
   clear f43
   skip
   refine wpList_nil (hK1 _ _ ?_)
   have f46 := f45.sub (sub_cons (i := 2) (Fr.kept f45 (by kernel_rfl) rfl) (sub_cons (i := 3) (Fr.kept f45 (by kernel_rfl) rfl) (sub_cons (i := 48) (v := .bool true) (by kernel_rfl) sn)))
   refine C.condT f46 rfl ?_
   refine C.sk fun K5 hK5 => ?_
   refine L.ag f46 fun a47 f47 => ?_
   refine wpList_nil (hK5 _ _ ?_)
   have f48 := f47.sub (sc 4 sn)
   refine wp_ret ?_
   try simp only [Exit.inBlock, Exit.then]
   refine C.ret (P := Tryd.prog) (fn := Tryd.f22) f48 rfl rfl ?_
   refine ⟨HK, ?_⟩
   rw [samePk_f (p := p) (q := q) (fun e => by subst e; (apply absurd rfl; assumption))]
  have hpass := bytes_eq.1 h3
  refine L.fa 12 f44 U28 rfl wsz24_wb (hw := (f44.yes rfl rfl)) fun a45 f45 => ?_
  refine L.va f45 (by exact E.loadR f45 U24 rfl wsz24_wb rfl (will_row Bg0) rfl) (hw := (f45.yes rfl rfl)) fun a46 f46 => ?_
  refine L.fa 12 f46 U28 rfl wsz24_wb (hw := (f46.yes rfl rfl)) fun a47 f47 => ?_
  refine L.va f47 (by exact E.loadR f47 U24 rfl wsz24_wb rfl (will_row Bg1) rfl) (hw := (f47.yes rfl rfl)) fun a48 f48 => ?_
  refine L.cl f48 (run_call Tryd.call56 (args2 f48 rfl rfl)) (willsR_any p q s t _ (IP.kept HK) (IQ.kept HK)) ?_ (hw := (f48.yes rfl rfl))
  clear f43 f44 a43 f45 a45 f46 a46 f47 a47
  rintro e w3 ⟨kc3, rfl⟩
  refine ⟨_, rfl, fun a49 f49 => ?_⟩
  have szw3 := kc3.size
  replace HK := HK.trans kc3 (by simp)
  replace Bg0 := Bg0.kept kc3 (by simp)
  replace Bg1 := Bg1.kept kc3 (by simp)
  clear f48 a48 kc3
  refine L.va f49 (E.not f49 rfl) (hw := (f49.yes rfl rfl)) fun a50 f50 => ?_
  refine L.va f50 (E.pickF f50 rfl rfl) fun a51 f51 => ?_
  refine wpList_nil (hK1 _ _ ?_)
  have f52 := f51.sub (sc 2 (sc 3 (sc 48 sn)))
  clear f49 a49 f50 a50 f51
  refine f52.splitNB 48 rfl (fun h4 f53 => ?_) (fun h4 f53 => ?_)
  ·refine C.condT f53 rfl ?_
   refine C.sk fun K6 hK6 => ?_
   refine L.ag f53 fun a54 f54 => ?_
   refine wpList_nil (hK6 _ _ ?_)
   have f55 := f54.sub (sc 4 sn)
   refine wp_ret ?_
   try simp only [Exit.inBlock, Exit.then]
   refine C.ret (P := Tryd.prog) (fn := Tryd.f22) f55 rfl rfl ?_
   refine ⟨HK, ?_⟩
   rw [samePk_f (p := p) (q := q) (fun e => by subst e; (rw [willB_refl] at *; contradiction))]
  refine C.condF f53 rfl ?_
  exact wp_skip (then_of (J := J3) (Q := fun _ _ _ => True) (by rw [hJ3]; exact ⟨HK, Bg0, Bg1, ⟨by omega, by omega, hpay, hpass, by assumption⟩, f53.sub (sub_cons rfl (sub_cons rfl sn))⟩))
 intro a6 w3 hj
 rw [hJ3] at hj
 clear hJ3 J3
 obtain ⟨HK, Bg0, Bg1, ⟨hls, hlc, hpay, hpass, hwl⟩, f6⟩ := hj
 try clear f5
 obtain ⟨J8, hJ8⟩ : ∃ J : Act → World → Prop, J = fun a W => Kept [] w W ∧ Blk W g0 28 (p.cells s) ∧ Blk W g1 28 (q.cells t) ∧ p.subs = q.subs ∧ Fr 195 a [(2, .pointer (some ⟨g0, 0, none⟩)), (3, .pointer (some ⟨g1, 0, none⟩))] := ⟨_, rfl⟩
 refine C.cut J8 ?_ ?_
 ·skip
  refine C.sk fun K7 hK7 => ?_
  refine L.ag f6 fun a7 f7 => ?_
  refine wpList_nil (hK7 _ _ ?_)
  have f8 := f7.sub (sc 2 (sc 3 (sc 5 sn)))
  refine wp_block ?_
  clear f6 a6 f7
  refine C.loop (fun gk a W => ∃ k : Nat, k + gk = p.subs.length ∧ Kept [] w W ∧ Blk W g0 28 (p.cells s) ∧ Blk W g1 28 (q.cells t) ∧ p.subs.take k = q.subs.take k ∧ Fr 195 a [(2, .pointer (some ⟨g0, 0, none⟩)), (3, .pointer (some ⟨g1, 0, none⟩)), (5, .int .i64 k)]) (p.subs.length) ?_ ?_
  ·exact ⟨0, by omega, HK, Bg0, Bg1, rfl, f8.sub (sub_cons rfl (sub_cons rfl (sub_cons rfl sn)))⟩
  intro gk9 a9 w4 hI KL8 hKL8
  obtain ⟨k, hk, HK, Bg0, Bg1, hq0, f9⟩ := hI
  try clear f8
  refine wp_seq_k fun K9 hK9 => ?_
  refine C.sk fun K10 hK10 => ?_
  refine L.mv f9 fun a10 f10 => ?_
  refine L.fa 22 f10 U28 rfl wsz25_wb fun a11 f11 => ?_
  refine L.ld f11 U25 Bg0 fun a12 f12 => ?_
  refine L.va f12 (E.lenL f12 U25 rfl) fun a13 f13 => ?_
  refine L.va f13 (E.lss f13 rfl rfl) fun a14 f14 => ?_
  refine wpList_nil (hK10 _ _ ?_)
  have f15 := f14.sub (sc 2 (sc 3 (sc 5 (sc 53 sn))))
  clear f9 a9 f10 a10 f11 a11 f12 a12 f13 a13 f14
  refine f15.splitD 53 rfl (fun h5 f16 => ?_) (fun h5 f16 => ?_)
  ·obtain ⟨d, hd⟩ := some_at p.subs k (by omega)
   obtain ⟨bk, off, hA⟩ := IP.subs.addr (by omega)
   obtain ⟨d', hd'⟩ := some_at q.subs k (by omega)
   obtain ⟨bk', off', hA'⟩ := IQ.subs.addr (by omega)
   refine C.condT f16 rfl ?_
   refine wp_skip (hK9 _ _ ?_)
   have f17 := f16.sub (sc 2 (sc 3 (sc 5 sn)))
   refine wp_seq_k fun K11 hK11 => ?_
   refine wp_block ?_
   refine wp_seq_k fun K12 hK12 => ?_
   refine R.beginT (S := fun W => Kept [] w4 W) (by kernel_rfl) (by kernel_rfl) (by exact (Kept.refl _ _).drewN 1) fun ht => ?_
   have hS6 : Kept [] w4 (w4.drewN 1) := (Kept.refl _ _).drewN 1
   have hd6 : Kept [] w4 (w4.drewN 1) := (Kept.refl _ _).drewN 1
   obtain ⟨w5, hww5⟩ : ∃ W, W = w4.drewN 1 := ⟨_, rfl⟩
   rw [← hww5] at hS6 hd6 ⊢
   clear f15 f16 hww5
   have szw5 := hS6.size
   refine R.u 0 f17 rfl ht hS6 (fun W hW => (E.fa 22 f17 U28 rfl wsz25_wb)) fun a18 f18 => ?_
   refine R.u 1 f18 rfl ht hS6 (fun W hW => (by exact E.ld f18 U25 (Bg0.kept hW (by simp)))) fun a19 f19 => ?_
   refine R.u 2 f19 rfl ht hS6 (fun W hW => (E.move f19 rfl)) fun a20 f20 => ?_
   refine R.u 3 f20 rfl ht hS6 (fun W hW => (E.indexA f20 (by assumption) U25 wsz70_wb rfl rfl (by omega) (by omega))) fun a21 f21 => ?_
   refine R.u 4 f21 rfl ht hS6 (fun W hW => (by exact E.loadR f21 U70 rfl wsz70_wb rfl (sub_row (IP.subs.kept (HK.trans hW (by simp))) hA hd) rfl)) fun a22 f22 => ?_
   refine R.u 5 f22 rfl ht hS6 (fun W hW => (E.fa 22 f22 U28 rfl wsz25_wb)) fun a23 f23 => ?_
   refine R.u 6 f23 rfl ht hS6 (fun W hW => (by exact E.ld f23 U25 (Bg1.kept hW (by simp)))) fun a24 f24 => ?_
   clear f17 a14 f18 a18 f19 a19 f20 a20 f21 a21 f22 a22 f23 a23
   refine R.u 7 f24 rfl ht hS6 (fun W hW => (E.move f24 rfl)) fun a25 f25 => ?_
   refine R.u 8 f25 rfl ht hS6 (fun W hW => (E.indexA f25 (by assumption) U25 wsz70_wb rfl rfl (by omega) (by omega))) fun a26 f26 => ?_
   refine R.u 9 f26 rfl ht hS6 (fun W hW => (by exact E.loadR f26 U70 rfl wsz70_wb rfl (sub_row (IQ.subs.kept (HK.trans hW (by simp))) hA' hd') rfl)) fun a27 f27 => ?_
   refine R.u 10 f27 rfl ht hS6 (fun W hW => (E.neqV f27 rfl rfl (neqSub _ _ _ _ _ _))) fun a28 f28 => ?_
   have szw5r := hS6.size
   replace HK := HK.trans hS6 (by simp)
   replace Bg0 := Bg0.kept hS6 (by simp)
   replace Bg1 := Bg1.kept hS6 (by simp)
   clear f24 a24 f25 a25 f26 a26 f27 a27 hS6
   refine R.done (by kernel_rfl) (hK12 _ _ ?_)
   have f29 := f28.sub (sc 2 (sc 3 (sc 5 (sc 66 sn))))
   clear f28
   refine f29.splitN 66 rfl (fun h6 f30 => ?_) (fun h6 f30 => ?_)
   ·refine C.condT f30 rfl ?_
    refine C.sk fun K13 hK13 => ?_
    refine L.ag f30 fun a31 f31 => ?_
    refine wpList_nil (hK13 _ _ ?_)
    have f32 := f31.sub (sc 4 sn)
    refine wp_ret ?_
    try simp only [Exit.inBlock, Exit.then]
    refine C.ret (P := Tryd.prog) (fn := Tryd.f22) f32 rfl rfl ?_
    refine ⟨HK, ?_⟩
    rw [samePk_f (p := p) (q := q) (fun e => by subst e; (rw [hd] at hd'; cases hd'; apply absurd rfl; assumption))]
   have heq0 := h6
   refine C.condF f30 rfl ?_
   refine wp_skip (hK11 _ _ ?_)
   have f31 := f30.sub (sc 2 (sc 3 (sc 5 sn)))
   refine C.region ?_
   refine L.mv f31 fun a32 f32 => ?_
   refine L.va f32 (E.add f32 rfl rfl (IntWalk.i64_in _ (by omega))) fun a33 f33 => ?_
   refine L.ag f33 fun a34 f34 => ?_
   clear f29 f30 f31 a28 f32 a32 f33 a33
   refine wpList_nil (hKL8 _ _ (gk9 - 1) ?_ ?_)
   ·omega
   exact ⟨k + 1, by omega, HK, Bg0, Bg1, eq_take hq0 hd hd' heq0, f34.sub (sub_cons rfl (sub_cons rfl (sub_cons rfl sn)))⟩
  have hsubs : p.subs = q.subs := by rw [List.take_of_length_le (by omega), List.take_of_length_le (by omega)] at hq0; exact hq0
  refine C.condF f16 rfl ?_
  exact wp_exit (then_of (J := J8) (Q := fun _ _ _ => True) (by rw [hJ8]; exact ⟨HK, Bg0, Bg1, hsubs, f16.sub (sub_cons rfl (sub_cons rfl sn))⟩))
 intro a7 w4 hj
 rw [hJ8] at hj
 clear hJ8 J8
 obtain ⟨HK, Bg0, Bg1, hsubs, f7⟩ := hj
 try clear f6
 obtain ⟨J13, hJ13⟩ : ∃ J : Act → World → Prop, J = fun a W => Kept [] w W ∧ Blk W g0 28 (p.cells s) ∧ Blk W g1 28 (q.cells t) ∧ p.codes = q.codes ∧ Fr 195 a [(2, .pointer (some ⟨g0, 0, none⟩)), (3, .pointer (some ⟨g1, 0, none⟩))] := ⟨_, rfl⟩
 refine C.cut J13 ?_ ?_
 ·skip
  refine C.sk fun K14 hK14 => ?_
  refine L.ag f7 fun a8 f8 => ?_
  refine wpList_nil (hK14 _ _ ?_)
  have f9 := f8.sub (sc 2 (sc 3 (sc 6 sn)))
  refine wp_block ?_
  clear f7 a7 f8
  refine C.loop (fun gk a W => ∃ k : Nat, k + gk = p.codes.length ∧ Kept [] w W ∧ Blk W g0 28 (p.cells s) ∧ Blk W g1 28 (q.cells t) ∧ p.codes.take k = q.codes.take k ∧ Fr 195 a [(2, .pointer (some ⟨g0, 0, none⟩)), (3, .pointer (some ⟨g1, 0, none⟩)), (6, .int .i64 k)]) (p.codes.length) ?_ ?_
  ·exact ⟨0, by omega, HK, Bg0, Bg1, rfl, f9.sub (sub_cons rfl (sub_cons rfl (sub_cons rfl sn)))⟩
  intro gk16 a10 w5 hI KL15 hKL15
  obtain ⟨k, hk, HK, Bg0, Bg1, hq1, f10⟩ := hI
  try clear f9
  refine wp_seq_k fun K16 hK16 => ?_
  refine C.sk fun K17 hK17 => ?_
  refine L.mv f10 fun a11 f11 => ?_
  refine L.fa 23 f11 U28 rfl wsz26_wb fun a12 f12 => ?_
  refine L.ld f12 U26 Bg0 fun a13 f13 => ?_
  refine L.va f13 (E.lenL f13 U26 rfl) fun a14 f14 => ?_
  refine L.va f14 (E.lss f14 rfl rfl) fun a15 f15 => ?_
  refine wpList_nil (hK17 _ _ ?_)
  have f16 := f15.sub (sc 2 (sc 3 (sc 6 (sc 71 sn))))
  clear f10 a10 f11 a11 f12 a12 f13 a13 f14 a14 f15
  refine f16.splitD 71 rfl (fun h7 f17 => ?_) (fun h7 f17 => ?_)
  ·obtain ⟨d, hd⟩ := some_at p.codes k (by omega)
   obtain ⟨bk, off, hA⟩ := IP.codes.addr (by omega)
   obtain ⟨d', hd'⟩ := some_at q.codes k (by omega)
   obtain ⟨bk', off', hA'⟩ := IQ.codes.addr (by omega)
   refine C.condT f17 rfl ?_
   refine wp_skip (hK16 _ _ ?_)
   have f18 := f17.sub (sc 2 (sc 3 (sc 6 sn)))
   refine wp_seq_k fun K18 hK18 => ?_
   refine wp_block ?_
   refine wp_seq_k fun K19 hK19 => ?_
   refine R.beginT (S := fun W => Kept [] w5 W) (by kernel_rfl) (by kernel_rfl) (by exact (Kept.refl _ _).drewN 1) fun ht => ?_
   have hS11 : Kept [] w5 (w5.drewN 1) := (Kept.refl _ _).drewN 1
   have hd11 : Kept [] w5 (w5.drewN 1) := (Kept.refl _ _).drewN 1
   obtain ⟨w6, hww6⟩ : ∃ W, W = w5.drewN 1 := ⟨_, rfl⟩
   rw [← hww6] at hS11 hd11 ⊢
   clear f16 f17 hww6
   have szw6 := hS11.size
   refine R.u 0 f18 rfl ht hS11 (fun W hW => (E.fa 23 f18 U28 rfl wsz26_wb)) fun a19 f19 => ?_
   refine R.u 1 f19 rfl ht hS11 (fun W hW => (by exact E.ld f19 U26 (Bg0.kept hW (by simp)))) fun a20 f20 => ?_
   refine R.u 2 f20 rfl ht hS11 (fun W hW => (E.move f20 rfl)) fun a21 f21 => ?_
   refine R.u 3 f21 rfl ht hS11 (fun W hW => (E.indexA f21 (by assumption) U26 wsz3_wb rfl rfl (by omega) (by omega))) fun a22 f22 => ?_
   refine R.u 4 f22 rfl ht hS11 (fun W hW => (by exact E.load f22 U3 rfl rfl (code_cell1 (IP.codes.kept (HK.trans hW (by simp))) hA hd))) fun a23 f23 => ?_
   refine R.u 5 f23 rfl ht hS11 (fun W hW => (E.fa 23 f23 U28 rfl wsz26_wb)) fun a24 f24 => ?_
   refine R.u 6 f24 rfl ht hS11 (fun W hW => (by exact E.ld f24 U26 (Bg1.kept hW (by simp)))) fun a25 f25 => ?_
   clear f18 a15 f19 a19 f20 a20 f21 a21 f22 a22 f23 a23 f24 a24
   refine R.u 7 f25 rfl ht hS11 (fun W hW => (E.move f25 rfl)) fun a26 f26 => ?_
   refine R.u 8 f26 rfl ht hS11 (fun W hW => (E.indexA f26 (by assumption) U26 wsz3_wb rfl rfl (by omega) (by omega))) fun a27 f27 => ?_
   refine R.u 9 f27 rfl ht hS11 (fun W hW => (by exact E.load f27 U3 rfl rfl (code_cell1 (IQ.codes.kept (HK.trans hW (by simp))) hA' hd'))) fun a28 f28 => ?_
   refine R.u 10 f28 rfl ht hS11 (fun W hW => (E.neq f28 rfl rfl)) fun a29 f29 => ?_
   have szw6r := hS11.size
   replace HK := HK.trans hS11 (by simp)
   replace Bg0 := Bg0.kept hS11 (by simp)
   replace Bg1 := Bg1.kept hS11 (by simp)
   clear f25 a25 f26 a26 f27 a27 f28 a28 hS11
   refine R.done (by kernel_rfl) (hK19 _ _ ?_)
   have f30 := f29.sub (sc 2 (sc 3 (sc 6 (sc 84 sn))))
   clear f29
   refine f30.splitN 84 rfl (fun h8 f31 => ?_) (fun h8 f31 => ?_)
   ·refine C.condT f31 rfl ?_
    refine C.sk fun K20 hK20 => ?_
    refine L.ag f31 fun a32 f32 => ?_
    refine wpList_nil (hK20 _ _ ?_)
    have f33 := f32.sub (sc 4 sn)
    refine wp_ret ?_
    try simp only [Exit.inBlock, Exit.then]
    refine C.ret (P := Tryd.prog) (fn := Tryd.f22) f33 rfl rfl ?_
    refine ⟨HK, ?_⟩
    rw [samePk_f (p := p) (q := q) (fun e => by subst e; (rw [hd] at hd'; cases hd'; apply absurd rfl; assumption))]
   have heq1 := h8
   refine C.condF f31 rfl ?_
   refine wp_skip (hK18 _ _ ?_)
   have f32 := f31.sub (sc 2 (sc 3 (sc 6 sn)))
   refine C.region ?_
   refine L.mv f32 fun a33 f33 => ?_
   refine L.va f33 (E.add f33 rfl rfl (IntWalk.i64_in _ (by omega))) fun a34 f34 => ?_
   refine L.ag f34 fun a35 f35 => ?_
   clear f30 f31 f32 a29 f33 a33 f34 a34
   refine wpList_nil (hKL15 _ _ (gk16 - 1) ?_ ?_)
   ·omega
   exact ⟨k + 1, by omega, HK, Bg0, Bg1, eq_take hq1 hd hd' heq1, f35.sub (sub_cons rfl (sub_cons rfl (sub_cons rfl sn)))⟩
  have hcodes : p.codes = q.codes := by rw [List.take_of_length_le (by omega), List.take_of_length_le (by omega)] at hq1; exact hq1
  refine C.condF f17 rfl ?_
  exact wp_exit (then_of (J := J13) (Q := fun _ _ _ => True) (by rw [hJ13]; exact ⟨HK, Bg0, Bg1, hcodes, f17.sub (sub_cons rfl (sub_cons rfl sn))⟩))
 intro a8 w5 hj
 rw [hJ13] at hj
 clear hJ13 J13
 obtain ⟨HK, Bg0, Bg1, hcodes, f8⟩ := hj
 try clear f7
 refine C.sk fun K21 hK21 => ?_
 refine L.fa 0 f8 U28 rfl wsz3_wb fun a9 f9 => ?_
 refine L.ld f9 U3 Bg0 fun a10 f10 => ?_
 refine L.fa 0 f10 U28 rfl wsz3_wb fun a11 f11 => ?_
 refine L.ld f11 U3 Bg1 fun a12 f12 => ?_
 refine L.va f12 (E.eq f12) fun a13 f13 => ?_
 refine L.mv f13 fun a14 f14 => ?_
 clear f8 a8 f9 a9 f10 a10 f11 a11 f12 a12 f13 a13
 refine f14.splitD 90 rfl (fun h9 f15 => ?_) (fun h9 f15 => ?_)
 ·refine L.fa 1 f15 U28 rfl wsz4_wb (hw := (f15.yes rfl rfl)) fun a16 f16 => ?_
  refine L.ld f16 U4 Bg0 (hw := (f16.yes rfl rfl)) fun a17 f17 => ?_
  refine L.fa 1 f17 U28 rfl wsz4_wb (hw := (f17.yes rfl rfl)) fun a18 f18 => ?_
  refine L.ld f18 U4 Bg1 (hw := (f18.yes rfl rfl)) fun a19 f19 => ?_
  refine L.va f19 (E.eqlB f19 U4 rfl rfl) (hw := (f19.yes rfl rfl)) fun a20 f20 => ?_
  refine L.va f20 (E.pickT f20 rfl rfl) fun a21 f21 => ?_
  refine L.mv f21 fun a22 f22 => ?_
  clear f14 f15 a14 f16 a16 f17 a17 f18 a18 f19 a19 f20 a20 f21 a21
  refine f22.splitD 97 rfl (fun h10 f23 => ?_) (fun h10 f23 => ?_)
  ·refine L.fa 2 f23 U28 rfl wsz4_wb (hw := (f23.yes rfl rfl)) fun a24 f24 => ?_
   refine L.ld f24 U4 Bg0 (hw := (f24.yes rfl rfl)) fun a25 f25 => ?_
   refine L.fa 2 f25 U28 rfl wsz4_wb (hw := (f25.yes rfl rfl)) fun a26 f26 => ?_
   refine L.ld f26 U4 Bg1 (hw := (f26.yes rfl rfl)) fun a27 f27 => ?_
   refine L.va f27 (E.eqlB f27 U4 rfl rfl) (hw := (f27.yes rfl rfl)) fun a28 f28 => ?_
   refine L.va f28 (E.pickT f28 rfl rfl) fun a29 f29 => ?_
   refine L.mv f29 fun a30 f30 => ?_
   clear f22 f23 a22 f24 a24 f25 a25 f26 a26 f27 a27 f28 a28 f29 a29
   refine f30.splitD 104 rfl (fun h11 f31 => ?_) (fun h11 f31 => ?_)
   ·refine L.fa 3 f31 U28 rfl wsz3_wb (hw := (f31.yes rfl rfl)) fun a32 f32 => ?_
    refine L.ld f32 U3 Bg0 (hw := (f32.yes rfl rfl)) fun a33 f33 => ?_
    refine L.fa 3 f33 U28 rfl wsz3_wb (hw := (f33.yes rfl rfl)) fun a34 f34 => ?_
    refine L.ld f34 U3 Bg1 (hw := (f34.yes rfl rfl)) fun a35 f35 => ?_
    refine L.va f35 (E.eq f35) (hw := (f35.yes rfl rfl)) fun a36 f36 => ?_
    refine L.va f36 (E.pickT f36 rfl rfl) fun a37 f37 => ?_
    refine L.mv f37 fun a38 f38 => ?_
    clear f30 f31 a30 f32 a32 f33 a33 f34 a34 f35 a35 f36 a36 f37 a37
    refine f38.splitD 111 rfl (fun h12 f39 => ?_) (fun h12 f39 => ?_)
    ·refine L.fa 4 f39 U28 rfl wsz3_wb (hw := (f39.yes rfl rfl)) fun a40 f40 => ?_
     refine L.ld f40 U3 Bg0 (hw := (f40.yes rfl rfl)) fun a41 f41 => ?_
     refine L.fa 4 f41 U28 rfl wsz3_wb (hw := (f41.yes rfl rfl)) fun a42 f42 => ?_
     refine L.ld f42 U3 Bg1 (hw := (f42.yes rfl rfl)) fun a43 f43 => ?_
     refine L.va f43 (E.eq f43) (hw := (f43.yes rfl rfl)) fun a44 f44 => ?_
     refine L.va f44 (E.pickT f44 rfl rfl) fun a45 f45 => ?_
     refine L.mv f45 fun a46 f46 => ?_
     clear f38 f39 a38 f40 a40 f41 a41 f42 a42 f43 a43 f44 a44 f45 a45
     refine f46.splitD 118 rfl (fun h13 f47 => ?_) (fun h13 f47 => ?_)
     ·refine L.fa 5 f47 U28 rfl wsz9_wb (hw := (f47.yes rfl rfl)) fun a48 f48 => ?_
      refine L.ld f48 U9 Bg0 (hw := (f48.yes rfl rfl)) fun a49 f49 => ?_
      refine L.fa 5 f49 U28 rfl wsz9_wb (hw := (f49.yes rfl rfl)) fun a50 f50 => ?_
      refine L.ld f50 U9 Bg1 (hw := (f50.yes rfl rfl)) fun a51 f51 => ?_
      refine L.va f51 (E.eqlS f51 rfl rfl) (hw := (f51.yes rfl rfl)) fun a52 f52 => ?_
      refine L.va f52 (E.pickT f52 rfl rfl) fun a53 f53 => ?_
      refine L.mv f53 fun a54 f54 => ?_
      clear f46 f47 a46 f48 a48 f49 a49 f50 a50 f51 a51 f52 a52 f53 a53
      refine f54.splitD 125 rfl (fun h14 f55 => ?_) (fun h14 f55 => ?_)
      ·refine L.fa 7 f55 U28 rfl wsz3_wb (hw := (f55.yes rfl rfl)) fun a56 f56 => ?_
       refine L.ld f56 U3 Bg0 (hw := (f56.yes rfl rfl)) fun a57 f57 => ?_
       refine L.fa 7 f57 U28 rfl wsz3_wb (hw := (f57.yes rfl rfl)) fun a58 f58 => ?_
       refine L.ld f58 U3 Bg1 (hw := (f58.yes rfl rfl)) fun a59 f59 => ?_
       refine L.va f59 (E.eq f59) (hw := (f59.yes rfl rfl)) fun a60 f60 => ?_
       refine L.va f60 (E.pickT f60 rfl rfl) fun a61 f61 => ?_
       refine L.mv f61 fun a62 f62 => ?_
       clear f54 f55 a54 f56 a56 f57 a57 f58 a58 f59 a59 f60 a60 f61 a61
       refine f62.splitD 132 rfl (fun h15 f63 => ?_) (fun h15 f63 => ?_)
       ·refine L.fa 8 f63 U28 rfl wsz9_wb (hw := (f63.yes rfl rfl)) fun a64 f64 => ?_
        refine L.ld f64 U9 Bg0 (hw := (f64.yes rfl rfl)) fun a65 f65 => ?_
        refine L.fa 8 f65 U28 rfl wsz9_wb (hw := (f65.yes rfl rfl)) fun a66 f66 => ?_
        refine L.ld f66 U9 Bg1 (hw := (f66.yes rfl rfl)) fun a67 f67 => ?_
        refine L.va f67 (E.eqlS f67 rfl rfl) (hw := (f67.yes rfl rfl)) fun a68 f68 => ?_
        refine L.va f68 (E.pickT f68 rfl rfl) fun a69 f69 => ?_
        refine L.mv f69 fun a70 f70 => ?_
        clear f62 f63 a62 f64 a64 f65 a65 f66 a66 f67 a67 f68 a68 f69 a69
        refine f70.splitD 139 rfl (fun h16 f71 => ?_) (fun h16 f71 => ?_)
        ·refine L.fa 9 f71 U28 rfl wsz4_wb (hw := (f71.yes rfl rfl)) fun a72 f72 => ?_
         refine L.ld f72 U4 Bg0 (hw := (f72.yes rfl rfl)) fun a73 f73 => ?_
         refine L.fa 9 f73 U28 rfl wsz4_wb (hw := (f73.yes rfl rfl)) fun a74 f74 => ?_
         refine L.ld f74 U4 Bg1 (hw := (f74.yes rfl rfl)) fun a75 f75 => ?_
         refine L.va f75 (E.eqlB f75 U4 rfl rfl) (hw := (f75.yes rfl rfl)) fun a76 f76 => ?_
         refine L.va f76 (E.pickT f76 rfl rfl) fun a77 f77 => ?_
         refine L.mv f77 fun a78 f78 => ?_
         clear f70 f71 a70 f72 a72 f73 a73 f74 a74 f75 a75 f76 a76 f77 a77
         refine f78.splitD 146 rfl (fun h17 f79 => ?_) (fun h17 f79 => ?_)
         ·refine L.fa 10 f79 U28 rfl wsz3_wb (hw := (f79.yes rfl rfl)) fun a80 f80 => ?_
          refine L.ld f80 U3 Bg0 (hw := (f80.yes rfl rfl)) fun a81 f81 => ?_
          refine L.fa 10 f81 U28 rfl wsz3_wb (hw := (f81.yes rfl rfl)) fun a82 f82 => ?_
          refine L.ld f82 U3 Bg1 (hw := (f82.yes rfl rfl)) fun a83 f83 => ?_
          refine L.va f83 (E.eq f83) (hw := (f83.yes rfl rfl)) fun a84 f84 => ?_
          refine L.va f84 (E.pickT f84 rfl rfl) fun a85 f85 => ?_
          refine L.mv f85 fun a86 f86 => ?_
          clear f78 f79 a78 f80 a80 f81 a81 f82 a82 f83 a83 f84 a84 f85 a85
          refine f86.splitD 153 rfl (fun h18 f87 => ?_) (fun h18 f87 => ?_)
          ·refine L.fa 11 f87 U28 rfl wsz4_wb (hw := (f87.yes rfl rfl)) fun a88 f88 => ?_
           refine L.ld f88 U4 Bg0 (hw := (f88.yes rfl rfl)) fun a89 f89 => ?_
           refine L.fa 11 f89 U28 rfl wsz4_wb (hw := (f89.yes rfl rfl)) fun a90 f90 => ?_
           refine L.ld f90 U4 Bg1 (hw := (f90.yes rfl rfl)) fun a91 f91 => ?_
           refine L.va f91 (E.eqlB f91 U4 rfl rfl) (hw := (f91.yes rfl rfl)) fun a92 f92 => ?_
           refine L.va f92 (E.pickT f92 rfl rfl) fun a93 f93 => ?_
           refine L.mv f93 fun a94 f94 => ?_
           clear f86 f87 a86 f88 a88 f89 a89 f90 a90 f91 a91 f92 a92 f93 a93
           refine f94.splitD 160 rfl (fun h19 f95 => ?_) (fun h19 f95 => ?_)
           ·refine L.fa 16 f95 U28 rfl wsz4_wb (hw := (f95.yes rfl rfl)) fun a96 f96 => ?_
            refine L.ld f96 U4 Bg0 (hw := (f96.yes rfl rfl)) fun a97 f97 => ?_
            refine L.fa 16 f97 U28 rfl wsz4_wb (hw := (f97.yes rfl rfl)) fun a98 f98 => ?_
            refine L.ld f98 U4 Bg1 (hw := (f98.yes rfl rfl)) fun a99 f99 => ?_
            refine L.va f99 (E.eqlB f99 U4 rfl rfl) (hw := (f99.yes rfl rfl)) fun a100 f100 => ?_
            refine L.va f100 (E.pickT f100 rfl rfl) fun a101 f101 => ?_
            refine L.mv f101 fun a102 f102 => ?_
            clear f94 f95 a94 f96 a96 f97 a97 f98 a98 f99 a99 f100 a100 f101 a101
            refine f102.splitD 167 rfl (fun h20 f103 => ?_) (fun h20 f103 => ?_)
            ·refine L.fa 17 f103 U28 rfl wsz4_wb (hw := (f103.yes rfl rfl)) fun a104 f104 => ?_
             refine L.ld f104 U4 Bg0 (hw := (f104.yes rfl rfl)) fun a105 f105 => ?_
             refine L.fa 17 f105 U28 rfl wsz4_wb (hw := (f105.yes rfl rfl)) fun a106 f106 => ?_
             refine L.ld f106 U4 Bg1 (hw := (f106.yes rfl rfl)) fun a107 f107 => ?_
             refine L.va f107 (E.eqlB f107 U4 rfl rfl) (hw := (f107.yes rfl rfl)) fun a108 f108 => ?_
             refine L.va f108 (E.pickT f108 rfl rfl) fun a109 f109 => ?_
             refine L.mv f109 fun a110 f110 => ?_
             clear f102 f103 a102 f104 a104 f105 a105 f106 a106 f107 a107 f108 a108 f109 a109
             refine f110.splitD 174 rfl (fun h21 f111 => ?_) (fun h21 f111 => ?_)
             ·refine L.fa 18 f111 U28 rfl wsz9_wb (hw := (f111.yes rfl rfl)) fun a112 f112 => ?_
              refine L.ld f112 U9 Bg0 (hw := (f112.yes rfl rfl)) fun a113 f113 => ?_
              refine L.fa 18 f113 U28 rfl wsz9_wb (hw := (f113.yes rfl rfl)) fun a114 f114 => ?_
              refine L.ld f114 U9 Bg1 (hw := (f114.yes rfl rfl)) fun a115 f115 => ?_
              refine L.va f115 (E.eqlS f115 rfl rfl) (hw := (f115.yes rfl rfl)) fun a116 f116 => ?_
              refine L.va f116 (E.pickT f116 rfl rfl) fun a117 f117 => ?_
              refine L.mv f117 fun a118 f118 => ?_
              clear f110 f111 a110 f112 a112 f113 a113 f114 a114 f115 a115 f116 a116 f117 a117
              refine f118.splitD 181 rfl (fun h22 f119 => ?_) (fun h22 f119 => ?_)
              ·refine L.fa 20 f119 U28 rfl wsz4_wb (hw := (f119.yes rfl rfl)) fun a120 f120 => ?_
               refine L.ld f120 U4 Bg0 (hw := (f120.yes rfl rfl)) fun a121 f121 => ?_
               refine L.fa 20 f121 U28 rfl wsz4_wb (hw := (f121.yes rfl rfl)) fun a122 f122 => ?_
               refine L.ld f122 U4 Bg1 (hw := (f122.yes rfl rfl)) fun a123 f123 => ?_
               refine L.va f123 (E.eqlB f123 U4 rfl rfl) (hw := (f123.yes rfl rfl)) fun a124 f124 => ?_
               refine L.va f124 (E.pickT f124 rfl rfl) fun a125 f125 => ?_
               refine L.mv f125 fun a126 f126 => ?_
               clear f118 f119 a118 f120 a120 f121 a121 f122 a122 f123 a123 f124 a124 f125 a125
               refine f126.splitD 188 rfl (fun h23 f127 => ?_) (fun h23 f127 => ?_)
               ·refine L.fa 21 f127 U28 rfl wsz3_wb (hw := (f127.yes rfl rfl)) fun a128 f128 => ?_
                refine L.ld f128 U3 Bg0 (hw := (f128.yes rfl rfl)) fun a129 f129 => ?_
                refine L.fa 21 f129 U28 rfl wsz3_wb (hw := (f129.yes rfl rfl)) fun a130 f130 => ?_
                refine L.ld f130 U3 Bg1 (hw := (f130.yes rfl rfl)) fun a131 f131 => ?_
                refine L.va f131 (E.eq f131) (hw := (f131.yes rfl rfl)) fun a132 f132 => ?_
                refine L.va f132 (E.pickT f132 rfl rfl) fun a133 f133 => ?_
                refine L.ag f133 fun a134 f134 => ?_
                clear f126 f127 a126 f128 a128 f129 a129 f130 a130 f131 a131 f132 a132 f133 a133
                refine wpList_nil (hK21 _ _ ?_)
                have f135 := f134.sub (sc 4 sn)
                refine wp_ret ?_
                try simp only [Exit.inBlock, Exit.then]
                refine C.ret (P := Tryd.prog) (fn := Tryd.f22) f135 rfl rfl ?_
                exact ⟨HK, by rw [same_eq]; simp [greetB, *]⟩
               refine L.run f127 (rest' := []) (by kernel_rfl) fun a128 f128 => ?_
               clear f126
               skip
               refine wpList_nil (hK21 _ _ ?_)
               have f129 := f128.sub (sub_cons (i := 4) (v := .bool false) (by kernel_rfl) sn)
               refine wp_ret ?_
               try simp only [Exit.inBlock, Exit.then]
               refine C.ret (P := Tryd.prog) (fn := Tryd.f22) f129 rfl rfl ?_
               exact ⟨HK, by rw [same_eq]; simp [greetB, *]⟩
              refine L.run f119 (rest' := []) (by kernel_rfl) fun a120 f120 => ?_
              clear f118
              skip
              refine wpList_nil (hK21 _ _ ?_)
              have f121 := f120.sub (sub_cons (i := 4) (v := .bool false) (by kernel_rfl) sn)
              refine wp_ret ?_
              try simp only [Exit.inBlock, Exit.then]
              refine C.ret (P := Tryd.prog) (fn := Tryd.f22) f121 rfl rfl ?_
              exact ⟨HK, by rw [same_eq]; simp [greetB, *]⟩
             refine L.run f111 (rest' := []) (by kernel_rfl) fun a112 f112 => ?_
             clear f110
             skip
             refine wpList_nil (hK21 _ _ ?_)
             have f113 := f112.sub (sub_cons (i := 4) (v := .bool false) (by kernel_rfl) sn)
             refine wp_ret ?_
             try simp only [Exit.inBlock, Exit.then]
             refine C.ret (P := Tryd.prog) (fn := Tryd.f22) f113 rfl rfl ?_
             exact ⟨HK, by rw [same_eq]; simp [greetB, *]⟩
            refine L.run f103 (rest' := []) (by kernel_rfl) fun a104 f104 => ?_
            clear f102
            skip
            refine wpList_nil (hK21 _ _ ?_)
            have f105 := f104.sub (sub_cons (i := 4) (v := .bool false) (by kernel_rfl) sn)
            refine wp_ret ?_
            try simp only [Exit.inBlock, Exit.then]
            refine C.ret (P := Tryd.prog) (fn := Tryd.f22) f105 rfl rfl ?_
            exact ⟨HK, by rw [same_eq]; simp [greetB, *]⟩
           refine L.run f95 (rest' := []) (by kernel_rfl) fun a96 f96 => ?_
           clear f94
           skip
           refine wpList_nil (hK21 _ _ ?_)
           have f97 := f96.sub (sub_cons (i := 4) (v := .bool false) (by kernel_rfl) sn)
           refine wp_ret ?_
           try simp only [Exit.inBlock, Exit.then]
           refine C.ret (P := Tryd.prog) (fn := Tryd.f22) f97 rfl rfl ?_
           exact ⟨HK, by rw [same_eq]; simp [greetB, *]⟩
          refine L.run f87 (rest' := []) (by kernel_rfl) fun a88 f88 => ?_
          clear f86
          skip
          refine wpList_nil (hK21 _ _ ?_)
          have f89 := f88.sub (sub_cons (i := 4) (v := .bool false) (by kernel_rfl) sn)
          refine wp_ret ?_
          try simp only [Exit.inBlock, Exit.then]
          refine C.ret (P := Tryd.prog) (fn := Tryd.f22) f89 rfl rfl ?_
          exact ⟨HK, by rw [same_eq]; simp [greetB, *]⟩
         refine L.run f79 (rest' := []) (by kernel_rfl) fun a80 f80 => ?_
         clear f78
         skip
         refine wpList_nil (hK21 _ _ ?_)
         have f81 := f80.sub (sub_cons (i := 4) (v := .bool false) (by kernel_rfl) sn)
         refine wp_ret ?_
         try simp only [Exit.inBlock, Exit.then]
         refine C.ret (P := Tryd.prog) (fn := Tryd.f22) f81 rfl rfl ?_
         exact ⟨HK, by rw [same_eq]; simp [greetB, *]⟩
        refine L.run f71 (rest' := []) (by kernel_rfl) fun a72 f72 => ?_
        clear f70
        skip
        refine wpList_nil (hK21 _ _ ?_)
        have f73 := f72.sub (sub_cons (i := 4) (v := .bool false) (by kernel_rfl) sn)
        refine wp_ret ?_
        try simp only [Exit.inBlock, Exit.then]
        refine C.ret (P := Tryd.prog) (fn := Tryd.f22) f73 rfl rfl ?_
        exact ⟨HK, by rw [same_eq]; simp [greetB, *]⟩
       refine L.run f63 (rest' := []) (by kernel_rfl) fun a64 f64 => ?_
       clear f62
       skip
       refine wpList_nil (hK21 _ _ ?_)
       have f65 := f64.sub (sub_cons (i := 4) (v := .bool false) (by kernel_rfl) sn)
       refine wp_ret ?_
       try simp only [Exit.inBlock, Exit.then]
       refine C.ret (P := Tryd.prog) (fn := Tryd.f22) f65 rfl rfl ?_
       exact ⟨HK, by rw [same_eq]; simp [greetB, *]⟩
      refine L.run f55 (rest' := []) (by kernel_rfl) fun a56 f56 => ?_
      clear f54
      skip
      refine wpList_nil (hK21 _ _ ?_)
      have f57 := f56.sub (sub_cons (i := 4) (v := .bool false) (by kernel_rfl) sn)
      refine wp_ret ?_
      try simp only [Exit.inBlock, Exit.then]
      refine C.ret (P := Tryd.prog) (fn := Tryd.f22) f57 rfl rfl ?_
      exact ⟨HK, by rw [same_eq]; simp [greetB, *]⟩
     refine L.run f47 (rest' := []) (by kernel_rfl) fun a48 f48 => ?_
     clear f46
     skip
     refine wpList_nil (hK21 _ _ ?_)
     have f49 := f48.sub (sub_cons (i := 4) (v := .bool false) (by kernel_rfl) sn)
     refine wp_ret ?_
     try simp only [Exit.inBlock, Exit.then]
     refine C.ret (P := Tryd.prog) (fn := Tryd.f22) f49 rfl rfl ?_
     exact ⟨HK, by rw [same_eq]; simp [greetB, *]⟩
    refine L.run f39 (rest' := []) (by kernel_rfl) fun a40 f40 => ?_
    clear f38
    skip
    refine wpList_nil (hK21 _ _ ?_)
    have f41 := f40.sub (sub_cons (i := 4) (v := .bool false) (by kernel_rfl) sn)
    refine wp_ret ?_
    try simp only [Exit.inBlock, Exit.then]
    refine C.ret (P := Tryd.prog) (fn := Tryd.f22) f41 rfl rfl ?_
    exact ⟨HK, by rw [same_eq]; simp [greetB, *]⟩
   refine L.run f31 (rest' := []) (by kernel_rfl) fun a32 f32 => ?_
   clear f30
   skip
   refine wpList_nil (hK21 _ _ ?_)
   have f33 := f32.sub (sub_cons (i := 4) (v := .bool false) (by kernel_rfl) sn)
   refine wp_ret ?_
   try simp only [Exit.inBlock, Exit.then]
   refine C.ret (P := Tryd.prog) (fn := Tryd.f22) f33 rfl rfl ?_
   exact ⟨HK, by rw [same_eq]; simp [greetB, *]⟩
  refine L.run f23 (rest' := []) (by kernel_rfl) fun a24 f24 => ?_
  clear f22
  skip
  refine wpList_nil (hK21 _ _ ?_)
  have f25 := f24.sub (sub_cons (i := 4) (v := .bool false) (by kernel_rfl) sn)
  refine wp_ret ?_
  try simp only [Exit.inBlock, Exit.then]
  refine C.ret (P := Tryd.prog) (fn := Tryd.f22) f25 rfl rfl ?_
  exact ⟨HK, by rw [same_eq]; simp [greetB, *]⟩
 refine L.run f15 (rest' := []) (by kernel_rfl) fun a16 f16 => ?_
 clear f14
 skip
 refine wpList_nil (hK21 _ _ ?_)
 have f17 := f16.sub (sub_cons (i := 4) (v := .bool false) (by kernel_rfl) sn)
 refine wp_ret ?_
 try simp only [Exit.inBlock, Exit.then]
 refine C.ret (P := Tryd.prog) (fn := Tryd.f22) f17 rfl rfl ?_
 exact ⟨HK, by rw [same_eq]; simp [greetB, *]⟩
set_option maxHeartbeats 1000000 in
theorem text_any (b : ByteArray) (w : World) (hT : Tabs w) : Calls Tryd.prog 74 #[.string b] w (fun e w' => Kept [] w w' ∧ e = .returned (.bool (txB b))) := by
 have HK : Kept [] w w := Kept.refl [] w
 refine C.enter Tryd.func74 rfl Tryd.ntmps74 rfl ?_
 intro a0 f0
 have f1 : Fr 12 a0 [(0, .string b)] := f0
 refine C.sk fun K0 hK0 => ?_
 refine L.ag f1 fun a2 f2 => ?_
 refine wpList_nil (hK0 _ _ ?_)
 have f3 := f2.sub (sc 0 sn)
 refine C.sk fun K1 hK1 => ?_
 refine L.mv f3 fun a4 f4 => ?_
 refine L.va f4 (E.lenS f4 U9 rfl) fun a5 f5 => ?_
 refine L.va f5 (E.leq f5 rfl rfl) fun a6 f6 => ?_
 refine L.mv f6 fun a7 f7 => ?_
 clear f0 f1 a0 f2 f3 a2 f4 a4 f5 a5 f6 a6
 refine f7.splitD 6 rfl (fun h0 f8 => ?_) (fun h0 f8 => ?_)
 ·refine L.mv f8 (hw := (f8.yes rfl rfl)) fun a9 f9 => ?_
  refine L.convSB f9 (f9.yes rfl rfl) (by decide) U9 U22 U5 rfl (by omega) fun a10 w1 cb f10 hcb BS kcv => ?_
  have szw1 := kcv.size
  replace HK := HK.trans kcv (by simp)
  clear f7 f8 a7 f9 a9 kcv
  refine L.cl f10 (run_call Tryd.call87 (args1 f10 rfl)) (chk_any [5] w1.heap.size _ cb b.toList w1 (hT.old (HK.below (by simp) (Nat.le_refl _))) BS hcb.1 hcb.2) ?_ (hw := (f10.yes rfl rfl))
  rintro e w2 ⟨rfl, kb⟩
  have kc2 := Kept.of_below kb []
  refine ⟨_, rfl, fun a11 f11 => ?_⟩
  have szw2 := kc2.size
  replace HK := HK.trans kc2 (by simp)
  clear f10 a10 kc2
  refine L.va f11 (E.lss f11 rfl rfl) (hw := (f11.yes rfl rfl)) fun a12 f12 => ?_
  refine L.va f12 (E.pickT f12 rfl rfl) fun a13 f13 => ?_
  refine L.ag f13 fun a14 f14 => ?_
  refine wpList_nil (hK1 _ _ ?_)
  have f15 := f14.sub (sc 2 sn)
  refine wp_ret ?_
  try simp only [Exit.inBlock, Exit.then]
  refine C.ret (P := Tryd.prog) (fn := Tryd.f74) f15 rfl rfl ?_
  exact ⟨HK, by rw [tx_t (by omega)]⟩
 refine L.sk f8 (f8.noT rfl rfl) fun a9 f9 => ?_
 refine L.sk f9 (f9.noT rfl rfl) fun a10 f10 => ?_
 refine L.run f10 (rest' := []) (by kernel_rfl) fun a11 f11 => ?_
 clear f7 f8 a7 f9 a9
 skip
 refine wpList_nil (hK1 _ _ ?_)
 have f12 := f11.sub (sub_cons (i := 2) (v := .bool false) (by kernel_rfl) sn)
 refine wp_ret ?_
 try simp only [Exit.inBlock, Exit.then]
 refine C.ret (P := Tryd.prog) (fn := Tryd.f74) f12 rfl rfl ?_
 exact ⟨HK, by rw [tx_f (by omega)]⟩
set_option maxHeartbeats 1000000 in
theorem textR_any (b : ByteArray) (w : World) (hT : Tabs w) : Calls Tryd.prog 50 #[.string b] w (fun e w' => Kept [] w w' ∧ e = .returned (.bool (txB b))) := by
 have HK : Kept [] w w := Kept.refl [] w
 refine C.enter Tryd.func50 rfl Tryd.ntmps50 rfl ?_
 intro a0 f0
 have f1 : Fr 12 a0 [(0, .string b)] := f0
 refine C.sk fun K0 hK0 => ?_
 refine L.ag f1 fun a2 f2 => ?_
 refine wpList_nil (hK0 _ _ ?_)
 have f3 := f2.sub (sc 0 sn)
 refine C.sk fun K1 hK1 => ?_
 refine L.mv f3 fun a4 f4 => ?_
 refine L.va f4 (E.lenS f4 U9 rfl) fun a5 f5 => ?_
 refine L.va f5 (E.leq f5 rfl rfl) fun a6 f6 => ?_
 refine L.mv f6 fun a7 f7 => ?_
 clear f0 f1 a0 f2 f3 a2 f4 a4 f5 a5 f6 a6
 refine f7.splitD 6 rfl (fun h0 f8 => ?_) (fun h0 f8 => ?_)
 ·refine L.mv f8 (hw := (f8.yes rfl rfl)) fun a9 f9 => ?_
  refine L.convSB f9 (f9.yes rfl rfl) (by decide) U9 U22 U5 rfl (by omega) fun a10 w1 cb f10 hcb BS kcv => ?_
  have szw1 := kcv.size
  replace HK := HK.trans kcv (by simp)
  clear f7 f8 a7 f9 a9 kcv
  refine L.cl f10 (run_call Tryd.call78 (args1 f10 rfl)) (chkR_any [5] w1.heap.size _ cb b.toList w1 BS hcb.1 hcb.2) ?_ (hw := (f10.yes rfl rfl))
  rintro e w1x ⟨rfl, rfl⟩
  refine ⟨_, rfl, fun a11 f11 => ?_⟩
  refine L.va f11 (E.lss f11 rfl rfl) (hw := (f11.yes rfl rfl)) fun a12 f12 => ?_
  refine L.va f12 (E.pickT f12 rfl rfl) fun a13 f13 => ?_
  refine L.ag f13 fun a14 f14 => ?_
  refine wpList_nil (hK1 _ _ ?_)
  have f15 := f14.sub (sc 2 sn)
  refine wp_ret ?_
  try simp only [Exit.inBlock, Exit.then]
  refine C.ret (P := Tryd.prog) (fn := Tryd.f50) f15 rfl rfl ?_
  exact ⟨HK, by rw [tx_t (by omega)]⟩
 refine L.sk f8 (f8.noT rfl rfl) fun a9 f9 => ?_
 refine L.sk f9 (f9.noT rfl rfl) fun a10 f10 => ?_
 refine L.run f10 (rest' := []) (by kernel_rfl) fun a11 f11 => ?_
 clear f7 f8 a7 f9 a9
 skip
 refine wpList_nil (hK1 _ _ ?_)
 have f12 := f11.sub (sub_cons (i := 2) (v := .bool false) (by kernel_rfl) sn)
 refine wp_ret ?_
 try simp only [Exit.inBlock, Exit.then]
 refine C.ret (P := Tryd.prog) (fn := Tryd.f50) f12 rfl rfl ?_
 exact ⟨HK, by rw [tx_f (by omega)]⟩
set_option maxHeartbeats 1000000 in
theorem subs_any (l : List (ByteArray × Int)) (A : Option Addr) (c : Nat) (m : Int) (w : World) (hT : Tabs w) (A1 : Sl w A l.length 2 (subCells l)) (hm : l.length ≤ 1000000) : Calls Tryd.prog 75 #[.slice A l.length c, .int .i64 m] w (fun e w' => Kept [] w w' ∧ e = .returned (.bool (subB m l && decide (0 < l.length)))) := by
 have HK : Kept [] w w := Kept.refl [] w
 refine C.enter Tryd.func75 rfl Tryd.ntmps75 rfl ?_
 intro a0 f0
 have f1 : Fr 28 a0 [(0, .slice A l.length c), (1, .int .i64 m)] := f0
 refine C.sk fun K0 hK0 => ?_
 refine L.ag f1 fun a2 f2 => ?_
 refine wpList_nil (hK0 _ _ ?_)
 have f3 := f2.sub (sc 0 (sc 1 sn))
 refine wp_seq_k fun K1 hK1 => ?_
 refine C.sk fun K2 hK2 => ?_
 refine L.mv f3 fun a4 f4 => ?_
 refine L.va f4 (E.lenL f4 U25 rfl) fun a5 f5 => ?_
 refine L.mv f5 fun a6 f6 => ?_
 refine wpList_nil (hK2 _ _ ?_)
 have f7 := f6.sub (sc 0 (sc 1 (sc 7 (sc 8 (sc 9 sn)))))
 refine wp_block ?_
 clear f0 f1 a0 f2 f3 a2 f4 a4 f5 a5 f6
 refine C.loop (fun gk a W => ∃ k : Nat, k + gk = l.length ∧ Kept [] w W ∧ (∀ x ∈ l.take k, (txB x.1 && inB x.2 0 m) = true) ∧ Fr 28 a [(0, .slice A l.length c), (1, .int .i64 m), (7, .slice A l.length c), (8, .int .i64 l.length), (9, .int .i64 k)]) (l.length) ?_ ?_
 ·exact ⟨0, by omega, HK, by simp, f7.sub (sub_cons rfl (sub_cons rfl (sub_cons rfl (sub_cons rfl (sub_cons rfl sn)))))⟩
 intro gk4 a8 w1 hI KL3 hKL3
 obtain ⟨k, hk, HK, hq, f8⟩ := hI
 try clear f7
 refine C.sk fun K4 hK4 => ?_
 refine L.va f8 (E.lss f8 rfl rfl) fun a9 f9 => ?_
 refine wpList_nil (hK4 _ _ ?_)
 have f10 := f9.sub (sc 0 (sc 1 (sc 7 (sc 8 (sc 9 (sc 10 sn))))))
 refine wp_seq_k fun K5 hK5 => ?_
 clear f8 a8 f9
 refine f10.splitD 10 rfl (fun h0 f11 => ?_) (fun h0 f11 => ?_)
 ·obtain ⟨d, hd⟩ := some_at l k (by omega)
  obtain ⟨bk, off, hA⟩ := A1.addr (by omega)
  refine C.condT f11 rfl ?_
  refine wp_skip (hK5 _ _ ?_)
  have f12 := f11.sub (sc 0 (sc 1 (sc 7 (sc 8 (sc 9 sn)))))
  refine wp_seq_k fun K6 hK6 => ?_
  refine wp_block ?_
  refine C.sk fun K7 hK7 => ?_
  refine L.va f12 (E.indexA f12 (by assumption) U25 wsz70_wb rfl rfl (by omega) (by omega)) fun a13 f13 => ?_
  refine L.va f13 (by exact E.loadR f13 U70 rfl wsz70_wb rfl (sub_row (A1.kept HK) hA hd) rfl) fun a14 f14 => ?_
  refine L.alloc f14 wantedN (by decide) (z := (.agg #[(.string ⟨#[]⟩), (.int .i64 0)])) (fun _ => by kernel_rfl) rfl fun a15 w2 g1 N1 f15 => ?_
  have Bg1 := N1.blk
  have kg1 := N1.kept
  have log1 := N1.lo
  have ltg1 := Bg1.lt
  have szw2 := kg1.size
  have frg1 : w.heap.size ≤ g1 := Nat.le_trans HK.size log1
  replace HK := HK.trans kg1 (by simp)
  clear f10 f11 f12 a9 f13 a13 N1 kg1
  refine L.storeR f15 wantedN wsz70_wb rfl rfl rfl Bg1 rfl rfl fun a16 w3 f16 NB3 ks3 => ?_
  have szw3 := ks3.size
  replace HK := HK.trans ks3 (ktr (by omega))
  replace Bg1 := NB3
  clear f14 a14 ks3 f15 a15
  refine wpList_nil (hK7 _ _ ?_)
  have f17 := f16.sub (sc 0 (sc 1 (sc 6 (sc 7 (sc 8 (sc 9 sn))))))
  refine C.sk fun K8 hK8 => ?_
  refine L.fa 0 f17 U70 rfl wsz9_wb fun a18 f18 => ?_
  refine L.ld f18 U9 Bg1 fun a19 f19 => ?_
  refine L.cl f19 (run_call Tryd.call74 (args1 f19 rfl)) (text_any _ _ (hT.old (HK.below (by simp) (Nat.le_refl _)))) ?_
  clear f16 f17 a16 f18 a18
  rintro e w4 ⟨kc4, rfl⟩
  refine ⟨_, rfl, fun a20 f20 => ?_⟩
  have szw4 := kc4.size
  replace HK := HK.trans kc4 (by simp)
  replace Bg1 := Bg1.kept kc4 (by simp)
  clear f19 a19 kc4
  refine f20.split 15 rfl (fun h1 f21 => ?_) (fun h1 f21 => ?_)
  ·have ht := h1
   refine L.va f21 (E.not f21 rfl) fun a22 f22 => ?_
   refine L.mv f22 fun a23 f23 => ?_
   refine L.fa 1 f23 U70 rfl wsz3_wb (hw := (f23.yes rfl rfl)) fun a24 f24 => ?_
   refine L.ld f24 U3 Bg1 (hw := (f24.yes rfl rfl)) fun a25 f25 => ?_
   refine L.mv f25 (hw := (f25.yes rfl rfl)) fun a26 f26 => ?_
   refine L.cl f26 (run_call Tryd.call44 (args3 f26 rfl rfl rfl)) (in_any _ _ _ _) ?_ (hw := (f26.yes rfl rfl))
   clear f20 f21 a20 f22 a22 f23 a23 f24 a24 f25 a25
   rintro e w4x ⟨rfl, rfl⟩
   refine ⟨_, rfl, fun a27 f27 => ?_⟩
   clear f26 a26
   refine f27.split 21 rfl (fun h2 f28 => ?_) (fun h2 f28 => ?_)
   ·have hi := h2
    refine L.va f28 (E.not f28 rfl) (hw := (f28.yes rfl rfl)) fun a29 f29 => ?_
    refine L.va f29 (E.pickF f29 rfl rfl) fun a30 f30 => ?_
    refine wpList_nil (hK8 _ _ ?_)
    have f31 := f30.sub (sc 0 (sc 1 (sc 7 (sc 8 (sc 9 (sc 23 sn))))))
    refine C.condF f31 rfl ?_
    refine wp_skip (hK6 _ _ ?_)
    have f32 := f31.sub (sc 0 (sc 1 (sc 7 (sc 8 (sc 9 sn)))))
    refine C.region ?_
    refine L.va f32 (E.add f32 rfl rfl (IntWalk.i64_in _ (by omega))) fun a33 f33 => ?_
    refine L.mv f33 fun a34 f34 => ?_
    clear f27 f28 a27 f29 a29 f30 f31 f32 a30 f33 a33
    refine wpList_nil (hKL3 _ _ (gk4 - 1) ?_ ?_)
    ·omega
    exact ⟨k + 1, by omega, HK, in_take hq hd (by rw [ht, hi]; rfl), f34.sub (sub_cons rfl (sub_cons rfl (sub_cons rfl (sub_cons rfl (sub_cons rfl sn)))))⟩
   have hi := h2
   refine L.va f28 (E.not f28 rfl) (hw := (f28.yes rfl rfl)) fun a29 f29 => ?_
   refine L.va f29 (E.pickF f29 rfl rfl) fun a30 f30 => ?_
   refine wpList_nil (hK8 _ _ ?_)
   have f31 := f30.sub (sc 0 (sc 1 (sc 7 (sc 8 (sc 9 (sc 23 sn))))))
   refine C.condT f31 rfl ?_
   refine C.sk fun K9 hK9 => ?_
   refine L.ag f31 fun a32 f32 => ?_
   refine wpList_nil (hK9 _ _ ?_)
   have f33 := f32.sub (sc 4 sn)
   refine wp_ret ?_
   try simp only [Exit.inBlock, Exit.then]
   refine C.ret (P := Tryd.prog) (fn := Tryd.f75) f33 rfl rfl ?_
   exact ⟨HK, by rw [subB_f (List.mem_of_getElem? hd) (by rw [hi]; simp)]; rfl⟩
  have ht := h1
  refine L.va f21 (E.not f21 rfl) fun a22 f22 => ?_
  refine L.mv f22 fun a23 f23 => ?_
  refine L.sk f23 (f23.noF rfl rfl) fun a24 f24 => ?_
  refine L.sk f24 (f24.noF rfl rfl) fun a25 f25 => ?_
  refine L.sk f25 (f25.noF rfl rfl) fun a26 f26 => ?_
  refine L.sk f26 (f26.noF rfl rfl) fun a27 f27 => ?_
  refine L.sk f27 (f27.noF rfl rfl) fun a28 f28 => ?_
  clear f20 f21 a20 f22 a22 f23 a23 f24 a24 f25 a25 f26 a26 f27 a27
  refine L.va f28 (E.pickT f28 rfl rfl) fun a29 f29 => ?_
  refine wpList_nil (hK8 _ _ ?_)
  have f30 := f29.sub (sc 0 (sc 1 (sc 7 (sc 8 (sc 9 (sc 23 sn))))))
  refine C.condT f30 rfl ?_
  refine C.sk fun K10 hK10 => ?_
  refine L.ag f30 fun a31 f31 => ?_
  refine wpList_nil (hK10 _ _ ?_)
  have f32 := f31.sub (sc 4 sn)
  refine wp_ret ?_
  try simp only [Exit.inBlock, Exit.then]
  refine C.ret (P := Tryd.prog) (fn := Tryd.f75) f32 rfl rfl ?_
  exact ⟨HK, by rw [subB_f (List.mem_of_getElem? hd) (by rw [ht]; simp)]; rfl⟩
 refine C.condF f11 rfl ?_
 refine wp_exit (hK1 _ _ ?_)
 have f12 := f11.sub (sc 0 sn)
 refine C.sk fun K11 hK11 => ?_
 refine L.mv f12 fun a13 f13 => ?_
 refine L.va f13 (E.lenL f13 U25 rfl) fun a14 f14 => ?_
 refine L.va f14 (E.gtr f14 rfl rfl) fun a15 f15 => ?_
 refine L.ag f15 fun a16 f16 => ?_
 refine wpList_nil (hK11 _ _ ?_)
 have f17 := f16.sub (sc 4 sn)
 refine wp_ret ?_
 try simp only [Exit.inBlock, Exit.then]
 refine C.ret (P := Tryd.prog) (fn := Tryd.f75) f17 rfl rfl ?_
 exact ⟨HK, by rw [subB_t (all_take hq (by omega))]; simp⟩
set_option maxHeartbeats 1000000 in
theorem cod_any (c : Int) (w : World) : Calls Tryd.prog 77 #[.int .i64 c] w (fun e w' => w = w' ∧ e = .returned (.bool (!(inB c 0 2 || decide (c = 128))))) := by
 refine C.enter Tryd.func77 rfl Tryd.ntmps77 rfl ?_
 intro a0 f0
 have f1 : Fr 10 a0 [(0, .int .i64 c)] := f0
 refine C.sk fun K0 hK0 => ?_
 refine L.ag f1 fun a2 f2 => ?_
 refine wpList_nil (hK0 _ _ ?_)
 have f3 := f2.sub (sc 0 sn)
 refine C.sk fun K1 hK1 => ?_
 refine L.mv f3 fun a4 f4 => ?_
 refine L.cl f4 (run_call Tryd.call44 (args3 f4 rfl rfl rfl)) (in_any _ _ _ _) ?_
 clear f0 f1 a0 f2 f3 a2
 rintro e wx ⟨rfl, rfl⟩
 refine ⟨_, rfl, fun a5 f5 => ?_⟩
 refine L.va f5 (E.not f5 rfl) fun a6 f6 => ?_
 refine L.mv f6 fun a7 f7 => ?_
 clear f4 a4 f5 a5 f6 a6
 refine f7.splitNB 6 rfl (fun h0 f8 => ?_) (fun h0 f8 => ?_)
 ·refine L.mv f8 (hw := (f8.yes rfl rfl)) fun a9 f9 => ?_
  refine L.va f9 (E.neq f9 rfl rfl) (hw := (f9.yes rfl rfl)) fun a10 f10 => ?_
  refine L.va f10 (E.pickT f10 rfl rfl) fun a11 f11 => ?_
  refine L.ag f11 fun a12 f12 => ?_
  refine wpList_nil (hK1 _ _ ?_)
  have f13 := f12.sub (sc 2 sn)
  refine wp_ret ?_
  try simp only [Exit.inBlock, Exit.then]
  refine C.ret (P := Tryd.prog) (fn := Tryd.f77) f13 rfl rfl ?_
  exact ⟨rfl, by simp [*]⟩
 refine L.run f8 (rest' := []) (by kernel_rfl) fun a9 f9 => ?_
 clear f7
 skip
 refine wpList_nil (hK1 _ _ ?_)
 have f10 := f9.sub (sub_cons (i := 2) (v := .bool false) (by kernel_rfl) sn)
 refine wp_ret ?_
 try simp only [Exit.inBlock, Exit.then]
 refine C.ret (P := Tryd.prog) (fn := Tryd.f77) f10 rfl rfl ?_
 exact ⟨rfl, by simp [*]⟩
set_option maxHeartbeats 1000000 in
theorem idx_any (l : List Int) (A : Option Addr) (c : Nat) (w : World) (A1 : Sl w A l.length 1 (codeCells l)) (hm : l.length ≤ 1000000) : Calls Tryd.prog 88 #[.slice A l.length c, .func (.func 77) #[] #[]] w (fun e w' => w = w' ∧ ∃ r : Int, e = .returned (.int .i64 r) ∧ (0 ≤ r ↔ codB l = false)) := by
 refine C.enter Tryd.func88 rfl Tryd.ntmps88 rfl ?_
 intro a0 f0
 have f1 : Fr 19 a0 [(0, .slice A l.length c), (1, .func (.func 77) #[] #[])] := f0
 refine C.sk fun K0 hK0 => ?_
 refine L.ag f1 fun a2 f2 => ?_
 refine wpList_nil (hK0 _ _ ?_)
 have f3 := f2.sub (sc 0 (sc 1 sn))
 refine wp_seq_k fun K1 hK1 => ?_
 refine C.sk fun K2 hK2 => ?_
 refine L.mv f3 fun a4 f4 => ?_
 refine L.va f4 (E.lenL f4 U26 rfl) fun a5 f5 => ?_
 refine L.mv f5 fun a6 f6 => ?_
 refine wpList_nil (hK2 _ _ ?_)
 have f7 := f6.sub (sc 0 (sc 1 (sc 7 (sc 8 sn))))
 refine wp_block ?_
 clear f0 f1 a0 f2 f3 a2 f4 a4 f5 a5 f6
 refine C.loop (fun gk a W => w = W ∧ ∃ k : Nat, k + gk = l.length ∧ (∀ x ∈ l.take k, (inB x 0 2 || decide (x = 128)) = true) ∧ Fr 19 a [(0, .slice A l.length c), (1, .func (.func 77) #[] #[]), (7, .int .i64 l.length), (8, .int .i64 k)]) (l.length) ?_ ?_
 ·exact ⟨rfl, 0, by omega, by simp, f7.sub (sub_cons rfl (sub_cons rfl (sub_cons rfl (sub_cons rfl sn))))⟩
 intro gk4 a8 w1 hI KL3 hKL3
 obtain ⟨hW, k, hk, hq, f8⟩ := hI
 subst hW
 try clear f7
 refine C.sk fun K4 hK4 => ?_
 refine L.va f8 (E.lss f8 rfl rfl) fun a9 f9 => ?_
 refine wpList_nil (hK4 _ _ ?_)
 have f10 := f9.sub (sc 0 (sc 1 (sc 7 (sc 8 (sc 9 sn)))))
 refine wp_seq_k fun K5 hK5 => ?_
 clear f8 a8 f9
 refine f10.splitD 9 rfl (fun h0 f11 => ?_) (fun h0 f11 => ?_)
 ·obtain ⟨d, hd⟩ := some_at l k (by omega)
  obtain ⟨bk, off, hA⟩ := A1.addr (by omega)
  refine C.condT f11 rfl ?_
  refine wp_skip (hK5 _ _ ?_)
  have f12 := f11.sub (sc 0 (sc 1 (sc 7 (sc 8 sn))))
  refine wp_seq_k fun K6 hK6 => ?_
  refine wp_block ?_
  refine C.sk fun K7 hK7 => ?_
  refine L.mv f12 fun a13 f13 => ?_
  refine L.ag f13 fun a14 f14 => ?_
  refine wpList_nil (hK7 _ _ ?_)
  have f15 := f14.sub (sc 0 (sc 1 (sc 5 (sc 7 (sc 8 sn)))))
  refine C.sk fun K8 hK8 => ?_
  refine L.mv f15 fun a16 f16 => ?_
  refine L.mv f16 fun a17 f17 => ?_
  refine L.mv f17 fun a18 f18 => ?_
  refine L.va f18 (E.indexA f18 (by assumption) U26 wsz3_wb rfl rfl (by omega) (by omega)) fun a19 f19 => ?_
  clear f10 f11 f12 a9 f13 a13 f14 f15 a14 f16 a16 f17 a17 f18 a18
  refine L.va f19 (by exact E.load f19 U3 rfl rfl (code_cell1 A1 hA hd)) fun a20 f20 => ?_
  refine L.cl f20 (cv1_0 f20 rfl Tryd.call77 rfl) (cod_any _ _) ?_
  clear f19 a19
  rintro e wx ⟨rfl, rfl⟩
  refine ⟨_, rfl, fun a21 f21 => ?_⟩
  refine wpList_nil (hK8 _ _ ?_)
  have f22 := f21.sub (sc 0 (sc 1 (sc 5 (sc 7 (sc 8 (sc 16 sn))))))
  clear f20 a20 f21
  refine f22.splitNB 16 rfl (fun h1 f23 => ?_) (fun h1 f23 => ?_)
  ·have hc := h1
   refine C.condT f23 rfl ?_
   refine C.sk fun K9 hK9 => ?_
   refine L.mv f23 fun a24 f24 => ?_
   refine L.ag f24 fun a25 f25 => ?_
   refine wpList_nil (hK9 _ _ ?_)
   have f26 := f25.sub (sc 4 sn)
   refine wp_ret ?_
   try simp only [Exit.inBlock, Exit.then]
   refine C.ret (P := Tryd.prog) (fn := Tryd.f88) f26 rfl rfl ?_
   exact ⟨rfl, _, rfl, by rw [codB_f (List.mem_of_getElem? hd) (by simpa using hc)]; simp⟩
  have hc := h1
  refine C.condF f23 rfl ?_
  refine wp_skip (hK6 _ _ ?_)
  have f24 := f23.sub (sc 0 (sc 1 (sc 7 (sc 8 sn))))
  refine C.region ?_
  refine L.va f24 (E.add f24 rfl rfl (IntWalk.i64_in _ (by omega))) fun a25 f25 => ?_
  refine L.mv f25 fun a26 f26 => ?_
  clear f22 f23 f24 a21 f25 a25
  refine wpList_nil (hKL3 _ _ (gk4 - 1) ?_ ?_)
  ·omega
  exact ⟨rfl, k + 1, by omega, in_take hq hd (by simpa using hc), f26.sub (sub_cons rfl (sub_cons rfl (sub_cons rfl (sub_cons rfl sn))))⟩
 refine C.condF f11 rfl ?_
 refine wp_exit (hK1 _ _ ?_)
 have f12 := f11.sub sn
 refine C.sk fun K10 hK10 => ?_
 refine L.ag f12 fun a13 f13 => ?_
 refine wpList_nil (hK10 _ _ ?_)
 have f14 := f13.sub (sc 4 sn)
 refine wp_ret ?_
 try simp only [Exit.inBlock, Exit.then]
 refine C.ret (P := Tryd.prog) (fn := Tryd.f88) f14 rfl rfl ?_
 exact ⟨rfl, _, rfl, by rw [codB_t (all_take hq (by omega))]; simp⟩
set_option maxHeartbeats 1000000 in
theorem con_any (l : List Int) (A : Option Addr) (c : Nat) (w : World) (A1 : Sl w A l.length 1 (codeCells l)) (hm : l.length ≤ 1000000) : Calls Tryd.prog 76 #[.slice A l.length c, .func (.func 77) #[] #[]] w (fun e w' => w = w' ∧ e = .returned (.bool (!codB l))) := by
 refine C.enter Tryd.func76 rfl Tryd.ntmps76 rfl ?_
 intro a0 f0
 have f1 : Fr 9 a0 [(0, .slice A l.length c), (1, .func (.func 77) #[] #[])] := f0
 refine C.sk fun K0 hK0 => ?_
 refine L.ag f1 fun a2 f2 => ?_
 refine wpList_nil (hK0 _ _ ?_)
 have f3 := f2.sub (sc 0 (sc 1 sn))
 refine C.sk fun K1 hK1 => ?_
 refine L.mv f3 fun a4 f4 => ?_
 refine L.mv f4 fun a5 f5 => ?_
 refine L.cl f5 (run_call Tryd.call88 (args2 f5 rfl rfl)) (idx_any _ _ _ _ A1 hm) ?_
 clear f0 f1 a0 f2 f3 a2 f4 a4
 rintro e wx ⟨rfl, r, rfl, hr⟩
 refine ⟨_, rfl, fun a6 f6 => ?_⟩
 refine L.va f6 (E.geq f6 rfl rfl) fun a7 f7 => ?_
 refine L.ag f7 fun a8 f8 => ?_
 refine wpList_nil (hK1 _ _ ?_)
 have f9 := f8.sub (sc 4 sn)
 refine wp_ret ?_
 try simp only [Exit.inBlock, Exit.then]
 refine C.ret (P := Tryd.prog) (fn := Tryd.f76) f9 rfl rfl ?_
 exact ⟨rfl, by rw [con_eq hr]⟩
set_option maxRecDepth 100000 in
set_option maxHeartbeats 2000000 in
theorem val_any (p : Pk) (s : Ad) (w : World) (IP : p.In w s) (hT : Tabs w) (hl : p.subs.length ≤ 1000000) (hl2 : p.codes.length ≤ 1000000) : Calls Tryd.prog 46 #[.agg (p.cells s)] w (fun e w' => Kept [] w w' ∧ e = .returned (.bool (valB p))) := by
 have HK : Kept [] w w := Kept.refl [] w
 refine C.enter Tryd.func46 rfl Tryd.ntmps46 rfl ?_
 intro a0 f0
 have f1 : Fr 114 a0 [(0, .agg (p.cells s))] := f0
 refine C.sk fun K0 hK0 => ?_
 refine L.box f1 wantedN (by decide) rfl rfl fun a2 w1 g0 N0 f2 => ?_
 have Bg0 := N0.blk
 have kg0 := N0.kept
 have log0 := N0.lo
 have ltg0 := Bg0.lt
 have szw1 := kg0.size
 have frg0 : w.heap.size ≤ g0 := Nat.le_trans HK.size log0
 replace HK := HK.trans kg0 (by simp)
 clear f0 N0 kg0
 refine L.ag f2 fun a3 f3 => ?_
 refine wpList_nil (hK0 _ _ ?_)
 have f4 := f3.sub (sc 1 sn)
 obtain ⟨J3, hJ3⟩ : ∃ J : Act → World → Prop, J = fun a W => Kept [] w W ∧ Blk W g0 28 (p.cells s) ∧ (!numB p || inB p.id 1 65535) = true ∧ Fr 114 a [(1, .pointer (some ⟨g0, 0, none⟩))] := ⟨_, rfl⟩
 clear f1 a0 f2 a2 f3
 refine C.cut J3 ?_ ?_
 ·skip
  refine C.sk fun K1 hK1 => ?_
  refine L.va f4 (by exact E.loadB f4 U28 rfl wsz28_wb rfl (Bg0) rfl) fun a5 f5 => ?_
  refine L.cl f5 (run_call Tryd.call67 (args1 f5 rfl)) (num_any p s _) ?_
  clear f4 a3
  rintro e w2 ⟨kc2, rfl⟩
  refine ⟨_, rfl, fun a6 f6 => ?_⟩
  have szw2 := kc2.size
  replace HK := HK.trans kc2 (by simp)
  replace Bg0 := Bg0.kept kc2 (by simp)
  clear f5 a5 kc2
  refine L.mv f6 fun a7 f7 => ?_
  clear f6 a6
  refine f7.split 5 rfl (fun h0 f8 => ?_) (fun h0 f8 => ?_)
  ·refine L.fa 4 f8 U28 rfl wsz3_wb (hw := (f8.yes rfl rfl)) fun a9 f9 => ?_
   refine L.ld f9 U3 Bg0 (hw := (f9.yes rfl rfl)) fun a10 f10 => ?_
   refine L.cl f10 (run_call Tryd.call44 (args3 f10 rfl rfl rfl)) (in_any _ _ _ _) ?_ (hw := (f10.yes rfl rfl))
   clear f7 f8 a7 f9 a9
   rintro e w2x ⟨rfl, rfl⟩
   refine ⟨_, rfl, fun a11 f11 => ?_⟩
   clear f10 a10
   refine f11.split 8 rfl (fun h1 f12 => ?_) (fun h1 f12 => ?_)
   ·have h8_ := h1
    refine L.va f12 (E.not f12 rfl) (hw := (f12.yes rfl rfl)) fun a13 f13 => ?_
    refine L.va f13 (E.pickT f13 rfl rfl) fun a14 f14 => ?_
    refine wpList_nil (hK1 _ _ ?_)
    have f15 := f14.sub (sc 1 (sc 10 sn))
    refine C.condF f15 rfl ?_
    exact wp_skip (then_of (J := J3) (Q := fun _ _ _ => True) (by rw [hJ3]; exact ⟨HK, Bg0, by simp [*], f15.sub (sub_cons rfl sn)⟩))
   have h8_ := h1
   refine L.va f12 (E.not f12 rfl) (hw := (f12.yes rfl rfl)) fun a13 f13 => ?_
   refine L.va f13 (E.pickT f13 rfl rfl) fun a14 f14 => ?_
   refine wpList_nil (hK1 _ _ ?_)
   have f15 := f14.sub (sc 1 (sc 10 sn))
   refine C.condT f15 rfl ?_
   refine C.sk fun K2 hK2 => ?_
   refine L.ag f15 fun a16 f16 => ?_
   refine wpList_nil (hK2 _ _ ?_)
   have f17 := f16.sub (sc 2 sn)
   refine wp_ret ?_
   try simp only [Exit.inBlock, Exit.then]
   refine C.ret (P := Tryd.prog) (fn := Tryd.f46) f17 rfl rfl ?_
   refine ⟨HK, ?_⟩
   clear f11 f12 a11 f13 a13 f14 f15 a14 f16
   unfold valB
   (simp [*]; done)
  refine L.sk f8 (f8.noT rfl rfl) fun a9 f9 => ?_
  refine L.sk f9 (f9.noT rfl rfl) fun a10 f10 => ?_
  refine L.sk f10 (f10.noT rfl rfl) fun a11 f11 => ?_
  refine L.sk f11 (f11.noT rfl rfl) fun a12 f12 => ?_
  refine L.va f12 (E.pickF f12 rfl rfl) fun a13 f13 => ?_
  refine wpList_nil (hK1 _ _ ?_)
  have f14 := f13.sub (sc 1 (sc 10 sn))
  refine C.condF f14 rfl ?_
  exact wp_skip (then_of (J := J3) (Q := fun _ _ _ => True) (by rw [hJ3]; exact ⟨HK, Bg0, by simp [*], f14.sub (sub_cons rfl sn)⟩))
 intro a5 w2 hj
 rw [hJ3] at hj
 clear hJ3 J3
 obtain ⟨HK, Bg0, hnum, f5⟩ := hj
 try clear f4
 refine wp_seq_k fun K3 hK3 => ?_
 refine C.sk fun K4 hK4 => ?_
 refine L.fa 0 f5 U28 rfl wsz3_wb fun a6 f6 => ?_
 refine L.ld f6 U3 Bg0 fun a7 f7 => ?_
 refine wpList_nil (hK4 _ _ ?_)
 have f8 := f7.sub (sc 1 (sc 12 sn))
 refine wp_block ?_
 refine C.sk fun K5 hK5 => ?_
 refine L.va f8 (E.eq f8) fun a9 f9 => ?_
 refine L.ag f9 fun a10 f10 => ?_
 refine wpList_nil (hK5 _ _ ?_)
 have f11 := f10.sub (sc 1 (sc 12 (sc 13 sn)))
 clear f5 a5 f6 a6 f7 f8 a7 f9 a9 f10
 refine f11.splitD 13 rfl (fun h2 f12 => ?_) (fun h2 f12 => ?_)
 ·refine C.condT f12 rfl ?_
  refine C.sk fun K6 hK6 => ?_
  refine L.fa 7 f12 U28 rfl wsz3_wb fun a13 f13 => ?_
  refine L.ld f13 U3 Bg0 fun a14 f14 => ?_
  refine L.cl f14 (run_call Tryd.call44 (args3 f14 rfl rfl rfl)) (in_any _ _ _ _) ?_
  clear f11 f12 a10 f13 a13
  rintro e w2x ⟨rfl, rfl⟩
  refine ⟨_, rfl, fun a15 f15 => ?_⟩
  refine L.mv f15 fun a16 f16 => ?_
  clear f14 a14 f15 a15
  refine f16.split 18 rfl (fun h3 f17 => ?_) (fun h3 f17 => ?_)
  ·refine L.fa 10 f17 U28 rfl wsz3_wb (hw := (f17.yes rfl rfl)) fun a18 f18 => ?_
   refine L.ld f18 U3 Bg0 (hw := (f18.yes rfl rfl)) fun a19 f19 => ?_
   refine L.cl f19 (run_call Tryd.call44 (args3 f19 rfl rfl rfl)) (in_any _ _ _ _) ?_ (hw := (f19.yes rfl rfl))
   clear f16 f17 a16 f18 a18
   rintro e w2x ⟨rfl, rfl⟩
   refine ⟨_, rfl, fun a20 f20 => ?_⟩
   refine L.va f20 (E.pickT f20 rfl rfl) fun a21 f21 => ?_
   refine L.mv f21 fun a22 f22 => ?_
   clear f19 a19 f20 a20 f21 a21
   refine f22.split 23 rfl (fun h4 f23 => ?_) (fun h4 f23 => ?_)
   ·refine L.fa 8 f23 U28 rfl wsz9_wb (hw := (f23.yes rfl rfl)) fun a24 f24 => ?_
    refine L.ld f24 U9 Bg0 (hw := (f24.yes rfl rfl)) fun a25 f25 => ?_
    refine L.cl f25 (run_call Tryd.call74 (args1 f25 rfl)) (text_any _ _ (hT.old (HK.below (by simp) (Nat.le_refl _)))) ?_ (hw := (f25.yes rfl rfl))
    clear f22 f23 a22 f24 a24
    rintro e w3 ⟨kc3, rfl⟩
    refine ⟨_, rfl, fun a26 f26 => ?_⟩
    have szw3 := kc3.size
    replace HK := HK.trans kc3 (by simp)
    replace Bg0 := Bg0.kept kc3 (by simp)
    clear f25 a25 kc3
    refine L.va f26 (E.pickT f26 rfl rfl) fun a27 f27 => ?_
    refine L.mv f27 fun a28 f28 => ?_
    clear f26 a26 f27 a27
    refine f28.split 28 rfl (fun h5 f29 => ?_) (fun h5 f29 => ?_)
    ·refine L.fa 12 f29 U28 rfl wsz24_wb (hw := (f29.yes rfl rfl)) fun a30 f30 => ?_
     refine L.fa 0 f30 U24 rfl wsz9_wb (hw := (f30.yes rfl rfl)) fun a31 f31 => ?_
     refine L.ld f31 U9 Bg0 (hw := (f31.yes rfl rfl)) fun a32 f32 => ?_
     refine L.cl f32 (run_call Tryd.call74 (args1 f32 rfl)) (text_any _ _ (hT.old (HK.below (by simp) (Nat.le_refl _)))) ?_ (hw := (f32.yes rfl rfl))
     clear f28 f29 a28 f30 a30 f31 a31
     rintro e w4 ⟨kc4, rfl⟩
     refine ⟨_, rfl, fun a33 f33 => ?_⟩
     have szw4 := kc4.size
     replace HK := HK.trans kc4 (by simp)
     replace Bg0 := Bg0.kept kc4 (by simp)
     clear f32 a32 kc4
     refine L.va f33 (E.pickT f33 rfl rfl) fun a34 f34 => ?_
     refine L.mv f34 fun a35 f35 => ?_
     clear f33 a33 f34 a34
     refine f35.split 34 rfl (fun h6 f36 => ?_) (fun h6 f36 => ?_)
     ·refine L.fa 12 f36 U28 rfl wsz24_wb (hw := (f36.yes rfl rfl)) fun a37 f37 => ?_
      refine L.fa 1 f37 U24 rfl wsz22_wb (hw := (f37.yes rfl rfl)) fun a38 f38 => ?_
      refine L.ld f38 U22 Bg0 (hw := (f38.yes rfl rfl)) fun a39 f39 => ?_
      refine L.va f39 (E.lenL f39 U22 rfl) (hw := (f39.yes rfl rfl)) fun a40 f40 => ?_
      refine L.va f40 (E.leq f40 rfl rfl) (hw := (f40.yes rfl rfl)) fun a41 f41 => ?_
      refine L.va f41 (E.pickT f41 rfl rfl) fun a42 f42 => ?_
      refine L.mv f42 fun a43 f43 => ?_
      clear f35 f36 a35 f37 a37 f38 a38 f39 a39 f40 a40 f41 a41 f42 a42
      refine f43.splitD 41 rfl (fun h7 f44 => ?_) (fun h7 f44 => ?_)
      ·have hlw : p.wp.length ≤ 65535 := by omega
       refine L.fa 12 f44 U28 rfl wsz24_wb (hw := (f44.yes rfl rfl)) fun a45 f45 => ?_
       refine L.fa 2 f45 U24 rfl wsz3_wb (hw := (f45.yes rfl rfl)) fun a46 f46 => ?_
       refine L.ld f46 U3 Bg0 (hw := (f46.yes rfl rfl)) fun a47 f47 => ?_
       refine L.cl f47 (run_call Tryd.call44 (args3 f47 rfl rfl rfl)) (in_any _ _ _ _) ?_ (hw := (f47.yes rfl rfl))
       clear f43 f44 a43 f45 a45 f46 a46
       rintro e w4x ⟨rfl, rfl⟩
       refine ⟨_, rfl, fun a48 f48 => ?_⟩
       refine L.va f48 (E.pickT f48 rfl rfl) fun a49 f49 => ?_
       refine L.mv f49 fun a50 f50 => ?_
       clear f47 a47 f48 a48 f49 a49
       refine f50.split 47 rfl (fun h8 f51 => ?_) (fun h8 f51 => ?_)
       ·refine L.fa 18 f51 U28 rfl wsz9_wb (hw := (f51.yes rfl rfl)) fun a52 f52 => ?_
        refine L.ld f52 U9 Bg0 (hw := (f52.yes rfl rfl)) fun a53 f53 => ?_
        refine L.cl f53 (run_call Tryd.call74 (args1 f53 rfl)) (text_any _ _ (hT.old (HK.below (by simp) (Nat.le_refl _)))) ?_ (hw := (f53.yes rfl rfl))
        clear f50 f51 a50 f52 a52
        rintro e w5 ⟨kc5, rfl⟩
        refine ⟨_, rfl, fun a54 f54 => ?_⟩
        have szw5 := kc5.size
        replace HK := HK.trans kc5 (by simp)
        replace Bg0 := Bg0.kept kc5 (by simp)
        clear f53 a53 kc5
        refine L.va f54 (E.pickT f54 rfl rfl) fun a55 f55 => ?_
        refine L.mv f55 fun a56 f56 => ?_
        clear f54 a54 f55 a55
        refine f56.split 52 rfl (fun h9 f57 => ?_) (fun h9 f57 => ?_)
        ·refine L.fa 19 f57 U28 rfl wsz22_wb (hw := (f57.yes rfl rfl)) fun a58 f58 => ?_
         refine L.ld f58 U22 Bg0 (hw := (f58.yes rfl rfl)) fun a59 f59 => ?_
         refine L.va f59 (E.lenL f59 U22 rfl) (hw := (f59.yes rfl rfl)) fun a60 f60 => ?_
         refine L.va f60 (E.leq f60 rfl rfl) (hw := (f60.yes rfl rfl)) fun a61 f61 => ?_
         refine L.va f61 (E.pickT f61 rfl rfl) fun a62 f62 => ?_
         refine L.mv f62 fun a63 f63 => ?_
         clear f56 f57 a56 f58 a58 f59 a59 f60 a60 f61 a61 f62 a62
         refine f63.splitD 58 rfl (fun h10 f64 => ?_) (fun h10 f64 => ?_)
         ·have hlp : p.pass.length ≤ 65535 := by omega
          refine L.fa 16 f64 U28 rfl wsz4_wb (hw := (f64.yes rfl rfl)) fun a65 f65 => ?_
          refine L.ld f65 U4 Bg0 (hw := (f65.yes rfl rfl)) fun a66 f66 => ?_
          refine L.mv f66 (hw := (f66.yes rfl rfl)) fun a67 f67 => ?_
          clear f63 f64 a63 f65 a65 f66 a66
          refine f67.split 61 rfl (fun h11 f68 => ?_) (fun h11 f68 => ?_)
          ·refine L.run f68 (rest' := []) (by kernel_rfl) fun a69 f69 => ?_
           clear f67
           skip
           refine wpList_nil (hK6 _ _ ?_)
           have f70 := f69.sub (sub_cons (i := 2) (v := .bool true) (by kernel_rfl) sn)
           refine wp_ret ?_
           try simp only [Exit.inBlock, Exit.then]
           refine C.ret (P := Tryd.prog) (fn := Tryd.f46) f70 rfl rfl ?_
           refine ⟨HK, ?_⟩
           clear f69 f68
           unfold valB
           (simp [*]; done)
          refine L.fa 17 f68 U28 rfl wsz4_wb (hw := (f68.yes rfl rfl)) fun a69 f69 => ?_
          refine L.ld f69 U4 Bg0 (hw := (f69.yes rfl rfl)) fun a70 f70 => ?_
          refine L.va f70 (E.not f70 rfl) (hw := (f70.yes rfl rfl)) fun a71 f71 => ?_
          refine L.va f71 (E.pickF f71 rfl rfl) (hw := (f71.yes rfl rfl)) fun a72 f72 => ?_
          refine L.va f72 (E.pickT f72 rfl rfl) fun a73 f73 => ?_
          refine L.ag f73 fun a74 f74 => ?_
          refine wpList_nil (hK6 _ _ ?_)
          have f75 := f74.sub (sc 2 sn)
          clear f67 f68 a67 f69 a69 f70 a70 f71 a71 f72 a72 f73 a73 f74
          refine wp_ret ?_
          try simp only [Exit.inBlock, Exit.then]
          refine C.ret (P := Tryd.prog) (fn := Tryd.f46) f75 rfl rfl ?_
          refine ⟨HK, ?_⟩
          unfold valB
          (simp [*]; done)
         have hlp : ¬ p.pass.length ≤ 65535 := by omega
         refine L.run f64 (rest' := []) (by kernel_rfl) fun a65 f65 => ?_
         clear f63
         skip
         refine wpList_nil (hK6 _ _ ?_)
         have f66 := f65.sub (sub_cons (i := 2) (v := .bool false) (by kernel_rfl) sn)
         refine wp_ret ?_
         try simp only [Exit.inBlock, Exit.then]
         refine C.ret (P := Tryd.prog) (fn := Tryd.f46) f66 rfl rfl ?_
         refine ⟨HK, ?_⟩
         clear f65 f64
         unfold valB
         (simp [*]; done)
        refine L.run f57 (rest' := []) (by kernel_rfl) fun a58 f58 => ?_
        clear f56
        skip
        refine wpList_nil (hK6 _ _ ?_)
        have f59 := f58.sub (sub_cons (i := 2) (v := .bool false) (by kernel_rfl) sn)
        refine wp_ret ?_
        try simp only [Exit.inBlock, Exit.then]
        refine C.ret (P := Tryd.prog) (fn := Tryd.f46) f59 rfl rfl ?_
        refine ⟨HK, ?_⟩
        clear f58 f57
        unfold valB
        (simp [*]; done)
       refine L.run f51 (rest' := []) (by kernel_rfl) fun a52 f52 => ?_
       clear f50
       skip
       refine wpList_nil (hK6 _ _ ?_)
       have f53 := f52.sub (sub_cons (i := 2) (v := .bool false) (by kernel_rfl) sn)
       refine wp_ret ?_
       try simp only [Exit.inBlock, Exit.then]
       refine C.ret (P := Tryd.prog) (fn := Tryd.f46) f53 rfl rfl ?_
       refine ⟨HK, ?_⟩
       clear f52 f51
       unfold valB
       (simp [*]; done)
      have hlw : ¬ p.wp.length ≤ 65535 := by omega
      refine L.run f44 (rest' := []) (by kernel_rfl) fun a45 f45 => ?_
      clear f43
      skip
      refine wpList_nil (hK6 _ _ ?_)
      have f46 := f45.sub (sub_cons (i := 2) (v := .bool false) (by kernel_rfl) sn)
      refine wp_ret ?_
      try simp only [Exit.inBlock, Exit.then]
      refine C.ret (P := Tryd.prog) (fn := Tryd.f46) f46 rfl rfl ?_
      refine ⟨HK, ?_⟩
      clear f45 f44
      unfold valB
      (simp [*]; done)
     refine L.run f36 (rest' := []) (by kernel_rfl) fun a37 f37 => ?_
     clear f35
     skip
     refine wpList_nil (hK6 _ _ ?_)
     have f38 := f37.sub (sub_cons (i := 2) (v := .bool false) (by kernel_rfl) sn)
     refine wp_ret ?_
     try simp only [Exit.inBlock, Exit.then]
     refine C.ret (P := Tryd.prog) (fn := Tryd.f46) f38 rfl rfl ?_
     refine ⟨HK, ?_⟩
     clear f37 f36
     unfold valB
     (simp [*]; done)
    refine L.run f29 (rest' := []) (by kernel_rfl) fun a30 f30 => ?_
    clear f28
    skip
    refine wpList_nil (hK6 _ _ ?_)
    have f31 := f30.sub (sub_cons (i := 2) (v := .bool false) (by kernel_rfl) sn)
    refine wp_ret ?_
    try simp only [Exit.inBlock, Exit.then]
    refine C.ret (P := Tryd.prog) (fn := Tryd.f46) f31 rfl rfl ?_
    refine ⟨HK, ?_⟩
    clear f30 f29
    unfold valB
    (simp [*]; done)
   refine L.run f23 (rest' := []) (by kernel_rfl) fun a24 f24 => ?_
   clear f22
   skip
   refine wpList_nil (hK6 _ _ ?_)
   have f25 := f24.sub (sub_cons (i := 2) (v := .bool false) (by kernel_rfl) sn)
   refine wp_ret ?_
   try simp only [Exit.inBlock, Exit.then]
   refine C.ret (P := Tryd.prog) (fn := Tryd.f46) f25 rfl rfl ?_
   refine ⟨HK, ?_⟩
   clear f24 f23
   unfold valB
   (simp [*]; done)
  refine L.run f17 (rest' := []) (by kernel_rfl) fun a18 f18 => ?_
  clear f16
  skip
  refine wpList_nil (hK6 _ _ ?_)
  have f19 := f18.sub (sub_cons (i := 2) (v := .bool false) (by kernel_rfl) sn)
  refine wp_ret ?_
  try simp only [Exit.inBlock, Exit.then]
  refine C.ret (P := Tryd.prog) (fn := Tryd.f46) f19 rfl rfl ?_
  refine ⟨HK, ?_⟩
  clear f18 f17
  unfold valB
  (simp [*]; done)
 refine C.condF f12 rfl ?_
 refine C.sk fun K7 hK7 => ?_
 refine L.va f12 (E.eq f12) fun a13 f13 => ?_
 refine L.ag f13 fun a14 f14 => ?_
 refine wpList_nil (hK7 _ _ ?_)
 have f15 := f14.sub (sc 1 (sc 12 (sc 67 sn)))
 clear f11 f12 a10 f13 a13 f14
 refine f15.splitD 67 rfl (fun h12 f16 => ?_) (fun h12 f16 => ?_)
 ·refine C.condT f16 rfl ?_
  refine C.sk fun K8 hK8 => ?_
  refine L.fa 21 f16 U28 rfl wsz3_wb fun a17 f17 => ?_
  refine L.ld f17 U3 Bg0 fun a18 f18 => ?_
  refine L.cl f18 (run_call Tryd.call44 (args3 f18 rfl rfl rfl)) (in_any _ _ _ _) ?_
  clear f15 f16 a14 f17 a17
  rintro e w2x ⟨rfl, rfl⟩
  refine ⟨_, rfl, fun a19 f19 => ?_⟩
  refine L.mv f19 fun a20 f20 => ?_
  clear f18 a18 f19 a19
  refine f20.split 72 rfl (fun h13 f21 => ?_) (fun h13 f21 => ?_)
  ·refine L.fa 21 f21 U28 rfl wsz3_wb (hw := (f21.yes rfl rfl)) fun a22 f22 => ?_
   refine L.ld f22 U3 Bg0 (hw := (f22.yes rfl rfl)) fun a23 f23 => ?_
   refine L.va f23 (E.eq f23) (hw := (f23.yes rfl rfl)) fun a24 f24 => ?_
   refine L.mv f24 (hw := (f24.yes rfl rfl)) fun a25 f25 => ?_
   clear f20 f21 a20 f22 a22 f23 a23 f24 a24
   refine f25.splitD 76 rfl (fun h14 f26 => ?_) (fun h14 f26 => ?_)
   ·refine L.run f26 (rest' := []) (by kernel_rfl) fun a27 f27 => ?_
    clear f25
    skip
    refine wpList_nil (hK8 _ _ ?_)
    have f28 := f27.sub (sub_cons (i := 2) (v := .bool true) (by kernel_rfl) sn)
    refine wp_ret ?_
    try simp only [Exit.inBlock, Exit.then]
    refine C.ret (P := Tryd.prog) (fn := Tryd.f46) f28 rfl rfl ?_
    refine ⟨HK, ?_⟩
    clear f27 f26
    unfold valB
    (simp [*]; decide)
   refine L.fa 20 f26 U28 rfl wsz4_wb (hw := (f26.yes rfl rfl)) fun a27 f27 => ?_
   refine L.ld f27 U4 Bg0 (hw := (f27.yes rfl rfl)) fun a28 f28 => ?_
   refine L.va f28 (E.not f28 rfl) (hw := (f28.yes rfl rfl)) fun a29 f29 => ?_
   refine L.va f29 (E.pickF f29 rfl rfl) (hw := (f29.yes rfl rfl)) fun a30 f30 => ?_
   refine L.va f30 (E.pickT f30 rfl rfl) fun a31 f31 => ?_
   refine L.ag f31 fun a32 f32 => ?_
   refine wpList_nil (hK8 _ _ ?_)
   have f33 := f32.sub (sc 2 sn)
   clear f25 f26 a25 f27 a27 f28 a28 f29 a29 f30 a30 f31 a31 f32
   refine wp_ret ?_
   try simp only [Exit.inBlock, Exit.then]
   refine C.ret (P := Tryd.prog) (fn := Tryd.f46) f33 rfl rfl ?_
   refine ⟨HK, ?_⟩
   unfold valB
   (simp [*]; done)
  refine L.run f21 (rest' := []) (by kernel_rfl) fun a22 f22 => ?_
  clear f20
  skip
  refine wpList_nil (hK8 _ _ ?_)
  have f23 := f22.sub (sub_cons (i := 2) (v := .bool false) (by kernel_rfl) sn)
  refine wp_ret ?_
  try simp only [Exit.inBlock, Exit.then]
  refine C.ret (P := Tryd.prog) (fn := Tryd.f46) f23 rfl rfl ?_
  refine ⟨HK, ?_⟩
  clear f22 f21
  unfold valB
  (simp [*]; done)
 refine C.condF f16 rfl ?_
 refine C.sk fun K9 hK9 => ?_
 refine L.va f16 (E.eq f16) fun a17 f17 => ?_
 refine L.ag f17 fun a18 f18 => ?_
 refine wpList_nil (hK9 _ _ ?_)
 have f19 := f18.sub (sc 1 (sc 12 (sc 82 sn)))
 clear f15 f16 a14 f17 a17 f18
 refine f19.splitD 82 rfl (fun h15 f20 => ?_) (fun h15 f20 => ?_)
 ·refine C.condT f20 rfl ?_
  refine C.sk fun K10 hK10 => ?_
  refine L.fa 3 f20 U28 rfl wsz3_wb fun a21 f21 => ?_
  refine L.ld f21 U3 Bg0 fun a22 f22 => ?_
  refine L.cl f22 (run_call Tryd.call44 (args3 f22 rfl rfl rfl)) (in_any _ _ _ _) ?_
  clear f19 f20 a18 f21 a21
  rintro e w2x ⟨rfl, rfl⟩
  refine ⟨_, rfl, fun a23 f23 => ?_⟩
  refine L.mv f23 fun a24 f24 => ?_
  clear f22 a22 f23 a23
  refine f24.split 87 rfl (fun h16 f25 => ?_) (fun h16 f25 => ?_)
  ·refine L.fa 5 f25 U28 rfl wsz9_wb (hw := (f25.yes rfl rfl)) fun a26 f26 => ?_
   refine L.ld f26 U9 Bg0 (hw := (f26.yes rfl rfl)) fun a27 f27 => ?_
   refine L.cl f27 (run_call Tryd.call74 (args1 f27 rfl)) (text_any _ _ (hT.old (HK.below (by simp) (Nat.le_refl _)))) ?_ (hw := (f27.yes rfl rfl))
   clear f24 f25 a24 f26 a26
   rintro e w3 ⟨kc3, rfl⟩
   refine ⟨_, rfl, fun a28 f28 => ?_⟩
   have szw3 := kc3.size
   replace HK := HK.trans kc3 (by simp)
   replace Bg0 := Bg0.kept kc3 (by simp)
   clear f27 a27 kc3
   refine L.va f28 (E.pickT f28 rfl rfl) fun a29 f29 => ?_
   refine L.ag f29 fun a30 f30 => ?_
   refine wpList_nil (hK10 _ _ ?_)
   have f31 := f30.sub (sc 2 sn)
   refine wp_ret ?_
   try simp only [Exit.inBlock, Exit.then]
   refine C.ret (P := Tryd.prog) (fn := Tryd.f46) f31 rfl rfl ?_
   refine ⟨HK, ?_⟩
   clear f28 a28 f29 a29 f30
   unfold valB
   (simp [*]; done)
  refine L.run f25 (rest' := []) (by kernel_rfl) fun a26 f26 => ?_
  clear f24
  skip
  refine wpList_nil (hK10 _ _ ?_)
  have f27 := f26.sub (sub_cons (i := 2) (v := .bool false) (by kernel_rfl) sn)
  refine wp_ret ?_
  try simp only [Exit.inBlock, Exit.then]
  refine C.ret (P := Tryd.prog) (fn := Tryd.f46) f27 rfl rfl ?_
  refine ⟨HK, ?_⟩
  clear f26 f25
  unfold valB
  (simp [*]; done)
 refine C.condF f20 rfl ?_
 refine C.sk fun K11 hK11 => ?_
 refine L.va f20 (E.eq f20) fun a21 f21 => ?_
 refine L.ag f21 fun a22 f22 => ?_
 refine wpList_nil (hK11 _ _ ?_)
 have f23 := f22.sub (sc 1 (sc 12 (sc 92 sn)))
 clear f19 f20 a18 f21 a21 f22
 refine f23.splitD 92 rfl (fun h17 f24 => ?_) (fun h17 f24 => ?_)
 ·refine C.condT f24 rfl ?_
  refine C.sk fun K12 hK12 => ?_
  refine L.fa 22 f24 U28 rfl wsz25_wb fun a25 f25 => ?_
  refine L.ld f25 U25 Bg0 fun a26 f26 => ?_
  refine L.cl f26 (run_call Tryd.call75 (args2 f26 rfl rfl)) (subs_any _ _ _ _ _ (hT.old (HK.below (by simp) (Nat.le_refl _))) (IP.subs.kept HK) hl) ?_
  clear f23 f24 a22 f25 a25
  rintro e w3 ⟨kc3, rfl⟩
  refine ⟨_, rfl, fun a27 f27 => ?_⟩
  have szw3 := kc3.size
  replace HK := HK.trans kc3 (by simp)
  replace Bg0 := Bg0.kept kc3 (by simp)
  clear f26 a26 kc3
  refine L.ag f27 fun a28 f28 => ?_
  refine wpList_nil (hK12 _ _ ?_)
  have f29 := f28.sub (sc 2 sn)
  refine wp_ret ?_
  try simp only [Exit.inBlock, Exit.then]
  refine C.ret (P := Tryd.prog) (fn := Tryd.f46) f29 rfl rfl ?_
  refine ⟨HK, ?_⟩
  clear f27 a27 f28
  unfold valB
  (simp [*]; done)
 refine C.condF f24 rfl ?_
 refine C.sk fun K13 hK13 => ?_
 refine L.va f24 (E.eq f24) fun a25 f25 => ?_
 refine L.ag f25 fun a26 f26 => ?_
 refine wpList_nil (hK13 _ _ ?_)
 have f27 := f26.sub (sc 1 (sc 12 (sc 97 sn)))
 clear f23 f24 a22 f25 a25 f26
 refine f27.splitD 97 rfl (fun h18 f28 => ?_) (fun h18 f28 => ?_)
 ·refine C.condT f28 rfl ?_
  refine C.sk fun K14 hK14 => ?_
  refine L.fa 22 f28 U28 rfl wsz25_wb fun a29 f29 => ?_
  refine L.ld f29 U25 Bg0 fun a30 f30 => ?_
  refine L.cl f30 (run_call Tryd.call75 (args2 f30 rfl rfl)) (subs_any _ _ _ _ _ (hT.old (HK.below (by simp) (Nat.le_refl _))) (IP.subs.kept HK) hl) ?_
  clear f27 f28 a26 f29 a29
  rintro e w3 ⟨kc3, rfl⟩
  refine ⟨_, rfl, fun a31 f31 => ?_⟩
  have szw3 := kc3.size
  replace HK := HK.trans kc3 (by simp)
  replace Bg0 := Bg0.kept kc3 (by simp)
  clear f30 a30 kc3
  refine L.ag f31 fun a32 f32 => ?_
  refine wpList_nil (hK14 _ _ ?_)
  have f33 := f32.sub (sc 2 sn)
  refine wp_ret ?_
  try simp only [Exit.inBlock, Exit.then]
  refine C.ret (P := Tryd.prog) (fn := Tryd.f46) f33 rfl rfl ?_
  refine ⟨HK, ?_⟩
  clear f31 a31 f32
  unfold valB
  (simp [*]; done)
 refine C.condF f28 rfl ?_
 refine C.sk fun K15 hK15 => ?_
 refine L.va f28 (E.eq f28) fun a29 f29 => ?_
 refine L.ag f29 fun a30 f30 => ?_
 refine wpList_nil (hK15 _ _ ?_)
 have f31 := f30.sub (sc 1 (sc 102 sn))
 clear f27 f28 a26 f29 a29 f30
 refine f31.splitD 102 rfl (fun h19 f32 => ?_) (fun h19 f32 => ?_)
 ·refine C.condT f32 rfl ?_
  refine C.sk fun K16 hK16 => ?_
  refine L.fa 23 f32 U28 rfl wsz26_wb fun a33 f33 => ?_
  refine L.ld f33 U26 Bg0 fun a34 f34 => ?_
  refine L.va f34 (E.lenL f34 U26 rfl) fun a35 f35 => ?_
  refine L.va f35 (E.gtr f35 rfl rfl) fun a36 f36 => ?_
  refine L.mv f36 fun a37 f37 => ?_
  clear f31 f32 a30 f33 a33 f34 a34 f35 a35 f36 a36
  refine f37.splitD 108 rfl (fun h20 f38 => ?_) (fun h20 f38 => ?_)
  ·have hlc : 0 < p.codes.length := by omega
   refine L.fa 23 f38 U28 rfl wsz26_wb (hw := (f38.yes rfl rfl)) fun a39 f39 => ?_
   refine L.ld f39 U26 Bg0 (hw := (f39.yes rfl rfl)) fun a40 f40 => ?_
   refine L.cl f40 (run_call Tryd.call76 (args2 f40 rfl rfl)) (con_any _ _ _ _ (IP.codes.kept HK) hl2) ?_ (hw := (f40.yes rfl rfl))
   clear f37 f38 a37 f39 a39
   rintro e w2x ⟨rfl, rfl⟩
   refine ⟨_, rfl, fun a41 f41 => ?_⟩
   refine L.va f41 (E.not f41 rfl) (hw := (f41.yes rfl rfl)) fun a42 f42 => ?_
   refine L.va f42 (E.pickT f42 rfl rfl) fun a43 f43 => ?_
   refine L.ag f43 fun a44 f44 => ?_
   refine wpList_nil (hK16 _ _ ?_)
   have f45 := f44.sub (sc 2 sn)
   refine wp_ret ?_
   try simp only [Exit.inBlock, Exit.then]
   refine C.ret (P := Tryd.prog) (fn := Tryd.f46) f45 rfl rfl ?_
   refine ⟨HK, ?_⟩
   clear f40 a40 f41 a41 f42 a42 f43 a43 f44
   unfold valB
   (simp [*]; done)
  have hlc : ¬ 0 < p.codes.length := by omega
  refine L.run f38 (rest' := []) (by kernel_rfl) fun a39 f39 => ?_
  clear f37
  skip
  refine wpList_nil (hK16 _ _ ?_)
  have f40 := f39.sub (sub_cons (i := 2) (v := .bool false) (by kernel_rfl) sn)
  refine wp_ret ?_
  try simp only [Exit.inBlock, Exit.then]
  refine C.ret (P := Tryd.prog) (fn := Tryd.f46) f40 rfl rfl ?_
  refine ⟨HK, ?_⟩
  clear f39 f38
  unfold valB
  (simp [*]; done)
 refine C.condF f32 rfl ?_
 refine wp_skip (hK3 _ _ ?_)
 have f33 := f32.sub sn
 refine C.sk fun K17 hK17 => ?_
 refine L.ag f33 fun a34 f34 => ?_
 refine wpList_nil (hK17 _ _ ?_)
 have f35 := f34.sub (sc 2 sn)
 refine wp_ret ?_
 try simp only [Exit.inBlock, Exit.then]
 refine C.ret (P := Tryd.prog) (fn := Tryd.f46) f35 rfl rfl ?_
 refine ⟨HK, ?_⟩
 clear f31 f32 f33 a30 f34
 unfold valB
 (simp [*]; done)
set_option maxHeartbeats 1000000 in
theorem first_any (p : Pk) (s : Ad) (w : World) (hk : 0 ≤ p.kind ∧ p.kind ≤ 15) (hq : p.kind = 3 → 0 ≤ p.qos ∧ p.qos ≤ 3) : Calls Tryd.prog 40 #[.agg (p.cells s)] w (fun e w' => Kept [] w w' ∧ e = .returned (.int .u8 (b8 (firstI p)).toNat)) := by
 have HK : Kept [] w w := Kept.refl [] w
 refine C.enter Tryd.func40 rfl Tryd.ntmps40 rfl ?_
 intro a0 f0
 have f1 : Fr 29 a0 [(0, .agg (p.cells s))] := f0
 refine C.sk fun K0 hK0 => ?_
 refine L.box f1 wantedN (by decide) rfl rfl fun a2 w1 g0 N0 f2 => ?_
 have Bg0 := N0.blk
 have kg0 := N0.kept
 have log0 := N0.lo
 have ltg0 := Bg0.lt
 have szw1 := kg0.size
 have frg0 : w.heap.size ≤ g0 := Nat.le_trans HK.size log0
 replace HK := HK.trans kg0 (by simp)
 clear f0 N0 kg0
 refine L.ag f2 fun a3 f3 => ?_
 refine wpList_nil (hK0 _ _ ?_)
 have f4 := f3.sub (sc 1 sn)
 refine C.sk fun K1 hK1 => ?_
 refine L.ag f4 fun a5 f5 => ?_
 refine wpList_nil (hK1 _ _ ?_)
 have f6 := f5.sub (sc 1 (sc 3 sn))
 refine wp_seq_k fun K2 hK2 => ?_
 refine C.sk fun K3 hK3 => ?_
 refine L.fa 0 f6 U28 rfl wsz3_wb fun a7 f7 => ?_
 refine L.ld f7 U3 Bg0 fun a8 f8 => ?_
 refine wpList_nil (hK3 _ _ ?_)
 have f9 := f8.sub (sc 1 (sc 3 (sc 5 sn)))
 refine wp_block ?_
 refine wp_seq_k fun K4 hK4 => ?_
 refine C.sk fun K5 hK5 => ?_
 refine L.va f9 (E.eq f9) fun a10 f10 => ?_
 clear f1 a0 f2 a2 f3 f4 a3 f5 f6 a5 f7 a7 f8 f9 a8
 refine L.ag f10 fun a11 f11 => ?_
 refine wpList_nil (hK5 _ _ ?_)
 have f12 := f11.sub (sc 1 (sc 3 (sc 5 (sc 6 sn))))
 clear f10 a10 f11
 refine f12.splitD 6 rfl (fun h0 f13 => ?_) (fun h0 f13 => ?_)
 ·refine C.condT f13 rfl ?_
  refine wp_skip (hK4 _ _ ?_)
  have f14 := f13.sub (sc 1 (sc 3 (sc 5 (sc 6 sn))))
  refine C.condT f14 rfl ?_
  refine C.region ?_
  refine L.ag f14 fun a15 f15 => ?_
  refine wpList_nil (hK2 _ _ ?_)
  have f16 := f15.sub (sc 1 (sc 3 sn))
  refine C.sk fun K6 hK6 => ?_
  refine L.fa 0 f16 U28 rfl wsz3_wb fun a17 f17 => ?_
  refine L.ld f17 U3 Bg0 fun a18 f18 => ?_
  refine L.va f18 (E.shlN f18 rfl rfl (by decide) (by decide) (show IntKind.i64.wrap (p.kind * 2 ^ (4 : Int).toNat) = p.kind * 16 from IntWalk.i64_in _ (by simp; omega))) fun a19 f19 => ?_
  refine L.mv f19 fun a20 f20 => ?_
  refine L.va f20 (E.add f20 rfl rfl (IntWalk.i64_in _ (by omega))) fun a21 f21 => ?_
  clear f12 f13 f14 a11 f15 f16 a15 f17 a17 f18 a18 f19 a19 f20 a20
  refine L.va f21 (E.conv f21 U3 U5 rfl (wrap_u8 _)) fun a22 f22 => ?_
  refine L.ag f22 fun a23 f23 => ?_
  refine wpList_nil (hK6 _ _ ?_)
  have f24 := f23.sub (sc 2 sn)
  refine wp_ret ?_
  try simp only [Exit.inBlock, Exit.then]
  refine C.ret (P := Tryd.prog) (fn := Tryd.f40) f24 rfl rfl ?_
  exact ⟨HK, by rw [b8_val, firstI]; simp [*]⟩
 refine C.condF f13 rfl ?_
 refine C.sk fun K7 hK7 => ?_
 refine L.va f13 (E.eq f13) fun a14 f14 => ?_
 refine L.ag f14 fun a15 f15 => ?_
 refine wpList_nil (hK7 _ _ ?_)
 have f16 := f15.sub (sc 1 (sc 3 (sc 5 (sc 6 sn))))
 clear f12 f13 a11 f14 a14 f15
 refine f16.splitD 6 rfl (fun h1 f17 => ?_) (fun h1 f17 => ?_)
 ·refine C.condT f17 rfl ?_
  refine wp_skip (hK4 _ _ ?_)
  have f18 := f17.sub (sc 1 (sc 3 (sc 5 (sc 6 sn))))
  refine C.condT f18 rfl ?_
  refine C.region ?_
  refine L.ag f18 fun a19 f19 => ?_
  refine wpList_nil (hK2 _ _ ?_)
  have f20 := f19.sub (sc 1 (sc 3 sn))
  refine C.sk fun K8 hK8 => ?_
  refine L.fa 0 f20 U28 rfl wsz3_wb fun a21 f21 => ?_
  refine L.ld f21 U3 Bg0 fun a22 f22 => ?_
  refine L.va f22 (E.shlN f22 rfl rfl (by decide) (by decide) (show IntKind.i64.wrap (p.kind * 2 ^ (4 : Int).toNat) = p.kind * 16 from IntWalk.i64_in _ (by simp; omega))) fun a23 f23 => ?_
  refine L.mv f23 fun a24 f24 => ?_
  refine L.va f24 (E.add f24 rfl rfl (IntWalk.i64_in _ (by omega))) fun a25 f25 => ?_
  clear f16 f17 f18 a15 f19 f20 a19 f21 a21 f22 a22 f23 a23 f24 a24
  refine L.va f25 (E.conv f25 U3 U5 rfl (wrap_u8 _)) fun a26 f26 => ?_
  refine L.ag f26 fun a27 f27 => ?_
  refine wpList_nil (hK8 _ _ ?_)
  have f28 := f27.sub (sc 2 sn)
  refine wp_ret ?_
  try simp only [Exit.inBlock, Exit.then]
  refine C.ret (P := Tryd.prog) (fn := Tryd.f40) f28 rfl rfl ?_
  exact ⟨HK, by rw [b8_val, firstI]; simp [*]⟩
 refine C.condF f17 rfl ?_
 refine C.region ?_
 refine L.va f17 (E.eq f17) fun a18 f18 => ?_
 refine L.ag f18 fun a19 f19 => ?_
 refine wpList_nil (hK4 _ _ ?_)
 have f20 := f19.sub (sc 1 (sc 3 (sc 5 (sc 6 sn))))
 clear f16 f17 a15 f18 a18 f19
 refine f20.splitD 6 rfl (fun h2 f21 => ?_) (fun h2 f21 => ?_)
 ·refine C.condT f21 rfl ?_
  refine C.region ?_
  refine L.ag f21 fun a22 f22 => ?_
  refine wpList_nil (hK2 _ _ ?_)
  have f23 := f22.sub (sc 1 (sc 3 sn))
  refine C.sk fun K9 hK9 => ?_
  refine L.fa 0 f23 U28 rfl wsz3_wb fun a24 f24 => ?_
  refine L.ld f24 U3 Bg0 fun a25 f25 => ?_
  refine L.va f25 (E.shlN f25 rfl rfl (by decide) (by decide) (show IntKind.i64.wrap (p.kind * 2 ^ (4 : Int).toNat) = p.kind * 16 from IntWalk.i64_in _ (by simp; omega))) fun a26 f26 => ?_
  refine L.mv f26 fun a27 f27 => ?_
  refine L.va f27 (E.add f27 rfl rfl (IntWalk.i64_in _ (by omega))) fun a28 f28 => ?_
  clear f20 f21 a19 f22 f23 a22 f24 a24 f25 a25 f26 a26 f27 a27
  refine L.va f28 (E.conv f28 U3 U5 rfl (wrap_u8 _)) fun a29 f29 => ?_
  refine L.ag f29 fun a30 f30 => ?_
  refine wpList_nil (hK9 _ _ ?_)
  have f31 := f30.sub (sc 2 sn)
  refine wp_ret ?_
  try simp only [Exit.inBlock, Exit.then]
  refine C.ret (P := Tryd.prog) (fn := Tryd.f40) f31 rfl rfl ?_
  exact ⟨HK, by rw [b8_val, firstI]; simp [*]⟩
 refine C.condF f21 rfl ?_
 refine C.sk fun K10 hK10 => ?_
 refine L.va f21 (E.eq f21) fun a22 f22 => ?_
 refine L.ag f22 fun a23 f23 => ?_
 refine wpList_nil (hK10 _ _ ?_)
 have f24 := f23.sub (sc 1 (sc 3 (sc 10 sn)))
 clear f20 f21 a19 f22 a22 f23
 refine f24.splitD 10 rfl (fun h3 f25 => ?_) (fun h3 f25 => ?_)
 ·refine C.condT f25 rfl ?_
  have hq3 := hq (by omega)
  have hd8 := flg_bd p.dup 8 (by omega)
  have hr1 := flg_bd p.retain 1 (by omega)
  refine R.beginT (S := fun W => Kept [] w1 W) (by kernel_rfl) (by kernel_rfl) (by exact (Kept.refl _ _).drewN 1) fun ht => ?_
  have hS8 : Kept [] w1 (w1.drewN 1) := (Kept.refl _ _).drewN 1
  have hd8 : Kept [] w1 (w1.drewN 1) := (Kept.refl _ _).drewN 1
  obtain ⟨w2, hww2⟩ : ∃ W, W = w1.drewN 1 := ⟨_, rfl⟩
  rw [← hww2] at hS8 hd8 ⊢
  clear f24 hww2
  have szw2 := hS8.size
  refine R.u 0 f25 rfl ht hS8 (fun W hW => (E.fa 1 f25 U28 rfl wsz4_wb)) fun a26 f26 => ?_
  refine R.u 1 f26 rfl ht hS8 (fun W hW => (by exact E.ld f26 U4 (Bg0.kept hW (by simp)))) fun a27 f27 => ?_
  refine R.u 3 f27 rfl ht hS8 (fun W hW => (E.fa 3 f27 U28 rfl wsz3_wb)) fun a28 f28 => ?_
  refine R.u 4 f28 rfl ht hS8 (fun W hW => (by exact E.ld f28 U3 (Bg0.kept hW (by simp)))) fun a29 f29 => ?_
  refine R.u 5 f29 rfl ht hS8 (fun W hW => (E.mul f29 rfl rfl (IntWalk.i64_in _ (by omega)))) fun a30 f30 => ?_
  refine R.u 7 f30 rfl ht hS8 (fun W hW => (E.fa 2 f30 U28 rfl wsz4_wb)) fun a31 f31 => ?_
  refine R.u 8 f31 rfl ht hS8 (fun W hW => (by exact E.ld f31 U4 (Bg0.kept hW (by simp)))) fun a32 f32 => ?_
  clear f25 a23 f26 a26 f27 a27 f28 a28 f29 a29 f30 a30 f31 a31
  refine R.call 2 f32 rfl rfl (by decide) (by kernel_rfl) wantedN (run_call Tryd.call65 (args2 f32 rfl rfl)) (flag_any _ _ _) ?_
  rintro e w2x ⟨rfl, rfl⟩
  refine ⟨_, rfl, hS8, fun a33 f33 => ?_⟩
  refine R.u 6 f33 rfl ht hS8 (fun W hW => (E.add f33 rfl rfl (IntWalk.i64_in _ (by omega)))) fun a34 f34 => ?_
  refine R.call 9 f34 rfl rfl (by decide) (by kernel_rfl) wantedN (run_call Tryd.call65 (args2 f34 rfl rfl)) (flag_any _ _ _) ?_
  clear f32 a32 f33 a33
  rintro e w2x ⟨rfl, rfl⟩
  refine ⟨_, rfl, hS8, fun a35 f35 => ?_⟩
  refine R.u 10 f35 rfl ht hS8 (fun W hW => (E.add f35 rfl rfl (IntWalk.i64_in _ (by omega)))) fun a36 f36 => ?_
  refine R.u 11 f36 rfl ht hS8 (fun W hW => (E.assign f36 rfl)) fun a37 f37 => ?_
  have szw2r := hS8.size
  replace HK := HK.trans hS8 (by simp)
  replace Bg0 := Bg0.kept hS8 (by simp)
  clear f34 a34 f35 a35 f36 a36 hS8
  refine R.done (by kernel_rfl) (hK2 _ _ ?_)
  have f38 := f37.sub (sc 1 (sc 3 sn))
  refine C.sk fun K11 hK11 => ?_
  refine L.fa 0 f38 U28 rfl wsz3_wb fun a39 f39 => ?_
  refine L.ld f39 U3 Bg0 fun a40 f40 => ?_
  refine L.va f40 (E.shlN f40 rfl rfl (by decide) (by decide) (show IntKind.i64.wrap (p.kind * 2 ^ (4 : Int).toNat) = p.kind * 16 from IntWalk.i64_in _ (by simp; omega))) fun a41 f41 => ?_
  refine L.mv f41 fun a42 f42 => ?_
  refine L.va f42 (E.add f42 rfl rfl (IntWalk.i64_in _ (by omega))) fun a43 f43 => ?_
  refine L.va f43 (E.conv f43 U3 U5 rfl (wrap_u8 _)) fun a44 f44 => ?_
  refine L.ag f44 fun a45 f45 => ?_
  clear f37 f38 a37 f39 a39 f40 a40 f41 a41 f42 a42 f43 a43 f44 a44
  refine wpList_nil (hK11 _ _ ?_)
  have f46 := f45.sub (sc 2 sn)
  refine wp_ret ?_
  try simp only [Exit.inBlock, Exit.then]
  refine C.ret (P := Tryd.prog) (fn := Tryd.f40) f46 rfl rfl ?_
  exact ⟨HK, by rw [b8_val, firstI]; simp [*]⟩
 refine C.condF f25 rfl ?_
 refine wp_skip (hK2 _ _ ?_)
 have f26 := f25.sub (sc 1 (sc 3 sn))
 refine C.sk fun K12 hK12 => ?_
 refine L.fa 0 f26 U28 rfl wsz3_wb fun a27 f27 => ?_
 refine L.ld f27 U3 Bg0 fun a28 f28 => ?_
 refine L.va f28 (E.shlN f28 rfl rfl (by decide) (by decide) (show IntKind.i64.wrap (p.kind * 2 ^ (4 : Int).toNat) = p.kind * 16 from IntWalk.i64_in _ (by simp; omega))) fun a29 f29 => ?_
 refine L.mv f29 fun a30 f30 => ?_
 refine L.va f30 (E.add f30 rfl rfl (IntWalk.i64_in _ (by omega))) fun a31 f31 => ?_
 refine L.va f31 (E.conv f31 U3 U5 rfl (wrap_u8 _)) fun a32 f32 => ?_
 clear f24 f25 f26 a23 f27 a27 f28 a28 f29 a29 f30 a30 f31 a31
 refine L.ag f32 fun a33 f33 => ?_
 refine wpList_nil (hK12 _ _ ?_)
 have f34 := f33.sub (sc 2 sn)
 refine wp_ret ?_
 try simp only [Exit.inBlock, Exit.then]
 refine C.ret (P := Tryd.prog) (fn := Tryd.f40) f34 rfl rfl ?_
 exact ⟨HK, by rw [b8_val, firstI]; simp [*]⟩
end Go.Proofs.YtigjafbbnocihaaDoor
namespace Go.Proofs.YtigjafbbnocihaaDoor
open Go.RowKit Go.Hub Go.Lib Go.Vl
theorem wsz3_wbb : (Tryd.prog.info? 3).map (·.size) = some 1 := by kernel_rfl
theorem wsz4_wbb : (Tryd.prog.info? 4).map (·.size) = some 1 := by kernel_rfl
theorem wsz9_wbb : (Tryd.prog.info? 9).map (·.size) = some 1 := by kernel_rfl
theorem wsz22_wbb : (Tryd.prog.info? 22).map (·.size) = some 1 := by kernel_rfl
theorem wsz24_wbb : (Tryd.prog.info? 24).map (·.size) = some 4 := by kernel_rfl
theorem wsz25_wbb : (Tryd.prog.info? 25).map (·.size) = some 1 := by kernel_rfl
theorem wsz26_wbb : (Tryd.prog.info? 26).map (·.size) = some 1 := by kernel_rfl
theorem wsz28_wbb : (Tryd.prog.info? 28).map (·.size) = some 24 := by kernel_rfl
theorem wbl28_0_wbb (x0 : Int) : Tryd.prog.built 28 [(0, .int .i64 x0)] = some #[.int .i64 x0, (.bool false), (.bool false), (.int .i64 0), (.int .i64 0), (.string ⟨#[]⟩), (.slice none 0 0), (.int .i64 0), (.string ⟨#[]⟩), (.bool false), (.int .i64 0), (.bool false), (.string ⟨#[]⟩), (.slice none 0 0), (.int .i64 0), (.bool false), (.bool false), (.bool false), (.string ⟨#[]⟩), (.slice none 0 0), (.bool false), (.int .i64 0), (.slice none 0 0), (.slice none 0 0)] := by kernel_rfl
theorem will_in {p : Pk} {s : Ad} {w w' : World} (IP : p.In w s) (hk : Kept [] w w') : Sl w' (if p.hasWill = true then s.wa else none) (if p.hasWill = true then p.wp else []).length 1 ((if p.hasWill = true then p.wp else []).map u8) := by
  split
  · exact IP.wp.kept hk
  exact Sl.nil _ _ _
set_option maxRecDepth 100000 in
set_option maxHeartbeats 2000000 in
theorem bare_any (p : Pk) (s : Ad) (w : World) (IP : p.In w s) : Calls Tryd.prog 45 #[.agg (p.cells s)] w (fun e w' => BarePost p w e w') := by
 have HK : Kept [] w w := Kept.refl [] w
 refine C.enter Tryd.func45 rfl Tryd.ntmps45 rfl ?_
 intro a0 f0
 have f1 : Fr 94 a0 [(0, .agg (p.cells s))] := f0
 refine C.sk fun K0 hK0 => ?_
 refine L.box f1 wantedN (by decide) rfl rfl fun a2 w1 g0 N0 f2 => ?_
 have Bg0 := N0.blk
 have kg0 := N0.kept
 have log0 := N0.lo
 have ltg0 := Bg0.lt
 have szw1 := kg0.size
 have frg0 : w.heap.size ≤ g0 := Nat.le_trans HK.size log0
 replace HK := HK.trans kg0 (by simp)
 clear f0 N0 kg0
 refine L.alloc f2 wantedN (by decide) (z := (.agg #[(.int .i64 0), (.bool false), (.bool false), (.int .i64 0), (.int .i64 0), (.string ⟨#[]⟩), (.slice none 0 0), (.int .i64 0), (.string ⟨#[]⟩), (.bool false), (.int .i64 0), (.bool false), (.string ⟨#[]⟩), (.slice none 0 0), (.int .i64 0), (.bool false), (.bool false), (.bool false), (.string ⟨#[]⟩), (.slice none 0 0), (.bool false), (.int .i64 0), (.slice none 0 0), (.slice none 0 0)])) (fun _ => by kernel_rfl) rfl fun a3 w2 g1 N1 f3 => ?_
 have Bg1 := N1.blk
 have kg1 := N1.kept
 have log1 := N1.lo
 have ltg1 := Bg1.lt
 have szw2 := kg1.size
 have frg1 : w.heap.size ≤ g1 := Nat.le_trans HK.size log1
 have neg0_g1 : g0 ≠ g1 := by have := Bg0.lt; omega
 replace HK := HK.trans kg1 (by simp)
 replace Bg0 := Bg0.kept kg1 (by simp)
 clear f1 a0 N1 kg1
 refine wpList_nil (hK0 _ _ ?_)
 have f4 := f3.sub (sc 1 (sc 2 sn))
 refine C.sk fun K1 hK1 => ?_
 refine L.fa 0 f4 U28 rfl wsz3_wbb fun a5 f5 => ?_
 refine L.ld f5 U3 Bg0 fun a6 f6 => ?_
 refine L.va f6 (E.build f6 (parts1 f6 rfl) (wbl28_0_wbb _)) fun a7 f7 => ?_
 refine L.alloc f7 wantedN (by decide) (z := (.agg #[(.int .i64 0), (.bool false), (.bool false), (.int .i64 0), (.int .i64 0), (.string ⟨#[]⟩), (.slice none 0 0), (.int .i64 0), (.string ⟨#[]⟩), (.bool false), (.int .i64 0), (.bool false), (.string ⟨#[]⟩), (.slice none 0 0), (.int .i64 0), (.bool false), (.bool false), (.bool false), (.string ⟨#[]⟩), (.slice none 0 0), (.bool false), (.int .i64 0), (.slice none 0 0), (.slice none 0 0)])) (fun _ => by kernel_rfl) rfl fun a8 w3 g2 N2 f8 => ?_
 have Bg2 := N2.blk
 have kg2 := N2.kept
 have log2 := N2.lo
 have ltg2 := Bg2.lt
 have szw3 := kg2.size
 have frg2 : w.heap.size ≤ g2 := Nat.le_trans HK.size log2
 have neg0_g2 : g0 ≠ g2 := by have := Bg0.lt; omega
 have neg1_g2 : g1 ≠ g2 := by have := Bg1.lt; omega
 replace HK := HK.trans kg2 (by simp)
 replace Bg0 := Bg0.kept kg2 (by simp)
 replace Bg1 := Bg1.kept kg2 (by simp)
 clear f2 a2 f3 f4 a3 f5 a5 f6 a6 N2 kg2
 refine L.storeR f8 wantedN wsz28_wbb rfl rfl rfl Bg2 rfl rfl fun a9 w4 f9 NB4 ks4 => ?_
 have szw4 := ks4.size
 replace HK := HK.trans ks4 (ktr (by omega))
 replace Bg0 := Bg0.kept ks4 (by simp; omega)
 replace Bg1 := Bg1.kept ks4 (by simp; omega)
 replace Bg2 := NB4
 clear f7 a7 ks4 f8 a8
 refine wpList_nil (hK1 _ _ ?_)
 have f10 := f9.sub (sc 1 (sc 2 (sc 3 sn)))
 obtain ⟨J4, hJ4⟩ : ∃ J : Act → World → Prop, J = fun a W => Kept [] w W ∧ Blk W g0 28 (p.cells s) ∧ Blk W g1 28 zeroPk ∧ Blk W g2 28 #[.int .i64 p.kind, .bool false, .bool false, .int .i64 0, .int .i64 (if numB p = true then p.id else 0), .string em, .slice none 0 0, .int .i64 0, .string em, .bool false, .int .i64 0, .bool false, .string em, .slice none 0 0, .int .i64 0, .bool false, .bool false, .bool false, .string em, .slice none 0 0, .bool false, .int .i64 0, .slice none 0 0, .slice none 0 0] ∧ Fr 94 a [(1, .pointer (some ⟨g0, 0, none⟩)), (2, .pointer (some ⟨g1, 0, none⟩)), (3, .pointer (some ⟨g2, 0, none⟩))] := ⟨_, rfl⟩
 clear f9
 refine C.cut J4 ?_ ?_
 ·skip
  refine C.sk fun K2 hK2 => ?_
  refine L.va f10 (by exact E.loadB f10 U28 rfl wsz28_wbb rfl (Bg0) rfl) fun a11 f11 => ?_
  refine L.cl f11 (run_call Tryd.call67 (args1 f11 rfl)) (num_any p s _) ?_
  clear f10 a9
  rintro e w5 ⟨kc5, rfl⟩
  refine ⟨_, rfl, fun a12 f12 => ?_⟩
  have szw5 := kc5.size
  replace HK := HK.trans kc5 (by simp)
  replace Bg0 := Bg0.kept kc5 (by simp)
  replace Bg1 := Bg1.kept kc5 (by simp)
  replace Bg2 := Bg2.kept kc5 (by simp)
  clear f11 a11 kc5
  refine wpList_nil (hK2 _ _ ?_)
  have f13 := f12.sub (sc 1 (sc 2 (sc 3 (sc 8 sn))))
  clear f12
  refine f13.split 8 rfl (fun h0 f14 => ?_) (fun h0 f14 => ?_)
  ·have hw8 := h0
   refine C.condT f14 rfl ?_
   refine C.region ?_
   refine L.fa 4 f14 U28 rfl wsz3_wbb fun a15 f15 => ?_
   refine L.ld f15 U3 Bg0 fun a16 f16 => ?_
   refine L.fa 4 f16 U28 rfl wsz3_wbb fun a17 f17 => ?_
   refine L.store f17 wantedN wsz3_wbb rfl rfl rfl Bg2 (by (simp [Value.cells]; done)) fun a18 w6 f18 NB6 ks6 => ?_
   have szw6 := ks6.size
   replace HK := HK.trans ks6 (ktr (by omega))
   replace Bg0 := Bg0.kept ks6 (by simp; omega)
   replace Bg1 := Bg1.kept ks6 (by simp; omega)
   replace Bg2 := NB6
   simp only [Value.cells, z1, z2, z3, Nat.reduceAdd, Nat.zero_add] at Bg2
   clear f13 f14 a12 f15 a15 f16 a16 ks6 f17 a17
   exact wpList_nil (then_of (J := J4) (Q := fun _ _ _ => True) (by rw [hJ4]; exact ⟨HK, Bg0, Bg1, (by simp only [hw8, if_true] at Bg2 ⊢; exact Bg2), f18.sub (sub_cons rfl (sub_cons rfl (sub_cons rfl sn)))⟩))
  have hw8 := h0
  refine C.condF f14 rfl ?_
  exact wp_skip (then_of (J := J4) (Q := fun _ _ _ => True) (by rw [hJ4]; exact ⟨HK, Bg0, Bg1, (by simp only [hw8, Bool.false_eq_true, if_false] at Bg2 ⊢; exact Bg2), f14.sub (sub_cons rfl (sub_cons rfl (sub_cons rfl sn)))⟩))
 intro a11 w5 hj
 rw [hJ4] at hj
 clear hJ4 J4
 obtain ⟨HK, Bg0, Bg1, Bg2, f11⟩ := hj
 try clear f10
 obtain ⟨J22, hJ22⟩ : ∃ J : Act → World → Prop, J = fun a W => ∃ t, Kept [] w W ∧ Blk W g1 28 zeroPk ∧ Blk W g2 28 ((bareP p).cells t) ∧ (∀ W', Kept [] w W' → (bareP p).In W' t) ∧ Fr 94 a [(2, .pointer (some ⟨g1, 0, none⟩)), (3, .pointer (some ⟨g2, 0, none⟩))] := ⟨_, rfl⟩
 refine C.cut J22 ?_ ?_
 ·skip
  refine C.sk fun K3 hK3 => ?_
  refine L.fa 0 f11 U28 rfl wsz3_wbb fun a12 f12 => ?_
  refine L.ld f12 U3 Bg0 fun a13 f13 => ?_
  refine wpList_nil (hK3 _ _ ?_)
  have f14 := f13.sub (sc 1 (sc 2 (sc 3 (sc 13 sn))))
  refine wp_block ?_
  refine C.sk fun K4 hK4 => ?_
  refine L.va f14 (E.eq f14) fun a15 f15 => ?_
  refine L.ag f15 fun a16 f16 => ?_
  refine wpList_nil (hK4 _ _ ?_)
  have f17 := f16.sub (sc 1 (sc 2 (sc 3 (sc 13 (sc 14 sn)))))
  clear f11 a11 f12 a12 f13 f14 a13 f15 a15 f16
  refine f17.splitD 14 rfl (fun h1 f18 => ?_) (fun h1 f18 => ?_)
  ·refine C.condT f18 rfl ?_
   refine wp_seq_k fun K5 hK5 => ?_
   have hn1 : numB p = false := numB_f (by omega) (by omega)
   simp only [hn1, Bool.false_eq_true, if_false] at Bg2
   refine R.beginT (S := fun W => Kept [g2] w5 W) (by kernel_rfl) (by kernel_rfl) (by exact (Kept.refl _ _).drewN 1) fun ht => ?_
   have hS6 : Kept [g2] w5 (w5.drewN 1) := (Kept.refl _ _).drewN 1
   have hd6 : Kept [] w5 (w5.drewN 1) := (Kept.refl _ _).drewN 1
   obtain ⟨w6, hww6⟩ : ∃ W, W = w5.drewN 1 := ⟨_, rfl⟩
   rw [← hww6] at hS6 hd6 ⊢
   clear f17 hww6
   have szw6 := hS6.size
   replace Bg2 := Bg2.kept hd6 (by simp)
   refine R.u 0 f18 rfl ht hS6 (fun W hW => (E.fa 7 f18 U28 rfl wsz3_wbb)) fun a19 f19 => ?_
   refine R.u 1 f19 rfl ht hS6 (fun W hW => (by exact E.ld f19 U3 (Bg0.kept hW (by simp; omega)))) fun a20 f20 => ?_
   refine R.u 2 f20 rfl ht hS6 (fun W hW => (E.fa 8 f20 U28 rfl wsz9_wbb)) fun a21 f21 => ?_
   refine R.u 3 f21 rfl ht hS6 (fun W hW => (by exact E.ld f21 U9 (Bg0.kept hW (by simp; omega)))) fun a22 f22 => ?_
   refine R.u 4 f22 rfl ht hS6 (fun W hW => (E.fa 9 f22 U28 rfl wsz4_wbb)) fun a23 f23 => ?_
   refine R.u 5 f23 rfl ht hS6 (fun W hW => (by exact E.ld f23 U4 (Bg0.kept hW (by simp; omega)))) fun a24 f24 => ?_
   refine R.u 6 f24 rfl ht hS6 (fun W hW => (E.fa 10 f24 U28 rfl wsz3_wbb)) fun a25 f25 => ?_
   clear f18 a16 f19 a19 f20 a20 f21 a21 f22 a22 f23 a23 f24 a24
   refine R.u 7 f25 rfl ht hS6 (fun W hW => (by exact E.ld f25 U3 (Bg0.kept hW (by simp; omega)))) fun a26 f26 => ?_
   refine R.u 8 f26 rfl ht hS6 (fun W hW => (E.fa 11 f26 U28 rfl wsz4_wbb)) fun a27 f27 => ?_
   refine R.u 9 f27 rfl ht hS6 (fun W hW => (by exact E.ld f27 U4 (Bg0.kept hW (by simp; omega)))) fun a28 f28 => ?_
   refine R.u 10 f28 rfl ht hS6 (fun W hW => (E.fa 16 f28 U28 rfl wsz4_wbb)) fun a29 f29 => ?_
   refine R.u 11 f29 rfl ht hS6 (fun W hW => (by exact E.ld f29 U4 (Bg0.kept hW (by simp; omega)))) fun a30 f30 => ?_
   refine R.u 12 f30 rfl ht hS6 (fun W hW => (E.fa 17 f30 U28 rfl wsz4_wbb)) fun a31 f31 => ?_
   refine R.u 13 f31 rfl ht hS6 (fun W hW => (by exact E.ld f31 U4 (Bg0.kept hW (by simp; omega)))) fun a32 f32 => ?_
   clear f25 a25 f26 a26 f27 a27 f28 a28 f29 a29 f30 a30 f31 a31
   refine R.u 14 f32 rfl ht hS6 (fun W hW => (E.fa 7 f32 U28 rfl wsz3_wbb)) fun a33 f33 => ?_
   refine R.store 15 f33 rfl (by kernel_rfl) wantedN wsz3_wbb rfl rfl rfl Bg2 (by (simp [Value.cells]; done)) (fun _ hW => hS6.trans hW (by simp)) fun a34 w7 f34 NB7 ks7 hSn => ?_
   have szw7 := ks7.size
   replace Bg2 := NB7
   simp only [Value.cells, z1, z2, z3, Nat.reduceAdd, Nat.zero_add] at Bg2
   replace hS6 := hSn
   clear f32 a32 f33 a33 hSn ks7
   refine R.u 16 f34 rfl ht hS6 (fun W hW => (E.fa 8 f34 U28 rfl wsz9_wbb)) fun a35 f35 => ?_
   refine R.store 17 f35 rfl (by kernel_rfl) wantedN wsz9_wbb rfl rfl rfl Bg2 (by (simp [Value.cells]; done)) (fun _ hW => hS6.trans hW (by simp)) fun a36 w8 f36 NB8 ks8 hSn => ?_
   have szw8 := ks8.size
   replace Bg2 := NB8
   simp only [Value.cells, z1, z2, z3, Nat.reduceAdd, Nat.zero_add] at Bg2
   replace hS6 := hSn
   clear f34 a34 f35 a35 hSn ks8
   refine R.u 18 f36 rfl ht hS6 (fun W hW => (E.fa 9 f36 U28 rfl wsz4_wbb)) fun a37 f37 => ?_
   refine R.store 19 f37 rfl (by kernel_rfl) wantedN wsz4_wbb rfl rfl rfl Bg2 (by (simp [Value.cells]; done)) (fun _ hW => hS6.trans hW (by simp)) fun a38 w9 f38 NB9 ks9 hSn => ?_
   have szw9 := ks9.size
   replace Bg2 := NB9
   simp only [Value.cells, z1, z2, z3, Nat.reduceAdd, Nat.zero_add] at Bg2
   replace hS6 := hSn
   clear f36 a36 f37 a37 hSn ks9
   refine R.u 20 f38 rfl ht hS6 (fun W hW => (E.fa 10 f38 U28 rfl wsz3_wbb)) fun a39 f39 => ?_
   refine R.store 21 f39 rfl (by kernel_rfl) wantedN wsz3_wbb rfl rfl rfl Bg2 (by (simp [Value.cells]; done)) (fun _ hW => hS6.trans hW (by simp)) fun a40 w10 f40 NB10 ks10 hSn => ?_
   have szw10 := ks10.size
   replace Bg2 := NB10
   simp only [Value.cells, z1, z2, z3, Nat.reduceAdd, Nat.zero_add] at Bg2
   replace hS6 := hSn
   clear f38 a38 f39 a39 hSn ks10
   refine R.u 22 f40 rfl ht hS6 (fun W hW => (E.fa 11 f40 U28 rfl wsz4_wbb)) fun a41 f41 => ?_
   refine R.store 23 f41 rfl (by kernel_rfl) wantedN wsz4_wbb rfl rfl rfl Bg2 (by (simp [Value.cells]; done)) (fun _ hW => hS6.trans hW (by simp)) fun a42 w11 f42 NB11 ks11 hSn => ?_
   have szw11 := ks11.size
   replace Bg2 := NB11
   simp only [Value.cells, z1, z2, z3, Nat.reduceAdd, Nat.zero_add] at Bg2
   replace hS6 := hSn
   clear f40 a40 f41 a41 hSn ks11
   refine R.u 24 f42 rfl ht hS6 (fun W hW => (E.fa 16 f42 U28 rfl wsz4_wbb)) fun a43 f43 => ?_
   refine R.store 25 f43 rfl (by kernel_rfl) wantedN wsz4_wbb rfl rfl rfl Bg2 (by (simp [Value.cells]; done)) (fun _ hW => hS6.trans hW (by simp)) fun a44 w12 f44 NB12 ks12 hSn => ?_
   have szw12 := ks12.size
   replace Bg2 := NB12
   simp only [Value.cells, z1, z2, z3, Nat.reduceAdd, Nat.zero_add] at Bg2
   replace hS6 := hSn
   clear f42 a42 f43 a43 hSn ks12
   refine R.u 26 f44 rfl ht hS6 (fun W hW => (E.fa 17 f44 U28 rfl wsz4_wbb)) fun a45 f45 => ?_
   refine R.store 27 f45 rfl (by kernel_rfl) wantedN wsz4_wbb rfl rfl rfl Bg2 (by (simp [Value.cells]; done)) (fun _ hW => hS6.trans hW (by simp)) fun a46 w13 f46 NB13 ks13 hSn => ?_
   have szw13 := ks13.size
   replace Bg2 := NB13
   simp only [Value.cells, z1, z2, z3, Nat.reduceAdd, Nat.zero_add] at Bg2
   replace hS6 := hSn
   clear f44 a44 f45 a45 hSn ks13
   have szw13r := hS6.size
   replace HK := HK.trans hS6 (ktr (by omega))
   replace Bg0 := Bg0.kept hS6 (by simp; omega)
   replace Bg1 := Bg1.kept hS6 (by simp; omega)
   clear hS6
   refine R.done (by kernel_rfl) (hK5 _ _ ?_)
   have f47 := f46.sub (sc 1 (sc 2 (sc 3 sn)))
   obtain ⟨J9, hJ9⟩ : ∃ J : Act → World → Prop, J = fun a W => Kept [] w W ∧ Blk W g0 28 (p.cells s) ∧ Blk W g1 28 zeroPk ∧ Blk W g2 28 #[.int .i64 p.kind, .bool false, .bool false, .int .i64 0, .int .i64 0, .string em, .slice none 0 0, .int .i64 p.level, .string p.client, .bool p.clean, .int .i64 p.keep, .bool p.hasWill, .string (if p.hasWill = true then p.wt else em), .slice (if p.hasWill = true then s.wa else none) ((if p.hasWill = true then p.wp else [])).length (if p.hasWill = true then s.wc else 0), .int .i64 (if p.hasWill = true then p.wq else 0), .bool (if p.hasWill = true then p.wr else false), .bool p.hasUser, .bool p.hasPass, .string em, .slice none 0 0, .bool false, .int .i64 0, .slice none 0 0, .slice none 0 0] ∧ Fr 94 a [(1, .pointer (some ⟨g0, 0, none⟩)), (2, .pointer (some ⟨g1, 0, none⟩)), (3, .pointer (some ⟨g2, 0, none⟩))] := ⟨_, rfl⟩
   clear f46
   refine C.cut J9 ?_ ?_
   ·skip
    refine C.sk fun K6 hK6 => ?_
    refine L.fa 11 f47 U28 rfl wsz4_wbb fun a48 f48 => ?_
    refine L.ld f48 U4 Bg0 fun a49 f49 => ?_
    refine wpList_nil (hK6 _ _ ?_)
    have f50 := f49.sub (sc 1 (sc 2 (sc 3 (sc 38 sn))))
    clear f47 a46 f48 a48 f49
    refine f50.split 38 rfl (fun h2 f51 => ?_) (fun h2 f51 => ?_)
    ·have hw38 := h2
     refine C.condT f51 rfl ?_
     refine C.region ?_
     refine L.fa 12 f51 U28 rfl wsz24_wbb fun a52 f52 => ?_
     refine L.va f52 (by exact E.loadR f52 U24 rfl wsz24_wbb rfl (will_row Bg0) rfl) fun a53 f53 => ?_
     refine L.fa 12 f53 U28 rfl wsz24_wbb fun a54 f54 => ?_
     refine L.storeSeg f54 wantedN wsz24_wbb rfl rfl rfl Bg2 (Nat.le_of_ble_eq_true rfl) rfl fun a55 w14 f55 NB14 ks14 => ?_
     have szw14 := ks14.size
     replace HK := HK.trans ks14 (ktr (by omega))
     replace Bg0 := Bg0.kept ks14 (by simp; omega)
     replace Bg1 := Bg1.kept ks14 (by simp; omega)
     replace Bg2 := NB14
     simp only [setSeg, List.set_cons_zero, List.set_cons_succ, Nat.reduceAdd, Nat.zero_add] at Bg2
     clear f50 f51 a49 f52 a52 f53 a53 ks14 f54 a54
     exact wpList_nil (then_of (J := J9) (Q := fun _ _ _ => True) (by rw [hJ9]; exact ⟨HK, Bg0, Bg1, (by simp only [hw38, if_true] at Bg2 ⊢; exact Bg2), f55.sub (sub_cons rfl (sub_cons rfl (sub_cons rfl sn)))⟩))
    have hw38 := h2
    refine C.condF f51 rfl ?_
    exact wp_skip (then_of (J := J9) (Q := fun _ _ _ => True) (by rw [hJ9]; exact ⟨HK, Bg0, Bg1, (by simp only [hw38, Bool.false_eq_true, if_false] at Bg2 ⊢; exact Bg2), f51.sub (sub_cons rfl (sub_cons rfl (sub_cons rfl sn)))⟩))
   intro a48 w14 hj
   rw [hJ9] at hj
   clear hJ9 J9
   obtain ⟨HK, Bg0, Bg1, Bg2, f48⟩ := hj
   try clear f47
   obtain ⟨J11, hJ11⟩ : ∃ J : Act → World → Prop, J = fun a W => Kept [] w W ∧ Blk W g0 28 (p.cells s) ∧ Blk W g1 28 zeroPk ∧ Blk W g2 28 #[.int .i64 p.kind, .bool false, .bool false, .int .i64 0, .int .i64 0, .string em, .slice none 0 0, .int .i64 p.level, .string p.client, .bool p.clean, .int .i64 p.keep, .bool p.hasWill, .string (if p.hasWill = true then p.wt else em), .slice (if p.hasWill = true then s.wa else none) ((if p.hasWill = true then p.wp else [])).length (if p.hasWill = true then s.wc else 0), .int .i64 (if p.hasWill = true then p.wq else 0), .bool (if p.hasWill = true then p.wr else false), .bool p.hasUser, .bool p.hasPass, .string (if p.hasUser = true then p.user else em), .slice none 0 0, .bool false, .int .i64 0, .slice none 0 0, .slice none 0 0] ∧ Fr 94 a [(1, .pointer (some ⟨g0, 0, none⟩)), (2, .pointer (some ⟨g1, 0, none⟩)), (3, .pointer (some ⟨g2, 0, none⟩))] := ⟨_, rfl⟩
   refine C.cut J11 ?_ ?_
   ·skip
    refine C.sk fun K7 hK7 => ?_
    refine L.fa 16 f48 U28 rfl wsz4_wbb fun a49 f49 => ?_
    refine L.ld f49 U4 Bg0 fun a50 f50 => ?_
    refine wpList_nil (hK7 _ _ ?_)
    have f51 := f50.sub (sc 1 (sc 2 (sc 3 (sc 43 sn))))
    clear f48 a48 f49 a49 f50
    refine f51.split 43 rfl (fun h3 f52 => ?_) (fun h3 f52 => ?_)
    ·have hw43 := h3
     refine C.condT f52 rfl ?_
     refine C.region ?_
     refine L.fa 18 f52 U28 rfl wsz9_wbb fun a53 f53 => ?_
     refine L.ld f53 U9 Bg0 fun a54 f54 => ?_
     refine L.fa 18 f54 U28 rfl wsz9_wbb fun a55 f55 => ?_
     refine L.store f55 wantedN wsz9_wbb rfl rfl rfl Bg2 (by (simp [Value.cells]; done)) fun a56 w15 f56 NB15 ks15 => ?_
     have szw15 := ks15.size
     replace HK := HK.trans ks15 (ktr (by omega))
     replace Bg0 := Bg0.kept ks15 (by simp; omega)
     replace Bg1 := Bg1.kept ks15 (by simp; omega)
     replace Bg2 := NB15
     simp only [Value.cells, z1, z2, z3, Nat.reduceAdd, Nat.zero_add] at Bg2
     clear f51 f52 a50 f53 a53 f54 a54 ks15 f55 a55
     exact wpList_nil (then_of (J := J11) (Q := fun _ _ _ => True) (by rw [hJ11]; exact ⟨HK, Bg0, Bg1, (by simp only [hw43, if_true] at Bg2 ⊢; exact Bg2), f56.sub (sub_cons rfl (sub_cons rfl (sub_cons rfl sn)))⟩))
    have hw43 := h3
    refine C.condF f52 rfl ?_
    exact wp_skip (then_of (J := J11) (Q := fun _ _ _ => True) (by rw [hJ11]; exact ⟨HK, Bg0, Bg1, (by simp only [hw43, Bool.false_eq_true, if_false] at Bg2 ⊢; exact Bg2), f52.sub (sub_cons rfl (sub_cons rfl (sub_cons rfl sn)))⟩))
   intro a49 w15 hj
   rw [hJ11] at hj
   clear hJ11 J11
   obtain ⟨HK, Bg0, Bg1, Bg2, f49⟩ := hj
   try clear f48
   refine C.sk fun K8 hK8 => ?_
   refine L.fa 17 f49 U28 rfl wsz4_wbb fun a50 f50 => ?_
   refine L.ld f50 U4 Bg0 fun a51 f51 => ?_
   refine wpList_nil (hK8 _ _ ?_)
   have f52 := f51.sub (sc 1 (sc 2 (sc 3 (sc 48 sn))))
   clear f49 a49 f50 a50 f51
   refine f52.split 48 rfl (fun h4 f53 => ?_) (fun h4 f53 => ?_)
   ·have hw48 := h4
    refine C.condT f53 rfl ?_
    refine C.region ?_
    refine L.fa 19 f53 U28 rfl wsz22_wbb fun a54 f54 => ?_
    refine L.ld f54 U22 Bg0 fun a55 f55 => ?_
    refine L.fa 19 f55 U28 rfl wsz22_wbb fun a56 f56 => ?_
    refine L.store f56 wantedN wsz22_wbb rfl rfl rfl Bg2 (by (simp [Value.cells]; done)) fun a57 w16 f57 NB16 ks16 => ?_
    have szw16 := ks16.size
    replace HK := HK.trans ks16 (ktr (by omega))
    replace Bg0 := Bg0.kept ks16 (by simp; omega)
    replace Bg1 := Bg1.kept ks16 (by simp; omega)
    replace Bg2 := NB16
    simp only [Value.cells, z1, z2, z3, Nat.reduceAdd, Nat.zero_add] at Bg2
    clear f52 f53 a51 f54 a54 f55 a55 ks16 f56 a56
    have hb : bareP p = { kind := p.kind, level := p.level, client := p.client, clean := p.clean, keep := p.keep, hasWill := p.hasWill, hasUser := p.hasUser, hasPass := p.hasPass, wt := (if p.hasWill = true then p.wt else em), wp := (if p.hasWill = true then p.wp else []), wq := (if p.hasWill = true then p.wq else 0), wr := (if p.hasWill = true then p.wr else false), user := (if p.hasUser = true then p.user else em), pass := p.pass } := by unfold bareP; (simp [*]; done)
    have hJ : ∃ t, Blk w16 g2 28 ((bareP p).cells t) ∧ ∀ W', Kept [] w W' → (bareP p).In W' t := ⟨⟨none, 0, (if p.hasWill = true then s.wa else none), (if p.hasWill = true then s.wc else 0), s.sa, s.sc, none, 0, none, 0⟩, by rw [hb]; exact Bg2, fun W' hk' => by rw [hb]; exact ⟨Sl.nil _ _ _, will_in IP hk', IP.pass.kept hk', Sl.nil _ _ _, Sl.nil _ _ _⟩⟩
    obtain ⟨tt, BT, IT⟩ := hJ
    exact wpList_nil (then_of (J := J22) (Q := fun _ _ _ => True) (by rw [hJ22]; exact ⟨tt, HK, Bg1, BT, IT, f57.sub (sub_cons rfl (sub_cons rfl sn))⟩))
   have hw48 := h4
   refine C.condF f53 rfl ?_
   have hb : bareP p = { kind := p.kind, level := p.level, client := p.client, clean := p.clean, keep := p.keep, hasWill := p.hasWill, hasUser := p.hasUser, hasPass := p.hasPass, wt := (if p.hasWill = true then p.wt else em), wp := (if p.hasWill = true then p.wp else []), wq := (if p.hasWill = true then p.wq else 0), wr := (if p.hasWill = true then p.wr else false), user := (if p.hasUser = true then p.user else em) } := by unfold bareP; (simp [*]; done)
   have hJ : ∃ t, Blk w15 g2 28 ((bareP p).cells t) ∧ ∀ W', Kept [] w W' → (bareP p).In W' t := ⟨⟨none, 0, (if p.hasWill = true then s.wa else none), (if p.hasWill = true then s.wc else 0), none, 0, none, 0, none, 0⟩, by rw [hb]; exact Bg2, fun W' hk' => by rw [hb]; exact ⟨Sl.nil _ _ _, will_in IP hk', Sl.nil _ _ _, Sl.nil _ _ _, Sl.nil _ _ _⟩⟩
   obtain ⟨tt, BT, IT⟩ := hJ
   exact wp_skip (then_of (J := J22) (Q := fun _ _ _ => True) (by rw [hJ22]; exact ⟨tt, HK, Bg1, BT, IT, f53.sub (sub_cons rfl (sub_cons rfl sn))⟩))
  refine C.condF f18 rfl ?_
  refine C.sk fun K9 hK9 => ?_
  refine L.va f18 (E.eq f18) fun a19 f19 => ?_
  refine L.ag f19 fun a20 f20 => ?_
  refine wpList_nil (hK9 _ _ ?_)
  have f21 := f20.sub (sc 1 (sc 2 (sc 3 (sc 13 (sc 52 sn)))))
  clear f17 f18 a16 f19 a19 f20
  refine f21.splitD 52 rfl (fun h5 f22 => ?_) (fun h5 f22 => ?_)
  ·refine C.condT f22 rfl ?_
   have hn1 : numB p = false := numB_f (by omega) (by omega)
   simp only [hn1, Bool.false_eq_true, if_false] at Bg2
   refine R.beginT (S := fun W => Kept [g2] w5 W) (by kernel_rfl) (by kernel_rfl) (by exact (Kept.refl _ _).drewN 1) fun ht => ?_
   have hS14 : Kept [g2] w5 (w5.drewN 1) := (Kept.refl _ _).drewN 1
   have hd14 : Kept [] w5 (w5.drewN 1) := (Kept.refl _ _).drewN 1
   obtain ⟨w6, hww6⟩ : ∃ W, W = w5.drewN 1 := ⟨_, rfl⟩
   rw [← hww6] at hS14 hd14 ⊢
   clear f21 hww6
   have szw6 := hS14.size
   replace Bg2 := Bg2.kept hd14 (by simp)
   refine R.u 0 f22 rfl ht hS14 (fun W hW => (E.fa 20 f22 U28 rfl wsz4_wbb)) fun a23 f23 => ?_
   refine R.u 1 f23 rfl ht hS14 (fun W hW => (by exact E.ld f23 U4 (Bg0.kept hW (by simp; omega)))) fun a24 f24 => ?_
   refine R.u 2 f24 rfl ht hS14 (fun W hW => (E.fa 21 f24 U28 rfl wsz3_wbb)) fun a25 f25 => ?_
   refine R.u 3 f25 rfl ht hS14 (fun W hW => (by exact E.ld f25 U3 (Bg0.kept hW (by simp; omega)))) fun a26 f26 => ?_
   refine R.u 4 f26 rfl ht hS14 (fun W hW => (E.fa 20 f26 U28 rfl wsz4_wbb)) fun a27 f27 => ?_
   refine R.store 5 f27 rfl (by kernel_rfl) wantedN wsz4_wbb rfl rfl rfl Bg2 (by (simp [Value.cells]; done)) (fun _ hW => hS14.trans hW (by simp)) fun a28 w7 f28 NB7 ks7 hSn => ?_
   have szw7 := ks7.size
   replace Bg2 := NB7
   simp only [Value.cells, z1, z2, z3, Nat.reduceAdd, Nat.zero_add] at Bg2
   replace hS14 := hSn
   clear f22 a20 f23 a23 f24 a24 f25 a25 f26 a26 f27 a27 hSn ks7
   refine R.u 6 f28 rfl ht hS14 (fun W hW => (E.fa 21 f28 U28 rfl wsz3_wbb)) fun a29 f29 => ?_
   refine R.store 7 f29 rfl (by kernel_rfl) wantedN wsz3_wbb rfl rfl rfl Bg2 (by (simp [Value.cells]; done)) (fun _ hW => hS14.trans hW (by simp)) fun a30 w8 f30 NB8 ks8 hSn => ?_
   have szw8 := ks8.size
   replace Bg2 := NB8
   simp only [Value.cells, z1, z2, z3, Nat.reduceAdd, Nat.zero_add] at Bg2
   replace hS14 := hSn
   clear f28 a28 f29 a29 hSn ks8
   have szw8r := hS14.size
   replace HK := HK.trans hS14 (ktr (by omega))
   replace Bg0 := Bg0.kept hS14 (by simp; omega)
   replace Bg1 := Bg1.kept hS14 (by simp; omega)
   clear hS14
   have hb : bareP p = { kind := p.kind, present := p.present, code := p.code } := by unfold bareP; (simp [*]; done)
   have hJ : ∃ t, Blk w8 g2 28 ((bareP p).cells t) ∧ ∀ W', Kept [] w W' → (bareP p).In W' t := ⟨⟨none, 0, none, 0, none, 0, none, 0, none, 0⟩, by rw [hb]; exact Bg2, fun W' hk' => by rw [hb]; exact ⟨Sl.nil _ _ _, Sl.nil _ _ _, Sl.nil _ _ _, Sl.nil _ _ _, Sl.nil _ _ _⟩⟩
   obtain ⟨tt, BT, IT⟩ := hJ
   exact R.done (by kernel_rfl) (then_of (J := J22) (Q := fun _ _ _ => True) (by rw [hJ22]; exact ⟨tt, HK, Bg1, BT, IT, f30.sub (sub_cons rfl (sub_cons rfl sn))⟩))
  refine C.condF f22 rfl ?_
  refine C.sk fun K10 hK10 => ?_
  refine L.va f22 (E.eq f22) fun a23 f23 => ?_
  refine L.ag f23 fun a24 f24 => ?_
  refine wpList_nil (hK10 _ _ ?_)
  have f25 := f24.sub (sc 1 (sc 2 (sc 3 (sc 13 (sc 60 sn)))))
  clear f21 f22 a20 f23 a23 f24
  refine f25.splitD 60 rfl (fun h6 f26 => ?_) (fun h6 f26 => ?_)
  ·refine C.condT f26 rfl ?_
   have hn1 : numB p = decide (0 < p.qos) := numB_3 (by omega)
   refine R.beginT (S := fun W => Kept [g2] w5 W) (by kernel_rfl) (by kernel_rfl) (by exact (Kept.refl _ _).drewN 1) fun ht => ?_
   have hS16 : Kept [g2] w5 (w5.drewN 1) := (Kept.refl _ _).drewN 1
   have hd16 : Kept [] w5 (w5.drewN 1) := (Kept.refl _ _).drewN 1
   obtain ⟨w6, hww6⟩ : ∃ W, W = w5.drewN 1 := ⟨_, rfl⟩
   rw [← hww6] at hS16 hd16 ⊢
   clear f25 hww6
   have szw6 := hS16.size
   replace Bg2 := Bg2.kept hd16 (by simp)
   refine R.u 0 f26 rfl ht hS16 (fun W hW => (E.fa 1 f26 U28 rfl wsz4_wbb)) fun a27 f27 => ?_
   refine R.u 1 f27 rfl ht hS16 (fun W hW => (by exact E.ld f27 U4 (Bg0.kept hW (by simp; omega)))) fun a28 f28 => ?_
   refine R.u 2 f28 rfl ht hS16 (fun W hW => (E.move f28 rfl)) fun a29 f29 => ?_
   clear f26 a24 f27 a27 f28 a28
   refine f29.split 64 rfl (fun h7 f30 => ?_) (fun h7 f30 => ?_)
   ·refine R.u 3 f30 rfl ht hS16 (fun W hW => (E.fa 3 f30 U28 rfl wsz3_wbb)) (hw := (f30.yes rfl rfl)) fun a31 f31 => ?_
    refine R.u 4 f31 rfl ht hS16 (fun W hW => (by exact E.ld f31 U3 (Bg0.kept hW (by simp; omega)))) (hw := (f31.yes rfl rfl)) fun a32 f32 => ?_
    refine R.u 5 f32 rfl ht hS16 (fun W hW => (E.gtr f32 rfl rfl)) (hw := (f32.yes rfl rfl)) fun a33 f33 => ?_
    refine R.u 6 f33 rfl ht hS16 (fun W hW => (E.pickT f33 rfl rfl)) fun a34 f34 => ?_
    refine R.u 7 f34 rfl ht hS16 (fun W hW => (E.fa 2 f34 U28 rfl wsz4_wbb)) fun a35 f35 => ?_
    refine R.u 8 f35 rfl ht hS16 (fun W hW => (by exact E.ld f35 U4 (Bg0.kept hW (by simp; omega)))) fun a36 f36 => ?_
    refine R.u 9 f36 rfl ht hS16 (fun W hW => (E.fa 3 f36 U28 rfl wsz3_wbb)) fun a37 f37 => ?_
    clear f29 f30 a29 f31 a31 f32 a32 f33 a33 f34 a34 f35 a35 f36 a36
    refine R.u 10 f37 rfl ht hS16 (fun W hW => (by exact E.ld f37 U3 (Bg0.kept hW (by simp; omega)))) fun a38 f38 => ?_
    refine R.u 11 f38 rfl ht hS16 (fun W hW => (E.fa 5 f38 U28 rfl wsz9_wbb)) fun a39 f39 => ?_
    refine R.u 12 f39 rfl ht hS16 (fun W hW => (by exact E.ld f39 U9 (Bg0.kept hW (by simp; omega)))) fun a40 f40 => ?_
    refine R.u 13 f40 rfl ht hS16 (fun W hW => (E.fa 6 f40 U28 rfl wsz22_wbb)) fun a41 f41 => ?_
    refine R.u 14 f41 rfl ht hS16 (fun W hW => (by exact E.ld f41 U22 (Bg0.kept hW (by simp; omega)))) fun a42 f42 => ?_
    refine R.u 15 f42 rfl ht hS16 (fun W hW => (E.fa 1 f42 U28 rfl wsz4_wbb)) fun a43 f43 => ?_
    refine R.store 16 f43 rfl (by kernel_rfl) wantedN wsz4_wbb rfl rfl rfl Bg2 (by (simp [Value.cells]; done)) (fun _ hW => hS16.trans hW (by simp)) fun a44 w7 f44 NB7 ks7 hSn => ?_
    clear f37 a37 f38 a38 f39 a39 f40 a40 f41 a41 f42 a42 f43 a43
    have szw7 := ks7.size
    replace Bg2 := NB7
    simp only [Value.cells, z1, z2, z3, Nat.reduceAdd, Nat.zero_add] at Bg2
    replace hS16 := hSn
    clear hSn ks7
    refine R.u 17 f44 rfl ht hS16 (fun W hW => (E.fa 2 f44 U28 rfl wsz4_wbb)) fun a45 f45 => ?_
    refine R.store 18 f45 rfl (by kernel_rfl) wantedN wsz4_wbb rfl rfl rfl Bg2 (by (simp [Value.cells]; done)) (fun _ hW => hS16.trans hW (by simp)) fun a46 w8 f46 NB8 ks8 hSn => ?_
    have szw8 := ks8.size
    replace Bg2 := NB8
    simp only [Value.cells, z1, z2, z3, Nat.reduceAdd, Nat.zero_add] at Bg2
    replace hS16 := hSn
    clear f44 a44 f45 a45 hSn ks8
    refine R.u 19 f46 rfl ht hS16 (fun W hW => (E.fa 3 f46 U28 rfl wsz3_wbb)) fun a47 f47 => ?_
    refine R.store 20 f47 rfl (by kernel_rfl) wantedN wsz3_wbb rfl rfl rfl Bg2 (by (simp [Value.cells]; done)) (fun _ hW => hS16.trans hW (by simp)) fun a48 w9 f48 NB9 ks9 hSn => ?_
    have szw9 := ks9.size
    replace Bg2 := NB9
    simp only [Value.cells, z1, z2, z3, Nat.reduceAdd, Nat.zero_add] at Bg2
    replace hS16 := hSn
    clear f46 a46 f47 a47 hSn ks9
    refine R.u 21 f48 rfl ht hS16 (fun W hW => (E.fa 5 f48 U28 rfl wsz9_wbb)) fun a49 f49 => ?_
    refine R.store 22 f49 rfl (by kernel_rfl) wantedN wsz9_wbb rfl rfl rfl Bg2 (by (simp [Value.cells]; done)) (fun _ hW => hS16.trans hW (by simp)) fun a50 w10 f50 NB10 ks10 hSn => ?_
    have szw10 := ks10.size
    replace Bg2 := NB10
    simp only [Value.cells, z1, z2, z3, Nat.reduceAdd, Nat.zero_add] at Bg2
    replace hS16 := hSn
    clear f48 a48 f49 a49 hSn ks10
    refine R.u 23 f50 rfl ht hS16 (fun W hW => (E.fa 6 f50 U28 rfl wsz22_wbb)) fun a51 f51 => ?_
    refine R.store 24 f51 rfl (by kernel_rfl) wantedN wsz22_wbb rfl rfl rfl Bg2 (by (simp [Value.cells]; done)) (fun _ hW => hS16.trans hW (by simp)) fun a52 w11 f52 NB11 ks11 hSn => ?_
    have szw11 := ks11.size
    replace Bg2 := NB11
    simp only [Value.cells, z1, z2, z3, Nat.reduceAdd, Nat.zero_add] at Bg2
    replace hS16 := hSn
    clear f50 a50 f51 a51 hSn ks11
    have szw11r := hS16.size
    replace HK := HK.trans hS16 (ktr (by omega))
    replace Bg0 := Bg0.kept hS16 (by simp; omega)
    replace Bg1 := Bg1.kept hS16 (by simp; omega)
    clear hS16
    have hb : bareP p = { kind := p.kind, id := (if numB p = true then p.id else 0), retain := p.retain, qos := p.qos, topic := p.topic, pay := p.pay, dup := decide (0 < p.qos) } := by unfold bareP; (simp [*]; done)
    have hJ : ∃ t, Blk w11 g2 28 ((bareP p).cells t) ∧ ∀ W', Kept [] w W' → (bareP p).In W' t := ⟨⟨s.pa, s.pc, none, 0, none, 0, none, 0, none, 0⟩, by rw [hb]; exact Bg2, fun W' hk' => by rw [hb]; exact ⟨IP.pay.kept hk', Sl.nil _ _ _, Sl.nil _ _ _, Sl.nil _ _ _, Sl.nil _ _ _⟩⟩
    obtain ⟨tt, BT, IT⟩ := hJ
    exact R.done (by kernel_rfl) (then_of (J := J22) (Q := fun _ _ _ => True) (by rw [hJ22]; exact ⟨tt, HK, Bg1, BT, IT, f52.sub (sub_cons rfl (sub_cons rfl sn))⟩))
   refine R.us 3 f30 rfl ht hS16 (f30.noT rfl rfl) fun a31 f31 => ?_
   refine R.us 4 f31 rfl ht hS16 (f31.noT rfl rfl) fun a32 f32 => ?_
   refine R.us 5 f32 rfl ht hS16 (f32.noT rfl rfl) fun a33 f33 => ?_
   refine R.u 6 f33 rfl ht hS16 (fun W hW => (E.pickF f33 rfl rfl)) fun a34 f34 => ?_
   refine R.u 7 f34 rfl ht hS16 (fun W hW => (E.fa 2 f34 U28 rfl wsz4_wbb)) fun a35 f35 => ?_
   refine R.u 8 f35 rfl ht hS16 (fun W hW => (by exact E.ld f35 U4 (Bg0.kept hW (by simp; omega)))) fun a36 f36 => ?_
   refine R.u 9 f36 rfl ht hS16 (fun W hW => (E.fa 3 f36 U28 rfl wsz3_wbb)) fun a37 f37 => ?_
   clear f29 f30 a29 f31 a31 f32 a32 f33 a33 f34 a34 f35 a35 f36 a36
   refine R.u 10 f37 rfl ht hS16 (fun W hW => (by exact E.ld f37 U3 (Bg0.kept hW (by simp; omega)))) fun a38 f38 => ?_
   refine R.u 11 f38 rfl ht hS16 (fun W hW => (E.fa 5 f38 U28 rfl wsz9_wbb)) fun a39 f39 => ?_
   refine R.u 12 f39 rfl ht hS16 (fun W hW => (by exact E.ld f39 U9 (Bg0.kept hW (by simp; omega)))) fun a40 f40 => ?_
   refine R.u 13 f40 rfl ht hS16 (fun W hW => (E.fa 6 f40 U28 rfl wsz22_wbb)) fun a41 f41 => ?_
   refine R.u 14 f41 rfl ht hS16 (fun W hW => (by exact E.ld f41 U22 (Bg0.kept hW (by simp; omega)))) fun a42 f42 => ?_
   refine R.u 15 f42 rfl ht hS16 (fun W hW => (E.fa 1 f42 U28 rfl wsz4_wbb)) fun a43 f43 => ?_
   refine R.store 16 f43 rfl (by kernel_rfl) wantedN wsz4_wbb rfl rfl rfl Bg2 (by (simp [Value.cells]; done)) (fun _ hW => hS16.trans hW (by simp)) fun a44 w7 f44 NB7 ks7 hSn => ?_
   clear f37 a37 f38 a38 f39 a39 f40 a40 f41 a41 f42 a42 f43 a43
   have szw7 := ks7.size
   replace Bg2 := NB7
   simp only [Value.cells, z1, z2, z3, Nat.reduceAdd, Nat.zero_add] at Bg2
   replace hS16 := hSn
   clear hSn ks7
   refine R.u 17 f44 rfl ht hS16 (fun W hW => (E.fa 2 f44 U28 rfl wsz4_wbb)) fun a45 f45 => ?_
   refine R.store 18 f45 rfl (by kernel_rfl) wantedN wsz4_wbb rfl rfl rfl Bg2 (by (simp [Value.cells]; done)) (fun _ hW => hS16.trans hW (by simp)) fun a46 w8 f46 NB8 ks8 hSn => ?_
   have szw8 := ks8.size
   replace Bg2 := NB8
   simp only [Value.cells, z1, z2, z3, Nat.reduceAdd, Nat.zero_add] at Bg2
   replace hS16 := hSn
   clear f44 a44 f45 a45 hSn ks8
   refine R.u 19 f46 rfl ht hS16 (fun W hW => (E.fa 3 f46 U28 rfl wsz3_wbb)) fun a47 f47 => ?_
   refine R.store 20 f47 rfl (by kernel_rfl) wantedN wsz3_wbb rfl rfl rfl Bg2 (by (simp [Value.cells]; done)) (fun _ hW => hS16.trans hW (by simp)) fun a48 w9 f48 NB9 ks9 hSn => ?_
   have szw9 := ks9.size
   replace Bg2 := NB9
   simp only [Value.cells, z1, z2, z3, Nat.reduceAdd, Nat.zero_add] at Bg2
   replace hS16 := hSn
   clear f46 a46 f47 a47 hSn ks9
   refine R.u 21 f48 rfl ht hS16 (fun W hW => (E.fa 5 f48 U28 rfl wsz9_wbb)) fun a49 f49 => ?_
   refine R.store 22 f49 rfl (by kernel_rfl) wantedN wsz9_wbb rfl rfl rfl Bg2 (by (simp [Value.cells]; done)) (fun _ hW => hS16.trans hW (by simp)) fun a50 w10 f50 NB10 ks10 hSn => ?_
   have szw10 := ks10.size
   replace Bg2 := NB10
   simp only [Value.cells, z1, z2, z3, Nat.reduceAdd, Nat.zero_add] at Bg2
   replace hS16 := hSn
   clear f48 a48 f49 a49 hSn ks10
   refine R.u 23 f50 rfl ht hS16 (fun W hW => (E.fa 6 f50 U28 rfl wsz22_wbb)) fun a51 f51 => ?_
   refine R.store 24 f51 rfl (by kernel_rfl) wantedN wsz22_wbb rfl rfl rfl Bg2 (by (simp [Value.cells]; done)) (fun _ hW => hS16.trans hW (by simp)) fun a52 w11 f52 NB11 ks11 hSn => ?_
   have szw11 := ks11.size
   replace Bg2 := NB11
   simp only [Value.cells, z1, z2, z3, Nat.reduceAdd, Nat.zero_add] at Bg2
   replace hS16 := hSn
   clear f50 a50 f51 a51 hSn ks11
   have szw11r := hS16.size
   replace HK := HK.trans hS16 (ktr (by omega))
   replace Bg0 := Bg0.kept hS16 (by simp; omega)
   replace Bg1 := Bg1.kept hS16 (by simp; omega)
   clear hS16
   have hb : bareP p = { kind := p.kind, id := (if numB p = true then p.id else 0), retain := p.retain, qos := p.qos, topic := p.topic, pay := p.pay, dup := false } := by unfold bareP; (simp [*]; done)
   have hJ : ∃ t, Blk w11 g2 28 ((bareP p).cells t) ∧ ∀ W', Kept [] w W' → (bareP p).In W' t := ⟨⟨s.pa, s.pc, none, 0, none, 0, none, 0, none, 0⟩, by rw [hb]; exact Bg2, fun W' hk' => by rw [hb]; exact ⟨IP.pay.kept hk', Sl.nil _ _ _, Sl.nil _ _ _, Sl.nil _ _ _, Sl.nil _ _ _⟩⟩
   obtain ⟨tt, BT, IT⟩ := hJ
   exact R.done (by kernel_rfl) (then_of (J := J22) (Q := fun _ _ _ => True) (by rw [hJ22]; exact ⟨tt, HK, Bg1, BT, IT, f52.sub (sub_cons rfl (sub_cons rfl sn))⟩))
  refine C.condF f26 rfl ?_
  refine wp_seq_k fun K11 hK11 => ?_
  refine C.sk fun K12 hK12 => ?_
  refine L.va f26 (E.eq f26) fun a27 f27 => ?_
  refine L.ag f27 fun a28 f28 => ?_
  refine wpList_nil (hK12 _ _ ?_)
  have f29 := f28.sub (sc 1 (sc 2 (sc 3 (sc 13 (sc 82 sn)))))
  clear f25 f26 a24 f27 a27 f28
  refine f29.splitD 82 rfl (fun h8 f30 => ?_) (fun h8 f30 => ?_)
  ·refine C.condT f30 rfl ?_
   refine wp_skip (hK11 _ _ ?_)
   have f31 := f30.sub (sc 1 (sc 2 (sc 3 (sc 13 (sc 82 sn)))))
   refine C.condT f31 rfl ?_
   have hn1 : numB p = true := numB_t (by omega)
   refine C.region ?_
   refine L.fa 22 f31 U28 rfl wsz25_wbb fun a32 f32 => ?_
   refine L.ld f32 U25 Bg0 fun a33 f33 => ?_
   refine L.fa 22 f33 U28 rfl wsz25_wbb fun a34 f34 => ?_
   refine L.store f34 wantedN wsz25_wbb rfl rfl rfl Bg2 (by (simp [Value.cells]; done)) fun a35 w6 f35 NB6 ks6 => ?_
   have szw6 := ks6.size
   replace HK := HK.trans ks6 (ktr (by omega))
   replace Bg0 := Bg0.kept ks6 (by simp; omega)
   replace Bg1 := Bg1.kept ks6 (by simp; omega)
   replace Bg2 := NB6
   simp only [Value.cells, z1, z2, z3, Nat.reduceAdd, Nat.zero_add] at Bg2
   clear f29 f30 f31 a28 f32 a32 f33 a33 ks6 f34 a34
   have hb : bareP p = { kind := p.kind, id := (if numB p = true then p.id else 0), subs := p.subs } := by unfold bareP; (simp [*]; done)
   have hJ : ∃ t, Blk w6 g2 28 ((bareP p).cells t) ∧ ∀ W', Kept [] w W' → (bareP p).In W' t := ⟨⟨none, 0, none, 0, none, 0, s.ua, s.uc, none, 0⟩, by rw [hb]; exact Bg2, fun W' hk' => by rw [hb]; exact ⟨Sl.nil _ _ _, Sl.nil _ _ _, Sl.nil _ _ _, IP.subs.kept hk', Sl.nil _ _ _⟩⟩
   obtain ⟨tt, BT, IT⟩ := hJ
   exact wpList_nil (then_of (J := J22) (Q := fun _ _ _ => True) (by rw [hJ22]; exact ⟨tt, HK, Bg1, BT, IT, f35.sub (sub_cons rfl (sub_cons rfl sn))⟩))
  refine C.condF f30 rfl ?_
  refine C.region ?_
  refine L.va f30 (E.eq f30) fun a31 f31 => ?_
  refine L.ag f31 fun a32 f32 => ?_
  refine wpList_nil (hK11 _ _ ?_)
  have f33 := f32.sub (sc 1 (sc 2 (sc 3 (sc 13 (sc 82 sn)))))
  clear f29 f30 a28 f31 a31 f32
  refine f33.splitD 82 rfl (fun h9 f34 => ?_) (fun h9 f34 => ?_)
  ·refine C.condT f34 rfl ?_
   have hn1 : numB p = true := numB_t (by omega)
   refine C.region ?_
   refine L.fa 22 f34 U28 rfl wsz25_wbb fun a35 f35 => ?_
   refine L.ld f35 U25 Bg0 fun a36 f36 => ?_
   refine L.fa 22 f36 U28 rfl wsz25_wbb fun a37 f37 => ?_
   refine L.store f37 wantedN wsz25_wbb rfl rfl rfl Bg2 (by (simp [Value.cells]; done)) fun a38 w6 f38 NB6 ks6 => ?_
   have szw6 := ks6.size
   replace HK := HK.trans ks6 (ktr (by omega))
   replace Bg0 := Bg0.kept ks6 (by simp; omega)
   replace Bg1 := Bg1.kept ks6 (by simp; omega)
   replace Bg2 := NB6
   simp only [Value.cells, z1, z2, z3, Nat.reduceAdd, Nat.zero_add] at Bg2
   clear f33 f34 a32 f35 a35 f36 a36 ks6 f37 a37
   have hb : bareP p = { kind := p.kind, id := (if numB p = true then p.id else 0), subs := p.subs } := by unfold bareP; (simp [*]; done)
   have hJ : ∃ t, Blk w6 g2 28 ((bareP p).cells t) ∧ ∀ W', Kept [] w W' → (bareP p).In W' t := ⟨⟨none, 0, none, 0, none, 0, s.ua, s.uc, none, 0⟩, by rw [hb]; exact Bg2, fun W' hk' => by rw [hb]; exact ⟨Sl.nil _ _ _, Sl.nil _ _ _, Sl.nil _ _ _, IP.subs.kept hk', Sl.nil _ _ _⟩⟩
   obtain ⟨tt, BT, IT⟩ := hJ
   exact wpList_nil (then_of (J := J22) (Q := fun _ _ _ => True) (by rw [hJ22]; exact ⟨tt, HK, Bg1, BT, IT, f38.sub (sub_cons rfl (sub_cons rfl sn))⟩))
  refine C.condF f34 rfl ?_
  refine C.sk fun K13 hK13 => ?_
  refine L.va f34 (E.eq f34) fun a35 f35 => ?_
  refine L.ag f35 fun a36 f36 => ?_
  refine wpList_nil (hK13 _ _ ?_)
  have f37 := f36.sub (sc 1 (sc 2 (sc 3 (sc 88 sn))))
  clear f33 f34 a32 f35 a35 f36
  refine f37.splitD 88 rfl (fun h10 f38 => ?_) (fun h10 f38 => ?_)
  ·refine C.condT f38 rfl ?_
   have hn1 : numB p = true := numB_t (by omega)
   refine C.region ?_
   refine L.fa 23 f38 U28 rfl wsz26_wbb fun a39 f39 => ?_
   refine L.ld f39 U26 Bg0 fun a40 f40 => ?_
   refine L.fa 23 f40 U28 rfl wsz26_wbb fun a41 f41 => ?_
   refine L.store f41 wantedN wsz26_wbb rfl rfl rfl Bg2 (by (simp [Value.cells]; done)) fun a42 w6 f42 NB6 ks6 => ?_
   have szw6 := ks6.size
   replace HK := HK.trans ks6 (ktr (by omega))
   replace Bg0 := Bg0.kept ks6 (by simp; omega)
   replace Bg1 := Bg1.kept ks6 (by simp; omega)
   replace Bg2 := NB6
   simp only [Value.cells, z1, z2, z3, Nat.reduceAdd, Nat.zero_add] at Bg2
   clear f37 f38 a36 f39 a39 f40 a40 ks6 f41 a41
   have hb : bareP p = { kind := p.kind, id := (if numB p = true then p.id else 0), codes := p.codes } := by unfold bareP; (simp [*]; done)
   have hJ : ∃ t, Blk w6 g2 28 ((bareP p).cells t) ∧ ∀ W', Kept [] w W' → (bareP p).In W' t := ⟨⟨none, 0, none, 0, none, 0, none, 0, s.ca, s.cc⟩, by rw [hb]; exact Bg2, fun W' hk' => by rw [hb]; exact ⟨Sl.nil _ _ _, Sl.nil _ _ _, Sl.nil _ _ _, Sl.nil _ _ _, IP.codes.kept hk'⟩⟩
   obtain ⟨tt, BT, IT⟩ := hJ
   exact wpList_nil (then_of (J := J22) (Q := fun _ _ _ => True) (by rw [hJ22]; exact ⟨tt, HK, Bg1, BT, IT, f42.sub (sub_cons rfl (sub_cons rfl sn))⟩))
  refine C.condF f38 rfl ?_
  have hb : bareP p = { kind := p.kind, id := (if numB p = true then p.id else 0) } := by unfold bareP; (cases hn9 : numB p <;> simp [*])
  have hJ : ∃ t, Blk w5 g2 28 ((bareP p).cells t) ∧ ∀ W', Kept [] w W' → (bareP p).In W' t := ⟨⟨none, 0, none, 0, none, 0, none, 0, none, 0⟩, by rw [hb]; exact Bg2, fun W' hk' => by rw [hb]; exact ⟨Sl.nil _ _ _, Sl.nil _ _ _, Sl.nil _ _ _, Sl.nil _ _ _, Sl.nil _ _ _⟩⟩
  obtain ⟨tt, BT, IT⟩ := hJ
  exact wp_skip (then_of (J := J22) (Q := fun _ _ _ => True) (by rw [hJ22]; exact ⟨tt, HK, Bg1, BT, IT, f38.sub (sub_cons rfl (sub_cons rfl sn))⟩))
 intro a12 w6 hj
 rw [hJ22] at hj
 clear hJ22 J22
 obtain ⟨tt, HK, Bg1, Bg2, IT, f12⟩ := hj
 try clear f11
 refine C.sk fun K14 hK14 => ?_
 refine L.va f12 (by exact E.loadB f12 U28 rfl wsz28_wbb rfl (Bg2) rfl) fun a13 f13 => ?_
 refine L.storeR f13 wantedN wsz28_wbb rfl rfl rfl Bg1 rfl rfl fun a14 w7 f14 NB7 ks7 => ?_
 have szw7 := ks7.size
 replace HK := HK.trans ks7 (ktr (by omega))
 replace Bg2 := Bg2.kept ks7 (by simp; omega)
 replace Bg1 := NB7
 clear f12 a12 ks7 f13 a13
 refine wpList_nil (hK14 _ _ ?_)
 have f15 := f14.sub (sc 2 sn)
 refine wp_ret ?_
 try simp only [Exit.inBlock, Exit.then]
 refine C.retC (P := Tryd.prog) (fn := Tryd.f45) f15 rfl rfl Bg1 U28 rfl wsz28_wbb ?_
 exact ⟨HK, tt, rfl, IT _ HK⟩
set_option maxRecDepth 100000 in
set_option maxHeartbeats 2000000 in
theorem only_any (p : Pk) (s : Ad) (w : World) (IP : p.In w s) : Calls Tryd.prog 48 #[.agg (p.cells s)] w (fun e w' => BarePost p w e w') := by
 have HK : Kept [] w w := Kept.refl [] w
 refine C.enter Tryd.func48 rfl Tryd.ntmps48 rfl ?_
 intro a0 f0
 have f1 : Fr 105 a0 [(0, .agg (p.cells s))] := f0
 refine C.sk fun K0 hK0 => ?_
 refine L.box f1 wantedN (by decide) rfl rfl fun a2 w1 g0 N0 f2 => ?_
 have Bg0 := N0.blk
 have kg0 := N0.kept
 have log0 := N0.lo
 have ltg0 := Bg0.lt
 have szw1 := kg0.size
 have frg0 : w.heap.size ≤ g0 := Nat.le_trans HK.size log0
 replace HK := HK.trans kg0 (by simp)
 clear f0 N0 kg0
 refine L.alloc f2 wantedN (by decide) (z := (.agg #[(.int .i64 0), (.bool false), (.bool false), (.int .i64 0), (.int .i64 0), (.string ⟨#[]⟩), (.slice none 0 0), (.int .i64 0), (.string ⟨#[]⟩), (.bool false), (.int .i64 0), (.bool false), (.string ⟨#[]⟩), (.slice none 0 0), (.int .i64 0), (.bool false), (.bool false), (.bool false), (.string ⟨#[]⟩), (.slice none 0 0), (.bool false), (.int .i64 0), (.slice none 0 0), (.slice none 0 0)])) (fun _ => by kernel_rfl) rfl fun a3 w2 g1 N1 f3 => ?_
 have Bg1 := N1.blk
 have kg1 := N1.kept
 have log1 := N1.lo
 have ltg1 := Bg1.lt
 have szw2 := kg1.size
 have frg1 : w.heap.size ≤ g1 := Nat.le_trans HK.size log1
 have neg0_g1 : g0 ≠ g1 := by have := Bg0.lt; omega
 replace HK := HK.trans kg1 (by simp)
 replace Bg0 := Bg0.kept kg1 (by simp)
 clear f1 a0 N1 kg1
 refine wpList_nil (hK0 _ _ ?_)
 have f4 := f3.sub (sc 1 (sc 2 sn))
 refine C.sk fun K1 hK1 => ?_
 refine L.fa 0 f4 U28 rfl wsz3_wbb fun a5 f5 => ?_
 refine L.ld f5 U3 Bg0 fun a6 f6 => ?_
 refine L.va f6 (E.build f6 (parts1 f6 rfl) (wbl28_0_wbb _)) fun a7 f7 => ?_
 refine L.alloc f7 wantedN (by decide) (z := (.agg #[(.int .i64 0), (.bool false), (.bool false), (.int .i64 0), (.int .i64 0), (.string ⟨#[]⟩), (.slice none 0 0), (.int .i64 0), (.string ⟨#[]⟩), (.bool false), (.int .i64 0), (.bool false), (.string ⟨#[]⟩), (.slice none 0 0), (.int .i64 0), (.bool false), (.bool false), (.bool false), (.string ⟨#[]⟩), (.slice none 0 0), (.bool false), (.int .i64 0), (.slice none 0 0), (.slice none 0 0)])) (fun _ => by kernel_rfl) rfl fun a8 w3 g2 N2 f8 => ?_
 have Bg2 := N2.blk
 have kg2 := N2.kept
 have log2 := N2.lo
 have ltg2 := Bg2.lt
 have szw3 := kg2.size
 have frg2 : w.heap.size ≤ g2 := Nat.le_trans HK.size log2
 have neg0_g2 : g0 ≠ g2 := by have := Bg0.lt; omega
 have neg1_g2 : g1 ≠ g2 := by have := Bg1.lt; omega
 replace HK := HK.trans kg2 (by simp)
 replace Bg0 := Bg0.kept kg2 (by simp)
 replace Bg1 := Bg1.kept kg2 (by simp)
 clear f2 a2 f3 f4 a3 f5 a5 f6 a6 N2 kg2
 refine L.storeR f8 wantedN wsz28_wbb rfl rfl rfl Bg2 rfl rfl fun a9 w4 f9 NB4 ks4 => ?_
 have szw4 := ks4.size
 replace HK := HK.trans ks4 (ktr (by omega))
 replace Bg0 := Bg0.kept ks4 (by simp; omega)
 replace Bg1 := Bg1.kept ks4 (by simp; omega)
 replace Bg2 := NB4
 clear f7 a7 ks4 f8 a8
 refine wpList_nil (hK1 _ _ ?_)
 have f10 := f9.sub (sc 1 (sc 2 (sc 3 sn)))
 obtain ⟨J28, hJ28⟩ : ∃ J : Act → World → Prop, J = fun a W => ∃ t, Kept [] w W ∧ Blk W g1 28 zeroPk ∧ Blk W g2 28 ((bareP p).cells t) ∧ (∀ W', Kept [] w W' → (bareP p).In W' t) ∧ Fr 105 a [(2, .pointer (some ⟨g1, 0, none⟩)), (3, .pointer (some ⟨g2, 0, none⟩))] := ⟨_, rfl⟩
 clear f9
 refine C.cut J28 ?_ ?_
 ·skip
  refine C.sk fun K2 hK2 => ?_
  refine L.fa 0 f10 U28 rfl wsz3_wbb fun a11 f11 => ?_
  refine L.ld f11 U3 Bg0 fun a12 f12 => ?_
  refine wpList_nil (hK2 _ _ ?_)
  have f13 := f12.sub (sc 1 (sc 2 (sc 3 (sc 8 sn))))
  refine wp_block ?_
  refine C.sk fun K3 hK3 => ?_
  refine L.va f13 (E.eq f13) fun a14 f14 => ?_
  refine L.ag f14 fun a15 f15 => ?_
  refine wpList_nil (hK3 _ _ ?_)
  have f16 := f15.sub (sc 1 (sc 2 (sc 3 (sc 8 (sc 9 sn)))))
  clear f10 a9 f11 a11 f12 f13 a12 f14 a14 f15
  refine f16.splitD 9 rfl (fun h0 f17 => ?_) (fun h0 f17 => ?_)
  ·refine C.condT f17 rfl ?_
   refine wp_seq_k fun K4 hK4 => ?_
   refine R.beginT (S := fun W => Kept [g2] w4 W) (by kernel_rfl) (by kernel_rfl) (by exact (Kept.refl _ _).drewN 1) fun ht => ?_
   have hS4 : Kept [g2] w4 (w4.drewN 1) := (Kept.refl _ _).drewN 1
   have hd4 : Kept [] w4 (w4.drewN 1) := (Kept.refl _ _).drewN 1
   obtain ⟨w5, hww5⟩ : ∃ W, W = w4.drewN 1 := ⟨_, rfl⟩
   rw [← hww5] at hS4 hd4 ⊢
   clear f16 hww5
   have szw5 := hS4.size
   replace Bg2 := Bg2.kept hd4 (by simp)
   refine R.u 0 f17 rfl ht hS4 (fun W hW => (E.fa 7 f17 U28 rfl wsz3_wbb)) fun a18 f18 => ?_
   refine R.u 1 f18 rfl ht hS4 (fun W hW => (by exact E.ld f18 U3 (Bg0.kept hW (by simp; omega)))) fun a19 f19 => ?_
   refine R.u 2 f19 rfl ht hS4 (fun W hW => (E.fa 8 f19 U28 rfl wsz9_wbb)) fun a20 f20 => ?_
   refine R.u 3 f20 rfl ht hS4 (fun W hW => (by exact E.ld f20 U9 (Bg0.kept hW (by simp; omega)))) fun a21 f21 => ?_
   refine R.u 4 f21 rfl ht hS4 (fun W hW => (E.fa 9 f21 U28 rfl wsz4_wbb)) fun a22 f22 => ?_
   refine R.u 5 f22 rfl ht hS4 (fun W hW => (by exact E.ld f22 U4 (Bg0.kept hW (by simp; omega)))) fun a23 f23 => ?_
   refine R.u 6 f23 rfl ht hS4 (fun W hW => (E.fa 10 f23 U28 rfl wsz3_wbb)) fun a24 f24 => ?_
   clear f17 a15 f18 a18 f19 a19 f20 a20 f21 a21 f22 a22 f23 a23
   refine R.u 7 f24 rfl ht hS4 (fun W hW => (by exact E.ld f24 U3 (Bg0.kept hW (by simp; omega)))) fun a25 f25 => ?_
   refine R.u 8 f25 rfl ht hS4 (fun W hW => (E.fa 11 f25 U28 rfl wsz4_wbb)) fun a26 f26 => ?_
   refine R.u 9 f26 rfl ht hS4 (fun W hW => (by exact E.ld f26 U4 (Bg0.kept hW (by simp; omega)))) fun a27 f27 => ?_
   refine R.u 10 f27 rfl ht hS4 (fun W hW => (E.fa 16 f27 U28 rfl wsz4_wbb)) fun a28 f28 => ?_
   refine R.u 11 f28 rfl ht hS4 (fun W hW => (by exact E.ld f28 U4 (Bg0.kept hW (by simp; omega)))) fun a29 f29 => ?_
   refine R.u 12 f29 rfl ht hS4 (fun W hW => (E.fa 17 f29 U28 rfl wsz4_wbb)) fun a30 f30 => ?_
   refine R.u 13 f30 rfl ht hS4 (fun W hW => (by exact E.ld f30 U4 (Bg0.kept hW (by simp; omega)))) fun a31 f31 => ?_
   clear f24 a24 f25 a25 f26 a26 f27 a27 f28 a28 f29 a29 f30 a30
   refine R.u 14 f31 rfl ht hS4 (fun W hW => (E.fa 7 f31 U28 rfl wsz3_wbb)) fun a32 f32 => ?_
   refine R.store 15 f32 rfl (by kernel_rfl) wantedN wsz3_wbb rfl rfl rfl Bg2 (by (simp [Value.cells]; done)) (fun _ hW => hS4.trans hW (by simp)) fun a33 w6 f33 NB6 ks6 hSn => ?_
   have szw6 := ks6.size
   replace Bg2 := NB6
   simp only [Value.cells, z1, z2, z3, Nat.reduceAdd, Nat.zero_add] at Bg2
   replace hS4 := hSn
   clear f31 a31 f32 a32 hSn ks6
   refine R.u 16 f33 rfl ht hS4 (fun W hW => (E.fa 8 f33 U28 rfl wsz9_wbb)) fun a34 f34 => ?_
   refine R.store 17 f34 rfl (by kernel_rfl) wantedN wsz9_wbb rfl rfl rfl Bg2 (by (simp [Value.cells]; done)) (fun _ hW => hS4.trans hW (by simp)) fun a35 w7 f35 NB7 ks7 hSn => ?_
   have szw7 := ks7.size
   replace Bg2 := NB7
   simp only [Value.cells, z1, z2, z3, Nat.reduceAdd, Nat.zero_add] at Bg2
   replace hS4 := hSn
   clear f33 a33 f34 a34 hSn ks7
   refine R.u 18 f35 rfl ht hS4 (fun W hW => (E.fa 9 f35 U28 rfl wsz4_wbb)) fun a36 f36 => ?_
   refine R.store 19 f36 rfl (by kernel_rfl) wantedN wsz4_wbb rfl rfl rfl Bg2 (by (simp [Value.cells]; done)) (fun _ hW => hS4.trans hW (by simp)) fun a37 w8 f37 NB8 ks8 hSn => ?_
   have szw8 := ks8.size
   replace Bg2 := NB8
   simp only [Value.cells, z1, z2, z3, Nat.reduceAdd, Nat.zero_add] at Bg2
   replace hS4 := hSn
   clear f35 a35 f36 a36 hSn ks8
   refine R.u 20 f37 rfl ht hS4 (fun W hW => (E.fa 10 f37 U28 rfl wsz3_wbb)) fun a38 f38 => ?_
   refine R.store 21 f38 rfl (by kernel_rfl) wantedN wsz3_wbb rfl rfl rfl Bg2 (by (simp [Value.cells]; done)) (fun _ hW => hS4.trans hW (by simp)) fun a39 w9 f39 NB9 ks9 hSn => ?_
   have szw9 := ks9.size
   replace Bg2 := NB9
   simp only [Value.cells, z1, z2, z3, Nat.reduceAdd, Nat.zero_add] at Bg2
   replace hS4 := hSn
   clear f37 a37 f38 a38 hSn ks9
   refine R.u 22 f39 rfl ht hS4 (fun W hW => (E.fa 11 f39 U28 rfl wsz4_wbb)) fun a40 f40 => ?_
   refine R.store 23 f40 rfl (by kernel_rfl) wantedN wsz4_wbb rfl rfl rfl Bg2 (by (simp [Value.cells]; done)) (fun _ hW => hS4.trans hW (by simp)) fun a41 w10 f41 NB10 ks10 hSn => ?_
   have szw10 := ks10.size
   replace Bg2 := NB10
   simp only [Value.cells, z1, z2, z3, Nat.reduceAdd, Nat.zero_add] at Bg2
   replace hS4 := hSn
   clear f39 a39 f40 a40 hSn ks10
   refine R.u 24 f41 rfl ht hS4 (fun W hW => (E.fa 16 f41 U28 rfl wsz4_wbb)) fun a42 f42 => ?_
   refine R.store 25 f42 rfl (by kernel_rfl) wantedN wsz4_wbb rfl rfl rfl Bg2 (by (simp [Value.cells]; done)) (fun _ hW => hS4.trans hW (by simp)) fun a43 w11 f43 NB11 ks11 hSn => ?_
   have szw11 := ks11.size
   replace Bg2 := NB11
   simp only [Value.cells, z1, z2, z3, Nat.reduceAdd, Nat.zero_add] at Bg2
   replace hS4 := hSn
   clear f41 a41 f42 a42 hSn ks11
   refine R.u 26 f43 rfl ht hS4 (fun W hW => (E.fa 17 f43 U28 rfl wsz4_wbb)) fun a44 f44 => ?_
   refine R.store 27 f44 rfl (by kernel_rfl) wantedN wsz4_wbb rfl rfl rfl Bg2 (by (simp [Value.cells]; done)) (fun _ hW => hS4.trans hW (by simp)) fun a45 w12 f45 NB12 ks12 hSn => ?_
   have szw12 := ks12.size
   replace Bg2 := NB12
   simp only [Value.cells, z1, z2, z3, Nat.reduceAdd, Nat.zero_add] at Bg2
   replace hS4 := hSn
   clear f43 a43 f44 a44 hSn ks12
   have szw12r := hS4.size
   replace HK := HK.trans hS4 (ktr (by omega))
   replace Bg0 := Bg0.kept hS4 (by simp; omega)
   replace Bg1 := Bg1.kept hS4 (by simp; omega)
   clear hS4
   refine R.done (by kernel_rfl) (hK4 _ _ ?_)
   have f46 := f45.sub (sc 1 (sc 2 (sc 3 sn)))
   obtain ⟨J7, hJ7⟩ : ∃ J : Act → World → Prop, J = fun a W => Kept [] w W ∧ Blk W g0 28 (p.cells s) ∧ Blk W g1 28 zeroPk ∧ Blk W g2 28 #[.int .i64 p.kind, .bool false, .bool false, .int .i64 0, .int .i64 0, .string em, .slice none 0 0, .int .i64 p.level, .string p.client, .bool p.clean, .int .i64 p.keep, .bool p.hasWill, .string (if p.hasWill = true then p.wt else em), .slice (if p.hasWill = true then s.wa else none) ((if p.hasWill = true then p.wp else [])).length (if p.hasWill = true then s.wc else 0), .int .i64 (if p.hasWill = true then p.wq else 0), .bool (if p.hasWill = true then p.wr else false), .bool p.hasUser, .bool p.hasPass, .string em, .slice none 0 0, .bool false, .int .i64 0, .slice none 0 0, .slice none 0 0] ∧ Fr 105 a [(1, .pointer (some ⟨g0, 0, none⟩)), (2, .pointer (some ⟨g1, 0, none⟩)), (3, .pointer (some ⟨g2, 0, none⟩))] := ⟨_, rfl⟩
   clear f45
   refine C.cut J7 ?_ ?_
   ·skip
    refine C.sk fun K5 hK5 => ?_
    refine L.fa 11 f46 U28 rfl wsz4_wbb fun a47 f47 => ?_
    refine L.ld f47 U4 Bg0 fun a48 f48 => ?_
    refine wpList_nil (hK5 _ _ ?_)
    have f49 := f48.sub (sc 1 (sc 2 (sc 3 (sc 33 sn))))
    clear f46 a45 f47 a47 f48
    refine f49.split 33 rfl (fun h1 f50 => ?_) (fun h1 f50 => ?_)
    ·have hw33 := h1
     refine C.condT f50 rfl ?_
     refine C.region ?_
     refine L.fa 12 f50 U28 rfl wsz24_wbb fun a51 f51 => ?_
     refine L.va f51 (by exact E.loadR f51 U24 rfl wsz24_wbb rfl (will_row Bg0) rfl) fun a52 f52 => ?_
     refine L.fa 12 f52 U28 rfl wsz24_wbb fun a53 f53 => ?_
     refine L.storeSeg f53 wantedN wsz24_wbb rfl rfl rfl Bg2 (Nat.le_of_ble_eq_true rfl) rfl fun a54 w13 f54 NB13 ks13 => ?_
     have szw13 := ks13.size
     replace HK := HK.trans ks13 (ktr (by omega))
     replace Bg0 := Bg0.kept ks13 (by simp; omega)
     replace Bg1 := Bg1.kept ks13 (by simp; omega)
     replace Bg2 := NB13
     simp only [setSeg, List.set_cons_zero, List.set_cons_succ, Nat.reduceAdd, Nat.zero_add] at Bg2
     clear f49 f50 a48 f51 a51 f52 a52 ks13 f53 a53
     exact wpList_nil (then_of (J := J7) (Q := fun _ _ _ => True) (by rw [hJ7]; exact ⟨HK, Bg0, Bg1, (by simp only [hw33, if_true] at Bg2 ⊢; exact Bg2), f54.sub (sub_cons rfl (sub_cons rfl (sub_cons rfl sn)))⟩))
    have hw33 := h1
    refine C.condF f50 rfl ?_
    exact wp_skip (then_of (J := J7) (Q := fun _ _ _ => True) (by rw [hJ7]; exact ⟨HK, Bg0, Bg1, (by simp only [hw33, Bool.false_eq_true, if_false] at Bg2 ⊢; exact Bg2), f50.sub (sub_cons rfl (sub_cons rfl (sub_cons rfl sn)))⟩))
   intro a47 w13 hj
   rw [hJ7] at hj
   clear hJ7 J7
   obtain ⟨HK, Bg0, Bg1, Bg2, f47⟩ := hj
   try clear f46
   obtain ⟨J9, hJ9⟩ : ∃ J : Act → World → Prop, J = fun a W => Kept [] w W ∧ Blk W g0 28 (p.cells s) ∧ Blk W g1 28 zeroPk ∧ Blk W g2 28 #[.int .i64 p.kind, .bool false, .bool false, .int .i64 0, .int .i64 0, .string em, .slice none 0 0, .int .i64 p.level, .string p.client, .bool p.clean, .int .i64 p.keep, .bool p.hasWill, .string (if p.hasWill = true then p.wt else em), .slice (if p.hasWill = true then s.wa else none) ((if p.hasWill = true then p.wp else [])).length (if p.hasWill = true then s.wc else 0), .int .i64 (if p.hasWill = true then p.wq else 0), .bool (if p.hasWill = true then p.wr else false), .bool p.hasUser, .bool p.hasPass, .string (if p.hasUser = true then p.user else em), .slice none 0 0, .bool false, .int .i64 0, .slice none 0 0, .slice none 0 0] ∧ Fr 105 a [(1, .pointer (some ⟨g0, 0, none⟩)), (2, .pointer (some ⟨g1, 0, none⟩)), (3, .pointer (some ⟨g2, 0, none⟩))] := ⟨_, rfl⟩
   refine C.cut J9 ?_ ?_
   ·skip
    refine C.sk fun K6 hK6 => ?_
    refine L.fa 16 f47 U28 rfl wsz4_wbb fun a48 f48 => ?_
    refine L.ld f48 U4 Bg0 fun a49 f49 => ?_
    refine wpList_nil (hK6 _ _ ?_)
    have f50 := f49.sub (sc 1 (sc 2 (sc 3 (sc 38 sn))))
    clear f47 a47 f48 a48 f49
    refine f50.split 38 rfl (fun h2 f51 => ?_) (fun h2 f51 => ?_)
    ·have hw38 := h2
     refine C.condT f51 rfl ?_
     refine C.region ?_
     refine L.fa 18 f51 U28 rfl wsz9_wbb fun a52 f52 => ?_
     refine L.ld f52 U9 Bg0 fun a53 f53 => ?_
     refine L.fa 18 f53 U28 rfl wsz9_wbb fun a54 f54 => ?_
     refine L.store f54 wantedN wsz9_wbb rfl rfl rfl Bg2 (by (simp [Value.cells]; done)) fun a55 w14 f55 NB14 ks14 => ?_
     have szw14 := ks14.size
     replace HK := HK.trans ks14 (ktr (by omega))
     replace Bg0 := Bg0.kept ks14 (by simp; omega)
     replace Bg1 := Bg1.kept ks14 (by simp; omega)
     replace Bg2 := NB14
     simp only [Value.cells, z1, z2, z3, Nat.reduceAdd, Nat.zero_add] at Bg2
     clear f50 f51 a49 f52 a52 f53 a53 ks14 f54 a54
     exact wpList_nil (then_of (J := J9) (Q := fun _ _ _ => True) (by rw [hJ9]; exact ⟨HK, Bg0, Bg1, (by simp only [hw38, if_true] at Bg2 ⊢; exact Bg2), f55.sub (sub_cons rfl (sub_cons rfl (sub_cons rfl sn)))⟩))
    have hw38 := h2
    refine C.condF f51 rfl ?_
    exact wp_skip (then_of (J := J9) (Q := fun _ _ _ => True) (by rw [hJ9]; exact ⟨HK, Bg0, Bg1, (by simp only [hw38, Bool.false_eq_true, if_false] at Bg2 ⊢; exact Bg2), f51.sub (sub_cons rfl (sub_cons rfl (sub_cons rfl sn)))⟩))
   intro a48 w14 hj
   rw [hJ9] at hj
   clear hJ9 J9
   obtain ⟨HK, Bg0, Bg1, Bg2, f48⟩ := hj
   try clear f47
   refine C.sk fun K7 hK7 => ?_
   refine L.fa 17 f48 U28 rfl wsz4_wbb fun a49 f49 => ?_
   refine L.ld f49 U4 Bg0 fun a50 f50 => ?_
   refine wpList_nil (hK7 _ _ ?_)
   have f51 := f50.sub (sc 1 (sc 2 (sc 3 (sc 43 sn))))
   clear f48 a48 f49 a49 f50
   refine f51.split 43 rfl (fun h3 f52 => ?_) (fun h3 f52 => ?_)
   ·have hw43 := h3
    refine C.condT f52 rfl ?_
    refine C.region ?_
    refine L.fa 19 f52 U28 rfl wsz22_wbb fun a53 f53 => ?_
    refine L.ld f53 U22 Bg0 fun a54 f54 => ?_
    refine L.fa 19 f54 U28 rfl wsz22_wbb fun a55 f55 => ?_
    refine L.store f55 wantedN wsz22_wbb rfl rfl rfl Bg2 (by (simp [Value.cells]; done)) fun a56 w15 f56 NB15 ks15 => ?_
    have szw15 := ks15.size
    replace HK := HK.trans ks15 (ktr (by omega))
    replace Bg0 := Bg0.kept ks15 (by simp; omega)
    replace Bg1 := Bg1.kept ks15 (by simp; omega)
    replace Bg2 := NB15
    simp only [Value.cells, z1, z2, z3, Nat.reduceAdd, Nat.zero_add] at Bg2
    clear f51 f52 a50 f53 a53 f54 a54 ks15 f55 a55
    have hb : bareP p = { kind := p.kind, level := p.level, client := p.client, clean := p.clean, keep := p.keep, hasWill := p.hasWill, hasUser := p.hasUser, hasPass := p.hasPass, wt := (if p.hasWill = true then p.wt else em), wp := (if p.hasWill = true then p.wp else []), wq := (if p.hasWill = true then p.wq else 0), wr := (if p.hasWill = true then p.wr else false), user := (if p.hasUser = true then p.user else em), pass := p.pass } := by unfold bareP; (simp [*]; done)
    have hJ : ∃ t, Blk w15 g2 28 ((bareP p).cells t) ∧ ∀ W', Kept [] w W' → (bareP p).In W' t := ⟨⟨none, 0, (if p.hasWill = true then s.wa else none), (if p.hasWill = true then s.wc else 0), s.sa, s.sc, none, 0, none, 0⟩, by rw [hb]; exact Bg2, fun W' hk' => by rw [hb]; exact ⟨Sl.nil _ _ _, will_in IP hk', IP.pass.kept hk', Sl.nil _ _ _, Sl.nil _ _ _⟩⟩
    obtain ⟨tt, BT, IT⟩ := hJ
    exact wpList_nil (then_of (J := J28) (Q := fun _ _ _ => True) (by rw [hJ28]; exact ⟨tt, HK, Bg1, BT, IT, f56.sub (sub_cons rfl (sub_cons rfl sn))⟩))
   have hw43 := h3
   refine C.condF f52 rfl ?_
   have hb : bareP p = { kind := p.kind, level := p.level, client := p.client, clean := p.clean, keep := p.keep, hasWill := p.hasWill, hasUser := p.hasUser, hasPass := p.hasPass, wt := (if p.hasWill = true then p.wt else em), wp := (if p.hasWill = true then p.wp else []), wq := (if p.hasWill = true then p.wq else 0), wr := (if p.hasWill = true then p.wr else false), user := (if p.hasUser = true then p.user else em) } := by unfold bareP; (simp [*]; done)
   have hJ : ∃ t, Blk w14 g2 28 ((bareP p).cells t) ∧ ∀ W', Kept [] w W' → (bareP p).In W' t := ⟨⟨none, 0, (if p.hasWill = true then s.wa else none), (if p.hasWill = true then s.wc else 0), none, 0, none, 0, none, 0⟩, by rw [hb]; exact Bg2, fun W' hk' => by rw [hb]; exact ⟨Sl.nil _ _ _, will_in IP hk', Sl.nil _ _ _, Sl.nil _ _ _, Sl.nil _ _ _⟩⟩
   obtain ⟨tt, BT, IT⟩ := hJ
   exact wp_skip (then_of (J := J28) (Q := fun _ _ _ => True) (by rw [hJ28]; exact ⟨tt, HK, Bg1, BT, IT, f52.sub (sub_cons rfl (sub_cons rfl sn))⟩))
  refine C.condF f17 rfl ?_
  refine C.sk fun K8 hK8 => ?_
  refine L.va f17 (E.eq f17) fun a18 f18 => ?_
  refine L.ag f18 fun a19 f19 => ?_
  refine wpList_nil (hK8 _ _ ?_)
  have f20 := f19.sub (sc 1 (sc 2 (sc 3 (sc 8 (sc 47 sn)))))
  clear f16 f17 a15 f18 a18 f19
  refine f20.splitD 47 rfl (fun h4 f21 => ?_) (fun h4 f21 => ?_)
  ·refine C.condT f21 rfl ?_
   refine R.beginT (S := fun W => Kept [g2] w4 W) (by kernel_rfl) (by kernel_rfl) (by exact (Kept.refl _ _).drewN 1) fun ht => ?_
   have hS12 : Kept [g2] w4 (w4.drewN 1) := (Kept.refl _ _).drewN 1
   have hd12 : Kept [] w4 (w4.drewN 1) := (Kept.refl _ _).drewN 1
   obtain ⟨w5, hww5⟩ : ∃ W, W = w4.drewN 1 := ⟨_, rfl⟩
   rw [← hww5] at hS12 hd12 ⊢
   clear f20 hww5
   have szw5 := hS12.size
   replace Bg2 := Bg2.kept hd12 (by simp)
   refine R.u 0 f21 rfl ht hS12 (fun W hW => (E.fa 20 f21 U28 rfl wsz4_wbb)) fun a22 f22 => ?_
   refine R.u 1 f22 rfl ht hS12 (fun W hW => (by exact E.ld f22 U4 (Bg0.kept hW (by simp; omega)))) fun a23 f23 => ?_
   refine R.u 2 f23 rfl ht hS12 (fun W hW => (E.fa 21 f23 U28 rfl wsz3_wbb)) fun a24 f24 => ?_
   refine R.u 3 f24 rfl ht hS12 (fun W hW => (by exact E.ld f24 U3 (Bg0.kept hW (by simp; omega)))) fun a25 f25 => ?_
   refine R.u 4 f25 rfl ht hS12 (fun W hW => (E.fa 20 f25 U28 rfl wsz4_wbb)) fun a26 f26 => ?_
   refine R.store 5 f26 rfl (by kernel_rfl) wantedN wsz4_wbb rfl rfl rfl Bg2 (by (simp [Value.cells]; done)) (fun _ hW => hS12.trans hW (by simp)) fun a27 w6 f27 NB6 ks6 hSn => ?_
   have szw6 := ks6.size
   replace Bg2 := NB6
   simp only [Value.cells, z1, z2, z3, Nat.reduceAdd, Nat.zero_add] at Bg2
   replace hS12 := hSn
   clear f21 a19 f22 a22 f23 a23 f24 a24 f25 a25 f26 a26 hSn ks6
   refine R.u 6 f27 rfl ht hS12 (fun W hW => (E.fa 21 f27 U28 rfl wsz3_wbb)) fun a28 f28 => ?_
   refine R.store 7 f28 rfl (by kernel_rfl) wantedN wsz3_wbb rfl rfl rfl Bg2 (by (simp [Value.cells]; done)) (fun _ hW => hS12.trans hW (by simp)) fun a29 w7 f29 NB7 ks7 hSn => ?_
   have szw7 := ks7.size
   replace Bg2 := NB7
   simp only [Value.cells, z1, z2, z3, Nat.reduceAdd, Nat.zero_add] at Bg2
   replace hS12 := hSn
   clear f27 a27 f28 a28 hSn ks7
   have szw7r := hS12.size
   replace HK := HK.trans hS12 (ktr (by omega))
   replace Bg0 := Bg0.kept hS12 (by simp; omega)
   replace Bg1 := Bg1.kept hS12 (by simp; omega)
   clear hS12
   have hb : bareP p = { kind := p.kind, present := p.present, code := p.code } := by unfold bareP; (simp [*]; done)
   have hJ : ∃ t, Blk w7 g2 28 ((bareP p).cells t) ∧ ∀ W', Kept [] w W' → (bareP p).In W' t := ⟨⟨none, 0, none, 0, none, 0, none, 0, none, 0⟩, by rw [hb]; exact Bg2, fun W' hk' => by rw [hb]; exact ⟨Sl.nil _ _ _, Sl.nil _ _ _, Sl.nil _ _ _, Sl.nil _ _ _, Sl.nil _ _ _⟩⟩
   obtain ⟨tt, BT, IT⟩ := hJ
   exact R.done (by kernel_rfl) (then_of (J := J28) (Q := fun _ _ _ => True) (by rw [hJ28]; exact ⟨tt, HK, Bg1, BT, IT, f29.sub (sub_cons rfl (sub_cons rfl sn))⟩))
  refine C.condF f21 rfl ?_
  refine C.sk fun K9 hK9 => ?_
  refine L.va f21 (E.eq f21) fun a22 f22 => ?_
  refine L.ag f22 fun a23 f23 => ?_
  refine wpList_nil (hK9 _ _ ?_)
  have f24 := f23.sub (sc 1 (sc 2 (sc 3 (sc 8 (sc 55 sn)))))
  clear f20 f21 a19 f22 a22 f23
  refine f24.splitD 55 rfl (fun h5 f25 => ?_) (fun h5 f25 => ?_)
  ·refine C.condT f25 rfl ?_
   refine wp_seq_k fun K10 hK10 => ?_
   refine R.beginT (S := fun W => Kept [g2] w4 W) (by kernel_rfl) (by kernel_rfl) (by exact (Kept.refl _ _).drewN 1) fun ht => ?_
   have hS14 : Kept [g2] w4 (w4.drewN 1) := (Kept.refl _ _).drewN 1
   have hd14 : Kept [] w4 (w4.drewN 1) := (Kept.refl _ _).drewN 1
   obtain ⟨w5, hww5⟩ : ∃ W, W = w4.drewN 1 := ⟨_, rfl⟩
   rw [← hww5] at hS14 hd14 ⊢
   clear f24 hww5
   have szw5 := hS14.size
   replace Bg2 := Bg2.kept hd14 (by simp)
   refine R.u 0 f25 rfl ht hS14 (fun W hW => (E.fa 2 f25 U28 rfl wsz4_wbb)) fun a26 f26 => ?_
   refine R.u 1 f26 rfl ht hS14 (fun W hW => (by exact E.ld f26 U4 (Bg0.kept hW (by simp; omega)))) fun a27 f27 => ?_
   refine R.u 2 f27 rfl ht hS14 (fun W hW => (E.fa 3 f27 U28 rfl wsz3_wbb)) fun a28 f28 => ?_
   refine R.u 3 f28 rfl ht hS14 (fun W hW => (by exact E.ld f28 U3 (Bg0.kept hW (by simp; omega)))) fun a29 f29 => ?_
   refine R.u 4 f29 rfl ht hS14 (fun W hW => (E.fa 5 f29 U28 rfl wsz9_wbb)) fun a30 f30 => ?_
   refine R.u 5 f30 rfl ht hS14 (fun W hW => (by exact E.ld f30 U9 (Bg0.kept hW (by simp; omega)))) fun a31 f31 => ?_
   refine R.u 6 f31 rfl ht hS14 (fun W hW => (E.fa 6 f31 U28 rfl wsz22_wbb)) fun a32 f32 => ?_
   clear f25 a23 f26 a26 f27 a27 f28 a28 f29 a29 f30 a30 f31 a31
   refine R.u 7 f32 rfl ht hS14 (fun W hW => (by exact E.ld f32 U22 (Bg0.kept hW (by simp; omega)))) fun a33 f33 => ?_
   refine R.u 8 f33 rfl ht hS14 (fun W hW => (E.fa 2 f33 U28 rfl wsz4_wbb)) fun a34 f34 => ?_
   refine R.store 9 f34 rfl (by kernel_rfl) wantedN wsz4_wbb rfl rfl rfl Bg2 (by (simp [Value.cells]; done)) (fun _ hW => hS14.trans hW (by simp)) fun a35 w6 f35 NB6 ks6 hSn => ?_
   have szw6 := ks6.size
   replace Bg2 := NB6
   simp only [Value.cells, z1, z2, z3, Nat.reduceAdd, Nat.zero_add] at Bg2
   replace hS14 := hSn
   clear f32 a32 f33 a33 f34 a34 hSn ks6
   refine R.u 10 f35 rfl ht hS14 (fun W hW => (E.fa 3 f35 U28 rfl wsz3_wbb)) fun a36 f36 => ?_
   refine R.store 11 f36 rfl (by kernel_rfl) wantedN wsz3_wbb rfl rfl rfl Bg2 (by (simp [Value.cells]; done)) (fun _ hW => hS14.trans hW (by simp)) fun a37 w7 f37 NB7 ks7 hSn => ?_
   have szw7 := ks7.size
   replace Bg2 := NB7
   simp only [Value.cells, z1, z2, z3, Nat.reduceAdd, Nat.zero_add] at Bg2
   replace hS14 := hSn
   clear f35 a35 f36 a36 hSn ks7
   refine R.u 12 f37 rfl ht hS14 (fun W hW => (E.fa 5 f37 U28 rfl wsz9_wbb)) fun a38 f38 => ?_
   refine R.store 13 f38 rfl (by kernel_rfl) wantedN wsz9_wbb rfl rfl rfl Bg2 (by (simp [Value.cells]; done)) (fun _ hW => hS14.trans hW (by simp)) fun a39 w8 f39 NB8 ks8 hSn => ?_
   have szw8 := ks8.size
   replace Bg2 := NB8
   simp only [Value.cells, z1, z2, z3, Nat.reduceAdd, Nat.zero_add] at Bg2
   replace hS14 := hSn
   clear f37 a37 f38 a38 hSn ks8
   refine R.u 14 f39 rfl ht hS14 (fun W hW => (E.fa 6 f39 U28 rfl wsz22_wbb)) fun a40 f40 => ?_
   refine R.store 15 f40 rfl (by kernel_rfl) wantedN wsz22_wbb rfl rfl rfl Bg2 (by (simp [Value.cells]; done)) (fun _ hW => hS14.trans hW (by simp)) fun a41 w9 f41 NB9 ks9 hSn => ?_
   have szw9 := ks9.size
   replace Bg2 := NB9
   simp only [Value.cells, z1, z2, z3, Nat.reduceAdd, Nat.zero_add] at Bg2
   replace hS14 := hSn
   clear f39 a39 f40 a40 hSn ks9
   have szw9r := hS14.size
   replace HK := HK.trans hS14 (ktr (by omega))
   replace Bg0 := Bg0.kept hS14 (by simp; omega)
   replace Bg1 := Bg1.kept hS14 (by simp; omega)
   clear hS14
   refine R.done (by kernel_rfl) (hK10 _ _ ?_)
   have f42 := f41.sub (sc 1 (sc 2 (sc 3 sn)))
   refine C.sk fun K11 hK11 => ?_
   refine L.fa 3 f42 U28 rfl wsz3_wbb fun a43 f43 => ?_
   refine L.ld f43 U3 Bg0 fun a44 f44 => ?_
   refine L.va f44 (E.gtr f44 rfl rfl) fun a45 f45 => ?_
   refine wpList_nil (hK11 _ _ ?_)
   have f46 := f45.sub (sc 1 (sc 2 (sc 3 (sc 71 sn))))
   clear f41 f42 a41 f43 a43 f44 a44 f45
   refine f46.splitD 71 rfl (fun h6 f47 => ?_) (fun h6 f47 => ?_)
   ·refine C.condT f47 rfl ?_
    refine R.beginT (S := fun W => Kept [g2] w9 W) (by kernel_rfl) (by kernel_rfl) (by exact (Kept.refl _ _).drewN 1) fun ht => ?_
    have hS16 : Kept [g2] w9 (w9.drewN 1) := (Kept.refl _ _).drewN 1
    have hd16 : Kept [] w9 (w9.drewN 1) := (Kept.refl _ _).drewN 1
    obtain ⟨w10, hww10⟩ : ∃ W, W = w9.drewN 1 := ⟨_, rfl⟩
    rw [← hww10] at hS16 hd16 ⊢
    clear f46 hww10
    have szw10 := hS16.size
    replace Bg2 := Bg2.kept hd16 (by simp)
    refine R.u 0 f47 rfl ht hS16 (fun W hW => (E.fa 1 f47 U28 rfl wsz4_wbb)) fun a48 f48 => ?_
    refine R.u 1 f48 rfl ht hS16 (fun W hW => (by exact E.ld f48 U4 (Bg0.kept hW (by simp; omega)))) fun a49 f49 => ?_
    refine R.u 2 f49 rfl ht hS16 (fun W hW => (E.fa 4 f49 U28 rfl wsz3_wbb)) fun a50 f50 => ?_
    refine R.u 3 f50 rfl ht hS16 (fun W hW => (by exact E.ld f50 U3 (Bg0.kept hW (by simp; omega)))) fun a51 f51 => ?_
    refine R.u 4 f51 rfl ht hS16 (fun W hW => (E.fa 1 f51 U28 rfl wsz4_wbb)) fun a52 f52 => ?_
    refine R.store 5 f52 rfl (by kernel_rfl) wantedN wsz4_wbb rfl rfl rfl Bg2 (by (simp [Value.cells]; done)) (fun _ hW => hS16.trans hW (by simp)) fun a53 w11 f53 NB11 ks11 hSn => ?_
    have szw11 := ks11.size
    replace Bg2 := NB11
    simp only [Value.cells, z1, z2, z3, Nat.reduceAdd, Nat.zero_add] at Bg2
    replace hS16 := hSn
    clear f47 a45 f48 a48 f49 a49 f50 a50 f51 a51 f52 a52 hSn ks11
    refine R.u 6 f53 rfl ht hS16 (fun W hW => (E.fa 4 f53 U28 rfl wsz3_wbb)) fun a54 f54 => ?_
    refine R.store 7 f54 rfl (by kernel_rfl) wantedN wsz3_wbb rfl rfl rfl Bg2 (by (simp [Value.cells]; done)) (fun _ hW => hS16.trans hW (by simp)) fun a55 w12 f55 NB12 ks12 hSn => ?_
    have szw12 := ks12.size
    replace Bg2 := NB12
    simp only [Value.cells, z1, z2, z3, Nat.reduceAdd, Nat.zero_add] at Bg2
    replace hS16 := hSn
    clear f53 a53 f54 a54 hSn ks12
    have szw12r := hS16.size
    replace HK := HK.trans hS16 (ktr (by omega))
    replace Bg0 := Bg0.kept hS16 (by simp; omega)
    replace Bg1 := Bg1.kept hS16 (by simp; omega)
    clear hS16
    have hb : bareP p = { kind := p.kind, retain := p.retain, qos := p.qos, topic := p.topic, pay := p.pay, dup := p.dup, id := p.id } := by unfold bareP; (simp [*]; done)
    have hJ : ∃ t, Blk w12 g2 28 ((bareP p).cells t) ∧ ∀ W', Kept [] w W' → (bareP p).In W' t := ⟨⟨s.pa, s.pc, none, 0, none, 0, none, 0, none, 0⟩, by rw [hb]; exact Bg2, fun W' hk' => by rw [hb]; exact ⟨IP.pay.kept hk', Sl.nil _ _ _, Sl.nil _ _ _, Sl.nil _ _ _, Sl.nil _ _ _⟩⟩
    obtain ⟨tt, BT, IT⟩ := hJ
    exact R.done (by kernel_rfl) (then_of (J := J28) (Q := fun _ _ _ => True) (by rw [hJ28]; exact ⟨tt, HK, Bg1, BT, IT, f55.sub (sub_cons rfl (sub_cons rfl sn))⟩))
   refine C.condF f47 rfl ?_
   have hb : bareP p = { kind := p.kind, retain := p.retain, qos := p.qos, topic := p.topic, pay := p.pay } := by unfold bareP; (simp [*]; done)
   have hJ : ∃ t, Blk w9 g2 28 ((bareP p).cells t) ∧ ∀ W', Kept [] w W' → (bareP p).In W' t := ⟨⟨s.pa, s.pc, none, 0, none, 0, none, 0, none, 0⟩, by rw [hb]; exact Bg2, fun W' hk' => by rw [hb]; exact ⟨IP.pay.kept hk', Sl.nil _ _ _, Sl.nil _ _ _, Sl.nil _ _ _, Sl.nil _ _ _⟩⟩
   obtain ⟨tt, BT, IT⟩ := hJ
   exact wp_skip (then_of (J := J28) (Q := fun _ _ _ => True) (by rw [hJ28]; exact ⟨tt, HK, Bg1, BT, IT, f47.sub (sub_cons rfl (sub_cons rfl sn))⟩))
  refine C.condF f25 rfl ?_
  refine wp_seq_k fun K12 hK12 => ?_
  refine C.sk fun K13 hK13 => ?_
  refine L.va f25 (E.eq f25) fun a26 f26 => ?_
  refine L.ag f26 fun a27 f27 => ?_
  refine wpList_nil (hK13 _ _ ?_)
  have f28 := f27.sub (sc 1 (sc 2 (sc 3 (sc 8 (sc 78 sn)))))
  clear f24 f25 a23 f26 a26 f27
  refine f28.splitD 78 rfl (fun h7 f29 => ?_) (fun h7 f29 => ?_)
  ·refine C.condT f29 rfl ?_
   refine wp_skip (hK12 _ _ ?_)
   have f30 := f29.sub (sc 1 (sc 2 (sc 3 (sc 8 (sc 78 sn)))))
   refine C.condT f30 rfl ?_
   refine R.beginT (S := fun W => Kept [g2] w4 W) (by kernel_rfl) (by kernel_rfl) (by exact (Kept.refl _ _).drewN 1) fun ht => ?_
   have hS19 : Kept [g2] w4 (w4.drewN 1) := (Kept.refl _ _).drewN 1
   have hd19 : Kept [] w4 (w4.drewN 1) := (Kept.refl _ _).drewN 1
   obtain ⟨w5, hww5⟩ : ∃ W, W = w4.drewN 1 := ⟨_, rfl⟩
   rw [← hww5] at hS19 hd19 ⊢
   clear f28 f29 hww5
   have szw5 := hS19.size
   replace Bg2 := Bg2.kept hd19 (by simp)
   refine R.u 0 f30 rfl ht hS19 (fun W hW => (E.fa 4 f30 U28 rfl wsz3_wbb)) fun a31 f31 => ?_
   refine R.u 1 f31 rfl ht hS19 (fun W hW => (by exact E.ld f31 U3 (Bg0.kept hW (by simp; omega)))) fun a32 f32 => ?_
   refine R.u 2 f32 rfl ht hS19 (fun W hW => (E.fa 22 f32 U28 rfl wsz25_wbb)) fun a33 f33 => ?_
   refine R.u 3 f33 rfl ht hS19 (fun W hW => (by exact E.ld f33 U25 (Bg0.kept hW (by simp; omega)))) fun a34 f34 => ?_
   refine R.u 4 f34 rfl ht hS19 (fun W hW => (E.fa 4 f34 U28 rfl wsz3_wbb)) fun a35 f35 => ?_
   refine R.store 5 f35 rfl (by kernel_rfl) wantedN wsz3_wbb rfl rfl rfl Bg2 (by (simp [Value.cells]; done)) (fun _ hW => hS19.trans hW (by simp)) fun a36 w6 f36 NB6 ks6 hSn => ?_
   have szw6 := ks6.size
   replace Bg2 := NB6
   simp only [Value.cells, z1, z2, z3, Nat.reduceAdd, Nat.zero_add] at Bg2
   replace hS19 := hSn
   clear f30 a27 f31 a31 f32 a32 f33 a33 f34 a34 f35 a35 hSn ks6
   refine R.u 6 f36 rfl ht hS19 (fun W hW => (E.fa 22 f36 U28 rfl wsz25_wbb)) fun a37 f37 => ?_
   refine R.store 7 f37 rfl (by kernel_rfl) wantedN wsz25_wbb rfl rfl rfl Bg2 (by (simp [Value.cells]; done)) (fun _ hW => hS19.trans hW (by simp)) fun a38 w7 f38 NB7 ks7 hSn => ?_
   have szw7 := ks7.size
   replace Bg2 := NB7
   simp only [Value.cells, z1, z2, z3, Nat.reduceAdd, Nat.zero_add] at Bg2
   replace hS19 := hSn
   clear f36 a36 f37 a37 hSn ks7
   have szw7r := hS19.size
   replace HK := HK.trans hS19 (ktr (by omega))
   replace Bg0 := Bg0.kept hS19 (by simp; omega)
   replace Bg1 := Bg1.kept hS19 (by simp; omega)
   clear hS19
   have hn : numB p = true := by exact numB_t (by omega)
   have hb : bareP p = { kind := p.kind, id := p.id, subs := p.subs } := by unfold bareP; (simp [*]; done)
   have hJ : ∃ t, Blk w7 g2 28 ((bareP p).cells t) ∧ ∀ W', Kept [] w W' → (bareP p).In W' t := ⟨⟨none, 0, none, 0, none, 0, s.ua, s.uc, none, 0⟩, by rw [hb]; exact Bg2, fun W' hk' => by rw [hb]; exact ⟨Sl.nil _ _ _, Sl.nil _ _ _, Sl.nil _ _ _, IP.subs.kept hk', Sl.nil _ _ _⟩⟩
   obtain ⟨tt, BT, IT⟩ := hJ
   exact R.done (by kernel_rfl) (then_of (J := J28) (Q := fun _ _ _ => True) (by rw [hJ28]; exact ⟨tt, HK, Bg1, BT, IT, f38.sub (sub_cons rfl (sub_cons rfl sn))⟩))
  refine C.condF f29 rfl ?_
  refine C.region ?_
  refine L.va f29 (E.eq f29) fun a30 f30 => ?_
  refine L.ag f30 fun a31 f31 => ?_
  refine wpList_nil (hK12 _ _ ?_)
  have f32 := f31.sub (sc 1 (sc 2 (sc 3 (sc 8 (sc 78 sn)))))
  clear f28 f29 a27 f30 a30 f31
  refine f32.splitD 78 rfl (fun h8 f33 => ?_) (fun h8 f33 => ?_)
  ·refine C.condT f33 rfl ?_
   refine R.beginT (S := fun W => Kept [g2] w4 W) (by kernel_rfl) (by kernel_rfl) (by exact (Kept.refl _ _).drewN 1) fun ht => ?_
   have hS19 : Kept [g2] w4 (w4.drewN 1) := (Kept.refl _ _).drewN 1
   have hd19 : Kept [] w4 (w4.drewN 1) := (Kept.refl _ _).drewN 1
   obtain ⟨w5, hww5⟩ : ∃ W, W = w4.drewN 1 := ⟨_, rfl⟩
   rw [← hww5] at hS19 hd19 ⊢
   clear f32 hww5
   have szw5 := hS19.size
   replace Bg2 := Bg2.kept hd19 (by simp)
   refine R.u 0 f33 rfl ht hS19 (fun W hW => (E.fa 4 f33 U28 rfl wsz3_wbb)) fun a34 f34 => ?_
   refine R.u 1 f34 rfl ht hS19 (fun W hW => (by exact E.ld f34 U3 (Bg0.kept hW (by simp; omega)))) fun a35 f35 => ?_
   refine R.u 2 f35 rfl ht hS19 (fun W hW => (E.fa 22 f35 U28 rfl wsz25_wbb)) fun a36 f36 => ?_
   refine R.u 3 f36 rfl ht hS19 (fun W hW => (by exact E.ld f36 U25 (Bg0.kept hW (by simp; omega)))) fun a37 f37 => ?_
   refine R.u 4 f37 rfl ht hS19 (fun W hW => (E.fa 4 f37 U28 rfl wsz3_wbb)) fun a38 f38 => ?_
   refine R.store 5 f38 rfl (by kernel_rfl) wantedN wsz3_wbb rfl rfl rfl Bg2 (by (simp [Value.cells]; done)) (fun _ hW => hS19.trans hW (by simp)) fun a39 w6 f39 NB6 ks6 hSn => ?_
   have szw6 := ks6.size
   replace Bg2 := NB6
   simp only [Value.cells, z1, z2, z3, Nat.reduceAdd, Nat.zero_add] at Bg2
   replace hS19 := hSn
   clear f33 a31 f34 a34 f35 a35 f36 a36 f37 a37 f38 a38 hSn ks6
   refine R.u 6 f39 rfl ht hS19 (fun W hW => (E.fa 22 f39 U28 rfl wsz25_wbb)) fun a40 f40 => ?_
   refine R.store 7 f40 rfl (by kernel_rfl) wantedN wsz25_wbb rfl rfl rfl Bg2 (by (simp [Value.cells]; done)) (fun _ hW => hS19.trans hW (by simp)) fun a41 w7 f41 NB7 ks7 hSn => ?_
   have szw7 := ks7.size
   replace Bg2 := NB7
   simp only [Value.cells, z1, z2, z3, Nat.reduceAdd, Nat.zero_add] at Bg2
   replace hS19 := hSn
   clear f39 a39 f40 a40 hSn ks7
   have szw7r := hS19.size
   replace HK := HK.trans hS19 (ktr (by omega))
   replace Bg0 := Bg0.kept hS19 (by simp; omega)
   replace Bg1 := Bg1.kept hS19 (by simp; omega)
   clear hS19
   have hn : numB p = true := by exact numB_t (by omega)
   have hb : bareP p = { kind := p.kind, id := p.id, subs := p.subs } := by unfold bareP; (simp [*]; done)
   have hJ : ∃ t, Blk w7 g2 28 ((bareP p).cells t) ∧ ∀ W', Kept [] w W' → (bareP p).In W' t := ⟨⟨none, 0, none, 0, none, 0, s.ua, s.uc, none, 0⟩, by rw [hb]; exact Bg2, fun W' hk' => by rw [hb]; exact ⟨Sl.nil _ _ _, Sl.nil _ _ _, Sl.nil _ _ _, IP.subs.kept hk', Sl.nil _ _ _⟩⟩
   obtain ⟨tt, BT, IT⟩ := hJ
   exact R.done (by kernel_rfl) (then_of (J := J28) (Q := fun _ _ _ => True) (by rw [hJ28]; exact ⟨tt, HK, Bg1, BT, IT, f41.sub (sub_cons rfl (sub_cons rfl sn))⟩))
  refine C.condF f33 rfl ?_
  refine C.sk fun K14 hK14 => ?_
  refine L.va f33 (E.eq f33) fun a34 f34 => ?_
  refine L.ag f34 fun a35 f35 => ?_
  refine wpList_nil (hK14 _ _ ?_)
  have f36 := f35.sub (sc 1 (sc 2 (sc 3 (sc 8 (sc 87 sn)))))
  clear f32 f33 a31 f34 a34 f35
  refine f36.splitD 87 rfl (fun h9 f37 => ?_) (fun h9 f37 => ?_)
  ·refine C.condT f37 rfl ?_
   refine R.beginT (S := fun W => Kept [g2] w4 W) (by kernel_rfl) (by kernel_rfl) (by exact (Kept.refl _ _).drewN 1) fun ht => ?_
   have hS21 : Kept [g2] w4 (w4.drewN 1) := (Kept.refl _ _).drewN 1
   have hd21 : Kept [] w4 (w4.drewN 1) := (Kept.refl _ _).drewN 1
   obtain ⟨w5, hww5⟩ : ∃ W, W = w4.drewN 1 := ⟨_, rfl⟩
   rw [← hww5] at hS21 hd21 ⊢
   clear f36 hww5
   have szw5 := hS21.size
   replace Bg2 := Bg2.kept hd21 (by simp)
   refine R.u 0 f37 rfl ht hS21 (fun W hW => (E.fa 4 f37 U28 rfl wsz3_wbb)) fun a38 f38 => ?_
   refine R.u 1 f38 rfl ht hS21 (fun W hW => (by exact E.ld f38 U3 (Bg0.kept hW (by simp; omega)))) fun a39 f39 => ?_
   refine R.u 2 f39 rfl ht hS21 (fun W hW => (E.fa 23 f39 U28 rfl wsz26_wbb)) fun a40 f40 => ?_
   refine R.u 3 f40 rfl ht hS21 (fun W hW => (by exact E.ld f40 U26 (Bg0.kept hW (by simp; omega)))) fun a41 f41 => ?_
   refine R.u 4 f41 rfl ht hS21 (fun W hW => (E.fa 4 f41 U28 rfl wsz3_wbb)) fun a42 f42 => ?_
   refine R.store 5 f42 rfl (by kernel_rfl) wantedN wsz3_wbb rfl rfl rfl Bg2 (by (simp [Value.cells]; done)) (fun _ hW => hS21.trans hW (by simp)) fun a43 w6 f43 NB6 ks6 hSn => ?_
   have szw6 := ks6.size
   replace Bg2 := NB6
   simp only [Value.cells, z1, z2, z3, Nat.reduceAdd, Nat.zero_add] at Bg2
   replace hS21 := hSn
   clear f37 a35 f38 a38 f39 a39 f40 a40 f41 a41 f42 a42 hSn ks6
   refine R.u 6 f43 rfl ht hS21 (fun W hW => (E.fa 23 f43 U28 rfl wsz26_wbb)) fun a44 f44 => ?_
   refine R.store 7 f44 rfl (by kernel_rfl) wantedN wsz26_wbb rfl rfl rfl Bg2 (by (simp [Value.cells]; done)) (fun _ hW => hS21.trans hW (by simp)) fun a45 w7 f45 NB7 ks7 hSn => ?_
   have szw7 := ks7.size
   replace Bg2 := NB7
   simp only [Value.cells, z1, z2, z3, Nat.reduceAdd, Nat.zero_add] at Bg2
   replace hS21 := hSn
   clear f43 a43 f44 a44 hSn ks7
   have szw7r := hS21.size
   replace HK := HK.trans hS21 (ktr (by omega))
   replace Bg0 := Bg0.kept hS21 (by simp; omega)
   replace Bg1 := Bg1.kept hS21 (by simp; omega)
   clear hS21
   have hn : numB p = true := by exact numB_t (by omega)
   have hb : bareP p = { kind := p.kind, id := p.id, codes := p.codes } := by unfold bareP; (simp [*]; done)
   have hJ : ∃ t, Blk w7 g2 28 ((bareP p).cells t) ∧ ∀ W', Kept [] w W' → (bareP p).In W' t := ⟨⟨none, 0, none, 0, none, 0, none, 0, s.ca, s.cc⟩, by rw [hb]; exact Bg2, fun W' hk' => by rw [hb]; exact ⟨Sl.nil _ _ _, Sl.nil _ _ _, Sl.nil _ _ _, Sl.nil _ _ _, IP.codes.kept hk'⟩⟩
   obtain ⟨tt, BT, IT⟩ := hJ
   exact R.done (by kernel_rfl) (then_of (J := J28) (Q := fun _ _ _ => True) (by rw [hJ28]; exact ⟨tt, HK, Bg1, BT, IT, f45.sub (sub_cons rfl (sub_cons rfl sn))⟩))
  refine C.condF f37 rfl ?_
  refine wp_seq_k fun K15 hK15 => ?_
  refine C.sk fun K16 hK16 => ?_
  refine L.va f37 (E.eq f37) fun a38 f38 => ?_
  refine L.ag f38 fun a39 f39 => ?_
  refine wpList_nil (hK16 _ _ ?_)
  have f40 := f39.sub (sc 1 (sc 2 (sc 3 (sc 8 (sc 95 sn)))))
  clear f36 f37 a35 f38 a38 f39
  refine f40.splitD 95 rfl (fun h10 f41 => ?_) (fun h10 f41 => ?_)
  ·refine C.condT f41 rfl ?_
   refine wp_skip (hK15 _ _ ?_)
   have f42 := f41.sub (sc 1 (sc 2 (sc 3 (sc 95 sn))))
   refine C.condT f42 rfl ?_
   refine C.region ?_
   refine L.fa 4 f42 U28 rfl wsz3_wbb fun a43 f43 => ?_
   refine L.ld f43 U3 Bg0 fun a44 f44 => ?_
   refine L.fa 4 f44 U28 rfl wsz3_wbb fun a45 f45 => ?_
   refine L.store f45 wantedN wsz3_wbb rfl rfl rfl Bg2 (by (simp [Value.cells]; done)) fun a46 w5 f46 NB5 ks5 => ?_
   have szw5 := ks5.size
   replace HK := HK.trans ks5 (ktr (by omega))
   replace Bg0 := Bg0.kept ks5 (by simp; omega)
   replace Bg1 := Bg1.kept ks5 (by simp; omega)
   replace Bg2 := NB5
   simp only [Value.cells, z1, z2, z3, Nat.reduceAdd, Nat.zero_add] at Bg2
   clear f40 f41 f42 a39 f43 a43 f44 a44 ks5 f45 a45
   have hn : numB p = true := by exact numB_t (by omega)
   have hb : bareP p = { kind := p.kind, id := p.id } := by unfold bareP; (simp [*]; done)
   have hJ : ∃ t, Blk w5 g2 28 ((bareP p).cells t) ∧ ∀ W', Kept [] w W' → (bareP p).In W' t := ⟨⟨none, 0, none, 0, none, 0, none, 0, none, 0⟩, by rw [hb]; exact Bg2, fun W' hk' => by rw [hb]; exact ⟨Sl.nil _ _ _, Sl.nil _ _ _, Sl.nil _ _ _, Sl.nil _ _ _, Sl.nil _ _ _⟩⟩
   obtain ⟨tt, BT, IT⟩ := hJ
   exact wpList_nil (then_of (J := J28) (Q := fun _ _ _ => True) (by rw [hJ28]; exact ⟨tt, HK, Bg1, BT, IT, f46.sub (sub_cons rfl (sub_cons rfl sn))⟩))
  refine C.condF f41 rfl ?_
  refine C.sk fun K17 hK17 => ?_
  refine L.va f41 (E.eq f41) fun a42 f42 => ?_
  refine L.ag f42 fun a43 f43 => ?_
  refine wpList_nil (hK17 _ _ ?_)
  have f44 := f43.sub (sc 1 (sc 2 (sc 3 (sc 8 (sc 95 sn)))))
  clear f40 f41 a39 f42 a42 f43
  refine f44.splitD 95 rfl (fun h11 f45 => ?_) (fun h11 f45 => ?_)
  ·refine C.condT f45 rfl ?_
   refine wp_skip (hK15 _ _ ?_)
   have f46 := f45.sub (sc 1 (sc 2 (sc 3 (sc 95 sn))))
   refine C.condT f46 rfl ?_
   refine C.region ?_
   refine L.fa 4 f46 U28 rfl wsz3_wbb fun a47 f47 => ?_
   refine L.ld f47 U3 Bg0 fun a48 f48 => ?_
   refine L.fa 4 f48 U28 rfl wsz3_wbb fun a49 f49 => ?_
   refine L.store f49 wantedN wsz3_wbb rfl rfl rfl Bg2 (by (simp [Value.cells]; done)) fun a50 w5 f50 NB5 ks5 => ?_
   have szw5 := ks5.size
   replace HK := HK.trans ks5 (ktr (by omega))
   replace Bg0 := Bg0.kept ks5 (by simp; omega)
   replace Bg1 := Bg1.kept ks5 (by simp; omega)
   replace Bg2 := NB5
   simp only [Value.cells, z1, z2, z3, Nat.reduceAdd, Nat.zero_add] at Bg2
   clear f44 f45 f46 a43 f47 a47 f48 a48 ks5 f49 a49
   have hn : numB p = true := by exact numB_t (by omega)
   have hb : bareP p = { kind := p.kind, id := p.id } := by unfold bareP; (simp [*]; done)
   have hJ : ∃ t, Blk w5 g2 28 ((bareP p).cells t) ∧ ∀ W', Kept [] w W' → (bareP p).In W' t := ⟨⟨none, 0, none, 0, none, 0, none, 0, none, 0⟩, by rw [hb]; exact Bg2, fun W' hk' => by rw [hb]; exact ⟨Sl.nil _ _ _, Sl.nil _ _ _, Sl.nil _ _ _, Sl.nil _ _ _, Sl.nil _ _ _⟩⟩
   obtain ⟨tt, BT, IT⟩ := hJ
   exact wpList_nil (then_of (J := J28) (Q := fun _ _ _ => True) (by rw [hJ28]; exact ⟨tt, HK, Bg1, BT, IT, f50.sub (sub_cons rfl (sub_cons rfl sn))⟩))
  refine C.condF f45 rfl ?_
  refine C.sk fun K18 hK18 => ?_
  refine L.va f45 (E.eq f45) fun a46 f46 => ?_
  refine L.ag f46 fun a47 f47 => ?_
  refine wpList_nil (hK18 _ _ ?_)
  have f48 := f47.sub (sc 1 (sc 2 (sc 3 (sc 8 (sc 95 sn)))))
  clear f44 f45 a43 f46 a46 f47
  refine f48.splitD 95 rfl (fun h12 f49 => ?_) (fun h12 f49 => ?_)
  ·refine C.condT f49 rfl ?_
   refine wp_skip (hK15 _ _ ?_)
   have f50 := f49.sub (sc 1 (sc 2 (sc 3 (sc 95 sn))))
   refine C.condT f50 rfl ?_
   refine C.region ?_
   refine L.fa 4 f50 U28 rfl wsz3_wbb fun a51 f51 => ?_
   refine L.ld f51 U3 Bg0 fun a52 f52 => ?_
   refine L.fa 4 f52 U28 rfl wsz3_wbb fun a53 f53 => ?_
   refine L.store f53 wantedN wsz3_wbb rfl rfl rfl Bg2 (by (simp [Value.cells]; done)) fun a54 w5 f54 NB5 ks5 => ?_
   have szw5 := ks5.size
   replace HK := HK.trans ks5 (ktr (by omega))
   replace Bg0 := Bg0.kept ks5 (by simp; omega)
   replace Bg1 := Bg1.kept ks5 (by simp; omega)
   replace Bg2 := NB5
   simp only [Value.cells, z1, z2, z3, Nat.reduceAdd, Nat.zero_add] at Bg2
   clear f48 f49 f50 a47 f51 a51 f52 a52 ks5 f53 a53
   have hn : numB p = true := by exact numB_t (by omega)
   have hb : bareP p = { kind := p.kind, id := p.id } := by unfold bareP; (simp [*]; done)
   have hJ : ∃ t, Blk w5 g2 28 ((bareP p).cells t) ∧ ∀ W', Kept [] w W' → (bareP p).In W' t := ⟨⟨none, 0, none, 0, none, 0, none, 0, none, 0⟩, by rw [hb]; exact Bg2, fun W' hk' => by rw [hb]; exact ⟨Sl.nil _ _ _, Sl.nil _ _ _, Sl.nil _ _ _, Sl.nil _ _ _, Sl.nil _ _ _⟩⟩
   obtain ⟨tt, BT, IT⟩ := hJ
   exact wpList_nil (then_of (J := J28) (Q := fun _ _ _ => True) (by rw [hJ28]; exact ⟨tt, HK, Bg1, BT, IT, f54.sub (sub_cons rfl (sub_cons rfl sn))⟩))
  refine C.condF f49 rfl ?_
  refine C.sk fun K19 hK19 => ?_
  refine L.va f49 (E.eq f49) fun a50 f50 => ?_
  refine L.ag f50 fun a51 f51 => ?_
  refine wpList_nil (hK19 _ _ ?_)
  have f52 := f51.sub (sc 1 (sc 2 (sc 3 (sc 8 (sc 95 sn)))))
  clear f48 f49 a47 f50 a50 f51
  refine f52.splitD 95 rfl (fun h13 f53 => ?_) (fun h13 f53 => ?_)
  ·refine C.condT f53 rfl ?_
   refine wp_skip (hK15 _ _ ?_)
   have f54 := f53.sub (sc 1 (sc 2 (sc 3 (sc 95 sn))))
   refine C.condT f54 rfl ?_
   refine C.region ?_
   refine L.fa 4 f54 U28 rfl wsz3_wbb fun a55 f55 => ?_
   refine L.ld f55 U3 Bg0 fun a56 f56 => ?_
   refine L.fa 4 f56 U28 rfl wsz3_wbb fun a57 f57 => ?_
   refine L.store f57 wantedN wsz3_wbb rfl rfl rfl Bg2 (by (simp [Value.cells]; done)) fun a58 w5 f58 NB5 ks5 => ?_
   have szw5 := ks5.size
   replace HK := HK.trans ks5 (ktr (by omega))
   replace Bg0 := Bg0.kept ks5 (by simp; omega)
   replace Bg1 := Bg1.kept ks5 (by simp; omega)
   replace Bg2 := NB5
   simp only [Value.cells, z1, z2, z3, Nat.reduceAdd, Nat.zero_add] at Bg2
   clear f52 f53 f54 a51 f55 a55 f56 a56 ks5 f57 a57
   have hn : numB p = true := by exact numB_t (by omega)
   have hb : bareP p = { kind := p.kind, id := p.id } := by unfold bareP; (simp [*]; done)
   have hJ : ∃ t, Blk w5 g2 28 ((bareP p).cells t) ∧ ∀ W', Kept [] w W' → (bareP p).In W' t := ⟨⟨none, 0, none, 0, none, 0, none, 0, none, 0⟩, by rw [hb]; exact Bg2, fun W' hk' => by rw [hb]; exact ⟨Sl.nil _ _ _, Sl.nil _ _ _, Sl.nil _ _ _, Sl.nil _ _ _, Sl.nil _ _ _⟩⟩
   obtain ⟨tt, BT, IT⟩ := hJ
   exact wpList_nil (then_of (J := J28) (Q := fun _ _ _ => True) (by rw [hJ28]; exact ⟨tt, HK, Bg1, BT, IT, f58.sub (sub_cons rfl (sub_cons rfl sn))⟩))
  refine C.condF f53 rfl ?_
  refine C.region ?_
  refine L.va f53 (E.eq f53) fun a54 f54 => ?_
  refine L.ag f54 fun a55 f55 => ?_
  refine wpList_nil (hK15 _ _ ?_)
  have f56 := f55.sub (sc 1 (sc 2 (sc 3 (sc 95 sn))))
  clear f52 f53 a51 f54 a54 f55
  refine f56.splitD 95 rfl (fun h14 f57 => ?_) (fun h14 f57 => ?_)
  ·refine C.condT f57 rfl ?_
   refine C.region ?_
   refine L.fa 4 f57 U28 rfl wsz3_wbb fun a58 f58 => ?_
   refine L.ld f58 U3 Bg0 fun a59 f59 => ?_
   refine L.fa 4 f59 U28 rfl wsz3_wbb fun a60 f60 => ?_
   refine L.store f60 wantedN wsz3_wbb rfl rfl rfl Bg2 (by (simp [Value.cells]; done)) fun a61 w5 f61 NB5 ks5 => ?_
   have szw5 := ks5.size
   replace HK := HK.trans ks5 (ktr (by omega))
   replace Bg0 := Bg0.kept ks5 (by simp; omega)
   replace Bg1 := Bg1.kept ks5 (by simp; omega)
   replace Bg2 := NB5
   simp only [Value.cells, z1, z2, z3, Nat.reduceAdd, Nat.zero_add] at Bg2
   clear f56 f57 a55 f58 a58 f59 a59 ks5 f60 a60
   have hn : numB p = true := by exact numB_t (by omega)
   have hb : bareP p = { kind := p.kind, id := p.id } := by unfold bareP; (simp [*]; done)
   have hJ : ∃ t, Blk w5 g2 28 ((bareP p).cells t) ∧ ∀ W', Kept [] w W' → (bareP p).In W' t := ⟨⟨none, 0, none, 0, none, 0, none, 0, none, 0⟩, by rw [hb]; exact Bg2, fun W' hk' => by rw [hb]; exact ⟨Sl.nil _ _ _, Sl.nil _ _ _, Sl.nil _ _ _, Sl.nil _ _ _, Sl.nil _ _ _⟩⟩
   obtain ⟨tt, BT, IT⟩ := hJ
   exact wpList_nil (then_of (J := J28) (Q := fun _ _ _ => True) (by rw [hJ28]; exact ⟨tt, HK, Bg1, BT, IT, f61.sub (sub_cons rfl (sub_cons rfl sn))⟩))
  refine C.condF f57 rfl ?_
  have hn : numB p = false := by exact numB_f (by omega) (by omega)
  have hb : bareP p = { kind := p.kind } := by unfold bareP; (simp [*]; done)
  have hJ : ∃ t, Blk w4 g2 28 ((bareP p).cells t) ∧ ∀ W', Kept [] w W' → (bareP p).In W' t := ⟨⟨none, 0, none, 0, none, 0, none, 0, none, 0⟩, by rw [hb]; exact Bg2, fun W' hk' => by rw [hb]; exact ⟨Sl.nil _ _ _, Sl.nil _ _ _, Sl.nil _ _ _, Sl.nil _ _ _, Sl.nil _ _ _⟩⟩
  obtain ⟨tt, BT, IT⟩ := hJ
  exact wp_skip (then_of (J := J28) (Q := fun _ _ _ => True) (by rw [hJ28]; exact ⟨tt, HK, Bg1, BT, IT, f57.sub (sub_cons rfl (sub_cons rfl sn))⟩))
 intro a11 w5 hj
 rw [hJ28] at hj
 clear hJ28 J28
 obtain ⟨tt, HK, Bg1, Bg2, IT, f11⟩ := hj
 try clear f10
 refine C.sk fun K20 hK20 => ?_
 refine L.va f11 (by exact E.loadB f11 U28 rfl wsz28_wbb rfl (Bg2) rfl) fun a12 f12 => ?_
 refine L.storeR f12 wantedN wsz28_wbb rfl rfl rfl Bg1 rfl rfl fun a13 w6 f13 NB6 ks6 => ?_
 have szw6 := ks6.size
 replace HK := HK.trans ks6 (ktr (by omega))
 replace Bg2 := Bg2.kept ks6 (by simp; omega)
 replace Bg1 := NB6
 clear f11 a11 ks6 f12 a12
 refine wpList_nil (hK20 _ _ ?_)
 have f14 := f13.sub (sc 2 sn)
 refine wp_ret ?_
 try simp only [Exit.inBlock, Exit.then]
 refine C.retC (P := Tryd.prog) (fn := Tryd.f48) f14 rfl rfl Bg1 U28 rfl wsz28_wbb ?_
 exact ⟨HK, tt, rfl, IT _ HK⟩
end Go.Proofs.YtigjafbbnocihaaDoor
