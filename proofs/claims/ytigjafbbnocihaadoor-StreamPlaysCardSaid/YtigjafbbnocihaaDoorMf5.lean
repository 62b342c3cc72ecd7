/- Merged by program (shrink.py): contracts and plain laws that the claim's statement uses, part 5. -/
import Derived.Test.YtigjafbbnocihaaDoorMf4
set_option linter.all false

namespace Go.Proofs.YtigjafbbnocihaaDoor
open Go.RowKit Go.Hub Go.Lib Go.Vl
theorem wzib3_wh : (Tryd.prog.info? 3).map (fun i => (i.zero, i.size, i.bytes)) = some (some (.int .i64 0), 1, 8) := by kernel_rfl
theorem wzib70_wh : (Tryd.prog.info? 70).map (fun i => (i.zero, i.size, i.bytes)) = some (some (.agg #[(.string ⟨#[]⟩), (.int .i64 0)]), 2, 24) := by kernel_rfl
theorem wzi3_wh : (Tryd.prog.info? 3).map (fun i => (i.zero, i.size)) = some (some (.int .i64 0), 1) := by kernel_rfl
theorem wzi70_wh : (Tryd.prog.info? 70).map (fun i => (i.zero, i.size)) = some (some (.agg #[(.string ⟨#[]⟩), (.int .i64 0)]), 2) := by kernel_rfl
theorem wbs25_1_wh (x0_0 x0_1 : Value) : Instr.fill (fun i => some (i * 2, 2)) ((Array.range (1 * 2)).map fun j => (Value.cells (.agg #[(.string ⟨#[]⟩), (.int .i64 0)]))[j % (Value.cells (.agg #[(.string ⟨#[]⟩), (.int .i64 0)])).size]!) [(0, .agg #[x0_0, x0_1])] = some #[x0_0, x0_1] := by kernel_rfl
theorem wbs26_1_wh (x0 : Int) : Instr.fill (fun i => some (i * 1, 1)) ((Array.range (1 * 1)).map fun j => (Value.cells (.int .i64 0))[j % (Value.cells (.int .i64 0)).size]!) [(0, .int .i64 x0)] = some #[.int .i64 x0] := by kernel_rfl
theorem wsz3_wh : (Tryd.prog.info? 3).map (·.size) = some 1 := by kernel_rfl
theorem wsz4_wh : (Tryd.prog.info? 4).map (·.size) = some 1 := by kernel_rfl
theorem wsz9_wh : (Tryd.prog.info? 9).map (·.size) = some 1 := by kernel_rfl
theorem wsz22_wh : (Tryd.prog.info? 22).map (·.size) = some 1 := by kernel_rfl
theorem wsz24_wh : (Tryd.prog.info? 24).map (·.size) = some 4 := by kernel_rfl
theorem wsz25_wh : (Tryd.prog.info? 25).map (·.size) = some 1 := by kernel_rfl
theorem wsz26_wh : (Tryd.prog.info? 26).map (·.size) = some 1 := by kernel_rfl
theorem wsz28_wh : (Tryd.prog.info? 28).map (·.size) = some 24 := by kernel_rfl
theorem wsz70_wh : (Tryd.prog.info? 70).map (·.size) = some 2 := by kernel_rfl
theorem wbl28_0_wh (x0 : Int) : Tryd.prog.built 28 [(0, .int .i64 x0)] = some #[.int .i64 x0, (.bool false), (.bool false), (.int .i64 0), (.int .i64 0), (.string ⟨#[]⟩), (.slice none 0 0), (.int .i64 0), (.string ⟨#[]⟩), (.bool false), (.int .i64 0), (.bool false), (.string ⟨#[]⟩), (.slice none 0 0), (.int .i64 0), (.bool false), (.bool false), (.bool false), (.string ⟨#[]⟩), (.slice none 0 0), (.bool false), (.int .i64 0), (.slice none 0 0), (.slice none 0 0)] := by kernel_rfl
theorem wbl70_0_wh (x0 : ByteArray) : Tryd.prog.built 70 [(0, .string x0)] = some #[.string x0, (.int .i64 0)] := by kernel_rfl
def mu (r : Rd) : Nat := if r.lk = true then 0 else r.l.length
def loopS (m : Nat) (p : Pk) (r : Rd) : Pk × Rd := if p.kind = 8 ∨ p.kind = 10 then subsR m p r else (p, r)
def loopC (m : Nat) (p : Pk) (r : Rd) : Pk × Rd := if p.kind = 9 then codesR m p r else (p, r)
def PkFar (p : Pk) (s : Ad) (x : Nat) : Prop := (0 < p.pay.length → ∀ a, s.pa = some a → a.block ≠ x) ∧ (0 < p.wp.length → ∀ a, s.wa = some a → a.block ≠ x) ∧ (0 < p.pass.length → ∀ a, s.sa = some a → a.block ≠ x) ∧ (∀ a, s.ua = some a → a.block ≠ x) ∧ (∀ a, s.ca = some a → a.block ≠ x)
section
variable {B x : Nat} {w W W' : World} {p : Pk} {s : Ad}
theorem bs_far {E : List TypeId} {A : Option Addr} {n : Nat} {l : List UInt8} (h : Bs E B W A n l) (hx : W.heap.size ≤ x) (hn : 0 < n) : ∀ a, A = some a → a.block ≠ x := fun a ha => by
  obtain ⟨b, off, e, hb, _⟩ := h.2 hn
  rw [ha] at e
  injection e with e
  subst e
  show b ≠ x
  omega
theorem own_far {e size n c : Nat} {A : Option Addr} {xs : List Value} (h : Own W e size (.slice A n c) n xs) (hx : W.heap.size ≤ x) : ∀ a, A = some a → a.block ≠ x := fun a ha => by
  have := (h.blk a.block ((own_block A n c a.block).2 (by rw [ha]; rfl))).1
  omega
theorem bs_keptF {E : List TypeId} {A : Option Addr} {n : Nat} {l : List UInt8} (h : Bs E B W A n l) (hk : Kept [x] W W') (hf : 0 < n → ∀ a, A = some a → a.block ≠ x) : Bs E B W' A n l :=
  ⟨h.1, fun hn => by
    obtain ⟨b, off, e, hb, ht, hc⟩ := h.2 hn
    have hne : b ≠ x := hf hn _ e
    have e1 := hk.block b hb (by simpa using hne)
    exact ⟨b, off, e, Nat.lt_of_lt_of_le hb hk.size, ht.imp_right fun ht => ht.of_eq e1, fun j u hu => (World.cell?_of_block (w := W) (a := ⟨b, off + j, none⟩) e1).trans (hc j u hu)⟩⟩
theorem PkM.far (h : PkM B w W p s) (hx : W.heap.size ≤ x) : PkFar p s x := ⟨bs_far h.pay hx, bs_far h.wp hx, bs_far h.pass hx, own_far h.subs.own hx, own_far h.codes.own hx⟩
theorem fresh_keptF {e size n c : Nat} {A : Option Addr} {xs : List Value} (h : Fresh w W e size A n c xs) (hk : Kept [x] W W') (hf : ∀ a, A = some a → a.block ≠ x) : Fresh w W' e size A n c xs := Fresh.kept h hk fun b hb hx => by
  obtain rfl := List.mem_singleton.1 hx
  cases A with
  | none => simp at hb
  | some a => simp at hb; exact hf a rfl hb
theorem PkM.keptF (h : PkM B w W p s) (hk : Kept [x] W W') (f : PkFar p s x) : PkM B w W' p s := ⟨bs_keptF h.pay hk f.1, bs_keptF h.wp hk f.2.1, bs_keptF h.pass hk f.2.2.1, fresh_keptF h.subs hk f.2.2.2.1, fresh_keptF h.codes hk f.2.2.2.2⟩
end
section
variable {r : Rd} {p : Pk} {m : Nat} {c : Int}
theorem mu_le (r : Rd) : mu r ≤ r.l.length := by unfold mu; split <;> omega
theorem mu_pos (h : r.l ≠ []) (hk : r.lk = false) : 0 < mu r := by
  unfold mu
  rw [if_neg (by rw [hk]; decide)]
  exact List.length_pos_iff.2 h
theorem takeR_mu (r : Rd) (n : Nat) : mu (r.takeR n).2 ≤ mu r := by
  unfold Rd.takeR
  split
  · simp [mu]
  rename_i h
  have h1 : ¬ r.lk = true := fun e => h (.inl e)
  unfold mu
  rw [if_neg h1]
  simp
theorem takeR_lt {n : Nat} (h : r.l ≠ []) (hk : r.lk = false) (hn : 0 < n) : mu (r.takeR n).2 < mu r := by
  have hp := mu_pos h hk
  unfold Rd.takeR
  split
  · simpa [mu] using hp
  unfold mu at hp
  rw [hk] at hp
  show (if (false : Bool) = true then 0 else (r.l.drop n).length) < (if r.lk = true then 0 else r.l.length)
  rw [hk]
  simp only [Bool.false_eq_true, if_false, List.length_drop] at hp ⊢
  omega
theorem numR_mu (r : Rd) (n : Nat) : mu (r.numR n).2 ≤ mu r := takeR_mu r n
theorem numR_lt {n : Nat} (h : r.l ≠ []) (hk : r.lk = false) (hn : 0 < n) : mu (r.numR n).2 < mu r := takeR_lt h hk hn
theorem textR_mu (h : r.l ≠ []) (hk : r.lk = false) : mu r.textR.2 < mu r := Nat.lt_of_le_of_lt (takeR_mu _ _) (numR_lt h hk (by decide))
theorem PaAt.len {w : World} {B g : Nat} (h : PaAt w B g r) : r.l.length ≤ 100000000 := by
  obtain ⟨_, _, _, a, F, _, _, _, _, h3, h4⟩ := h
  rw [← h3, List.length_drop]
  omega
theorem lumpR_of_text {s : ByteArray} {r' : Rd} (h : r.textR = (s, r')) : r.lumpR = (s.toList, r') := by
  unfold Rd.textR at h
  injection h with h1 h2
  rw [← h1, bytes_arrL, ← h2]
theorem subsR_end (m : Nat) (p : Pk) (h : r.lk = true ∨ r.l = []) : subsR m p r = (p, r) := by
  cases m
  · rfl
  unfold subsR; rw [if_pos h]
theorem codesR_end (m : Nat) (p : Pk) (h : r.lk = true ∨ r.l = []) : codesR m p r = (p, r) := by
  cases m
  · rfl
  unfold codesR; rw [if_pos h]
theorem loopS_end (h : ¬ (p.kind = 8 ∨ p.kind = 10) ∨ r.lk = true ∨ r.l = []) : loopS m p r = (p, r) := by
  unfold loopS
  split
  · rename_i hk
    rcases h with h | h
    · exact absurd hk h
    exact subsR_end m p h
  rfl
theorem loopC_end (h : ¬ p.kind = 9 ∨ r.lk = true ∨ r.l = []) : loopC m p r = (p, r) := by
  unfold loopC
  split
  · rename_i hk
    rcases h with h | h
    · exact absurd hk h
    exact codesR_end m p h
  rfl
theorem loopS_8 (h0 : r.l ≠ []) (hk : r.lk = false) (h : p.kind = 8) : loopS (m + 1) p r = loopS m { p with subs := p.subs ++ [(r.textR.1, (r.textR.2.numR 1).1)] } (r.textR.2.numR 1).2 := by
  unfold loopS
  rw [if_pos (.inl h), if_pos (.inl h)]
  conv => lhs; unfold subsR
  rw [if_neg (by simp [hk, h0]), if_pos h]
theorem loopS_10 (h0 : r.l ≠ []) (hk : r.lk = false) (h : p.kind = 10) : loopS (m + 1) p r = loopS m { p with subs := p.subs ++ [(r.textR.1, 0)] } r.textR.2 := by
  unfold loopS
  rw [if_pos (.inr h), if_pos (.inr h)]
  conv => lhs; unfold subsR
  rw [if_neg (by simp [hk, h0]), if_neg (by omega)]
theorem loopC_9 (h0 : r.l ≠ []) (hk : r.lk = false) (h : p.kind = 9) : loopC (m + 1) p r = loopC m { p with codes := p.codes ++ [(r.numR 1).1] } (r.numR 1).2 := by
  unfold loopC
  rw [if_pos h, if_pos h]
  conv => lhs; unfold codesR
  rw [if_neg (by simp [hk, h0])]
theorem subsR_kind : ∀ (m : Nat) (p : Pk) (r : Rd), (subsR m p r).1.kind = p.kind
  | 0, _, _ => rfl
  | m + 1, p, r => by
    unfold subsR
    split
    · rfl
    split
    · exact subsR_kind m _ _
    exact subsR_kind m _ _
theorem parsed_else (h1 : ¬ c / 16 = 1) (h2 : ¬ c / 16 = 2) (h3 : ¬ c / 16 = 3) (h4 : ¬ inB (c / 16) 12 14 = true) :
    parsedR c r = loopC (loopS (r.numR 2).2.l.length { kind := c / 16, id := (r.numR 2).1 } (r.numR 2).2).2.l.length (loopS (r.numR 2).2.l.length { kind := c / 16, id := (r.numR 2).1 } (r.numR 2).2).1 (loopS (r.numR 2).2.l.length { kind := c / 16, id := (r.numR 2).1 } (r.numR 2).2).2 := by
  unfold parsedR
  rw [if_neg h1, if_neg h2, if_neg h3, if_neg h4]
  simp only
  unfold loopS loopC
  by_cases h8 : c / 16 = 8 ∨ c / 16 = 10
  · simp only [if_pos h8, subsR_kind]
    rw [if_neg (by omega)]
  simp only [if_neg h8]
end
section
variable {P : Program} {ops : Array Oper} {rest : List Oper} {a : Act} {w : World} {Q : Exit → Act → World → Prop} {n d : Nat} {l : FL} {ty : TypeId} {ps : String} {af : Array Edge} {gd : Option (Nat × Bool)} {x : Operand} {src dst u8t : TypeId}
theorem L.convSB2 (B : Nat) (f : Fr n a l) (hw : Region.wanted ⟨some d, .convert src dst x, ty, ps, af, gd⟩ (yielded ops a.tmps) = true) (hn : d < n) (hs : P.underlying src = some .string) (hd : P.underlying dst = some (.slice 5)) (he : P.underlying 5 = some (.int .u8)) {s : ByteArray} (hx : evl l x = some (.string s))
    (hm : s.size ≤ 1000000) (hK : ∀ a' w' c A, Fr n a' ((d, .slice A s.toList.length c) :: l) → (s.toList.length ≤ c ∧ c ≤ maxLen) → Bs [5] B w' A s.toList.length s.toList → Kept [] w w' → wpList P ops Q rest a' w') : wpList P ops Q (⟨some d, .convert src dst x, ty, ps, af, gd⟩ :: rest) a w := by
  have h := run_bytes_of_string (P := P) w src dst 5 s hs hd he
  refine L.val (v := .slice (some ⟨w.heap.size, 0, none⟩) s.size (grownCap w s.size 0 5)) (w' := w.drew.alloc (.cells (bytesRow s (grownCap w s.size 0 5)) 5 ((bytesRow s (grownCap w s.size 0 5)).size, (bytesRow s (grownCap w s.size 0 5)).size + 1))) f hw rfl hn (by simp only [execOp, f.ev hx, Sem.run_bind, h, Result.andThen, Sem.run_pure]) fun a' f' => hK a' _ (grownCap w s.size 0 5) _ (by rw [toList_len]; exact f') ?_ ?_ ?_
  · rw [toList_len]
    exact ⟨grownCap_ge _ _ _ _, grownCap_le_maxLen _ _ _ _ (by unfold maxLen; omega)⟩
  · rw [ByteArray.toList_eq]
    exact bs_conv [5] _ w s 5 (by simp) _ _
  exact ((Kept.refl [] w).drewN 1).alloc _
end
set_option maxRecDepth 100000 in
set_option maxHeartbeats 8000000 in
theorem parsed_any (c : Int) (hc : 0 ≤ c ∧ c ≤ 255) (B g : Nat) (r : Rd) (w : World) (RD : PaAt w B g r) (hBw : B ≤ w.heap.size) : Calls Tryd.prog 62 #[.int .u8 c, .pointer (some ⟨g, 0, none⟩)] w (fun e w' => ∃ p r' s, parsedR c r = (p, r') ∧ e = .returned (.agg (p.cells s)) ∧ Kept [g] w w' ∧ PaAt w' B g r' ∧ PkM B w w' p s) := by
 have HK : Kept [g] w w := Kept.refl [g] w
 have hBg := RD.1
 have hgl : g < w.heap.size := by obtain ⟨_, b⟩ := RD.bk; exact b.lt
 refine C.enter Tryd.func62 rfl Tryd.ntmps62 rfl ?_
 intro a0 f0
 have f1 : Fr 206 a0 [(0, .int .u8 c), (1, .pointer (some ⟨g, 0, none⟩))] := f0
 refine C.sk fun K0 hK0 => ?_
 refine L.alloc f1 wantedN (by decide) (z := (.agg #[(.int .i64 0), (.bool false), (.bool false), (.int .i64 0), (.int .i64 0), (.string ⟨#[]⟩), (.slice none 0 0), (.int .i64 0), (.string ⟨#[]⟩), (.bool false), (.int .i64 0), (.bool false), (.string ⟨#[]⟩), (.slice none 0 0), (.int .i64 0), (.bool false), (.bool false), (.bool false), (.string ⟨#[]⟩), (.slice none 0 0), (.bool false), (.int .i64 0), (.slice none 0 0), (.slice none 0 0)])) (fun _ => by kernel_rfl) rfl fun a2 w1 g0 N0 f2 => ?_
 have Bg0 := N0.blk
 have kg0 := N0.kept
 have log0 := N0.lo
 have ltg0 := Bg0.lt
 have szw1 := kg0.size
 have frg0 : w.heap.size ≤ g0 := Nat.le_trans HK.size log0
 replace HK := HK.trans kg0 (by simp)
 replace RD := RD.kept0 kg0
 clear f0 N0 kg0
 refine wpList_nil (hK0 _ _ ?_)
 have f3 := f2.sub (sc 0 (sc 1 (sc 4 sn)))
 refine C.sk fun K1 hK1 => ?_
 refine L.mv f3 fun a4 f4 => ?_
 refine L.va f4 (E.shrN f4 rfl rfl (by decide) (by decide) (show _ / 2 ^ (4 : Int).toNat = _ / 16 from rfl)) fun a5 f5 => ?_
 refine L.va f5 (E.conv f5 U5 U3 rfl (IntWalk.i64_in _ (by omega))) fun a6 f6 => ?_
 refine L.va f6 (E.build f6 (parts1 f6 rfl) (wbl28_0_wh _)) fun a7 f7 => ?_
 refine L.alloc f7 wantedN (by decide) (z := (.agg #[(.int .i64 0), (.bool false), (.bool false), (.int .i64 0), (.int .i64 0), (.string ⟨#[]⟩), (.slice none 0 0), (.int .i64 0), (.string ⟨#[]⟩), (.bool false), (.int .i64 0), (.bool false), (.string ⟨#[]⟩), (.slice none 0 0), (.int .i64 0), (.bool false), (.bool false), (.bool false), (.string ⟨#[]⟩), (.slice none 0 0), (.bool false), (.int .i64 0), (.slice none 0 0), (.slice none 0 0)])) (fun _ => by kernel_rfl) rfl fun a8 w2 g1 N1 f8 => ?_
 have Bg1 := N1.blk
 have kg1 := N1.kept
 have log1 := N1.lo
 have ltg1 := Bg1.lt
 have szw2 := kg1.size
 have frg1 : w.heap.size ≤ g1 := Nat.le_trans HK.size log1
 have neg0_g1 : g0 ≠ g1 := by have := Bg0.lt; omega
 replace HK := HK.trans kg1 (by simp)
 replace RD := RD.kept0 kg1
 replace Bg0 := Bg0.kept kg1 (by simp)
 clear f1 a0 f2 f3 a2 f4 a4 f5 a5 f6 a6 N1 kg1
 refine L.storeR f8 wantedN wsz28_wh rfl rfl rfl Bg1 rfl rfl fun a9 w3 f9 NB3 ks3 => ?_
 have szw3 := ks3.size
 replace HK := HK.trans ks3 (ktr (by omega))
 replace RD := RD.kept1 ks3 (by omega) (by omega) Bg1 (by decide)
 replace Bg0 := Bg0.kept ks3 (by simp; omega)
 replace Bg1 := NB3
 clear f7 a7 ks3 f8 a8
 refine wpList_nil (hK1 _ _ ?_)
 have f10 := f9.sub (sc 0 (sc 1 (sc 4 (sc 5 sn))))
 obtain ⟨J39, hJ39⟩ : ∃ J : Act → World → Prop, J = fun a W => ∃ p9 r9 s9, parsedR c r = (p9, r9) ∧ Kept [g] w W ∧ Blk W g0 28 zeroPk ∧ PaAt W B g r9 ∧ Blk W g1 28 (p9.cells s9) ∧ PkM B w W p9 s9 ∧ Fr 206 a [(4, .pointer (some ⟨g0, 0, none⟩)), (5, .pointer (some ⟨g1, 0, none⟩))] := ⟨_, rfl⟩
 clear f9
 refine C.cut J39 ?_ ?_
 ·skip
  refine wp_seq_k fun K2 hK2 => ?_
  have BP := Bg1
  clear Bg1
  have PN : PkM B w w3 { kind := c / 16 } s0 := PkM.of hBw (FB.nil _ _) (FB.nil _ _) (FB.nil _ _) (Fresh.nil _ _ _ _) (Fresh.nil _ _ _ _)
  have hne10 : g1 ≠ g0 := by omega
  have hng0 : g ≠ g0 := by omega
  have hng1 : g ≠ g1 := by omega
  refine C.region ?_
  refine L.fa 0 f10 U28 rfl wsz3_wh fun a11 f11 => ?_
  refine L.ld f11 U3 BP fun a12 f12 => ?_
  refine wpList_nil (hK2 _ _ ?_)
  have f13 := f12.sub (sc 0 (sc 1 (sc 4 (sc 5 (sc 13 sn)))))
  refine wp_block ?_
  refine C.sk fun K3 hK3 => ?_
  refine L.va f13 (E.eq f13) fun a14 f14 => ?_
  refine L.ag f14 fun a15 f15 => ?_
  refine wpList_nil (hK3 _ _ ?_)
  have f16 := f15.sub (sc 0 (sc 1 (sc 4 (sc 5 (sc 13 (sc 88 sn))))))
  clear f10 a9 f11 a11 f12 f13 a12 f14 a14 f15
  refine f16.splitD 88 rfl (fun h0 f17 => ?_) (fun h0 f17 => ?_)
  ·refine C.condT f17 rfl ?_
   obtain ⟨J14, hJ14⟩ : ∃ J : Act → World → Prop, J = fun a W => Kept [g] w W ∧ Blk W g0 28 zeroPk ∧ PaAt W B g ⟨r.textR.2.l, !decide (r.textR.1 = mqtt) || r.textR.2.lk⟩ ∧ Blk W g1 28 (({ kind := c / 16 } : Pk).cells s0) ∧ PkM B w W { kind := c / 16 } s0 ∧ Fr 206 a [(1, .pointer (some ⟨g, 0, none⟩)), (4, .pointer (some ⟨g0, 0, none⟩)), (5, .pointer (some ⟨g1, 0, none⟩))] := ⟨_, rfl⟩
   clear f16
   refine C.cut J14 ?_ ?_
   ·skip
    refine C.sk fun K4 hK4 => ?_
    refine L.mv f17 fun a18 f18 => ?_
    obtain ⟨csg, BGO⟩ := RD.bk
    refine L.cl f18 (run_call Tryd.call84 (args1 f18 rfl)) (ptext_any B g _ _ RD) ?_
    clear f17 a15
    rintro e w4 ⟨v4, r4, e4, hv4, rfl, RDn, kc4⟩
    clear RD
    refine ⟨_, rfl, fun a19 f19 => ?_⟩
    have szw4 := kc4.size
    replace HK := HK.trans kc4 (ktr (by simp))
    replace Bg0 := Bg0.kept kc4 (by simp; omega)
    replace BP := BP.kept kc4 (by simp; omega)
    replace PN := (by exact PN.kept1 kc4 BGO (by decide) (by omega))
    clear f18 a18 kc4
    have RD := RDn
    clear RDn BGO
    refine L.va f19 (E.neqS f19 rfl rfl) fun a20 f20 => ?_
    refine wpList_nil (hK4 _ _ ?_)
    have f21 := f20.sub (sc 1 (sc 4 (sc 5 (sc 92 sn))))
    clear f19 a19 f20
    refine f21.splitN 92 rfl (fun h1 f22 => ?_) (fun h1 f22 => ?_)
    ·have hq : ¬ v4 = mqtt := h1
     refine C.condT f22 rfl ?_
     obtain ⟨hBg_, Ap, cp, at_, F, BG, SG, h1_, h2_, h3_, h4_⟩ := id RD
     refine C.region ?_
     refine L.mv f22 fun a23 f23 => ?_
     refine L.va f23 (E.nilCheck f23 rfl) fun a24 f24 => ?_
     refine L.fa 2 f24 U99 rfl wsz4_wh fun a25 f25 => ?_
     refine L.store f25 wantedN wsz4_wh rfl rfl rfl BG (by (simp [Value.cells]; done)) fun a26 w5 f26 NB5 ks5 => ?_
     have szw5 := ks5.size
     replace HK := HK.trans ks5 (ktr (by simp))
     replace Bg0 := Bg0.kept ks5 (by simp; omega)
     replace BP := BP.kept ks5 (by simp; omega)
     replace PN := (by exact PN.kept1 ks5 BG (by decide) (by omega))
     replace SG := SG.kept1 ks5 BG (by decide) (by omega)
     replace BG := NB5
     simp only [Value.cells, z1, z2, z3, Nat.reduceAdd, Nat.zero_add] at BG
     clear f21 f22 a20 f23 a23 f24 a24 ks5 f25 a25
     have RDn : PaAt w5 B g ⟨r.textR.2.l, !decide (r.textR.1 = mqtt) || r.textR.2.lk⟩ := by rw [e4]; simp only [hq, decide_false, Bool.not_false, Bool.true_or]; exact ⟨hBg_, Ap, cp, at_, F, BG, SG, h1_, h2_, h3_, h4_⟩
     exact wpList_nil (then_of (J := J14) (Q := fun _ _ _ => True) (by rw [hJ14]; exact ⟨HK, Bg0, RDn, BP, PN, f26.sub (sub_cons rfl (sub_cons rfl (sub_cons rfl sn)))⟩))
    have hq : v4 = mqtt := h1
    refine C.condF f22 rfl ?_
    have RDn : PaAt w4 B g ⟨r.textR.2.l, !decide (r.textR.1 = mqtt) || r.textR.2.lk⟩ := by rw [e4]; simp only [hq, decide_true, Bool.not_true, Bool.false_or]; exact RD
    exact wp_skip (then_of (J := J14) (Q := fun _ _ _ => True) (by rw [hJ14]; exact ⟨HK, Bg0, RDn, BP, PN, f22.sub (sub_cons rfl (sub_cons rfl (sub_cons rfl sn)))⟩))
   intro a18 w4 hj
   rw [hJ14] at hj
   clear hJ14 J14
   obtain ⟨HK, Bg0, RD, BP, PN, f18⟩ := hj
   try clear f17
   try clear BG
   try clear SG
   obtain ⟨t0, ht0⟩ : ∃ t : Rd, t = ⟨r.textR.2.l, !decide (r.textR.1 = mqtt) || r.textR.2.lk⟩ := ⟨_, rfl⟩
   rw [← ht0] at RD
   replace BP : Blk w4 g1 28 #[.int .i64 ({ kind := c / 16 } : Pk).kind, .bool ({ kind := c / 16 } : Pk).dup, .bool ({ kind := c / 16 } : Pk).retain, .int .i64 ({ kind := c / 16 } : Pk).qos, .int .i64 ({ kind := c / 16 } : Pk).id, .string ({ kind := c / 16 } : Pk).topic, .slice s0.pa ({ kind := c / 16 } : Pk).pay.length s0.pc, .int .i64 ({ kind := c / 16 } : Pk).level, .string ({ kind := c / 16 } : Pk).client, .bool ({ kind := c / 16 } : Pk).clean, .int .i64 ({ kind := c / 16 } : Pk).keep, .bool ({ kind := c / 16 } : Pk).hasWill, .string ({ kind := c / 16 } : Pk).wt, .slice s0.wa ({ kind := c / 16 } : Pk).wp.length s0.wc, .int .i64 ({ kind := c / 16 } : Pk).wq, .bool ({ kind := c / 16 } : Pk).wr, .bool ({ kind := c / 16 } : Pk).hasUser, .bool ({ kind := c / 16 } : Pk).hasPass, .string ({ kind := c / 16 } : Pk).user, .slice s0.sa ({ kind := c / 16 } : Pk).pass.length s0.sc, .bool ({ kind := c / 16 } : Pk).present, .int .i64 ({ kind := c / 16 } : Pk).code, .slice s0.ua ({ kind := c / 16 } : Pk).subs.length s0.uc, .slice s0.ca ({ kind := c / 16 } : Pk).codes.length s0.cc] := BP
   refine C.sk fun K5 hK5 => ?_
   refine L.mv f18 fun a19 f19 => ?_
   obtain ⟨csg, BGO⟩ := RD.bk
   refine L.cl f19 (run_call Tryd.call85 (args2 f19 rfl rfl)) (pnum_any 1 B g _ _ RD (by decide)) ?_
   clear f18 a18
   rintro e w5 ⟨v5, r5, e5, hv5, hw5, rfl, RDn, kc5⟩
   clear RD
   refine ⟨_, rfl, fun a20 f20 => ?_⟩
   have szw5 := kc5.size
   replace HK := HK.trans kc5 (ktr (by simp))
   replace Bg0 := Bg0.kept kc5 (by simp; omega)
   replace BP := BP.kept kc5 (by simp; omega)
   replace PN := (by exact PN.kept1 kc5 BGO (by decide) (by omega))
   clear f19 a19 kc5
   have RD := RDn
   clear RDn BGO
   refine L.fa 7 f20 U28 rfl wsz3_wh fun a21 f21 => ?_
   refine L.store f21 wantedN wsz3_wh rfl rfl rfl BP (by (simp [Value.cells]; done)) fun a22 w6 f22 NB6 ks6 => ?_
   have szw6 := ks6.size
   replace HK := HK.trans ks6 (ktr (by omega))
   replace Bg0 := Bg0.kept ks6 (by simp; omega)
   replace PN := (by exact PN.kept1 ks6 BP (by decide) (by omega))
   replace RD := RD.kept1 ks6 (by omega) (by omega) BP (by decide)
   replace BP := NB6
   simp only [Value.cells, z1, z2, z3, Nat.reduceAdd, Nat.zero_add] at BP
   clear f20 a20 ks6 f21 a21
   refine wpList_nil (hK5 _ _ ?_)
   have f23 := f22.sub (sc 1 (sc 4 (sc 5 sn)))
   refine C.sk fun K6 hK6 => ?_
   refine L.mv f23 fun a24 f24 => ?_
   obtain ⟨csg, BGO⟩ := RD.bk
   refine L.cl f24 (run_call Tryd.call85 (args2 f24 rfl rfl)) (pnum_any 1 B g _ _ RD (by decide)) ?_
   clear f22 f23 a22
   rintro e w7 ⟨v7, r7, e7, hv7, hw7, rfl, RDn, kc7⟩
   clear RD
   refine ⟨_, rfl, fun a25 f25 => ?_⟩
   have szw7 := kc7.size
   replace HK := HK.trans kc7 (ktr (by simp))
   replace Bg0 := Bg0.kept kc7 (by simp; omega)
   replace PN := (by exact PN.kept1 kc7 BGO (by decide) (by omega))
   replace BP := BP.kept kc7 (by simp; omega)
   clear f24 a24 kc7
   have RD := RDn
   clear RDn BGO
   have hw_ := hw7 rfl
   refine L.ag f25 fun a26 f26 => ?_
   refine wpList_nil (hK6 _ _ ?_)
   have f27 := f26.sub (sc 1 (sc 4 (sc 5 (sc 6 sn))))
   refine C.sk fun K7 hK7 => ?_
   refine L.mv f27 fun a28 f28 => ?_
   obtain ⟨csg, BGO⟩ := RD.bk
   refine L.cl f28 (run_call Tryd.call85 (args2 f28 rfl rfl)) (pnum_any 2 B g _ _ RD (by decide)) ?_
   clear f25 a25 f26 f27 a26
   rintro e w8 ⟨v8, r8, e8, hv8, hw8, rfl, RDn, kc8⟩
   clear RD
   refine ⟨_, rfl, fun a29 f29 => ?_⟩
   have szw8 := kc8.size
   replace HK := HK.trans kc8 (ktr (by simp))
   replace Bg0 := Bg0.kept kc8 (by simp; omega)
   replace PN := (by exact PN.kept1 kc8 BGO (by decide) (by omega))
   replace BP := BP.kept kc8 (by simp; omega)
   clear f28 a28 kc8
   have RD := RDn
   clear RDn BGO
   refine L.fa 10 f29 U28 rfl wsz3_wh fun a30 f30 => ?_
   refine L.store f30 wantedN wsz3_wh rfl rfl rfl BP (by (simp [Value.cells]; done)) fun a31 w9 f31 NB9 ks9 => ?_
   have szw9 := ks9.size
   replace HK := HK.trans ks9 (ktr (by omega))
   replace Bg0 := Bg0.kept ks9 (by simp; omega)
   replace PN := (by exact PN.kept1 ks9 BP (by decide) (by omega))
   replace RD := RD.kept1 ks9 (by omega) (by omega) BP (by decide)
   replace BP := NB9
   simp only [Value.cells, z1, z2, z3, Nat.reduceAdd, Nat.zero_add] at BP
   clear f29 a29 ks9 f30 a30
   refine wpList_nil (hK7 _ _ ?_)
   have f32 := f31.sub (sc 1 (sc 4 (sc 5 (sc 6 sn))))
   refine C.sk fun K8 hK8 => ?_
   refine L.mv f32 fun a33 f33 => ?_
   obtain ⟨csg, BGO⟩ := RD.bk
   refine L.cl f33 (run_call Tryd.call84 (args1 f33 rfl)) (ptext_any B g _ _ RD) ?_
   clear f31 f32 a31
   rintro e w10 ⟨v10, r10, e10, hv10, rfl, RDn, kc10⟩
   clear RD
   refine ⟨_, rfl, fun a34 f34 => ?_⟩
   have szw10 := kc10.size
   replace HK := HK.trans kc10 (ktr (by simp))
   replace Bg0 := Bg0.kept kc10 (by simp; omega)
   replace PN := (by exact PN.kept1 kc10 BGO (by decide) (by omega))
   replace BP := BP.kept kc10 (by simp; omega)
   clear f33 a33 kc10
   have RD := RDn
   clear RDn BGO
   refine L.fa 8 f34 U28 rfl wsz9_wh fun a35 f35 => ?_
   refine L.store f35 wantedN wsz9_wh rfl rfl rfl BP (by (simp [Value.cells]; done)) fun a36 w11 f36 NB11 ks11 => ?_
   have szw11 := ks11.size
   replace HK := HK.trans ks11 (ktr (by omega))
   replace Bg0 := Bg0.kept ks11 (by simp; omega)
   replace PN := (by exact PN.kept1 ks11 BP (by decide) (by omega))
   replace RD := RD.kept1 ks11 (by omega) (by omega) BP (by decide)
   replace BP := NB11
   simp only [Value.cells, z1, z2, z3, Nat.reduceAdd, Nat.zero_add] at BP
   clear f34 a34 ks11 f35 a35
   refine wpList_nil (hK8 _ _ ?_)
   have f37 := f36.sub (sc 1 (sc 4 (sc 5 (sc 6 sn))))
   refine C.sk fun K9 hK9 => ?_
   refine L.mv f37 fun a38 f38 => ?_
   refine L.va f38 (E.and f38 rfl rfl (andi_2 (by omega) (by omega))) fun a39 f39 => ?_
   refine L.va f39 (E.neq f39 rfl rfl) fun a40 f40 => ?_
   refine L.mv f40 fun a41 f41 => ?_
   refine L.va f41 (E.and f41 rfl rfl (andi_4 (by omega) (by omega))) fun a42 f42 => ?_
   refine L.va f42 (E.neq f42 rfl rfl) fun a43 f43 => ?_
   refine L.mv f43 fun a44 f44 => ?_
   clear f36 f37 a36 f38 a38 f39 a39 f40 a40 f41 a41 f42 a42 f43 a43
   refine L.va f44 (E.and f44 rfl rfl (andi_64 (by omega) (by omega))) fun a45 f45 => ?_
   refine L.va f45 (E.neq f45 rfl rfl) fun a46 f46 => ?_
   refine L.mv f46 fun a47 f47 => ?_
   refine L.va f47 (E.and f47 rfl rfl (andi_128 (by omega) (by omega))) fun a48 f48 => ?_
   refine L.va f48 (E.neq f48 rfl rfl) fun a49 f49 => ?_
   refine L.fa 9 f49 U28 rfl wsz4_wh fun a50 f50 => ?_
   refine L.store f50 wantedN wsz4_wh rfl rfl rfl BP (by (simp [Value.cells]; done)) fun a51 w12 f51 NB12 ks12 => ?_
   have szw12 := ks12.size
   replace HK := HK.trans ks12 (ktr (by omega))
   replace Bg0 := Bg0.kept ks12 (by simp; omega)
   replace PN := (by exact PN.kept1 ks12 BP (by decide) (by omega))
   replace RD := RD.kept1 ks12 (by omega) (by omega) BP (by decide)
   replace BP := NB12
   simp only [Value.cells, z1, z2, z3, Nat.reduceAdd, Nat.zero_add] at BP
   clear f44 a44 f45 a45 f46 a46 f47 a47 f48 a48 f49 a49 ks12 f50 a50
   refine L.fa 11 f51 U28 rfl wsz4_wh fun a52 f52 => ?_
   refine L.store f52 wantedN wsz4_wh rfl rfl rfl BP (by (simp [Value.cells]; done)) fun a53 w13 f53 NB13 ks13 => ?_
   have szw13 := ks13.size
   replace HK := HK.trans ks13 (ktr (by omega))
   replace Bg0 := Bg0.kept ks13 (by simp; omega)
   replace PN := (by exact PN.kept1 ks13 BP (by decide) (by omega))
   replace RD := RD.kept1 ks13 (by omega) (by omega) BP (by decide)
   replace BP := NB13
   simp only [Value.cells, z1, z2, z3, Nat.reduceAdd, Nat.zero_add] at BP
   clear f51 a51 ks13 f52 a52
   refine L.fa 17 f53 U28 rfl wsz4_wh fun a54 f54 => ?_
   refine L.store f54 wantedN wsz4_wh rfl rfl rfl BP (by (simp [Value.cells]; done)) fun a55 w14 f55 NB14 ks14 => ?_
   have szw14 := ks14.size
   replace HK := HK.trans ks14 (ktr (by omega))
   replace Bg0 := Bg0.kept ks14 (by simp; omega)
   replace PN := (by exact PN.kept1 ks14 BP (by decide) (by omega))
   replace RD := RD.kept1 ks14 (by omega) (by omega) BP (by decide)
   replace BP := NB14
   simp only [Value.cells, z1, z2, z3, Nat.reduceAdd, Nat.zero_add] at BP
   clear f53 a53 ks14 f54 a54
   refine L.fa 16 f55 U28 rfl wsz4_wh fun a56 f56 => ?_
   refine L.store f56 wantedN wsz4_wh rfl rfl rfl BP (by (simp [Value.cells]; done)) fun a57 w15 f57 NB15 ks15 => ?_
   have szw15 := ks15.size
   replace HK := HK.trans ks15 (ktr (by omega))
   replace Bg0 := Bg0.kept ks15 (by simp; omega)
   replace PN := (by exact PN.kept1 ks15 BP (by decide) (by omega))
   replace RD := RD.kept1 ks15 (by omega) (by omega) BP (by decide)
   replace BP := NB15
   simp only [Value.cells, z1, z2, z3, Nat.reduceAdd, Nat.zero_add] at BP
   clear f55 a55 ks15 f56 a56
   refine wpList_nil (hK9 _ _ ?_)
   have f58 := f57.sub (sc 1 (sc 4 (sc 5 (sc 6 sn))))
   obtain ⟨J20, hJ20⟩ : ∃ J : Act → World → Prop, J = fun a W => ∃ p1 r1, connHeadR { kind := c / 16 } r = (p1, r1) ∧ Kept [g] w W ∧ Blk W g0 28 zeroPk ∧ PaAt W B g r1 ∧ Blk W g1 28 (p1.cells s0) ∧ PkM B w W p1 s0 ∧ Fr 206 a [(1, .pointer (some ⟨g, 0, none⟩)), (4, .pointer (some ⟨g0, 0, none⟩)), (5, .pointer (some ⟨g1, 0, none⟩))] := ⟨_, rfl⟩
   clear f57
   refine C.cut J20 ?_ ?_
   ·skip
    refine C.region ?_
    refine L.mv f58 fun a59 f59 => ?_
    refine L.va f59 (E.shrN f59 rfl rfl (by decide) (by decide) (show _ / 2 ^ (3 : Int).toNat = _ / 8 from rfl)) fun a60 f60 => ?_
    refine L.va f60 (E.and f60 rfl rfl (andi_3 (by omega) (by omega))) fun a61 f61 => ?_
    refine L.mv f61 fun a62 f62 => ?_
    refine L.va f62 (E.and f62 rfl rfl (andi_32 (by omega) (by omega))) fun a63 f63 => ?_
    refine L.va f63 (E.neq f63 rfl rfl) fun a64 f64 => ?_
    refine L.fa 12 f64 U28 rfl wsz24_wh fun a65 f65 => ?_
    clear f58 a57 f59 a59 f60 a60 f61 a61 f62 a62 f63 a63 f64 a64
    refine L.fa 2 f65 U24 rfl wsz3_wh fun a66 f66 => ?_
    refine L.store f66 wantedN wsz3_wh rfl rfl rfl BP (by (simp [Value.cells]; done)) fun a67 w16 f67 NB16 ks16 => ?_
    have szw16 := ks16.size
    replace HK := HK.trans ks16 (ktr (by omega))
    replace Bg0 := Bg0.kept ks16 (by simp; omega)
    replace PN := (by exact PN.kept1 ks16 BP (by decide) (by omega))
    replace RD := RD.kept1 ks16 (by omega) (by omega) BP (by decide)
    replace BP := NB16
    simp only [Value.cells, z1, z2, z3, Nat.reduceAdd, Nat.zero_add] at BP
    clear f65 a65 ks16 f66 a66
    refine L.fa 12 f67 U28 rfl wsz24_wh fun a68 f68 => ?_
    refine L.fa 3 f68 U24 rfl wsz4_wh fun a69 f69 => ?_
    refine L.store f69 wantedN wsz4_wh rfl rfl rfl BP (by (simp [Value.cells]; done)) fun a70 w17 f70 NB17 ks17 => ?_
    have szw17 := ks17.size
    replace HK := HK.trans ks17 (ktr (by omega))
    replace Bg0 := Bg0.kept ks17 (by simp; omega)
    replace PN := (by exact PN.kept1 ks17 BP (by decide) (by omega))
    replace RD := RD.kept1 ks17 (by omega) (by omega) BP (by decide)
    replace BP := NB17
    simp only [Value.cells, z1, z2, z3, Nat.reduceAdd, Nat.zero_add] at BP
    clear f67 a67 f68 a68 ks17 f69 a69
    have hH : connHeadR { kind := c / 16 } r = (({ kind := c / 16, level := (v5 : Int), keep := (v8 : Int), client := v10, clean := bitI v7 2, hasWill := bitI v7 4, hasUser := bitI v7 128, hasPass := bitI v7 64, wq := (v7 : Int) / 8 % 4, wr := bitI v7 32 } : Pk), r10) := by unfold connHeadR; simp only [← ht0, e5, e7, e8, e10]
    rw [bit_ne v7 2 (by omega), bit_ne v7 4 (by omega), bit_ne v7 128 (by omega), bit_ne v7 64 (by omega), bit_ne v7 32 (by omega)] at BP
    exact wpList_nil (then_of (J := J20) (Q := fun _ _ _ => True) (by rw [hJ20]; exact ⟨({ kind := c / 16, level := (v5 : Int), keep := (v8 : Int), client := v10, clean := bitI v7 2, hasWill := bitI v7 4, hasUser := bitI v7 128, hasPass := bitI v7 64, wq := (v7 : Int) / 8 % 4, wr := bitI v7 32 } : Pk), r10, hH, HK, Bg0, RD, BP, ⟨PN.pay, PN.wp, PN.pass, PN.subs, PN.codes⟩, f70.sub (sub_cons rfl (sub_cons rfl (sub_cons rfl sn)))⟩))
   intro a59 w16 hj
   rw [hJ20] at hj
   clear hJ20 J20
   obtain ⟨p1, r1, hH, HK, Bg0, RD, BP, PN, f59⟩ := hj
   try clear f58
   replace BP : Blk w16 g1 28 #[.int .i64 p1.kind, .bool p1.dup, .bool p1.retain, .int .i64 p1.qos, .int .i64 p1.id, .string p1.topic, .slice s0.pa p1.pay.length s0.pc, .int .i64 p1.level, .string p1.client, .bool p1.clean, .int .i64 p1.keep, .bool p1.hasWill, .string p1.wt, .slice s0.wa p1.wp.length s0.wc, .int .i64 p1.wq, .bool p1.wr, .bool p1.hasUser, .bool p1.hasPass, .string p1.user, .slice s0.sa p1.pass.length s0.sc, .bool p1.present, .int .i64 p1.code, .slice s0.ua p1.subs.length s0.uc, .slice s0.ca p1.codes.length s0.cc] := BP
   obtain ⟨J23, hJ23⟩ : ∃ J : Act → World → Prop, J = fun a W => ∃ p2 r2 A2 c2, connWillR p1 r1 = (p2, r2) ∧ Kept [g] w W ∧ Blk W g0 28 zeroPk ∧ PaAt W B g r2 ∧ Blk W g1 28 (p2.cells ({ s0 with wa := A2, wc := c2 } : Ad)) ∧ PkM B w W p2 ({ s0 with wa := A2, wc := c2 } : Ad) ∧ Fr 206 a [(1, .pointer (some ⟨g, 0, none⟩)), (4, .pointer (some ⟨g0, 0, none⟩)), (5, .pointer (some ⟨g1, 0, none⟩))] := ⟨_, rfl⟩
   refine C.cut J23 ?_ ?_
   ·skip
    refine C.sk fun K10 hK10 => ?_
    refine L.fa 11 f59 U28 rfl wsz4_wh fun a60 f60 => ?_
    refine L.ld f60 U4 BP fun a61 f61 => ?_
    refine wpList_nil (hK10 _ _ ?_)
    have f62 := f61.sub (sc 1 (sc 4 (sc 5 (sc 134 sn))))
    clear f59 a59 f60 a60 f61
    refine f62.split 134 rfl (fun h2 f63 => ?_) (fun h2 f63 => ?_)
    ·have hw := h2
     refine C.condT f63 rfl ?_
     refine C.sk fun K11 hK11 => ?_
     refine L.mv f63 fun a64 f64 => ?_
     obtain ⟨csg, BGO⟩ := RD.bk
     refine L.cl f64 (run_call Tryd.call84 (args1 f64 rfl)) (ptext_any B g _ _ RD) ?_
     clear f62 f63 a61
     rintro e w17 ⟨v17, r17, e17, hv17, rfl, RDn, kc17⟩
     clear RD
     refine ⟨_, rfl, fun a65 f65 => ?_⟩
     have szw17 := kc17.size
     replace HK := HK.trans kc17 (ktr (by simp))
     replace Bg0 := Bg0.kept kc17 (by simp; omega)
     replace BP := BP.kept kc17 (by simp; omega)
     replace PN := (by exact PN.kept1 kc17 BGO (by decide) (by omega))
     clear f64 a64 kc17
     have RD := RDn
     clear RDn BGO
     refine L.fa 12 f65 U28 rfl wsz24_wh fun a66 f66 => ?_
     refine L.fa 0 f66 U24 rfl wsz9_wh fun a67 f67 => ?_
     refine L.store f67 wantedN wsz9_wh rfl rfl rfl BP (by (simp [Value.cells]; done)) fun a68 w18 f68 NB18 ks18 => ?_
     have szw18 := ks18.size
     replace HK := HK.trans ks18 (ktr (by omega))
     replace Bg0 := Bg0.kept ks18 (by simp; omega)
     replace PN := (by exact PN.kept1 ks18 BP (by decide) (by omega))
     replace RD := RD.kept1 ks18 (by omega) (by omega) BP (by decide)
     replace BP := NB18
     simp only [Value.cells, z1, z2, z3, Nat.reduceAdd, Nat.zero_add] at BP
     clear f65 a65 f66 a66 ks18 f67 a67
     refine wpList_nil (hK11 _ _ ?_)
     have f69 := f68.sub (sc 1 (sc 4 (sc 5 sn)))
     refine C.region ?_
     refine L.mv f69 fun a70 f70 => ?_
     obtain ⟨csg, BGO⟩ := RD.bk
     refine L.cl f70 (run_call Tryd.call84 (args1 f70 rfl)) (ptext_any B g _ _ RD) ?_
     clear f68 f69 a68
     rintro e w19 ⟨v19, r19, e19, hv19, rfl, RDn, kc19⟩
     clear RD
     refine ⟨_, rfl, fun a71 f71 => ?_⟩
     have szw19 := kc19.size
     replace HK := HK.trans kc19 (ktr (by simp))
     replace Bg0 := Bg0.kept kc19 (by simp; omega)
     replace PN := (by exact PN.kept1 kc19 BGO (by decide) (by omega))
     replace BP := BP.kept kc19 (by simp; omega)
     clear f70 a70 kc19
     have RD := RDn
     clear RDn BGO
     refine L.convSB2 B f71 wantedN (by decide) U9 U22 U5 rfl (by omega) fun a72 w20 cb20 AB20 f72 hcb20 BS20 kcv => ?_
     have szw20 := kcv.size
     replace HK := HK.trans kcv (by simp)
     replace Bg0 := Bg0.kept kcv (by simp)
     replace PN := PN.kept0 kcv
     replace BP := BP.kept kcv (by simp)
     replace RD := RD.kept0 kcv
     clear f71 a71 kcv
     refine L.fa 12 f72 U28 rfl wsz24_wh fun a73 f73 => ?_
     refine L.fa 1 f73 U24 rfl wsz22_wh fun a74 f74 => ?_
     refine L.store f74 wantedN wsz22_wh rfl rfl rfl BP (by (simp [Value.cells]; done)) fun a75 w21 f75 NB21 ks21 => ?_
     have szw21 := ks21.size
     replace HK := HK.trans ks21 (ktr (by omega))
     replace Bg0 := Bg0.kept ks21 (by simp; omega)
     replace PN := (by exact PN.kept1 ks21 BP (by decide) (by omega))
     replace RD := RD.kept1 ks21 (by omega) (by omega) BP (by decide)
     replace BS20 := BS20.kept1 ks21 BP (by decide) (by omega)
     replace BP := NB21
     simp only [Value.cells, z1, z2, z3, Nat.reduceAdd, Nat.zero_add] at BP
     clear f72 a72 f73 a73 ks21 f74 a74
     exact wpList_nil (then_of (J := J23) (Q := fun _ _ _ => True) (by rw [hJ23]; exact ⟨{ p1 with wt := v17, wp := v19.toList }, r19, AB20, cb20, by unfold connWillR; rw [if_pos hw]; simp only [e17, lumpR_of_text e19], HK, Bg0, RD, BP, ⟨PN.pay, BS20, PN.pass, PN.subs, PN.codes⟩, f75.sub (sub_cons rfl (sub_cons rfl (sub_cons rfl sn)))⟩))
    have hw := h2
    refine C.condF f63 rfl ?_
    exact wp_skip (then_of (J := J23) (Q := fun _ _ _ => True) (by rw [hJ23]; exact ⟨p1, r1, none, 0, by unfold connWillR; rw [if_neg (by rw [hw]; decide)], HK, Bg0, RD, BP, PN, f63.sub (sub_cons rfl (sub_cons rfl (sub_cons rfl sn)))⟩))
   intro a60 w17 hj
   rw [hJ23] at hj
   clear hJ23 J23
   obtain ⟨p2, r2, A2, c2, hW2, HK, Bg0, RD, BP, PN, f60⟩ := hj
   try clear f59
   replace BP : Blk w17 g1 28 #[.int .i64 p2.kind, .bool p2.dup, .bool p2.retain, .int .i64 p2.qos, .int .i64 p2.id, .string p2.topic, .slice ({ s0 with wa := A2, wc := c2 } : Ad).pa p2.pay.length ({ s0 with wa := A2, wc := c2 } : Ad).pc, .int .i64 p2.level, .string p2.client, .bool p2.clean, .int .i64 p2.keep, .bool p2.hasWill, .string p2.wt, .slice ({ s0 with wa := A2, wc := c2 } : Ad).wa p2.wp.length ({ s0 with wa := A2, wc := c2 } : Ad).wc, .int .i64 p2.wq, .bool p2.wr, .bool p2.hasUser, .bool p2.hasPass, .string p2.user, .slice ({ s0 with wa := A2, wc := c2 } : Ad).sa p2.pass.length ({ s0 with wa := A2, wc := c2 } : Ad).sc, .bool p2.present, .int .i64 p2.code, .slice ({ s0 with wa := A2, wc := c2 } : Ad).ua p2.subs.length ({ s0 with wa := A2, wc := c2 } : Ad).uc, .slice ({ s0 with wa := A2, wc := c2 } : Ad).ca p2.codes.length ({ s0 with wa := A2, wc := c2 } : Ad).cc] := BP
   obtain ⟨J25, hJ25⟩ : ∃ J : Act → World → Prop, J = fun a W => ∃ p3 r3, connUserR p2 r2 = (p3, r3) ∧ Kept [g] w W ∧ Blk W g0 28 zeroPk ∧ PaAt W B g r3 ∧ Blk W g1 28 (p3.cells ({ s0 with wa := A2, wc := c2 } : Ad)) ∧ PkM B w W p3 ({ s0 with wa := A2, wc := c2 } : Ad) ∧ Fr 206 a [(1, .pointer (some ⟨g, 0, none⟩)), (4, .pointer (some ⟨g0, 0, none⟩)), (5, .pointer (some ⟨g1, 0, none⟩))] := ⟨_, rfl⟩
   refine C.cut J25 ?_ ?_
   ·skip
    refine C.sk fun K12 hK12 => ?_
    refine L.fa 16 f60 U28 rfl wsz4_wh fun a61 f61 => ?_
    refine L.ld f61 U4 BP fun a62 f62 => ?_
    refine wpList_nil (hK12 _ _ ?_)
    have f63 := f62.sub (sc 1 (sc 4 (sc 5 (sc 145 sn))))
    clear f60 a60 f61 a61 f62
    refine f63.split 145 rfl (fun h3 f64 => ?_) (fun h3 f64 => ?_)
    ·have hw := h3
     refine C.condT f64 rfl ?_
     refine C.region ?_
     refine L.mv f64 fun a65 f65 => ?_
     obtain ⟨csg, BGO⟩ := RD.bk
     refine L.cl f65 (run_call Tryd.call84 (args1 f65 rfl)) (ptext_any B g _ _ RD) ?_
     clear f63 f64 a62
     rintro e w18 ⟨v18, r18, e18, hv18, rfl, RDn, kc18⟩
     clear RD
     refine ⟨_, rfl, fun a66 f66 => ?_⟩
     have szw18 := kc18.size
     replace HK := HK.trans kc18 (ktr (by simp))
     replace Bg0 := Bg0.kept kc18 (by simp; omega)
     replace BP := BP.kept kc18 (by simp; omega)
     replace PN := (by exact PN.kept1 kc18 BGO (by decide) (by omega))
     clear f65 a65 kc18
     have RD := RDn
     clear RDn BGO
     refine L.fa 18 f66 U28 rfl wsz9_wh fun a67 f67 => ?_
     refine L.store f67 wantedN wsz9_wh rfl rfl rfl BP (by (simp [Value.cells]; done)) fun a68 w19 f68 NB19 ks19 => ?_
     have szw19 := ks19.size
     replace HK := HK.trans ks19 (ktr (by omega))
     replace Bg0 := Bg0.kept ks19 (by simp; omega)
     replace PN := (by exact PN.kept1 ks19 BP (by decide) (by omega))
     replace RD := RD.kept1 ks19 (by omega) (by omega) BP (by decide)
     replace BP := NB19
     simp only [Value.cells, z1, z2, z3, Nat.reduceAdd, Nat.zero_add] at BP
     clear f66 a66 ks19 f67 a67
     exact wpList_nil (then_of (J := J25) (Q := fun _ _ _ => True) (by rw [hJ25]; exact ⟨{ p2 with user := v18 }, r18, by unfold connUserR; rw [if_pos hw]; simp only [e18], HK, Bg0, RD, BP, ⟨PN.pay, PN.wp, PN.pass, PN.subs, PN.codes⟩, f68.sub (sub_cons rfl (sub_cons rfl (sub_cons rfl sn)))⟩))
    have hw := h3
    refine C.condF f64 rfl ?_
    exact wp_skip (then_of (J := J25) (Q := fun _ _ _ => True) (by rw [hJ25]; exact ⟨p2, r2, by unfold connUserR; rw [if_neg (by rw [hw]; decide)], HK, Bg0, RD, BP, PN, f64.sub (sub_cons rfl (sub_cons rfl (sub_cons rfl sn)))⟩))
   intro a61 w18 hj
   rw [hJ25] at hj
   clear hJ25 J25
   obtain ⟨p3, r3, hW3, HK, Bg0, RD, BP, PN, f61⟩ := hj
   try clear f60
   replace BP : Blk w18 g1 28 #[.int .i64 p3.kind, .bool p3.dup, .bool p3.retain, .int .i64 p3.qos, .int .i64 p3.id, .string p3.topic, .slice ({ s0 with wa := A2, wc := c2 } : Ad).pa p3.pay.length ({ s0 with wa := A2, wc := c2 } : Ad).pc, .int .i64 p3.level, .string p3.client, .bool p3.clean, .int .i64 p3.keep, .bool p3.hasWill, .string p3.wt, .slice ({ s0 with wa := A2, wc := c2 } : Ad).wa p3.wp.length ({ s0 with wa := A2, wc := c2 } : Ad).wc, .int .i64 p3.wq, .bool p3.wr, .bool p3.hasUser, .bool p3.hasPass, .string p3.user, .slice ({ s0 with wa := A2, wc := c2 } : Ad).sa p3.pass.length ({ s0 with wa := A2, wc := c2 } : Ad).sc, .bool p3.present, .int .i64 p3.code, .slice ({ s0 with wa := A2, wc := c2 } : Ad).ua p3.subs.length ({ s0 with wa := A2, wc := c2 } : Ad).uc, .slice ({ s0 with wa := A2, wc := c2 } : Ad).ca p3.codes.length ({ s0 with wa := A2, wc := c2 } : Ad).cc] := BP
   refine C.sk fun K13 hK13 => ?_
   refine L.fa 17 f61 U28 rfl wsz4_wh fun a62 f62 => ?_
   refine L.ld f62 U4 BP fun a63 f63 => ?_
   refine wpList_nil (hK13 _ _ ?_)
   have f64 := f63.sub (sc 1 (sc 4 (sc 5 (sc 150 sn))))
   clear f61 a61 f62 a62 f63
   refine f64.split 150 rfl (fun h4 f65 => ?_) (fun h4 f65 => ?_)
   ·have hw := h4
    refine C.condT f65 rfl ?_
    refine C.region ?_
    refine L.mv f65 fun a66 f66 => ?_
    obtain ⟨csg, BGO⟩ := RD.bk
    refine L.cl f66 (run_call Tryd.call84 (args1 f66 rfl)) (ptext_any B g _ _ RD) ?_
    clear f64 f65 a63
    rintro e w19 ⟨v19, r19, e19, hv19, rfl, RDn, kc19⟩
    clear RD
    refine ⟨_, rfl, fun a67 f67 => ?_⟩
    have szw19 := kc19.size
    replace HK := HK.trans kc19 (ktr (by simp))
    replace Bg0 := Bg0.kept kc19 (by simp; omega)
    replace BP := BP.kept kc19 (by simp; omega)
    replace PN := (by exact PN.kept1 kc19 BGO (by decide) (by omega))
    clear f66 a66 kc19
    have RD := RDn
    clear RDn BGO
    refine L.convSB2 B f67 wantedN (by decide) U9 U22 U5 rfl (by omega) fun a68 w20 cb20 AB20 f68 hcb20 BS20 kcv => ?_
    have szw20 := kcv.size
    replace HK := HK.trans kcv (by simp)
    replace Bg0 := Bg0.kept kcv (by simp)
    replace BP := BP.kept kcv (by simp)
    replace PN := PN.kept0 kcv
    replace RD := RD.kept0 kcv
    clear f67 a67 kcv
    refine L.fa 19 f68 U28 rfl wsz22_wh fun a69 f69 => ?_
    refine L.store f69 wantedN wsz22_wh rfl rfl rfl BP (by (simp [Value.cells]; done)) fun a70 w21 f70 NB21 ks21 => ?_
    have szw21 := ks21.size
    replace HK := HK.trans ks21 (ktr (by omega))
    replace Bg0 := Bg0.kept ks21 (by simp; omega)
    replace PN := (by exact PN.kept1 ks21 BP (by decide) (by omega))
    replace RD := RD.kept1 ks21 (by omega) (by omega) BP (by decide)
    replace BS20 := BS20.kept1 ks21 BP (by decide) (by omega)
    replace BP := NB21
    simp only [Value.cells, z1, z2, z3, Nat.reduceAdd, Nat.zero_add] at BP
    clear f68 a68 ks21 f69 a69
    exact wpList_nil (then_of (J := J39) (Q := fun _ _ _ => True) (by rw [hJ39]; exact ⟨{ p3 with pass := v19.toList }, r19, { s0 with wa := A2, wc := c2, sa := AB20, sc := cb20 }, by unfold parsedR; rw [if_pos (by omega)]; unfold connR connPassR; simp only [hH, hW2, hW3]; rw [if_pos hw]; simp only [lumpR_of_text e19], HK, Bg0, RD, BP, ⟨PN.pay, PN.wp, BS20, PN.subs, PN.codes⟩, f70.sub (sub_cons rfl (sub_cons rfl sn))⟩))
   have hw := h4
   refine C.condF f65 rfl ?_
   exact wp_skip (then_of (J := J39) (Q := fun _ _ _ => True) (by rw [hJ39]; exact ⟨p3, r3, { s0 with wa := A2, wc := c2 }, by unfold parsedR; rw [if_pos (by omega)]; unfold connR connPassR; simp only [hH, hW2, hW3]; rw [if_neg (by rw [hw]; decide)], HK, Bg0, RD, BP, PN, f65.sub (sub_cons rfl (sub_cons rfl sn))⟩))
  refine C.condF f17 rfl ?_
  refine C.sk fun K14 hK14 => ?_
  refine L.va f17 (E.eq f17) fun a18 f18 => ?_
  refine L.ag f18 fun a19 f19 => ?_
  refine wpList_nil (hK14 _ _ ?_)
  have f20 := f19.sub (sc 0 (sc 1 (sc 4 (sc 5 (sc 13 (sc 155 sn))))))
  clear f16 f17 a15 f18 a18 f19
  refine f20.splitD 155 rfl (fun h5 f21 => ?_) (fun h5 f21 => ?_)
  ·refine C.condT f21 rfl ?_
   refine C.sk fun K15 hK15 => ?_
   refine L.mv f21 fun a22 f22 => ?_
   obtain ⟨csg, BGO⟩ := RD.bk
   refine L.cl f22 (run_call Tryd.call85 (args2 f22 rfl rfl)) (pnum_any 1 B g _ _ RD (by decide)) ?_
   clear f20 f21 a19
   rintro e w4 ⟨v4, r4, e4, hv4, hw4, rfl, RDn, kc4⟩
   clear RD
   refine ⟨_, rfl, fun a23 f23 => ?_⟩
   have szw4 := kc4.size
   replace HK := HK.trans kc4 (ktr (by simp))
   replace Bg0 := Bg0.kept kc4 (by simp; omega)
   replace BP := BP.kept kc4 (by simp; omega)
   replace PN := (by exact PN.kept1 kc4 BGO (by decide) (by omega))
   clear f22 a22 kc4
   have RD := RDn
   clear RDn BGO
   refine L.va f23 (E.eq f23) fun a24 f24 => ?_
   refine L.fa 20 f24 U28 rfl wsz4_wh fun a25 f25 => ?_
   refine L.store f25 wantedN wsz4_wh rfl rfl rfl BP (by (simp [Value.cells]; done)) fun a26 w5 f26 NB5 ks5 => ?_
   have szw5 := ks5.size
   replace HK := HK.trans ks5 (ktr (by omega))
   replace Bg0 := Bg0.kept ks5 (by simp; omega)
   replace PN := (by exact PN.kept1 ks5 BP (by decide) (by omega))
   replace RD := RD.kept1 ks5 (by omega) (by omega) BP (by decide)
   replace BP := NB5
   simp only [Value.cells, z1, z2, z3, Nat.reduceAdd, Nat.zero_add] at BP
   clear f23 a23 f24 a24 ks5 f25 a25
   refine wpList_nil (hK15 _ _ ?_)
   have f27 := f26.sub (sc 1 (sc 4 (sc 5 sn)))
   refine C.region ?_
   refine L.mv f27 fun a28 f28 => ?_
   obtain ⟨csg, BGO⟩ := RD.bk
   refine L.cl f28 (run_call Tryd.call85 (args2 f28 rfl rfl)) (pnum_any 1 B g _ _ RD (by decide)) ?_
   clear f26 f27 a26
   rintro e w6 ⟨v6, r6, e6, hv6, hw6, rfl, RDn, kc6⟩
   clear RD
   refine ⟨_, rfl, fun a29 f29 => ?_⟩
   have szw6 := kc6.size
   replace HK := HK.trans kc6 (ktr (by simp))
   replace Bg0 := Bg0.kept kc6 (by simp; omega)
   replace PN := (by exact PN.kept1 kc6 BGO (by decide) (by omega))
   replace BP := BP.kept kc6 (by simp; omega)
   clear f28 a28 kc6
   have RD := RDn
   clear RDn BGO
   refine L.fa 21 f29 U28 rfl wsz3_wh fun a30 f30 => ?_
   refine L.store f30 wantedN wsz3_wh rfl rfl rfl BP (by (simp [Value.cells]; done)) fun a31 w7 f31 NB7 ks7 => ?_
   have szw7 := ks7.size
   replace HK := HK.trans ks7 (ktr (by omega))
   replace Bg0 := Bg0.kept ks7 (by simp; omega)
   replace PN := (by exact PN.kept1 ks7 BP (by decide) (by omega))
   replace RD := RD.kept1 ks7 (by omega) (by omega) BP (by decide)
   replace BP := NB7
   simp only [Value.cells, z1, z2, z3, Nat.reduceAdd, Nat.zero_add] at BP
   clear f29 a29 ks7 f30 a30
   exact wpList_nil (then_of (J := J39) (Q := fun _ _ _ => True) (by rw [hJ39]; exact ⟨{ kind := c / 16, present := decide ((v4 : Int) = 1), code := (v6 : Int) }, r6, s0, by unfold parsedR; rw [if_neg (by omega), if_pos (by omega)]; simp only [e4, e6], HK, Bg0, RD, BP, ⟨PN.pay, PN.wp, PN.pass, PN.subs, PN.codes⟩, f31.sub (sub_cons rfl (sub_cons rfl sn))⟩))
  refine C.condF f21 rfl ?_
  refine C.sk fun K16 hK16 => ?_
  refine L.va f21 (E.eq f21) fun a22 f22 => ?_
  refine L.ag f22 fun a23 f23 => ?_
  refine wpList_nil (hK16 _ _ ?_)
  have f24 := f23.sub (sc 0 (sc 1 (sc 4 (sc 5 (sc 13 (sc 164 sn))))))
  clear f20 f21 a19 f22 a22 f23
  refine f24.splitD 164 rfl (fun h6 f25 => ?_) (fun h6 f25 => ?_)
  ·refine C.condT f25 rfl ?_
   refine C.sk fun K17 hK17 => ?_
   refine L.mv f25 fun a26 f26 => ?_
   refine L.va f26 (E.and f26 rfl rfl (and8_8 (by omega) (by omega))) fun a27 f27 => ?_
   refine L.va f27 (E.neq f27 rfl rfl) fun a28 f28 => ?_
   refine L.mv f28 fun a29 f29 => ?_
   refine L.va f29 (E.shrN f29 rfl rfl (by decide) (by decide) (show _ / 2 ^ (1 : Int).toNat = _ / 2 from rfl)) fun a30 f30 => ?_
   refine L.va f30 (E.and f30 rfl rfl (and8_3 (by omega) (by omega))) fun a31 f31 => ?_
   refine L.va f31 (E.conv f31 U5 U3 rfl (IntWalk.i64_in _ (by omega))) fun a32 f32 => ?_
   clear f24 f25 a23 f26 a26 f27 a27 f28 a28 f29 a29 f30 a30 f31 a31
   refine L.mv f32 fun a33 f33 => ?_
   refine L.va f33 (E.and f33 rfl rfl (and8_1 (by omega) (by omega))) fun a34 f34 => ?_
   refine L.va f34 (E.neq f34 rfl rfl) fun a35 f35 => ?_
   refine L.fa 1 f35 U28 rfl wsz4_wh fun a36 f36 => ?_
   refine L.store f36 wantedN wsz4_wh rfl rfl rfl BP (by (simp [Value.cells]; done)) fun a37 w4 f37 NB4 ks4 => ?_
   have szw4 := ks4.size
   replace HK := HK.trans ks4 (ktr (by omega))
   replace RD := RD.kept1 ks4 (by omega) (by omega) BP (by decide)
   replace Bg0 := Bg0.kept ks4 (by simp; omega)
   replace PN := (by exact PN.kept1 ks4 BP (by decide) (by omega))
   replace BP := NB4
   simp only [Value.cells, z1, z2, z3, Nat.reduceAdd, Nat.zero_add] at BP
   clear f32 a32 f33 a33 f34 a34 f35 a35 ks4 f36 a36
   refine L.fa 3 f37 U28 rfl wsz3_wh fun a38 f38 => ?_
   refine L.store f38 wantedN wsz3_wh rfl rfl rfl BP (by (simp [Value.cells]; done)) fun a39 w5 f39 NB5 ks5 => ?_
   have szw5 := ks5.size
   replace HK := HK.trans ks5 (ktr (by omega))
   replace RD := RD.kept1 ks5 (by omega) (by omega) BP (by decide)
   replace Bg0 := Bg0.kept ks5 (by simp; omega)
   replace PN := (by exact PN.kept1 ks5 BP (by decide) (by omega))
   replace BP := NB5
   simp only [Value.cells, z1, z2, z3, Nat.reduceAdd, Nat.zero_add] at BP
   clear f37 a37 ks5 f38 a38
   refine L.fa 2 f39 U28 rfl wsz4_wh fun a40 f40 => ?_
   refine L.store f40 wantedN wsz4_wh rfl rfl rfl BP (by (simp [Value.cells]; done)) fun a41 w6 f41 NB6 ks6 => ?_
   have szw6 := ks6.size
   replace HK := HK.trans ks6 (ktr (by omega))
   replace RD := RD.kept1 ks6 (by omega) (by omega) BP (by decide)
   replace Bg0 := Bg0.kept ks6 (by simp; omega)
   replace PN := (by exact PN.kept1 ks6 BP (by decide) (by omega))
   replace BP := NB6
   simp only [Value.cells, z1, z2, z3, Nat.reduceAdd, Nat.zero_add] at BP
   clear f39 a39 ks6 f40 a40
   refine wpList_nil (hK17 _ _ ?_)
   have f42 := f41.sub (sc 1 (sc 4 (sc 5 sn)))
   refine wp_seq_k fun K18 hK18 => ?_
   rw [bit_ne c 8 (by omega), bit_1 c] at BP
   refine C.region ?_
   refine L.mv f42 fun a43 f43 => ?_
   obtain ⟨csg, BGO⟩ := RD.bk
   refine L.cl f43 (run_call Tryd.call84 (args1 f43 rfl)) (ptext_any B g _ _ RD) ?_
   clear f41 f42 a41
   rintro e w7 ⟨v7, r7, e7, hv7, rfl, RDn, kc7⟩
   clear RD
   refine ⟨_, rfl, fun a44 f44 => ?_⟩
   have szw7 := kc7.size
   replace HK := HK.trans kc7 (ktr (by simp))
   replace Bg0 := Bg0.kept kc7 (by simp; omega)
   replace PN := (by exact PN.kept1 kc7 BGO (by decide) (by omega))
   replace BP := BP.kept kc7 (by simp; omega)
   clear f43 a43 kc7
   have RD := RDn
   clear RDn BGO
   refine L.fa 5 f44 U28 rfl wsz9_wh fun a45 f45 => ?_
   refine L.store f45 wantedN wsz9_wh rfl rfl rfl BP (by (simp [Value.cells]; done)) fun a46 w8 f46 NB8 ks8 => ?_
   have szw8 := ks8.size
   replace HK := HK.trans ks8 (ktr (by omega))
   replace Bg0 := Bg0.kept ks8 (by simp; omega)
   replace PN := (by exact PN.kept1 ks8 BP (by decide) (by omega))
   replace RD := RD.kept1 ks8 (by omega) (by omega) BP (by decide)
   replace BP := NB8
   simp only [Value.cells, z1, z2, z3, Nat.reduceAdd, Nat.zero_add] at BP
   clear f44 a44 ks8 f45 a45
   refine wpList_nil (hK18 _ _ ?_)
   have f47 := f46.sub (sc 1 (sc 4 (sc 5 sn)))
   refine wp_seq_k fun K19 hK19 => ?_
   refine C.sk fun K20 hK20 => ?_
   refine L.fa 3 f47 U28 rfl wsz3_wh fun a48 f48 => ?_
   refine L.ld f48 U3 BP fun a49 f49 => ?_
   refine L.va f49 (E.gtr f49 rfl rfl) fun a50 f50 => ?_
   refine wpList_nil (hK20 _ _ ?_)
   have f51 := f50.sub (sc 1 (sc 4 (sc 5 (sc 184 sn))))
   clear f46 f47 a46 f48 a48 f49 a49 f50
   refine f51.splitD 184 rfl (fun h7 f52 => ?_) (fun h7 f52 => ?_)
   ·refine C.condT f52 rfl ?_
    refine C.region ?_
    refine L.mv f52 fun a53 f53 => ?_
    obtain ⟨csg, BGO⟩ := RD.bk
    refine L.cl f53 (run_call Tryd.call85 (args2 f53 rfl rfl)) (pnum_any 2 B g _ _ RD (by decide)) ?_
    clear f51 f52 a50
    rintro e w9 ⟨v9, r9, e9, hv9, hw9, rfl, RDn, kc9⟩
    clear RD
    refine ⟨_, rfl, fun a54 f54 => ?_⟩
    have szw9 := kc9.size
    replace HK := HK.trans kc9 (ktr (by simp))
    replace Bg0 := Bg0.kept kc9 (by simp; omega)
    replace PN := (by exact PN.kept1 kc9 BGO (by decide) (by omega))
    replace BP := BP.kept kc9 (by simp; omega)
    clear f53 a53 kc9
    have RD := RDn
    clear RDn BGO
    refine L.fa 4 f54 U28 rfl wsz3_wh fun a55 f55 => ?_
    refine L.store f55 wantedN wsz3_wh rfl rfl rfl BP (by (simp [Value.cells]; done)) fun a56 w10 f56 NB10 ks10 => ?_
    have szw10 := ks10.size
    replace HK := HK.trans ks10 (ktr (by omega))
    replace Bg0 := Bg0.kept ks10 (by simp; omega)
    replace PN := (by exact PN.kept1 ks10 BP (by decide) (by omega))
    replace RD := RD.kept1 ks10 (by omega) (by omega) BP (by decide)
    replace BP := NB10
    simp only [Value.cells, z1, z2, z3, Nat.reduceAdd, Nat.zero_add] at BP
    clear f54 a54 ks10 f55 a55
    refine wpList_nil (hK19 _ _ ?_)
    have f57 := f56.sub (sc 1 (sc 4 (sc 5 sn)))
    obtain ⟨hBg_, Ap, cp, at_, F, BG, SG, h1_, h2_, h3_, h4_⟩ := id RD
    have hrl : r9.l.length = F.length - at_ := by rw [← h3_, List.length_drop]
    have hd35 : Kept [] w10 (w10.drewN 1) := (Kept.refl _ _).drewN 1
    refine R.beginT (S := fun _ => True) (by kernel_rfl) (by kernel_rfl) trivial fun ht => ?_
    obtain ⟨w11, hww11⟩ : ∃ W, W = w10.drewN 1 := ⟨_, rfl⟩
    rw [← hww11] at hd35 ⊢
    clear f56 hww11
    have szw11 := hd35.size
    replace HK := HK.trans hd35 (by simp)
    replace Bg0 := Bg0.kept hd35 (by simp)
    replace PN := PN.kept0 hd35
    replace RD := RD.kept0 hd35
    replace BP := BP.kept hd35 (by simp)
    replace BG := BG.kept hd35 (by simp)
    clear hd35
    refine R.u 0 f57 rfl ht trivial (fun W hW => (E.move f57 rfl)) fun a58 f58 => ?_
    refine R.u 1 f58 rfl ht trivial (fun W hW => (E.move f58 rfl)) fun a59 f59 => ?_
    refine R.u 2 f59 rfl ht trivial (fun W hW => (E.nilCheck f59 rfl)) fun a60 f60 => ?_
    refine R.u 3 f60 rfl ht trivial (fun W hW => (E.fa 0 f60 U99 rfl wsz22_wh)) fun a61 f61 => ?_
    refine R.u 6 f61 rfl ht trivial (fun W hW => (E.move f61 rfl)) fun a62 f62 => ?_
    refine R.u 7 f62 rfl ht trivial (fun W hW => (E.nilCheck f62 rfl)) fun a63 f63 => ?_
    refine R.u 8 f63 rfl ht trivial (fun W hW => (E.fa 1 f63 U99 rfl wsz3_wh)) fun a64 f64 => ?_
    clear f57 a56 f58 a58 f59 a59 f60 a60 f61 a61 f62 a62 f63 a63
    refine R.two 4 9 (by kernel_rfl) ?_ ?_
    ·skip
     refine O.val f64 rfl rfl (by decide) wantedN (by exact E.ld f64 U22 (BG)) trivial fun a65 f65 => ?_
     refine R.u 5 f65 rfl ht trivial (fun W hW => (E.lenL f65 U22 rfl)) fun a66 f66 => ?_
     refine R.one 9 (by kernel_rfl) ?_
     refine O.val f66 rfl rfl (by decide) wantedN (by exact E.ld f66 U3 (BG)) trivial fun a67 f67 => ?_
     refine R.one 10 (by kernel_rfl) ?_
     refine O.val f67 rfl rfl (by decide) wantedN (E.sub (r := ((r9.l.length : Nat) : Int)) f67 rfl rfl ((IntWalk.i64_in _ (by omega)).trans (by omega))) trivial fun a68 f68 => ?_
     refine R.one 11 (by kernel_rfl) ?_
     obtain ⟨csg, BGO⟩ := RD.bk
     refine O.call f68 rfl rfl (by decide) wantedN (run_call Tryd.call86 (args2 f68 rfl rfl)) (ptake_any _ B g _ _ RD (by omega)) ?_
     clear f64 a64 f65 a65 f66 a66 f67 a67
     rintro e w12 ⟨kc12, A12, c12, rfl, S12, RDn⟩
     clear RD
     refine ⟨_, rfl, trivial, fun a69 f69 => ?_⟩
     have szw12 := kc12.size
     replace HK := HK.trans kc12 (ktr (by simp))
     replace Bg0 := Bg0.kept kc12 (by simp; omega)
     replace PN := (by exact PN.kept1 kc12 BGO (by decide) (by omega))
     replace BP := BP.kept kc12 (by simp; omega)
     clear f68 a68 kc12
     have RD := RDn
     clear RDn BGO
     refine R.u 12 f69 rfl ht trivial (fun W hW => (E.fa 6 f69 U28 rfl wsz22_wh)) fun a70 f70 => ?_
     refine R.one 13 (by kernel_rfl) ?_
     refine OT.store f70 rfl wantedN wsz22_wh rfl rfl rfl BP (by (simp [Value.cells]; done)) fun a71 w13 f71 NB13 ks13 => ?_
     have szw13 := ks13.size
     replace HK := HK.trans ks13 (ktr (by omega))
     replace Bg0 := Bg0.kept ks13 (by simp; omega)
     replace PN := (by exact PN.kept1 ks13 BP (by decide) (by omega))
     replace RD := RD.kept1 ks13 (by omega) (by omega) BP (by decide)
     replace S12 := S12.kept1 ks13 BP (by decide) (by omega)
     replace BP := NB13
     simp only [Value.cells, z1, z2, z3, Nat.reduceAdd, Nat.zero_add] at BP
     clear f69 a69 ks13 f70 a70
     exact R.done (by kernel_rfl) (then_of (J := J39) (Q := fun _ _ _ => True) (by rw [hJ39]; exact ⟨{ kind := c / 16, dup := bitI c 8, qos := c / 2 % 4, retain := bitI c 1, topic := v7, id := (v9 : Int), pay := (r9.takeR r9.l.length).1 }, (r9.takeR r9.l.length).2, { s0 with pa := A12, pc := c12 }, by unfold parsedR; rw [if_neg (by omega), if_neg (by omega), if_pos (by omega)]; simp only [e7]; rw [if_pos (by omega)]; simp only [e9], HK, Bg0, RD, BP, ⟨S12, PN.wp, PN.pass, PN.subs, PN.codes⟩, f71.sub (sub_cons rfl (sub_cons rfl sn))⟩))
    skip
    refine O.val f64 rfl rfl (by decide) wantedN (by exact E.ld f64 U3 (BG)) trivial fun a65 f65 => ?_
    refine R.one 4 (by kernel_rfl) ?_
    refine O.val f65 rfl rfl (by decide) wantedN (by exact E.ld f65 U22 (BG)) trivial fun a66 f66 => ?_
    refine R.u 5 f66 rfl ht trivial (fun W hW => (E.lenL f66 U22 rfl)) fun a67 f67 => ?_
    refine R.one 10 (by kernel_rfl) ?_
    refine O.val f67 rfl rfl (by decide) wantedN (E.sub (r := ((r9.l.length : Nat) : Int)) f67 rfl rfl ((IntWalk.i64_in _ (by omega)).trans (by omega))) trivial fun a68 f68 => ?_
    refine R.one 11 (by kernel_rfl) ?_
    obtain ⟨csg, BGO⟩ := RD.bk
    refine O.call f68 rfl rfl (by decide) wantedN (run_call Tryd.call86 (args2 f68 rfl rfl)) (ptake_any _ B g _ _ RD (by omega)) ?_
    clear f64 a64 f65 a65 f66 a66 f67 a67
    rintro e w12 ⟨kc12, A12, c12, rfl, S12, RDn⟩
    clear RD
    refine ⟨_, rfl, trivial, fun a69 f69 => ?_⟩
    have szw12 := kc12.size
    replace HK := HK.trans kc12 (ktr (by simp))
    replace Bg0 := Bg0.kept kc12 (by simp; omega)
    replace PN := (by exact PN.kept1 kc12 BGO (by decide) (by omega))
    replace BP := BP.kept kc12 (by simp; omega)
    clear f68 a68 kc12
    have RD := RDn
    clear RDn BGO
    refine R.u 12 f69 rfl ht trivial (fun W hW => (E.fa 6 f69 U28 rfl wsz22_wh)) fun a70 f70 => ?_
    refine R.one 13 (by kernel_rfl) ?_
    refine OT.store f70 rfl wantedN wsz22_wh rfl rfl rfl BP (by (simp [Value.cells]; done)) fun a71 w13 f71 NB13 ks13 => ?_
    have szw13 := ks13.size
    replace HK := HK.trans ks13 (ktr (by omega))
    replace Bg0 := Bg0.kept ks13 (by simp; omega)
    replace PN := (by exact PN.kept1 ks13 BP (by decide) (by omega))
    replace RD := RD.kept1 ks13 (by omega) (by omega) BP (by decide)
    replace S12 := S12.kept1 ks13 BP (by decide) (by omega)
    replace BP := NB13
    simp only [Value.cells, z1, z2, z3, Nat.reduceAdd, Nat.zero_add] at BP
    clear f69 a69 ks13 f70 a70
    exact R.done (by kernel_rfl) (then_of (J := J39) (Q := fun _ _ _ => True) (by rw [hJ39]; exact ⟨{ kind := c / 16, dup := bitI c 8, qos := c / 2 % 4, retain := bitI c 1, topic := v7, id := (v9 : Int), pay := (r9.takeR r9.l.length).1 }, (r9.takeR r9.l.length).2, { s0 with pa := A12, pc := c12 }, by unfold parsedR; rw [if_neg (by omega), if_neg (by omega), if_pos (by omega)]; simp only [e7]; rw [if_pos (by omega)]; simp only [e9], HK, Bg0, RD, BP, ⟨S12, PN.wp, PN.pass, PN.subs, PN.codes⟩, f71.sub (sub_cons rfl (sub_cons rfl sn))⟩))
   refine C.condF f52 rfl ?_
   refine wp_skip (hK19 _ _ ?_)
   have f53 := f52.sub (sc 1 (sc 4 (sc 5 sn)))
   obtain ⟨hBg_, Ap, cp, at_, F, BG, SG, h1_, h2_, h3_, h4_⟩ := id RD
   have hrl : r7.l.length = F.length - at_ := by rw [← h3_, List.length_drop]
   have hd35 : Kept [] w8 (w8.drewN 1) := (Kept.refl _ _).drewN 1
   refine R.beginT (S := fun _ => True) (by kernel_rfl) (by kernel_rfl) trivial fun ht => ?_
   obtain ⟨w9, hww9⟩ : ∃ W, W = w8.drewN 1 := ⟨_, rfl⟩
   rw [← hww9] at hd35 ⊢
   clear f51 f52 hww9
   have szw9 := hd35.size
   replace HK := HK.trans hd35 (by simp)
   replace Bg0 := Bg0.kept hd35 (by simp)
   replace PN := PN.kept0 hd35
   replace RD := RD.kept0 hd35
   replace BP := BP.kept hd35 (by simp)
   replace BG := BG.kept hd35 (by simp)
   clear hd35
   refine R.u 0 f53 rfl ht trivial (fun W hW => (E.move f53 rfl)) fun a54 f54 => ?_
   refine R.u 1 f54 rfl ht trivial (fun W hW => (E.move f54 rfl)) fun a55 f55 => ?_
   refine R.u 2 f55 rfl ht trivial (fun W hW => (E.nilCheck f55 rfl)) fun a56 f56 => ?_
   refine R.u 3 f56 rfl ht trivial (fun W hW => (E.fa 0 f56 U99 rfl wsz22_wh)) fun a57 f57 => ?_
   refine R.u 6 f57 rfl ht trivial (fun W hW => (E.move f57 rfl)) fun a58 f58 => ?_
   refine R.u 7 f58 rfl ht trivial (fun W hW => (E.nilCheck f58 rfl)) fun a59 f59 => ?_
   refine R.u 8 f59 rfl ht trivial (fun W hW => (E.fa 1 f59 U99 rfl wsz3_wh)) fun a60 f60 => ?_
   clear f53 a50 f54 a54 f55 a55 f56 a56 f57 a57 f58 a58 f59 a59
   refine R.two 4 9 (by kernel_rfl) ?_ ?_
   ·skip
    refine O.val f60 rfl rfl (by decide) wantedN (by exact E.ld f60 U22 (BG)) trivial fun a61 f61 => ?_
    refine R.u 5 f61 rfl ht trivial (fun W hW => (E.lenL f61 U22 rfl)) fun a62 f62 => ?_
    refine R.one 9 (by kernel_rfl) ?_
    refine O.val f62 rfl rfl (by decide) wantedN (by exact E.ld f62 U3 (BG)) trivial fun a63 f63 => ?_
    refine R.one 10 (by kernel_rfl) ?_
    refine O.val f63 rfl rfl (by decide) wantedN (E.sub (r := ((r7.l.length : Nat) : Int)) f63 rfl rfl ((IntWalk.i64_in _ (by omega)).trans (by omega))) trivial fun a64 f64 => ?_
    refine R.one 11 (by kernel_rfl) ?_
    obtain ⟨csg, BGO⟩ := RD.bk
    refine O.call f64 rfl rfl (by decide) wantedN (run_call Tryd.call86 (args2 f64 rfl rfl)) (ptake_any _ B g _ _ RD (by omega)) ?_
    clear f60 a60 f61 a61 f62 a62 f63 a63
    rintro e w10 ⟨kc10, A10, c10, rfl, S10, RDn⟩
    clear RD
    refine ⟨_, rfl, trivial, fun a65 f65 => ?_⟩
    have szw10 := kc10.size
    replace HK := HK.trans kc10 (ktr (by simp))
    replace Bg0 := Bg0.kept kc10 (by simp; omega)
    replace PN := (by exact PN.kept1 kc10 BGO (by decide) (by omega))
    replace BP := BP.kept kc10 (by simp; omega)
    clear f64 a64 kc10
    have RD := RDn
    clear RDn BGO
    refine R.u 12 f65 rfl ht trivial (fun W hW => (E.fa 6 f65 U28 rfl wsz22_wh)) fun a66 f66 => ?_
    refine R.one 13 (by kernel_rfl) ?_
    refine OT.store f66 rfl wantedN wsz22_wh rfl rfl rfl BP (by (simp [Value.cells]; done)) fun a67 w11 f67 NB11 ks11 => ?_
    have szw11 := ks11.size
    replace HK := HK.trans ks11 (ktr (by omega))
    replace Bg0 := Bg0.kept ks11 (by simp; omega)
    replace PN := (by exact PN.kept1 ks11 BP (by decide) (by omega))
    replace RD := RD.kept1 ks11 (by omega) (by omega) BP (by decide)
    replace S10 := S10.kept1 ks11 BP (by decide) (by omega)
    replace BP := NB11
    simp only [Value.cells, z1, z2, z3, Nat.reduceAdd, Nat.zero_add] at BP
    clear f65 a65 ks11 f66 a66
    exact R.done (by kernel_rfl) (then_of (J := J39) (Q := fun _ _ _ => True) (by rw [hJ39]; exact ⟨{ kind := c / 16, dup := bitI c 8, qos := c / 2 % 4, retain := bitI c 1, topic := v7, id := 0, pay := (r7.takeR r7.l.length).1 }, (r7.takeR r7.l.length).2, { s0 with pa := A10, pc := c10 }, by unfold parsedR; rw [if_neg (by omega), if_neg (by omega), if_pos (by omega)]; simp only [e7]; rw [if_neg (by omega)], HK, Bg0, RD, BP, ⟨S10, PN.wp, PN.pass, PN.subs, PN.codes⟩, f67.sub (sub_cons rfl (sub_cons rfl sn))⟩))
   skip
   refine O.val f60 rfl rfl (by decide) wantedN (by exact E.ld f60 U3 (BG)) trivial fun a61 f61 => ?_
   refine R.one 4 (by kernel_rfl) ?_
   refine O.val f61 rfl rfl (by decide) wantedN (by exact E.ld f61 U22 (BG)) trivial fun a62 f62 => ?_
   refine R.u 5 f62 rfl ht trivial (fun W hW => (E.lenL f62 U22 rfl)) fun a63 f63 => ?_
   refine R.one 10 (by kernel_rfl) ?_
   refine O.val f63 rfl rfl (by decide) wantedN (E.sub (r := ((r7.l.length : Nat) : Int)) f63 rfl rfl ((IntWalk.i64_in _ (by omega)).trans (by omega))) trivial fun a64 f64 => ?_
   refine R.one 11 (by kernel_rfl) ?_
   obtain ⟨csg, BGO⟩ := RD.bk
   refine O.call f64 rfl rfl (by decide) wantedN (run_call Tryd.call86 (args2 f64 rfl rfl)) (ptake_any _ B g _ _ RD (by omega)) ?_
   clear f60 a60 f61 a61 f62 a62 f63 a63
   rintro e w10 ⟨kc10, A10, c10, rfl, S10, RDn⟩
   clear RD
   refine ⟨_, rfl, trivial, fun a65 f65 => ?_⟩
   have szw10 := kc10.size
   replace HK := HK.trans kc10 (ktr (by simp))
   replace Bg0 := Bg0.kept kc10 (by simp; omega)
   replace PN := (by exact PN.kept1 kc10 BGO (by decide) (by omega))
   replace BP := BP.kept kc10 (by simp; omega)
   clear f64 a64 kc10
   have RD := RDn
   clear RDn BGO
   refine R.u 12 f65 rfl ht trivial (fun W hW => (E.fa 6 f65 U28 rfl wsz22_wh)) fun a66 f66 => ?_
   refine R.one 13 (by kernel_rfl) ?_
   refine OT.store f66 rfl wantedN wsz22_wh rfl rfl rfl BP (by (simp [Value.cells]; done)) fun a67 w11 f67 NB11 ks11 => ?_
   have szw11 := ks11.size
   replace HK := HK.trans ks11 (ktr (by omega))
   replace Bg0 := Bg0.kept ks11 (by simp; omega)
   replace PN := (by exact PN.kept1 ks11 BP (by decide) (by omega))
   replace RD := RD.kept1 ks11 (by omega) (by omega) BP (by decide)
   replace S10 := S10.kept1 ks11 BP (by decide) (by omega)
   replace BP := NB11
   simp only [Value.cells, z1, z2, z3, Nat.reduceAdd, Nat.zero_add] at BP
   clear f65 a65 ks11 f66 a66
   exact R.done (by kernel_rfl) (then_of (J := J39) (Q := fun _ _ _ => True) (by rw [hJ39]; exact ⟨{ kind := c / 16, dup := bitI c 8, qos := c / 2 % 4, retain := bitI c 1, topic := v7, id := 0, pay := (r7.takeR r7.l.length).1 }, (r7.takeR r7.l.length).2, { s0 with pa := A10, pc := c10 }, by unfold parsedR; rw [if_neg (by omega), if_neg (by omega), if_pos (by omega)]; simp only [e7]; rw [if_neg (by omega)], HK, Bg0, RD, BP, ⟨S10, PN.wp, PN.pass, PN.subs, PN.codes⟩, f67.sub (sub_cons rfl (sub_cons rfl sn))⟩))
  refine C.condF f25 rfl ?_
  refine wp_seq_k fun K21 hK21 => ?_
  refine C.sk fun K22 hK22 => ?_
  refine L.va f25 (E.eq f25) fun a26 f26 => ?_
  refine L.ag f26 fun a27 f27 => ?_
  refine wpList_nil (hK22 _ _ ?_)
  have f28 := f27.sub (sc 1 (sc 4 (sc 5 (sc 13 (sc 201 sn)))))
  clear f24 f25 a23 f26 a26 f27
  refine f28.splitD 201 rfl (fun h8 f29 => ?_) (fun h8 f29 => ?_)
  ·refine C.condT f29 rfl ?_
   refine wp_skip (hK21 _ _ ?_)
   have f30 := f29.sub (sc 1 (sc 4 (sc 5 (sc 201 sn))))
   refine C.condT f30 rfl ?_
   exact wp_skip (then_of (J := J39) (Q := fun _ _ _ => True) (by rw [hJ39]; exact ⟨{ kind := c / 16 }, r, s0, by unfold parsedR; rw [if_neg (by omega), if_neg (by omega), if_neg (by omega), if_pos (by rw [inB_iff]; omega)], HK, Bg0, RD, BP, PN, f30.sub (sub_cons rfl (sub_cons rfl sn))⟩))
  refine C.condF f29 rfl ?_
  refine C.sk fun K23 hK23 => ?_
  refine L.va f29 (E.eq f29) fun a30 f30 => ?_
  refine L.ag f30 fun a31 f31 => ?_
  refine wpList_nil (hK23 _ _ ?_)
  have f32 := f31.sub (sc 1 (sc 4 (sc 5 (sc 13 (sc 201 sn)))))
  clear f28 f29 a27 f30 a30 f31
  refine f32.splitD 201 rfl (fun h9 f33 => ?_) (fun h9 f33 => ?_)
  ·refine C.condT f33 rfl ?_
   refine wp_skip (hK21 _ _ ?_)
   have f34 := f33.sub (sc 1 (sc 4 (sc 5 (sc 201 sn))))
   refine C.condT f34 rfl ?_
   exact wp_skip (then_of (J := J39) (Q := fun _ _ _ => True) (by rw [hJ39]; exact ⟨{ kind := c / 16 }, r, s0, by unfold parsedR; rw [if_neg (by omega), if_neg (by omega), if_neg (by omega), if_pos (by rw [inB_iff]; omega)], HK, Bg0, RD, BP, PN, f34.sub (sub_cons rfl (sub_cons rfl sn))⟩))
  refine C.condF f33 rfl ?_
  refine C.region ?_
  refine L.va f33 (E.eq f33) fun a34 f34 => ?_
  refine L.ag f34 fun a35 f35 => ?_
  refine wpList_nil (hK21 _ _ ?_)
  have f36 := f35.sub (sc 1 (sc 4 (sc 5 (sc 201 sn))))
  clear f32 f33 a31 f34 a34 f35
  refine f36.splitD 201 rfl (fun h10 f37 => ?_) (fun h10 f37 => ?_)
  ·refine C.condT f37 rfl ?_
   exact wp_skip (then_of (J := J39) (Q := fun _ _ _ => True) (by rw [hJ39]; exact ⟨{ kind := c / 16 }, r, s0, by unfold parsedR; rw [if_neg (by omega), if_neg (by omega), if_neg (by omega), if_pos (by rw [inB_iff]; omega)], HK, Bg0, RD, BP, PN, f37.sub (sub_cons rfl (sub_cons rfl sn))⟩))
  refine C.condF f37 rfl ?_
  obtain ⟨J4, hJ4⟩ : ∃ J : Act → World → Prop, J = fun a W => ∃ p1 r1, parsedR c r = loopC (loopS r1.l.length p1 r1).2.l.length (loopS r1.l.length p1 r1).1 (loopS r1.l.length p1 r1).2 ∧ p1.kind = c / 16 ∧ p1.subs = [] ∧ p1.codes = [] ∧ Kept [g] w W ∧ Blk W g0 28 zeroPk ∧ PaAt W B g r1 ∧ Blk W g1 28 (p1.cells s0) ∧ PkM B w W p1 s0 ∧ Fr 206 a [(1, .pointer (some ⟨g, 0, none⟩)), (4, .pointer (some ⟨g0, 0, none⟩)), (5, .pointer (some ⟨g1, 0, none⟩))] := ⟨_, rfl⟩
  clear f36
  refine C.cut J4 ?_ ?_
  ·skip
   refine C.region ?_
   refine L.mv f37 fun a38 f38 => ?_
   obtain ⟨csg, BGO⟩ := RD.bk
   refine L.cl f38 (run_call Tryd.call85 (args2 f38 rfl rfl)) (pnum_any 2 B g _ _ RD (by decide)) ?_
   clear f37 a35
   rintro e w4 ⟨v4, r4, e4, hv4, hw4, rfl, RDn, kc4⟩
   clear RD
   refine ⟨_, rfl, fun a39 f39 => ?_⟩
   have szw4 := kc4.size
   replace HK := HK.trans kc4 (ktr (by simp))
   replace Bg0 := Bg0.kept kc4 (by simp; omega)
   replace BP := BP.kept kc4 (by simp; omega)
   replace PN := (by exact PN.kept1 kc4 BGO (by decide) (by omega))
   clear f38 a38 kc4
   have RD := RDn
   clear RDn BGO
   refine L.fa 4 f39 U28 rfl wsz3_wh fun a40 f40 => ?_
   refine L.store f40 wantedN wsz3_wh rfl rfl rfl BP (by (simp [Value.cells]; done)) fun a41 w5 f41 NB5 ks5 => ?_
   have szw5 := ks5.size
   replace HK := HK.trans ks5 (ktr (by omega))
   replace Bg0 := Bg0.kept ks5 (by simp; omega)
   replace PN := (by exact PN.kept1 ks5 BP (by decide) (by omega))
   replace RD := RD.kept1 ks5 (by omega) (by omega) BP (by decide)
   replace BP := NB5
   simp only [Value.cells, z1, z2, z3, Nat.reduceAdd, Nat.zero_add] at BP
   clear f39 a39 ks5 f40 a40
   exact wpList_nil (then_of (J := J4) (Q := fun _ _ _ => True) (by rw [hJ4]; exact ⟨{ kind := c / 16, id := (v4 : Int) }, r4, by rw [parsed_else (by omega) (by omega) (by omega) (by unfold inB; simp; omega)]; simp only [e4], rfl, rfl, rfl, HK, Bg0, RD, BP, ⟨PN.pay, PN.wp, PN.pass, PN.subs, PN.codes⟩, f41.sub (sub_cons rfl (sub_cons rfl (sub_cons rfl sn)))⟩))
  intro a38 w4 hj
  rw [hJ4] at hj
  clear hJ4 J4
  obtain ⟨p1, r1, hR0, hk1, hs1, hc1, HK, Bg0, RD, BP, PN, f38⟩ := hj
  try clear f37
  have hrb := RD.len
  have hfit : p1.subs.length + p1.codes.length + mu r1 ≤ 100000000 := by have := mu_le r1; rw [hs1, hc1]; simp only [List.length_nil]; omega
  obtain ⟨J9, hJ9⟩ : ∃ J : Act → World → Prop, J = fun a W => ∃ pp rr ss, loopS r1.l.length p1 r1 = (pp, rr) ∧ pp.kind = c / 16 ∧ pp.subs.length + pp.codes.length + mu rr ≤ 100000000 ∧ Kept [g] w W ∧ Blk W g0 28 zeroPk ∧ PaAt W B g rr ∧ Blk W g1 28 (pp.cells ss) ∧ PkM B w W pp ss ∧ Fr 206 a [(1, .pointer (some ⟨g, 0, none⟩)), (4, .pointer (some ⟨g0, 0, none⟩)), (5, .pointer (some ⟨g1, 0, none⟩))] := ⟨_, rfl⟩
  refine C.cut J9 ?_ ?_
  ·skip
   refine wp_block ?_
   refine C.loop (fun gk a W => ∃ pp rr ss m, gk = mu rr ∧ mu rr ≤ m ∧ loopS m pp rr = loopS r1.l.length p1 r1 ∧ pp.kind = c / 16 ∧ pp.subs.length + pp.codes.length + mu rr ≤ 100000000 ∧ Kept [g] w W ∧ Blk W g0 28 zeroPk ∧ PaAt W B g rr ∧ Blk W g1 28 (pp.cells ss) ∧ PkM B w W pp ss ∧ Fr 206 a [(1, .pointer (some ⟨g, 0, none⟩)), (4, .pointer (some ⟨g0, 0, none⟩)), (5, .pointer (some ⟨g1, 0, none⟩))]) (mu r1) ?_ ?_
   ·exact ⟨p1, r1, s0, r1.l.length, rfl, mu_le r1, rfl, hk1, hfit, HK, Bg0, RD, BP, PN, f38.sub (sub_cons rfl (sub_cons rfl (sub_cons rfl sn)))⟩
   intro gk25 a39 w5 hI KL24 hKL24
   obtain ⟨pp, rr, ss, m, rfl, hm, hlp, hkp, hft, HK, Bg0, RD, BP, PN, f39⟩ := hI
   try clear f38
   obtain ⟨hBg_, Ap, cp, at_, F, BG, SG, h1_, h2_, h3_, h4_⟩ := id RD
   have hrl : rr.l.length = F.length - at_ := by rw [← h3_, List.length_drop]
   replace BP : Blk w5 g1 28 #[.int .i64 pp.kind, .bool pp.dup, .bool pp.retain, .int .i64 pp.qos, .int .i64 pp.id, .string pp.topic, .slice ss.pa pp.pay.length ss.pc, .int .i64 pp.level, .string pp.client, .bool pp.clean, .int .i64 pp.keep, .bool pp.hasWill, .string pp.wt, .slice ss.wa pp.wp.length ss.wc, .int .i64 pp.wq, .bool pp.wr, .bool pp.hasUser, .bool pp.hasPass, .string pp.user, .slice ss.sa pp.pass.length ss.sc, .bool pp.present, .int .i64 pp.code, .slice ss.ua pp.subs.length ss.uc, .slice ss.ca pp.codes.length ss.cc] := BP
   refine wp_seq_k fun K25 hK25 => ?_
   refine wp_seq_k fun K26 hK26 => ?_
   have hd4 : Kept [] w5 (w5.drewN 1) := (Kept.refl _ _).drewN 1
   refine R.beginT (S := fun W => (Kept [g] w W) ∧ (Blk W g1 28 #[.int .i64 pp.kind, .bool pp.dup, .bool pp.retain, .int .i64 pp.qos, .int .i64 pp.id, .string pp.topic, .slice ss.pa pp.pay.length ss.pc, .int .i64 pp.level, .string pp.client, .bool pp.clean, .int .i64 pp.keep, .bool pp.hasWill, .string pp.wt, .slice ss.wa pp.wp.length ss.wc, .int .i64 pp.wq, .bool pp.wr, .bool pp.hasUser, .bool pp.hasPass, .string pp.user, .slice ss.sa pp.pass.length ss.sc, .bool pp.present, .int .i64 pp.code, .slice ss.ua pp.subs.length ss.uc, .slice ss.ca pp.codes.length ss.cc]) ∧ (Blk W g 99 #[.slice Ap F.length cp, .int .i64 ((at_ : Nat) : Int), .bool rr.lk])) (by kernel_rfl) (by kernel_rfl) ⟨HK.trans hd4 (by simp), BP.kept hd4 (by simp), BG.kept hd4 (by simp)⟩ fun ht => ?_
   obtain ⟨w6, hww6⟩ : ∃ W, W = w5.drewN 1 := ⟨_, rfl⟩
   rw [← hww6] at hd4 ⊢
   clear hww6
   have szw6 := hd4.size
   replace HK := HK.trans hd4 (by simp)
   replace Bg0 := Bg0.kept hd4 (by simp)
   replace RD := RD.kept0 hd4
   replace BP := BP.kept hd4 (by simp)
   replace PN := PN.kept0 hd4
   replace BG := BG.kept hd4 (by simp)
   clear hd4
   refine R.u 0 f39 rfl ht ⟨HK, BP, BG⟩ (fun W hW => (E.fa 0 f39 U28 rfl wsz3_wh)) fun a40 f40 => ?_
   refine R.u 1 f40 rfl ht ⟨HK, BP, BG⟩ (fun W hW => (by exact E.ld f40 U3 (hW.2.1))) fun a41 f41 => ?_
   refine R.u 2 f41 rfl ht ⟨HK, BP, BG⟩ (fun W hW => (E.eq f41)) fun a42 f42 => ?_
   refine R.u 3 f42 rfl ht ⟨HK, BP, BG⟩ (fun W hW => (E.move f42 rfl)) fun a43 f43 => ?_
   clear f39 a39 f40 a40 f41 a41 f42 a42
   refine f43.splitD 20 rfl (fun h11 f44 => ?_) (fun h11 f44 => ?_)
   ·refine R.runT [4, 5, 6, 7, 8] #[true, true, true, true, true, true, true, true, true, false, false, false, false, false, false, false, false, false, false, false, false, false, false, false, false, false, false] f44 ht (fun _ _ _ _ h => h) ⟨HK, BP, BG⟩ (by kernel_rfl) fun a45 f45 => ?_
    have f46 := f45.sub (sub_cons (i := 1) (Fr.keptT f45 (by kernel_rfl) rfl) (sub_cons (i := 4) (Fr.keptT f45 (by kernel_rfl) rfl) (sub_cons (i := 5) (Fr.keptT f45 (by kernel_rfl) rfl) (sub_cons (i := 25) (v := .bool true) (by kernel_rfl) sn))))
    refine R.u 9 f46 rfl ht ⟨HK, BP, BG⟩ (fun W hW => (E.move f46 rfl)) (hw := (f46.yes rfl rfl)) fun a47 f47 => ?_
    refine R.u 10 f47 rfl ht ⟨HK, BP, BG⟩ (fun W hW => (E.nilCheck f47 rfl)) (hw := (f47.yes rfl rfl)) fun a48 f48 => ?_
    refine R.u 11 f48 rfl ht ⟨HK, BP, BG⟩ (fun W hW => (E.fa 2 f48 U99 rfl wsz4_wh)) (hw := (f48.yes rfl rfl)) fun a49 f49 => ?_
    refine R.u 12 f49 rfl ht ⟨HK, BP, BG⟩ (fun W hW => (by exact E.ld f49 U4 (hW.2.2))) (hw := (f49.yes rfl rfl)) fun a50 f50 => ?_
    refine R.u 13 f50 rfl ht ⟨HK, BP, BG⟩ (fun W hW => (E.not f50 rfl)) (hw := (f50.yes rfl rfl)) fun a51 f51 => ?_
    refine R.u 14 f51 rfl ht ⟨HK, BP, BG⟩ (fun W hW => (E.pickT f51 rfl rfl)) fun a52 f52 => ?_
    clear f43 f45 f44 f46 a45 f47 a47 f48 a48 f49 a49 f50 a50 f51 a51
    refine R.u 15 f52 rfl ht ⟨HK, BP, BG⟩ (fun W hW => (E.move f52 rfl)) fun a53 f53 => ?_
    clear f52 a52
    refine f53.splitNB 32 rfl (fun h12 f54 => ?_) (fun h12 f54 => ?_)
    ·refine R.u 16 f54 rfl ht ⟨HK, BP, BG⟩ (fun W hW => (E.move f54 rfl)) (hw := (f54.yes rfl rfl)) fun a55 f55 => ?_
     refine R.u 17 f55 rfl ht ⟨HK, BP, BG⟩ (fun W hW => (E.nilCheck f55 rfl)) (hw := (f55.yes rfl rfl)) fun a56 f56 => ?_
     refine R.u 18 f56 rfl ht ⟨HK, BP, BG⟩ (fun W hW => (E.fa 1 f56 U99 rfl wsz3_wh)) (hw := (f56.yes rfl rfl)) fun a57 f57 => ?_
     refine R.u 19 f57 rfl ht ⟨HK, BP, BG⟩ (fun W hW => (by exact E.ld f57 U3 (hW.2.2))) (hw := (f57.yes rfl rfl)) fun a58 f58 => ?_
     refine R.u 20 f58 rfl ht ⟨HK, BP, BG⟩ (fun W hW => (E.move f58 rfl)) (hw := (f58.yes rfl rfl)) fun a59 f59 => ?_
     refine R.u 21 f59 rfl ht ⟨HK, BP, BG⟩ (fun W hW => (E.nilCheck f59 rfl)) (hw := (f59.yes rfl rfl)) fun a60 f60 => ?_
     refine R.u 22 f60 rfl ht ⟨HK, BP, BG⟩ (fun W hW => (E.fa 0 f60 U99 rfl wsz22_wh)) (hw := (f60.yes rfl rfl)) fun a61 f61 => ?_
     clear f53 f54 a53 f55 a55 f56 a56 f57 a57 f58 a58 f59 a59 f60 a60
     refine R.u 23 f61 rfl ht ⟨HK, BP, BG⟩ (fun W hW => (by exact E.ld f61 U22 (hW.2.2))) (hw := (f61.yes rfl rfl)) fun a62 f62 => ?_
     refine R.u 24 f62 rfl ht ⟨HK, BP, BG⟩ (fun W hW => (E.lenL f62 U22 rfl)) (hw := (f62.yes rfl rfl)) fun a63 f63 => ?_
     refine R.u 25 f63 rfl ht ⟨HK, BP, BG⟩ (fun W hW => (E.lss f63 rfl rfl)) (hw := (f63.yes rfl rfl)) fun a64 f64 => ?_
     refine R.u 26 f64 rfl ht ⟨HK, BP, BG⟩ (fun W hW => (E.pickT f64 rfl rfl)) fun a65 f65 => ?_
     refine R.done (by kernel_rfl) (hK26 _ _ ?_)
     have f66 := f65.sub (sc 1 (sc 4 (sc 5 (sc 43 sn))))
     clear f61 a61 f62 a62 f63 a63 f64 a64 f65
     refine f66.splitD 43 rfl (fun h13 f67 => ?_) (fun h13 f67 => ?_)
     ·have hrk : rr.lk = false := by assumption
      have hr0 : rr.l ≠ [] := fun h0 => by rw [h0] at hrl; simp at hrl; omega
      have hmu := mu_pos hr0 hrk
      obtain ⟨m', rfl⟩ : ∃ m', m = m' + 1 := ⟨m - 1, by omega⟩
      refine C.condT f67 rfl ?_
      refine wp_skip (hK25 _ _ ?_)
      have f68 := f67.sub (sc 1 (sc 4 (sc 5 sn)))
      refine wp_block ?_
      refine C.sk fun K27 hK27 => ?_
      refine L.mv f68 fun a69 f69 => ?_
      obtain ⟨csg, BGO⟩ := RD.bk
      refine L.cl f69 (run_call Tryd.call84 (args1 f69 rfl)) (ptext_any B g _ _ RD) ?_
      clear f66 f67 f68 a65
      rintro e w7 ⟨v7, r7, e7, hv7, rfl, RDn, kc7⟩
      clear RD
      refine ⟨_, rfl, fun a70 f70 => ?_⟩
      have szw7 := kc7.size
      replace HK := HK.trans kc7 (ktr (by simp))
      replace Bg0 := Bg0.kept kc7 (by simp; omega)
      replace BP := BP.kept kc7 (by simp; omega)
      replace PN := (by exact PN.kept1 kc7 BGO (by decide) (by omega))
      clear f69 a69 kc7
      have RD := RDn
      clear RDn BGO
      have hx : mu r7 < mu rr := by have h := textR_mu hr0 hrk; rw [e7] at h; exact h
      refine L.va f70 (E.build f70 (parts1 f70 rfl) (wbl70_0_wh _)) fun a71 f71 => ?_
      refine L.alloc f71 wantedN (by decide) (z := (.agg #[(.string ⟨#[]⟩), (.int .i64 0)])) (fun _ => by kernel_rfl) rfl fun a72 w8 g7 N7 f72 => ?_
      have Bg7 := N7.blk
      have kg7 := N7.kept
      have log7 := N7.lo
      have ltg7 := Bg7.lt
      have szw8 := kg7.size
      have frg7 : w.heap.size ≤ g7 := Nat.le_trans HK.size log7
      have neg0_g7 : g0 ≠ g7 := by have := Bg0.lt; omega
      have neg1_g7 : g1 ≠ g7 := by have := BP.lt; omega
      have FNg7 := PN.far log7
      replace HK := HK.trans kg7 (by simp)
      replace Bg0 := Bg0.kept kg7 (by simp)
      replace BP := BP.kept kg7 (by simp)
      replace PN := PN.kept0 kg7
      replace RD := RD.kept0 kg7
      clear f70 a70 N7 kg7
      refine L.storeR f72 wantedN wsz70_wh rfl rfl rfl Bg7 rfl rfl fun a73 w9 f73 NB9 ks9 => ?_
      have szw9 := ks9.size
      replace HK := HK.trans ks9 (ktr (by omega))
      replace Bg0 := Bg0.kept ks9 (by simp; omega)
      replace BP := BP.kept ks9 (by simp; omega)
      replace PN := (by exact PN.keptF ks9 FNg7)
      replace RD := RD.kept1 ks9 (by omega) (by omega) Bg7 (by decide)
      replace Bg7 := NB9
      clear f71 a71 ks9 f72 a72
      refine wpList_nil (hK27 _ _ ?_)
      have f74 := f73.sub (sc 1 (sc 4 (sc 5 (sc 7 sn))))
      refine wp_seq_k fun K28 hK28 => ?_
      refine C.sk fun K29 hK29 => ?_
      refine L.fa 0 f74 U28 rfl wsz3_wh fun a75 f75 => ?_
      refine L.ld f75 U3 BP fun a76 f76 => ?_
      refine L.va f76 (E.eq f76) fun a77 f77 => ?_
      refine wpList_nil (hK29 _ _ ?_)
      have f78 := f77.sub (sc 1 (sc 4 (sc 5 (sc 7 (sc 49 sn)))))
      clear f73 f74 a73 f75 a75 f76 a76 f77
      refine f78.splitD 49 rfl (fun h14 f79 => ?_) (fun h14 f79 => ?_)
      ·refine C.condT f79 rfl ?_
       refine C.region ?_
       refine L.mv f79 fun a80 f80 => ?_
       obtain ⟨csg, BGO⟩ := RD.bk
       refine L.cl f80 (run_call Tryd.call85 (args2 f80 rfl rfl)) (pnum_any 1 B g _ _ RD (by decide)) ?_
       clear f78 f79 a77
       rintro e w10 ⟨v10, r10, e10, hv10, hw10, rfl, RDn, kc10⟩
       clear RD
       refine ⟨_, rfl, fun a81 f81 => ?_⟩
       have szw10 := kc10.size
       replace HK := HK.trans kc10 (ktr (by simp))
       replace Bg0 := Bg0.kept kc10 (by simp; omega)
       replace BP := BP.kept kc10 (by simp; omega)
       replace PN := (by exact PN.kept1 kc10 BGO (by decide) (by omega))
       replace Bg7 := Bg7.kept kc10 (by simp; omega)
       clear f80 a80 kc10
       have RD := RDn
       clear RDn BGO
       have hy : mu r10 ≤ mu r7 := by have h := numR_mu r7 1; rw [e10] at h; exact h
       refine L.fa 1 f81 U70 rfl wsz3_wh fun a82 f82 => ?_
       refine L.store f82 wantedN wsz3_wh rfl rfl rfl Bg7 (by (simp [Value.cells]; done)) fun a83 w11 f83 NB11 ks11 => ?_
       have szw11 := ks11.size
       replace HK := HK.trans ks11 (ktr (by omega))
       replace Bg0 := Bg0.kept ks11 (by simp; omega)
       replace BP := BP.kept ks11 (by simp; omega)
       replace PN := (by exact PN.keptF ks11 FNg7)
       replace RD := RD.kept1 ks11 (by omega) (by omega) Bg7 (by decide)
       replace Bg7 := NB11
       simp only [Value.cells, z1, z2, z3, Nat.reduceAdd, Nat.zero_add] at Bg7
       clear f81 a81 ks11 f82 a82
       refine wpList_nil (hK28 _ _ ?_)
       have f84 := f83.sub (sc 1 (sc 4 (sc 5 (sc 7 sn))))
       refine C.region ?_
       refine L.fa 22 f84 U28 rfl wsz25_wh fun a85 f85 => ?_
       refine L.ld f85 U25 BP fun a86 f86 => ?_
       refine L.va f86 (by exact E.loadB f86 U70 rfl wsz70_wh rfl (Bg7) rfl) fun a87 f87 => ?_
       refine L.buildSlice f87 wantedN (by decide) (parts1 f87 rfl) U25 wzi70_wh rfl rfl (wbs25_1_wh _ _) fun a88 w12 g11 N11 f88 => ?_
       have Bg11 := N11.blk
       have kg11 := N11.kept
       have log11 := N11.lo
       have ltg11 := Bg11.lt
       have szw12 := kg11.size
       have frg11 : w.heap.size ≤ g11 := Nat.le_trans HK.size log11
       have neg0_g11 : g0 ≠ g11 := by have := Bg0.lt; omega
       have neg1_g11 : g1 ≠ g11 := by have := BP.lt; omega
       have neg7_g11 : g7 ≠ g11 := by have := Bg7.lt; omega
       have FNg11 := PN.far log11
       replace HK := HK.trans kg11 (by simp)
       replace Bg0 := Bg0.kept kg11 (by simp)
       replace BP := BP.kept kg11 (by simp)
       replace PN := PN.kept0 kg11
       replace RD := RD.kept0 kg11
       replace Bg7 := Bg7.kept kg11 (by simp)
       clear f83 f84 a83 f85 a85 f86 a86 N11 kg11
       refine L.append f88 wantedN (by decide) U25 wzib70_wh rfl rfl rfl rfl PN.subs.own (Bg11.slN (size := 2) rfl) (by intro u hu; simp at hu; rcases hu with rfl | rfl <;> rfl) (by unfold maxLen; omega) (by omega) fun a89 w13 A13 c13 AP f89 => ?_
       have szw13 := AP.kept.size
       have HKn := AP.grow PN.subs HK
       have RDn := RD.keptO AP.kept PN.subs.own (by decide) (by decide) (fun a ha => Nat.le_trans hBw (PN.subs.from a ha))
       have BPn := BP.kept AP.kept (own_ne PN.subs.own BP (by decide))
       have Bg0n := Bg0.kept AP.kept (own_ne PN.subs.own Bg0 (by decide))
       have PNn := PN.push hBw HK.size AP
       clear f87 a87 f88 Bg11 HK RD BP PN Bg0
       have HK := HKn
       have RD := RDn
       have BP := BPn
       have PN := PNn
       have Bg0 := Bg0n
       clear HKn RDn BPn PNn Bg0n AP
       refine L.fa 22 f89 U28 rfl wsz25_wh fun a90 f90 => ?_
       refine L.store f90 wantedN wsz25_wh rfl rfl rfl BP (by (simp [Value.cells]; done)) fun a91 w14 f91 NB14 ks14 => ?_
       have szw14 := ks14.size
       replace HK := HK.trans ks14 (ktr (by omega))
       replace Bg0 := Bg0.kept ks14 (by simp; omega)
       replace PN := (by exact PN.kept1 ks14 BP (by decide) (by omega))
       replace RD := RD.kept1 ks14 (by omega) (by omega) BP (by decide)
       replace BP := NB14
       simp only [Value.cells, z1, z2, z3, Nat.reduceAdd, Nat.zero_add] at BP
       clear f89 a89 ks14 f90 a90
       refine wpList_nil (hKL24 _ _ (mu r10) ?_ ?_)
       ·omega
       exact ⟨{ pp with subs := pp.subs ++ [(v7, (v10 : Int))] }, r10, { ss with ua := A13, uc := c13 }, m', rfl, by omega, by rw [← hlp, loopS_8 hr0 hrk (by omega)]; simp only [e7, e10], hkp, by show (pp.subs ++ [(v7, (v10 : Int))]).length + pp.codes.length + _ ≤ _; rw [List.length_append, List.length_singleton]; omega, HK, Bg0, RD, by rw [Pk.cells, List.length_append]; exact BP, PN, f91.sub (sub_cons rfl (sub_cons rfl (sub_cons rfl sn)))⟩
      refine C.condF f79 rfl ?_
      refine wp_skip (hK28 _ _ ?_)
      have f80 := f79.sub (sc 1 (sc 4 (sc 5 (sc 7 sn))))
      refine C.region ?_
      refine L.fa 22 f80 U28 rfl wsz25_wh fun a81 f81 => ?_
      refine L.ld f81 U25 BP fun a82 f82 => ?_
      refine L.va f82 (by exact E.loadB f82 U70 rfl wsz70_wh rfl (Bg7) rfl) fun a83 f83 => ?_
      refine L.buildSlice f83 wantedN (by decide) (parts1 f83 rfl) U25 wzi70_wh rfl rfl (wbs25_1_wh _ _) fun a84 w10 g9 N9 f84 => ?_
      have Bg9 := N9.blk
      have kg9 := N9.kept
      have log9 := N9.lo
      have ltg9 := Bg9.lt
      have szw10 := kg9.size
      have frg9 : w.heap.size ≤ g9 := Nat.le_trans HK.size log9
      have neg0_g9 : g0 ≠ g9 := by have := Bg0.lt; omega
      have neg1_g9 : g1 ≠ g9 := by have := BP.lt; omega
      have neg7_g9 : g7 ≠ g9 := by have := Bg7.lt; omega
      have FNg9 := PN.far log9
      replace HK := HK.trans kg9 (by simp)
      replace Bg0 := Bg0.kept kg9 (by simp)
      replace BP := BP.kept kg9 (by simp)
      replace PN := PN.kept0 kg9
      replace RD := RD.kept0 kg9
      replace Bg7 := Bg7.kept kg9 (by simp)
      clear f78 f79 f80 a77 f81 a81 f82 a82 N9 kg9
      refine L.append f84 wantedN (by decide) U25 wzib70_wh rfl rfl rfl rfl PN.subs.own (Bg9.slN (size := 2) rfl) (by intro u hu; simp at hu; rcases hu with rfl | rfl <;> rfl) (by unfold maxLen; omega) (by omega) fun a85 w11 A11 c11 AP f85 => ?_
      have szw11 := AP.kept.size
      have HKn := AP.grow PN.subs HK
      have RDn := RD.keptO AP.kept PN.subs.own (by decide) (by decide) (fun a ha => Nat.le_trans hBw (PN.subs.from a ha))
      have BPn := BP.kept AP.kept (own_ne PN.subs.own BP (by decide))
      have Bg0n := Bg0.kept AP.kept (own_ne PN.subs.own Bg0 (by decide))
      have PNn := PN.push hBw HK.size AP
      clear f83 a83 f84 Bg9 HK RD BP PN Bg0
      have HK := HKn
      have RD := RDn
      have BP := BPn
      have PN := PNn
      have Bg0 := Bg0n
      clear HKn RDn BPn PNn Bg0n AP
      refine L.fa 22 f85 U28 rfl wsz25_wh fun a86 f86 => ?_
      refine L.store f86 wantedN wsz25_wh rfl rfl rfl BP (by (simp [Value.cells]; done)) fun a87 w12 f87 NB12 ks12 => ?_
      have szw12 := ks12.size
      replace HK := HK.trans ks12 (ktr (by omega))
      replace Bg0 := Bg0.kept ks12 (by simp; omega)
      replace PN := (by exact PN.kept1 ks12 BP (by decide) (by omega))
      replace RD := RD.kept1 ks12 (by omega) (by omega) BP (by decide)
      replace BP := NB12
      simp only [Value.cells, z1, z2, z3, Nat.reduceAdd, Nat.zero_add] at BP
      clear f85 a85 ks12 f86 a86
      refine wpList_nil (hKL24 _ _ (mu r7) ?_ ?_)
      ·omega
      exact ⟨{ pp with subs := pp.subs ++ [(v7, 0)] }, r7, { ss with ua := A11, uc := c11 }, m', rfl, by omega, by rw [← hlp, loopS_10 hr0 hrk (by omega)]; simp only [e7], hkp, by show (pp.subs ++ [(v7, 0)]).length + pp.codes.length + _ ≤ _; rw [List.length_append, List.length_singleton]; omega, HK, Bg0, RD, by rw [Pk.cells, List.length_append]; exact BP, PN, f87.sub (sub_cons rfl (sub_cons rfl (sub_cons rfl sn)))⟩
     refine C.condF f67 rfl ?_
     exact wp_exit (then_of (J := J9) (Q := fun _ _ _ => True) (by rw [hJ9]; exact ⟨pp, rr, ss, by rw [← hlp]; exact loopS_end (by (right; right; exact List.eq_nil_of_length_eq_zero (by omega))), hkp, hft, HK, Bg0, RD, BP, PN, f67.sub (sub_cons rfl (sub_cons rfl (sub_cons rfl sn)))⟩))
    refine R.runT [16, 17, 18, 19, 20, 21, 22, 23, 24, 25, 26] #[true, true, true, true, true, true, true, true, true, true, true, true, true, true, true, true, true, true, true, true, true, true, true, true, true, true, true] f54 ht (fun _ _ _ _ h => h) ⟨HK, BP, BG⟩ (by kernel_rfl) fun a55 f55 => ?_
    have f56 := f55.sub (sub_cons (i := 1) (Fr.keptT f55 (by kernel_rfl) rfl) (sub_cons (i := 4) (Fr.keptT f55 (by kernel_rfl) rfl) (sub_cons (i := 5) (Fr.keptT f55 (by kernel_rfl) rfl) (sub_cons (i := 43) (v := .bool false) (by kernel_rfl) sn))))
    refine R.done (by kernel_rfl) (hK26 _ _ ?_)
    have f57 := f56.sub (sc 1 (sc 4 (sc 5 (sc 43 sn))))
    refine C.condF f57 rfl ?_
    exact wp_exit (then_of (J := J9) (Q := fun _ _ _ => True) (by rw [hJ9]; exact ⟨pp, rr, ss, by rw [← hlp]; exact loopS_end (by (right; left; assumption)), hkp, hft, HK, Bg0, RD, BP, PN, f57.sub (sub_cons rfl (sub_cons rfl (sub_cons rfl sn)))⟩))
   refine R.u 4 f44 rfl ht ⟨HK, BP, BG⟩ (fun W hW => (E.fa 0 f44 U28 rfl wsz3_wh)) (hw := (f44.yes rfl rfl)) fun a45 f45 => ?_
   refine R.u 5 f45 rfl ht ⟨HK, BP, BG⟩ (fun W hW => (by exact E.ld f45 U3 (hW.2.1))) (hw := (f45.yes rfl rfl)) fun a46 f46 => ?_
   refine R.u 6 f46 rfl ht ⟨HK, BP, BG⟩ (fun W hW => (E.eq f46)) (hw := (f46.yes rfl rfl)) fun a47 f47 => ?_
   refine R.u 7 f47 rfl ht ⟨HK, BP, BG⟩ (fun W hW => (E.pickF f47 rfl rfl)) fun a48 f48 => ?_
   refine R.u 8 f48 rfl ht ⟨HK, BP, BG⟩ (fun W hW => (E.move f48 rfl)) fun a49 f49 => ?_
   clear f43 f44 a43 f45 a45 f46 a46 f47 a47 f48 a48
   refine f49.splitD 25 rfl (fun h15 f50 => ?_) (fun h15 f50 => ?_)
   ·refine R.u 9 f50 rfl ht ⟨HK, BP, BG⟩ (fun W hW => (E.move f50 rfl)) (hw := (f50.yes rfl rfl)) fun a51 f51 => ?_
    refine R.u 10 f51 rfl ht ⟨HK, BP, BG⟩ (fun W hW => (E.nilCheck f51 rfl)) (hw := (f51.yes rfl rfl)) fun a52 f52 => ?_
    refine R.u 11 f52 rfl ht ⟨HK, BP, BG⟩ (fun W hW => (E.fa 2 f52 U99 rfl wsz4_wh)) (hw := (f52.yes rfl rfl)) fun a53 f53 => ?_
    refine R.u 12 f53 rfl ht ⟨HK, BP, BG⟩ (fun W hW => (by exact E.ld f53 U4 (hW.2.2))) (hw := (f53.yes rfl rfl)) fun a54 f54 => ?_
    refine R.u 13 f54 rfl ht ⟨HK, BP, BG⟩ (fun W hW => (E.not f54 rfl)) (hw := (f54.yes rfl rfl)) fun a55 f55 => ?_
    refine R.u 14 f55 rfl ht ⟨HK, BP, BG⟩ (fun W hW => (E.pickT f55 rfl rfl)) fun a56 f56 => ?_
    refine R.u 15 f56 rfl ht ⟨HK, BP, BG⟩ (fun W hW => (E.move f56 rfl)) fun a57 f57 => ?_
    clear f49 f50 a49 f51 a51 f52 a52 f53 a53 f54 a54 f55 a55 f56 a56
    refine f57.splitNB 32 rfl (fun h16 f58 => ?_) (fun h16 f58 => ?_)
    ·refine R.u 16 f58 rfl ht ⟨HK, BP, BG⟩ (fun W hW => (E.move f58 rfl)) (hw := (f58.yes rfl rfl)) fun a59 f59 => ?_
     refine R.u 17 f59 rfl ht ⟨HK, BP, BG⟩ (fun W hW => (E.nilCheck f59 rfl)) (hw := (f59.yes rfl rfl)) fun a60 f60 => ?_
     refine R.u 18 f60 rfl ht ⟨HK, BP, BG⟩ (fun W hW => (E.fa 1 f60 U99 rfl wsz3_wh)) (hw := (f60.yes rfl rfl)) fun a61 f61 => ?_
     refine R.u 19 f61 rfl ht ⟨HK, BP, BG⟩ (fun W hW => (by exact E.ld f61 U3 (hW.2.2))) (hw := (f61.yes rfl rfl)) fun a62 f62 => ?_
     refine R.u 20 f62 rfl ht ⟨HK, BP, BG⟩ (fun W hW => (E.move f62 rfl)) (hw := (f62.yes rfl rfl)) fun a63 f63 => ?_
     refine R.u 21 f63 rfl ht ⟨HK, BP, BG⟩ (fun W hW => (E.nilCheck f63 rfl)) (hw := (f63.yes rfl rfl)) fun a64 f64 => ?_
     refine R.u 22 f64 rfl ht ⟨HK, BP, BG⟩ (fun W hW => (E.fa 0 f64 U99 rfl wsz22_wh)) (hw := (f64.yes rfl rfl)) fun a65 f65 => ?_
     clear f57 f58 a57 f59 a59 f60 a60 f61 a61 f62 a62 f63 a63 f64 a64
     refine R.u 23 f65 rfl ht ⟨HK, BP, BG⟩ (fun W hW => (by exact E.ld f65 U22 (hW.2.2))) (hw := (f65.yes rfl rfl)) fun a66 f66 => ?_
     refine R.u 24 f66 rfl ht ⟨HK, BP, BG⟩ (fun W hW => (E.lenL f66 U22 rfl)) (hw := (f66.yes rfl rfl)) fun a67 f67 => ?_
     refine R.u 25 f67 rfl ht ⟨HK, BP, BG⟩ (fun W hW => (E.lss f67 rfl rfl)) (hw := (f67.yes rfl rfl)) fun a68 f68 => ?_
     refine R.u 26 f68 rfl ht ⟨HK, BP, BG⟩ (fun W hW => (E.pickT f68 rfl rfl)) fun a69 f69 => ?_
     refine R.done (by kernel_rfl) (hK26 _ _ ?_)
     have f70 := f69.sub (sc 1 (sc 4 (sc 5 (sc 43 sn))))
     clear f65 a65 f66 a66 f67 a67 f68 a68 f69
     refine f70.splitD 43 rfl (fun h17 f71 => ?_) (fun h17 f71 => ?_)
     ·have hrk : rr.lk = false := by assumption
      have hr0 : rr.l ≠ [] := fun h0 => by rw [h0] at hrl; simp at hrl; omega
      have hmu := mu_pos hr0 hrk
      obtain ⟨m', rfl⟩ : ∃ m', m = m' + 1 := ⟨m - 1, by omega⟩
      refine C.condT f71 rfl ?_
      refine wp_skip (hK25 _ _ ?_)
      have f72 := f71.sub (sc 1 (sc 4 (sc 5 sn)))
      refine wp_block ?_
      refine C.sk fun K30 hK30 => ?_
      refine L.mv f72 fun a73 f73 => ?_
      obtain ⟨csg, BGO⟩ := RD.bk
      refine L.cl f73 (run_call Tryd.call84 (args1 f73 rfl)) (ptext_any B g _ _ RD) ?_
      clear f70 f71 f72 a69
      rintro e w7 ⟨v7, r7, e7, hv7, rfl, RDn, kc7⟩
      clear RD
      refine ⟨_, rfl, fun a74 f74 => ?_⟩
      have szw7 := kc7.size
      replace HK := HK.trans kc7 (ktr (by simp))
      replace Bg0 := Bg0.kept kc7 (by simp; omega)
      replace BP := BP.kept kc7 (by simp; omega)
      replace PN := (by exact PN.kept1 kc7 BGO (by decide) (by omega))
      clear f73 a73 kc7
      have RD := RDn
      clear RDn BGO
      have hx : mu r7 < mu rr := by have h := textR_mu hr0 hrk; rw [e7] at h; exact h
      refine L.va f74 (E.build f74 (parts1 f74 rfl) (wbl70_0_wh _)) fun a75 f75 => ?_
      refine L.alloc f75 wantedN (by decide) (z := (.agg #[(.string ⟨#[]⟩), (.int .i64 0)])) (fun _ => by kernel_rfl) rfl fun a76 w8 g7 N7 f76 => ?_
      have Bg7 := N7.blk
      have kg7 := N7.kept
      have log7 := N7.lo
      have ltg7 := Bg7.lt
      have szw8 := kg7.size
      have frg7 : w.heap.size ≤ g7 := Nat.le_trans HK.size log7
      have neg0_g7 : g0 ≠ g7 := by have := Bg0.lt; omega
      have neg1_g7 : g1 ≠ g7 := by have := BP.lt; omega
      have FNg7 := PN.far log7
      replace HK := HK.trans kg7 (by simp)
      replace Bg0 := Bg0.kept kg7 (by simp)
      replace BP := BP.kept kg7 (by simp)
      replace PN := PN.kept0 kg7
      replace RD := RD.kept0 kg7
      clear f74 a74 N7 kg7
      refine L.storeR f76 wantedN wsz70_wh rfl rfl rfl Bg7 rfl rfl fun a77 w9 f77 NB9 ks9 => ?_
      have szw9 := ks9.size
      replace HK := HK.trans ks9 (ktr (by omega))
      replace Bg0 := Bg0.kept ks9 (by simp; omega)
      replace BP := BP.kept ks9 (by simp; omega)
      replace PN := (by exact PN.keptF ks9 FNg7)
      replace RD := RD.kept1 ks9 (by omega) (by omega) Bg7 (by decide)
      replace Bg7 := NB9
      clear f75 a75 ks9 f76 a76
      refine wpList_nil (hK30 _ _ ?_)
      have f78 := f77.sub (sc 1 (sc 4 (sc 5 (sc 7 sn))))
      refine wp_seq_k fun K31 hK31 => ?_
      refine C.sk fun K32 hK32 => ?_
      refine L.fa 0 f78 U28 rfl wsz3_wh fun a79 f79 => ?_
      refine L.ld f79 U3 BP fun a80 f80 => ?_
      refine L.va f80 (E.eq f80) fun a81 f81 => ?_
      refine wpList_nil (hK32 _ _ ?_)
      have f82 := f81.sub (sc 1 (sc 4 (sc 5 (sc 7 (sc 49 sn)))))
      clear f77 f78 a77 f79 a79 f80 a80 f81
      refine f82.splitD 49 rfl (fun h18 f83 => ?_) (fun h18 f83 => ?_)
      ·refine C.condT f83 rfl ?_
       refine C.region ?_
       refine L.mv f83 fun a84 f84 => ?_
       obtain ⟨csg, BGO⟩ := RD.bk
       refine L.cl f84 (run_call Tryd.call85 (args2 f84 rfl rfl)) (pnum_any 1 B g _ _ RD (by decide)) ?_
       clear f82 f83 a81
       rintro e w10 ⟨v10, r10, e10, hv10, hw10, rfl, RDn, kc10⟩
       clear RD
       refine ⟨_, rfl, fun a85 f85 => ?_⟩
       have szw10 := kc10.size
       replace HK := HK.trans kc10 (ktr (by omega))
       replace Bg0 := Bg0.kept kc10 (by simp; omega)
       replace BP := BP.kept kc10 (by simp; omega)
       replace PN := (by exact PN.kept1 kc10 BGO (by decide) (by omega))
       replace Bg7 := Bg7.kept kc10 (by simp; omega)
       clear f84 a84 kc10
       have RD := RDn
       clear RDn BGO
       have hy : mu r10 ≤ mu r7 := by have h := numR_mu r7 1; rw [e10] at h; exact h
       refine L.fa 1 f85 U70 rfl wsz3_wh fun a86 f86 => ?_
       refine L.store f86 wantedN wsz3_wh rfl rfl rfl Bg7 (by (simp [Value.cells]; done)) fun a87 w11 f87 NB11 ks11 => ?_
       have szw11 := ks11.size
       replace HK := HK.trans ks11 (ktr (by omega))
       replace Bg0 := Bg0.kept ks11 (by simp; omega)
       replace BP := BP.kept ks11 (by simp; omega)
       replace PN := (by exact PN.keptF ks11 FNg7)
       replace RD := RD.kept1 ks11 (by omega) (by omega) Bg7 (by decide)
       replace Bg7 := NB11
       simp only [Value.cells, z1, z2, z3, Nat.reduceAdd, Nat.zero_add] at Bg7
       clear f85 a85 ks11 f86 a86
       refine wpList_nil (hK31 _ _ ?_)
       have f88 := f87.sub (sc 1 (sc 4 (sc 5 (sc 7 sn))))
       refine C.region ?_
       refine L.fa 22 f88 U28 rfl wsz25_wh fun a89 f89 => ?_
       refine L.ld f89 U25 BP fun a90 f90 => ?_
       refine L.va f90 (by exact E.loadB f90 U70 rfl wsz70_wh rfl (Bg7) rfl) fun a91 f91 => ?_
       refine L.buildSlice f91 wantedN (by decide) (parts1 f91 rfl) U25 wzi70_wh rfl rfl (wbs25_1_wh _ _) fun a92 w12 g11 N11 f92 => ?_
       have Bg11 := N11.blk
       have kg11 := N11.kept
       have log11 := N11.lo
       have ltg11 := Bg11.lt
       have szw12 := kg11.size
       have frg11 : w.heap.size ≤ g11 := Nat.le_trans HK.size log11
       have neg0_g11 : g0 ≠ g11 := by have := Bg0.lt; omega
       have neg1_g11 : g1 ≠ g11 := by have := BP.lt; omega
       have neg7_g11 : g7 ≠ g11 := by have := Bg7.lt; omega
       have FNg11 := PN.far log11
       replace HK := HK.trans kg11 (by simp)
       replace Bg0 := Bg0.kept kg11 (by simp)
       replace BP := BP.kept kg11 (by simp)
       replace PN := PN.kept0 kg11
       replace RD := RD.kept0 kg11
       replace Bg7 := Bg7.kept kg11 (by simp)
       clear f87 f88 a87 f89 a89 f90 a90 N11 kg11
       refine L.append f92 wantedN (by decide) U25 wzib70_wh rfl rfl rfl rfl PN.subs.own (Bg11.slN (size := 2) rfl) (by intro u hu; simp at hu; rcases hu with rfl | rfl <;> rfl) (by unfold maxLen; omega) (by omega) fun a93 w13 A13 c13 AP f93 => ?_
       have szw13 := AP.kept.size
       have HKn := AP.grow PN.subs HK
       have RDn := RD.keptO AP.kept PN.subs.own (by decide) (by decide) (fun a ha => Nat.le_trans hBw (PN.subs.from a ha))
       have BPn := BP.kept AP.kept (own_ne PN.subs.own BP (by decide))
       have Bg0n := Bg0.kept AP.kept (own_ne PN.subs.own Bg0 (by decide))
       have PNn := PN.push hBw HK.size AP
       clear f91 a91 f92 Bg11 HK RD BP PN Bg0
       have HK := HKn
       have RD := RDn
       have BP := BPn
       have PN := PNn
       have Bg0 := Bg0n
       clear HKn RDn BPn PNn Bg0n AP
       refine L.fa 22 f93 U28 rfl wsz25_wh fun a94 f94 => ?_
       refine L.store f94 wantedN wsz25_wh rfl rfl rfl BP (by (simp [Value.cells]; done)) fun a95 w14 f95 NB14 ks14 => ?_
       have szw14 := ks14.size
       replace HK := HK.trans ks14 (ktr (by omega))
       replace Bg0 := Bg0.kept ks14 (by simp; omega)
       replace PN := (by exact PN.kept1 ks14 BP (by decide) (by omega))
       replace RD := RD.kept1 ks14 (by omega) (by omega) BP (by decide)
       replace BP := NB14
       simp only [Value.cells, z1, z2, z3, Nat.reduceAdd, Nat.zero_add] at BP
       clear f93 a93 ks14 f94 a94
       refine wpList_nil (hKL24 _ _ (mu r10) ?_ ?_)
       ·omega
       exact ⟨{ pp with subs := pp.subs ++ [(v7, (v10 : Int))] }, r10, { ss with ua := A13, uc := c13 }, m', rfl, by omega, by rw [← hlp, loopS_8 hr0 hrk (by omega)]; simp only [e7, e10], hkp, by show (pp.subs ++ [(v7, (v10 : Int))]).length + pp.codes.length + _ ≤ _; rw [List.length_append, List.length_singleton]; omega, HK, Bg0, RD, by rw [Pk.cells, List.length_append]; exact BP, PN, f95.sub (sub_cons rfl (sub_cons rfl (sub_cons rfl sn)))⟩
      refine C.condF f83 rfl ?_
      refine wp_skip (hK31 _ _ ?_)
      have f84 := f83.sub (sc 1 (sc 4 (sc 5 (sc 7 sn))))
      refine C.region ?_
      refine L.fa 22 f84 U28 rfl wsz25_wh fun a85 f85 => ?_
      refine L.ld f85 U25 BP fun a86 f86 => ?_
      refine L.va f86 (by exact E.loadB f86 U70 rfl wsz70_wh rfl (Bg7) rfl) fun a87 f87 => ?_
      refine L.buildSlice f87 wantedN (by decide) (parts1 f87 rfl) U25 wzi70_wh rfl rfl (wbs25_1_wh _ _) fun a88 w10 g9 N9 f88 => ?_
      have Bg9 := N9.blk
      have kg9 := N9.kept
      have log9 := N9.lo
      have ltg9 := Bg9.lt
      have szw10 := kg9.size
      have frg9 : w.heap.size ≤ g9 := Nat.le_trans HK.size log9
      have neg0_g9 : g0 ≠ g9 := by have := Bg0.lt; omega
      have neg1_g9 : g1 ≠ g9 := by have := BP.lt; omega
      have neg7_g9 : g7 ≠ g9 := by have := Bg7.lt; omega
      have FNg9 := PN.far log9
      replace HK := HK.trans kg9 (by simp)
      replace Bg0 := Bg0.kept kg9 (by simp)
      replace BP := BP.kept kg9 (by simp)
      replace PN := PN.kept0 kg9
      replace RD := RD.kept0 kg9
      replace Bg7 := Bg7.kept kg9 (by simp)
      clear f82 f83 f84 a81 f85 a85 f86 a86 N9 kg9
      refine L.append f88 wantedN (by decide) U25 wzib70_wh rfl rfl rfl rfl PN.subs.own (Bg9.slN (size := 2) rfl) (by intro u hu; simp at hu; rcases hu with rfl | rfl <;> rfl) (by unfold maxLen; omega) (by omega) fun a89 w11 A11 c11 AP f89 => ?_
      have szw11 := AP.kept.size
      have HKn := AP.grow PN.subs HK
      have RDn := RD.keptO AP.kept PN.subs.own (by decide) (by decide) (fun a ha => Nat.le_trans hBw (PN.subs.from a ha))
      have BPn := BP.kept AP.kept (own_ne PN.subs.own BP (by decide))
      have Bg0n := Bg0.kept AP.kept (own_ne PN.subs.own Bg0 (by decide))
      have PNn := PN.push hBw HK.size AP
      clear f87 a87 f88 Bg9 HK RD BP PN Bg0
      have HK := HKn
      have RD := RDn
      have BP := BPn
      have PN := PNn
      have Bg0 := Bg0n
      clear HKn RDn BPn PNn Bg0n AP
      refine L.fa 22 f89 U28 rfl wsz25_wh fun a90 f90 => ?_
      refine L.store f90 wantedN wsz25_wh rfl rfl rfl BP (by (simp [Value.cells]; done)) fun a91 w12 f91 NB12 ks12 => ?_
      have szw12 := ks12.size
      replace HK := HK.trans ks12 (ktr (by omega))
      replace Bg0 := Bg0.kept ks12 (by simp; omega)
      replace PN := (by exact PN.kept1 ks12 BP (by decide) (by omega))
      replace RD := RD.kept1 ks12 (by omega) (by omega) BP (by decide)
      replace BP := NB12
      simp only [Value.cells, z1, z2, z3, Nat.reduceAdd, Nat.zero_add] at BP
      clear f89 a89 ks12 f90 a90
      refine wpList_nil (hKL24 _ _ (mu r7) ?_ ?_)
      ·omega
      exact ⟨{ pp with subs := pp.subs ++ [(v7, 0)] }, r7, { ss with ua := A11, uc := c11 }, m', rfl, by omega, by rw [← hlp, loopS_10 hr0 hrk (by omega)]; simp only [e7], hkp, by show (pp.subs ++ [(v7, 0)]).length + pp.codes.length + _ ≤ _; rw [List.length_append, List.length_singleton]; omega, HK, Bg0, RD, by rw [Pk.cells, List.length_append]; exact BP, PN, f91.sub (sub_cons rfl (sub_cons rfl (sub_cons rfl sn)))⟩
     refine C.condF f71 rfl ?_
     exact wp_exit (then_of (J := J9) (Q := fun _ _ _ => True) (by rw [hJ9]; exact ⟨pp, rr, ss, by rw [← hlp]; exact loopS_end (by (right; right; exact List.eq_nil_of_length_eq_zero (by omega))), hkp, hft, HK, Bg0, RD, BP, PN, f71.sub (sub_cons rfl (sub_cons rfl (sub_cons rfl sn)))⟩))
    refine R.runT [16, 17, 18, 19, 20, 21, 22, 23, 24, 25, 26] #[true, true, true, true, true, true, true, true, true, true, true, true, true, true, true, true, true, true, true, true, true, true, true, true, true, true, true] f58 ht (fun _ _ _ _ h => h) ⟨HK, BP, BG⟩ (by kernel_rfl) fun a59 f59 => ?_
    have f60 := f59.sub (sub_cons (i := 1) (Fr.keptT f59 (by kernel_rfl) rfl) (sub_cons (i := 4) (Fr.keptT f59 (by kernel_rfl) rfl) (sub_cons (i := 5) (Fr.keptT f59 (by kernel_rfl) rfl) (sub_cons (i := 43) (v := .bool false) (by kernel_rfl) sn))))
    refine R.done (by kernel_rfl) (hK26 _ _ ?_)
    have f61 := f60.sub (sc 1 (sc 4 (sc 5 (sc 43 sn))))
    refine C.condF f61 rfl ?_
    exact wp_exit (then_of (J := J9) (Q := fun _ _ _ => True) (by rw [hJ9]; exact ⟨pp, rr, ss, by rw [← hlp]; exact loopS_end (by (right; left; assumption)), hkp, hft, HK, Bg0, RD, BP, PN, f61.sub (sub_cons rfl (sub_cons rfl (sub_cons rfl sn)))⟩))
   refine R.runT [9, 10, 11, 12, 13, 14, 15, 16, 17, 18, 19, 20, 21, 22, 23, 24, 25, 26] #[true, true, true, true, true, true, true, true, true, true, true, true, true, true, true, true, true, true, true, true, true, true, true, true, true, true, true] f50 ht (fun _ _ _ _ h => h) ⟨HK, BP, BG⟩ (by kernel_rfl) fun a51 f51 => ?_
   have f52 := f51.sub (sub_cons (i := 1) (Fr.keptT f51 (by kernel_rfl) rfl) (sub_cons (i := 4) (Fr.keptT f51 (by kernel_rfl) rfl) (sub_cons (i := 5) (Fr.keptT f51 (by kernel_rfl) rfl) (sub_cons (i := 43) (v := .bool false) (by kernel_rfl) sn))))
   refine R.done (by kernel_rfl) (hK26 _ _ ?_)
   have f53 := f52.sub (sc 1 (sc 4 (sc 5 (sc 43 sn))))
   refine C.condF f53 rfl ?_
   exact wp_exit (then_of (J := J9) (Q := fun _ _ _ => True) (by rw [hJ9]; exact ⟨pp, rr, ss, by rw [← hlp]; exact loopS_end (by (left; omega)), hkp, hft, HK, Bg0, RD, BP, PN, f53.sub (sub_cons rfl (sub_cons rfl (sub_cons rfl sn)))⟩))
  intro a39 w5 hj
  rw [hJ9] at hj
  clear hJ9 J9
  obtain ⟨pp, rr, ss, hS, hkp, hft, HK, Bg0, RD, BP, PN, f39⟩ := hj
  try clear f38
  refine wp_block ?_
  refine C.loop (fun gk a W => ∃ qq rq sq mq, gk = mu rq ∧ mu rq ≤ mq ∧ loopC mq qq rq = loopC rr.l.length pp rr ∧ qq.kind = c / 16 ∧ qq.subs.length + qq.codes.length + mu rq ≤ 100000000 ∧ Kept [g] w W ∧ Blk W g0 28 zeroPk ∧ PaAt W B g rq ∧ Blk W g1 28 (qq.cells sq) ∧ PkM B w W qq sq ∧ Fr 206 a [(1, .pointer (some ⟨g, 0, none⟩)), (4, .pointer (some ⟨g0, 0, none⟩)), (5, .pointer (some ⟨g1, 0, none⟩))]) (mu rr) ?_ ?_
  ·exact ⟨pp, rr, ss, rr.l.length, rfl, mu_le rr, rfl, hkp, hft, HK, Bg0, RD, BP, PN, f39.sub (sub_cons rfl (sub_cons rfl (sub_cons rfl sn)))⟩
  intro gk34 a40 w6 hI KL33 hKL33
  obtain ⟨qq, rq, sq, mq, rfl, hm, hlq, hkp, hft, HK, Bg0, RD, BP, PN, f40⟩ := hI
  try clear f39
  obtain ⟨hBg_, Ap, cp, at_, F, BG, SG, h1_, h2_, h3_, h4_⟩ := id RD
  have hrl : rq.l.length = F.length - at_ := by rw [← h3_, List.length_drop]
  replace BP : Blk w6 g1 28 #[.int .i64 qq.kind, .bool qq.dup, .bool qq.retain, .int .i64 qq.qos, .int .i64 qq.id, .string qq.topic, .slice sq.pa qq.pay.length sq.pc, .int .i64 qq.level, .string qq.client, .bool qq.clean, .int .i64 qq.keep, .bool qq.hasWill, .string qq.wt, .slice sq.wa qq.wp.length sq.wc, .int .i64 qq.wq, .bool qq.wr, .bool qq.hasUser, .bool qq.hasPass, .string qq.user, .slice sq.sa qq.pass.length sq.sc, .bool qq.present, .int .i64 qq.code, .slice sq.ua qq.subs.length sq.uc, .slice sq.ca qq.codes.length sq.cc] := BP
  refine wp_seq_k fun K34 hK34 => ?_
  refine wp_seq_k fun K35 hK35 => ?_
  have hd9 : Kept [] w6 (w6.drewN 1) := (Kept.refl _ _).drewN 1
  refine R.beginT (S := fun W => (Kept [g] w W) ∧ (Blk W g1 28 #[.int .i64 qq.kind, .bool qq.dup, .bool qq.retain, .int .i64 qq.qos, .int .i64 qq.id, .string qq.topic, .slice sq.pa qq.pay.length sq.pc, .int .i64 qq.level, .string qq.client, .bool qq.clean, .int .i64 qq.keep, .bool qq.hasWill, .string qq.wt, .slice sq.wa qq.wp.length sq.wc, .int .i64 qq.wq, .bool qq.wr, .bool qq.hasUser, .bool qq.hasPass, .string qq.user, .slice sq.sa qq.pass.length sq.sc, .bool qq.present, .int .i64 qq.code, .slice sq.ua qq.subs.length sq.uc, .slice sq.ca qq.codes.length sq.cc]) ∧ (Blk W g 99 #[.slice Ap F.length cp, .int .i64 ((at_ : Nat) : Int), .bool rq.lk])) (by kernel_rfl) (by kernel_rfl) ⟨HK.trans hd9 (by simp), BP.kept hd9 (by simp), BG.kept hd9 (by simp)⟩ fun ht => ?_
  obtain ⟨w7, hww7⟩ : ∃ W, W = w6.drewN 1 := ⟨_, rfl⟩
  rw [← hww7] at hd9 ⊢
  clear hww7
  have szw7 := hd9.size
  replace HK := HK.trans hd9 (by simp)
  replace Bg0 := Bg0.kept hd9 (by simp)
  replace RD := RD.kept0 hd9
  replace BP := BP.kept hd9 (by simp)
  replace PN := PN.kept0 hd9
  replace BG := BG.kept hd9 (by simp)
  clear hd9
  refine R.u 0 f40 rfl ht ⟨HK, BP, BG⟩ (fun W hW => (E.fa 0 f40 U28 rfl wsz3_wh)) fun a41 f41 => ?_
  refine R.u 1 f41 rfl ht ⟨HK, BP, BG⟩ (fun W hW => (by exact E.ld f41 U3 (hW.2.1))) fun a42 f42 => ?_
  refine R.u 2 f42 rfl ht ⟨HK, BP, BG⟩ (fun W hW => (E.eq f42)) fun a43 f43 => ?_
  refine R.u 3 f43 rfl ht ⟨HK, BP, BG⟩ (fun W hW => (E.move f43 rfl)) fun a44 f44 => ?_
  clear f40 a40 f41 a41 f42 a42 f43 a43
  refine f44.splitD 62 rfl (fun h19 f45 => ?_) (fun h19 f45 => ?_)
  ·refine R.u 4 f45 rfl ht ⟨HK, BP, BG⟩ (fun W hW => (E.move f45 rfl)) (hw := (f45.yes rfl rfl)) fun a46 f46 => ?_
   refine R.u 5 f46 rfl ht ⟨HK, BP, BG⟩ (fun W hW => (E.nilCheck f46 rfl)) (hw := (f46.yes rfl rfl)) fun a47 f47 => ?_
   refine R.u 6 f47 rfl ht ⟨HK, BP, BG⟩ (fun W hW => (E.fa 2 f47 U99 rfl wsz4_wh)) (hw := (f47.yes rfl rfl)) fun a48 f48 => ?_
   refine R.u 7 f48 rfl ht ⟨HK, BP, BG⟩ (fun W hW => (by exact E.ld f48 U4 (hW.2.2))) (hw := (f48.yes rfl rfl)) fun a49 f49 => ?_
   refine R.u 8 f49 rfl ht ⟨HK, BP, BG⟩ (fun W hW => (E.not f49 rfl)) (hw := (f49.yes rfl rfl)) fun a50 f50 => ?_
   refine R.u 9 f50 rfl ht ⟨HK, BP, BG⟩ (fun W hW => (E.pickT f50 rfl rfl)) fun a51 f51 => ?_
   refine R.u 10 f51 rfl ht ⟨HK, BP, BG⟩ (fun W hW => (E.move f51 rfl)) fun a52 f52 => ?_
   clear f44 f45 a44 f46 a46 f47 a47 f48 a48 f49 a49 f50 a50 f51 a51
   refine f52.splitNB 69 rfl (fun h20 f53 => ?_) (fun h20 f53 => ?_)
   ·refine R.u 11 f53 rfl ht ⟨HK, BP, BG⟩ (fun W hW => (E.move f53 rfl)) (hw := (f53.yes rfl rfl)) fun a54 f54 => ?_
    refine R.u 12 f54 rfl ht ⟨HK, BP, BG⟩ (fun W hW => (E.nilCheck f54 rfl)) (hw := (f54.yes rfl rfl)) fun a55 f55 => ?_
    refine R.u 13 f55 rfl ht ⟨HK, BP, BG⟩ (fun W hW => (E.fa 1 f55 U99 rfl wsz3_wh)) (hw := (f55.yes rfl rfl)) fun a56 f56 => ?_
    refine R.u 14 f56 rfl ht ⟨HK, BP, BG⟩ (fun W hW => (by exact E.ld f56 U3 (hW.2.2))) (hw := (f56.yes rfl rfl)) fun a57 f57 => ?_
    refine R.u 15 f57 rfl ht ⟨HK, BP, BG⟩ (fun W hW => (E.move f57 rfl)) (hw := (f57.yes rfl rfl)) fun a58 f58 => ?_
    refine R.u 16 f58 rfl ht ⟨HK, BP, BG⟩ (fun W hW => (E.nilCheck f58 rfl)) (hw := (f58.yes rfl rfl)) fun a59 f59 => ?_
    refine R.u 17 f59 rfl ht ⟨HK, BP, BG⟩ (fun W hW => (E.fa 0 f59 U99 rfl wsz22_wh)) (hw := (f59.yes rfl rfl)) fun a60 f60 => ?_
    clear f52 f53 a52 f54 a54 f55 a55 f56 a56 f57 a57 f58 a58 f59 a59
    refine R.u 18 f60 rfl ht ⟨HK, BP, BG⟩ (fun W hW => (by exact E.ld f60 U22 (hW.2.2))) (hw := (f60.yes rfl rfl)) fun a61 f61 => ?_
    refine R.u 19 f61 rfl ht ⟨HK, BP, BG⟩ (fun W hW => (E.lenL f61 U22 rfl)) (hw := (f61.yes rfl rfl)) fun a62 f62 => ?_
    refine R.u 20 f62 rfl ht ⟨HK, BP, BG⟩ (fun W hW => (E.lss f62 rfl rfl)) (hw := (f62.yes rfl rfl)) fun a63 f63 => ?_
    refine R.u 21 f63 rfl ht ⟨HK, BP, BG⟩ (fun W hW => (E.pickT f63 rfl rfl)) fun a64 f64 => ?_
    refine R.done (by kernel_rfl) (hK35 _ _ ?_)
    have f65 := f64.sub (sc 1 (sc 4 (sc 5 (sc 80 sn))))
    clear f60 a60 f61 a61 f62 a62 f63 a63 f64
    refine f65.splitD 80 rfl (fun h21 f66 => ?_) (fun h21 f66 => ?_)
    ·have hrk : rq.lk = false := by assumption
     have hr0 : rq.l ≠ [] := fun h0 => by rw [h0] at hrl; simp at hrl; omega
     have hmu := mu_pos hr0 hrk
     obtain ⟨m', rfl⟩ : ∃ m', mq = m' + 1 := ⟨mq - 1, by omega⟩
     refine C.condT f66 rfl ?_
     refine wp_skip (hK34 _ _ ?_)
     have f67 := f66.sub (sc 1 (sc 4 (sc 5 sn)))
     refine wp_block ?_
     have hd10 : Kept [] w7 (w7.drewN 1) := (Kept.refl _ _).drewN 1
     refine R.beginT (S := fun _ => True) (by kernel_rfl) (by kernel_rfl) trivial fun ht => ?_
     obtain ⟨w8, hww8⟩ : ∃ W, W = w7.drewN 1 := ⟨_, rfl⟩
     rw [← hww8] at hd10 ⊢
     clear f65 f66 hww8
     have szw8 := hd10.size
     replace HK := HK.trans hd10 (by simp)
     replace Bg0 := Bg0.kept hd10 (by simp)
     replace RD := RD.kept0 hd10
     replace BP := BP.kept hd10 (by simp)
     replace PN := PN.kept0 hd10
     clear hd10
     refine R.u 0 f67 rfl ht trivial (fun W hW => (E.fa 23 f67 U28 rfl wsz26_wh)) fun a68 f68 => ?_
     refine R.u 2 f68 rfl ht trivial (fun W hW => (E.move f68 rfl)) fun a69 f69 => ?_
     clear f67 a64 f68 a68
     refine R.two 1 3 (by kernel_rfl) ?_ ?_
     ·skip
      refine O.val f69 rfl rfl (by decide) wantedN (by exact E.ld f69 U26 (BP)) trivial fun a70 f70 => ?_
      refine R.one 3 (by kernel_rfl) ?_
      obtain ⟨csg, BGO⟩ := RD.bk
      refine O.call f70 rfl rfl (by decide) wantedN (run_call Tryd.call85 (args2 f70 rfl rfl)) (pnum_any 1 B g _ _ RD (by decide)) ?_
      clear f69 a69
      rintro e w9 ⟨v9, r9, e9, hv9, hw9, rfl, RDn, kc9⟩
      clear RD
      refine ⟨_, rfl, trivial, fun a71 f71 => ?_⟩
      have szw9 := kc9.size
      replace HK := HK.trans kc9 (ktr (by simp))
      replace Bg0 := Bg0.kept kc9 (by simp; omega)
      replace BP := BP.kept kc9 (by simp; omega)
      replace PN := (by exact PN.kept1 kc9 BGO (by decide) (by omega))
      clear f70 a70 kc9
      have RD := RDn
      clear RDn BGO
      have hx : mu r9 < mu rq := by have h := numR_lt hr0 hrk (n := 1) (by decide); rw [e9] at h; exact h
      refine R.one 4 (by kernel_rfl) ?_
      refine O.buildSlice f71 rfl wantedN (by decide) (parts1 f71 rfl) U26 wzi3_wh rfl rfl (wbs26_1_wh _) (fun _ _ => trivial) fun a72 w10 g9 N9 hSn f72 => ?_
      clear hSn
      have Bg9 := N9.blk
      have kg9 := N9.kept
      have log9 := N9.lo
      have ltg9 := Bg9.lt
      have szw10 := kg9.size
      have frg9 : w.heap.size ≤ g9 := Nat.le_trans HK.size log9
      have neg0_g9 : g0 ≠ g9 := by have := Bg0.lt; omega
      have neg1_g9 : g1 ≠ g9 := by have := BP.lt; omega
      have FNg9 := PN.far log9
      replace HK := HK.trans kg9 (by simp)
      replace Bg0 := Bg0.kept kg9 (by simp)
      replace BP := BP.kept kg9 (by simp)
      replace PN := PN.kept0 kg9
      replace RD := RD.kept0 kg9
      clear N9 kg9
      refine R.one 5 (by kernel_rfl) ?_
      refine O.append f72 rfl wantedN (by decide) U26 wzib3_wh rfl rfl rfl rfl PN.codes.own (Bg9.slN (size := 1) rfl) (by intro u hu; simp at hu; subst hu; rfl) (by unfold maxLen; omega) (by omega) fun a73 w11 A11 c11 AP => ?_
      have szw11 := AP.kept.size
      have HKn := AP.grow PN.codes HK
      have RDn := RD.keptO AP.kept PN.codes.own (by decide) (by decide) (fun a ha => Nat.le_trans hBw (PN.codes.from a ha))
      have BPn := BP.kept AP.kept (own_ne PN.codes.own BP (by decide))
      have Bg0n := Bg0.kept AP.kept (own_ne PN.codes.own Bg0 (by decide))
      have PNn := PN.pushc hBw HK.size AP
      refine ⟨trivial, fun f73 => ?_⟩
      clear f71 a71 f72 Bg9 HK RD BP PN Bg0
      have HK := HKn
      have RD := RDn
      have BP := BPn
      have PN := PNn
      have Bg0 := Bg0n
      clear HKn RDn BPn PNn Bg0n AP
      refine R.u 6 f73 rfl ht trivial (fun W hW => (E.fa 23 f73 U28 rfl wsz26_wh)) fun a74 f74 => ?_
      refine R.one 7 (by kernel_rfl) ?_
      refine OT.store f74 rfl wantedN wsz26_wh rfl rfl rfl BP (by (simp [Value.cells]; done)) fun a75 w12 f75 NB12 ks12 => ?_
      have szw12 := ks12.size
      replace HK := HK.trans ks12 (ktr (by omega))
      replace Bg0 := Bg0.kept ks12 (by simp; omega)
      replace PN := (by exact PN.kept1 ks12 BP (by decide) (by omega))
      replace RD := RD.kept1 ks12 (by omega) (by omega) BP (by decide)
      replace BP := NB12
      simp only [Value.cells, z1, z2, z3, Nat.reduceAdd, Nat.zero_add] at BP
      clear f73 a73 ks12 f74 a74
      refine R.done (by kernel_rfl) (hKL33 _ _ (mu r9) ?_ ?_)
      ·omega
      exact ⟨{ qq with codes := qq.codes ++ [(v9 : Int)] }, r9, { sq with ca := A11, cc := c11 }, m', rfl, by omega, by rw [← hlq, loopC_9 hr0 hrk (by omega)]; simp only [e9], hkp, by show qq.subs.length + (qq.codes ++ [(v9 : Int)]).length + _ ≤ _; rw [List.length_append, List.length_singleton]; omega, HK, Bg0, RD, by rw [Pk.cells, List.length_append]; exact BP, PN, f75.sub (sub_cons rfl (sub_cons rfl (sub_cons rfl sn)))⟩
     skip
     obtain ⟨csg, BGO⟩ := RD.bk
     refine O.call f69 rfl rfl (by decide) wantedN (run_call Tryd.call85 (args2 f69 rfl rfl)) (pnum_any 1 B g _ _ RD (by decide)) ?_
     rintro e w9 ⟨v9, r9, e9, hv9, hw9, rfl, RDn, kc9⟩
     clear RD
     refine ⟨_, rfl, trivial, fun a70 f70 => ?_⟩
     have szw9 := kc9.size
     replace HK := HK.trans kc9 (ktr (by simp))
     replace Bg0 := Bg0.kept kc9 (by simp; omega)
     replace BP := BP.kept kc9 (by simp; omega)
     replace PN := (by exact PN.kept1 kc9 BGO (by decide) (by omega))
     clear f69 a69 kc9
     have RD := RDn
     clear RDn BGO
     have hx : mu r9 < mu rq := by have h := numR_lt hr0 hrk (n := 1) (by decide); rw [e9] at h; exact h
     refine R.two 1 4 (by kernel_rfl) ?_ ?_
     ·skip
      refine O.val f70 rfl rfl (by decide) wantedN (by exact E.ld f70 U26 (BP)) trivial fun a71 f71 => ?_
      refine R.one 4 (by kernel_rfl) ?_
      refine O.buildSlice f71 rfl wantedN (by decide) (parts1 f71 rfl) U26 wzi3_wh rfl rfl (wbs26_1_wh _) (fun _ _ => trivial) fun a72 w10 g9 N9 hSn f72 => ?_
      clear f70 a70 hSn
      have Bg9 := N9.blk
      have kg9 := N9.kept
      have log9 := N9.lo
      have ltg9 := Bg9.lt
      have szw10 := kg9.size
      have frg9 : w.heap.size ≤ g9 := Nat.le_trans HK.size log9
      have neg0_g9 : g0 ≠ g9 := by have := Bg0.lt; omega
      have neg1_g9 : g1 ≠ g9 := by have := BP.lt; omega
      have FNg9 := PN.far log9
      replace HK := HK.trans kg9 (by simp)
      replace Bg0 := Bg0.kept kg9 (by simp)
      replace BP := BP.kept kg9 (by simp)
      replace PN := PN.kept0 kg9
      replace RD := RD.kept0 kg9
      clear N9 kg9
      refine R.one 5 (by kernel_rfl) ?_
      refine O.append f72 rfl wantedN (by decide) U26 wzib3_wh rfl rfl rfl rfl PN.codes.own (Bg9.slN (size := 1) rfl) (by intro u hu; simp at hu; subst hu; rfl) (by unfold maxLen; omega) (by omega) fun a73 w11 A11 c11 AP => ?_
      have szw11 := AP.kept.size
      have HKn := AP.grow PN.codes HK
      have RDn := RD.keptO AP.kept PN.codes.own (by decide) (by decide) (fun a ha => Nat.le_trans hBw (PN.codes.from a ha))
      have BPn := BP.kept AP.kept (own_ne PN.codes.own BP (by decide))
      have Bg0n := Bg0.kept AP.kept (own_ne PN.codes.own Bg0 (by decide))
      have PNn := PN.pushc hBw HK.size AP
      refine ⟨trivial, fun f73 => ?_⟩
      clear f71 a71 f72 Bg9 HK RD BP PN Bg0
      have HK := HKn
      have RD := RDn
      have BP := BPn
      have PN := PNn
      have Bg0 := Bg0n
      clear HKn RDn BPn PNn Bg0n AP
      refine R.u 6 f73 rfl ht trivial (fun W hW => (E.fa 23 f73 U28 rfl wsz26_wh)) fun a74 f74 => ?_
      refine R.one 7 (by kernel_rfl) ?_
      refine OT.store f74 rfl wantedN wsz26_wh rfl rfl rfl BP (by (simp [Value.cells]; done)) fun a75 w12 f75 NB12 ks12 => ?_
      have szw12 := ks12.size
      replace HK := HK.trans ks12 (ktr (by omega))
      replace Bg0 := Bg0.kept ks12 (by simp; omega)
      replace PN := (by exact PN.kept1 ks12 BP (by decide) (by omega))
      replace RD := RD.kept1 ks12 (by omega) (by omega) BP (by decide)
      replace BP := NB12
      simp only [Value.cells, z1, z2, z3, Nat.reduceAdd, Nat.zero_add] at BP
      clear f73 a73 ks12 f74 a74
      refine R.done (by kernel_rfl) (hKL33 _ _ (mu r9) ?_ ?_)
      ·omega
      exact ⟨{ qq with codes := qq.codes ++ [(v9 : Int)] }, r9, { sq with ca := A11, cc := c11 }, m', rfl, by omega, by rw [← hlq, loopC_9 hr0 hrk (by omega)]; simp only [e9], hkp, by show qq.subs.length + (qq.codes ++ [(v9 : Int)]).length + _ ≤ _; rw [List.length_append, List.length_singleton]; omega, HK, Bg0, RD, by rw [Pk.cells, List.length_append]; exact BP, PN, f75.sub (sub_cons rfl (sub_cons rfl (sub_cons rfl sn)))⟩
     skip
     refine O.buildSlice f70 rfl wantedN (by decide) (parts1 f70 rfl) U26 wzi3_wh rfl rfl (wbs26_1_wh _) (fun _ _ => trivial) fun a71 w10 g9 N9 hSn f71 => ?_
     clear hSn
     have Bg9 := N9.blk
     have kg9 := N9.kept
     have log9 := N9.lo
     have ltg9 := Bg9.lt
     have szw10 := kg9.size
     have frg9 : w.heap.size ≤ g9 := Nat.le_trans HK.size log9
     have neg0_g9 : g0 ≠ g9 := by have := Bg0.lt; omega
     have neg1_g9 : g1 ≠ g9 := by have := BP.lt; omega
     have FNg9 := PN.far log9
     replace HK := HK.trans kg9 (by simp)
     replace Bg0 := Bg0.kept kg9 (by simp)
     replace BP := BP.kept kg9 (by simp)
     replace PN := PN.kept0 kg9
     replace RD := RD.kept0 kg9
     clear N9 kg9
     refine R.one 1 (by kernel_rfl) ?_
     refine O.val f71 rfl rfl (by decide) wantedN (by exact E.ld f71 U26 (BP)) trivial fun a72 f72 => ?_
     refine R.one 5 (by kernel_rfl) ?_
     refine O.append f72 rfl wantedN (by decide) U26 wzib3_wh rfl rfl rfl rfl PN.codes.own (Bg9.slN (size := 1) rfl) (by intro u hu; simp at hu; subst hu; rfl) (by unfold maxLen; omega) (by omega) fun a73 w11 A11 c11 AP => ?_
     have szw11 := AP.kept.size
     have HKn := AP.grow PN.codes HK
     have RDn := RD.keptO AP.kept PN.codes.own (by decide) (by decide) (fun a ha => Nat.le_trans hBw (PN.codes.from a ha))
     have BPn := BP.kept AP.kept (own_ne PN.codes.own BP (by decide))
     have Bg0n := Bg0.kept AP.kept (own_ne PN.codes.own Bg0 (by decide))
     have PNn := PN.pushc hBw HK.size AP
     refine ⟨trivial, fun f73 => ?_⟩
     clear f70 a70 f71 a71 f72 Bg9 HK RD BP PN Bg0
     have HK := HKn
     have RD := RDn
     have BP := BPn
     have PN := PNn
     have Bg0 := Bg0n
     clear HKn RDn BPn PNn Bg0n AP
     refine R.u 6 f73 rfl ht trivial (fun W hW => (E.fa 23 f73 U28 rfl wsz26_wh)) fun a74 f74 => ?_
     refine R.one 7 (by kernel_rfl) ?_
     refine OT.store f74 rfl wantedN wsz26_wh rfl rfl rfl BP (by (simp [Value.cells]; done)) fun a75 w12 f75 NB12 ks12 => ?_
     have szw12 := ks12.size
     replace HK := HK.trans ks12 (ktr (by omega))
     replace Bg0 := Bg0.kept ks12 (by simp; omega)
     replace PN := (by exact PN.kept1 ks12 BP (by decide) (by omega))
     replace RD := RD.kept1 ks12 (by omega) (by omega) BP (by decide)
     replace BP := NB12
     simp only [Value.cells, z1, z2, z3, Nat.reduceAdd, Nat.zero_add] at BP
     clear f73 a73 ks12 f74 a74
     refine R.done (by kernel_rfl) (hKL33 _ _ (mu r9) ?_ ?_)
     ·omega
     exact ⟨{ qq with codes := qq.codes ++ [(v9 : Int)] }, r9, { sq with ca := A11, cc := c11 }, m', rfl, by omega, by rw [← hlq, loopC_9 hr0 hrk (by omega)]; simp only [e9], hkp, by show qq.subs.length + (qq.codes ++ [(v9 : Int)]).length + _ ≤ _; rw [List.length_append, List.length_singleton]; omega, HK, Bg0, RD, by rw [Pk.cells, List.length_append]; exact BP, PN, f75.sub (sub_cons rfl (sub_cons rfl (sub_cons rfl sn)))⟩
    refine C.condF f66 rfl ?_
    exact wp_exit (then_of (J := J39) (Q := fun _ _ _ => True) (by rw [hJ39]; exact ⟨qq, rq, sq, by rw [hR0, hS]; simp only; rw [← hlq]; exact loopC_end (by (right; right; exact List.eq_nil_of_length_eq_zero (by omega))), HK, Bg0, RD, BP, PN, f66.sub (sub_cons rfl (sub_cons rfl sn))⟩))
   refine R.runT [11, 12, 13, 14, 15, 16, 17, 18, 19, 20, 21] #[true, true, true, true, true, true, true, true, true, true, true, true, true, true, true, true, true, true, true, true, true, true] f53 ht (fun _ _ _ _ h => h) ⟨HK, BP, BG⟩ (by kernel_rfl) fun a54 f54 => ?_
   have f55 := f54.sub (sub_cons (i := 1) (Fr.keptT f54 (by kernel_rfl) rfl) (sub_cons (i := 4) (Fr.keptT f54 (by kernel_rfl) rfl) (sub_cons (i := 5) (Fr.keptT f54 (by kernel_rfl) rfl) (sub_cons (i := 80) (v := .bool false) (by kernel_rfl) sn))))
   refine R.done (by kernel_rfl) (hK35 _ _ ?_)
   have f56 := f55.sub (sc 1 (sc 4 (sc 5 (sc 80 sn))))
   refine C.condF f56 rfl ?_
   exact wp_exit (then_of (J := J39) (Q := fun _ _ _ => True) (by rw [hJ39]; exact ⟨qq, rq, sq, by rw [hR0, hS]; simp only; rw [← hlq]; exact loopC_end (by (right; left; assumption)), HK, Bg0, RD, BP, PN, f56.sub (sub_cons rfl (sub_cons rfl sn))⟩))
  refine R.runT [4, 5, 6, 7, 8, 9, 10, 11, 12, 13, 14, 15, 16, 17, 18, 19, 20, 21] #[true, true, true, true, true, true, true, true, true, true, true, true, true, true, true, true, true, true, true, true, true, true] f45 ht (fun _ _ _ _ h => h) ⟨HK, BP, BG⟩ (by kernel_rfl) fun a46 f46 => ?_
  have f47 := f46.sub (sub_cons (i := 1) (Fr.keptT f46 (by kernel_rfl) rfl) (sub_cons (i := 4) (Fr.keptT f46 (by kernel_rfl) rfl) (sub_cons (i := 5) (Fr.keptT f46 (by kernel_rfl) rfl) (sub_cons (i := 80) (v := .bool false) (by kernel_rfl) sn))))
  refine R.done (by kernel_rfl) (hK35 _ _ ?_)
  have f48 := f47.sub (sc 1 (sc 4 (sc 5 (sc 80 sn))))
  refine C.condF f48 rfl ?_
  exact wp_exit (then_of (J := J39) (Q := fun _ _ _ => True) (by rw [hJ39]; exact ⟨qq, rq, sq, by rw [hR0, hS]; simp only; rw [← hlq]; exact loopC_end (by (left; omega)), HK, Bg0, RD, BP, PN, f48.sub (sub_cons rfl (sub_cons rfl sn))⟩))
 intro a11 w4 hj
 rw [hJ39] at hj
 clear hJ39 J39
 obtain ⟨p9, r9, s9, hR, HK, Bg0, RD, BP, PN, f11⟩ := hj
 try clear f10
 refine C.sk fun K36 hK36 => ?_
 refine L.va f11 (by exact E.loadB f11 U28 rfl wsz28_wh rfl (BP) rfl) fun a12 f12 => ?_
 refine L.storeR f12 wantedN wsz28_wh rfl rfl rfl Bg0 rfl rfl fun a13 w5 f13 NB5 ks5 => ?_
 have szw5 := ks5.size
 replace HK := HK.trans ks5 (ktr (by omega))
 replace RD := RD.kept1 ks5 (by omega) (by omega) Bg0 (by decide)
 replace BP := BP.kept ks5 (by simp; omega)
 replace PN := (by exact PN.kept1 ks5 Bg0 (by decide) (by omega))
 replace Bg0 := NB5
 clear f11 a11 ks5 f12 a12
 refine wpList_nil (hK36 _ _ ?_)
 have f14 := f13.sub (sc 4 sn)
 refine wp_ret ?_
 try simp only [Exit.inBlock, Exit.then]
 refine C.retC (P := Tryd.prog) (fn := Tryd.f62) f14 rfl rfl Bg0 U28 rfl wsz28_wh ?_
 exact ⟨p9, r9, s9, hR, rfl, HK, RD, PN⟩
end Go.Proofs.YtigjafbbnocihaaDoor
namespace Go.Proofs.YtigjafbbnocihaaDoor
open Go.RowKit Go.Hub Go.Lib Go.Vl
theorem wzi5_wk : (Tryd.prog.info? 5).map (fun i => (i.zero, i.size)) = some (some (.int .u8 0), 1) := by kernel_rfl
theorem wzi22_wk : (Tryd.prog.info? 22).map (fun i => (i.zero, i.size)) = some (some (.slice none 0 0), 1) := by kernel_rfl
theorem wbs22_1_wk (x0 : Int) : Instr.fill (fun i => some (i * 1, 1)) ((Array.range (1 * 1)).map fun j => (Value.cells (.int .u8 0))[j % (Value.cells (.int .u8 0)).size]!) [(0, .int .u8 x0)] = some #[.int .u8 x0] := by kernel_rfl
theorem wbs45_3_wk (x0 : Option Addr) (y0 z0 : Nat) (x1 : Option Addr) (y1 z1 : Nat) (x2 : Option Addr) (y2 z2 : Nat) : Instr.fill (fun i => some (i * 1, 1)) ((Array.range (3 * 1)).map fun j => (Value.cells (.slice none 0 0))[j % (Value.cells (.slice none 0 0)).size]!) [(0, .slice x0 y0 z0), (1, .slice x1 y1 z1), (2, .slice x2 y2 z2)] = some #[.slice x0 y0 z0, .slice x1 y1 z1, .slice x2 y2 z2] := by kernel_rfl
theorem wsz28_wk : (Tryd.prog.info? 28).map (·.size) = some 24 := by kernel_rfl
theorem wzib5_wk : (Tryd.prog.info? 5).map (fun i => (i.zero, i.size, i.bytes)) = some (some (.int .u8 0), 1, 1) := by kernel_rfl
theorem wsz3_wk : (Tryd.prog.info? 3).map (·.size) = some 1 := by kernel_rfl
theorem wsz4_wk : (Tryd.prog.info? 4).map (·.size) = some 1 := by kernel_rfl
def putB (p : Pk) : List UInt8 × Int := if rightB p = true then (encL p, 0) else ([], 26)
theorem putB_t {p : Pk} (h : rightB p = true) : putB p = (encL p, 0) := if_pos h
theorem putB_f {p : Pk} (h : rightB p = false) : putB p = ([], 26) := if_neg (by rw [h]; decide)
def PutW (p : Pk) (w : World) (e : Ending) (w' : World) : Prop := Kept [] w w' ∧ ∃ A c, e = .returned (.tuple #[.slice A (putB p).1.length c, .int .i64 (putB p).2]) ∧ FB w w' A c (putB p).1
theorem own_slice {w : World} {v : Value} {n : Nat} {l : List UInt8} (h : Own w 5 1 v n (l.map u8)) : ∃ A c, v = .slice A n c := by
  obtain ⟨A, c, e, _⟩ := h.form
  exact ⟨A, c, e⟩
theorem vpost {n : Int} {w w' : World} {e : Ending} (hn : 0 ≤ n ∧ n ≤ 268435455) (h : PutPost n w e w') : Kept [] w w' ∧ ∃ A c, e = .returned (.tuple #[.slice A (putL n).length c, .int .i64 0]) ∧ FB w w' A c (putL n) := by
  obtain ⟨hb, h⟩ := h
  refine ⟨Kept.of_below hb [], ?_⟩
  rcases h with ⟨h0, _⟩ | ⟨_, v, he, ho, hlo⟩
  · have := szN_pos n hn
    omega
  obtain ⟨A, c, rfl⟩ := own_slice ho
  rw [← putL_len] at ho he
  exact ⟨A, c, he, ho, fun b hb => hlo b ((own_block A _ c b).2 hb)⟩
theorem vput_any (n : Int) (w : World) (hn : 0 ≤ n ∧ n ≤ 268435455) : Calls Tryd.prog 38 #[.int .i64 n] w fun e w' => Kept [] w w' ∧ ∃ A c, e = .returned (.tuple #[.slice A (putL n).length c, .int .i64 0]) ∧ FB w w' A c (putL n) := (put_any n w).mono fun _ _ h => vpost hn h
theorem vputR_any (n : Int) (w : World) (hn : 0 ≤ n ∧ n ≤ 268435455) : Calls Tryd.prog 43 #[.int .i64 n] w fun e w' => Kept [] w w' ∧ ∃ A c, e = .returned (.tuple #[.slice A (putL n).length c, .int .i64 0]) ∧ FB w w' A c (putL n) := (putR_any n w).mono fun _ _ h => vpost hn h
theorem cat_each {w : World} {A1 A2 A3 : Option Addr} {c1 c2 c3 : Nat} {l1 l2 l3 : List UInt8} (h1 : Sl w A1 l1.length 1 (l1.map u8)) (h2 : Sl w A2 l2.length 1 (l2.map u8)) (h3 : Sl w A3 l3.length 1 (l3.map u8)) : ∀ r ∈ [(A1, c1, l1), (A2, c2, l2), (A3, c3, l3)], Sl w r.1 r.2.2.length 1 (r.2.2.map u8) := fun r hr => by
  simp only [List.mem_cons, List.not_mem_nil, or_false] at hr
  rcases hr with rfl | rfl | rfl
  · exact h1
  · exact h2
  exact h3
theorem FB.one {w0 w w' : World} {g : Nat} {b : UInt8} {cs : Array Value} (h : Newb w w' g 5 cs) (hs : w0.heap.size ≤ w.heap.size) (hc : cs.toList = [b].map u8) : FB w0 w' (some ⟨g, 0, none⟩) 1 [b] := by
  have hz : cs.size = 1 * 1 := by
    have := congrArg List.length hc
    simpa using this
  have ho := h.own (k := 1) (size := 1) hz (by decide)
  rw [hc] at ho
  exact ⟨ho, fun x hx => by simp at hx; subst hx; exact Nat.le_trans hs h.lo⟩
set_option maxHeartbeats 1000000 in
theorem wput_any (p : Pk) (s : Ad) (w : World) (IP : p.In w s) (hL : p.Len) (hT : Tabs w) : Calls Tryd.prog 17 #[.agg (p.cells s)] w (PutW p w) := by
 have HK : Kept [] w w := Kept.refl [] w
 refine C.enter Tryd.func17 rfl Tryd.ntmps17 rfl ?_
 intro a0 f0
 have f1 : Fr 25 a0 [(0, .agg (p.cells s))] := f0
 refine C.sk fun K0 hK0 => ?_
 refine L.box f1 wantedN (by decide) rfl rfl fun a2 w1 g0 N0 f2 => ?_
 have Bg0 := N0.blk
 have kg0 := N0.kept
 have log0 := N0.lo
 have ltg0 := Bg0.lt
 have szw1 := kg0.size
 have frg0 : w.heap.size ≤ g0 := Nat.le_trans HK.size log0
 replace HK := HK.trans kg0 (by simp)
 clear f0 N0 kg0
 refine L.ag f2 fun a3 f3 => ?_
 refine L.ag f3 fun a4 f4 => ?_
 refine wpList_nil (hK0 _ _ ?_)
 have f5 := f4.sub (sc 1 sn)
 refine wp_seq_k fun K1 hK1 => ?_
 refine C.sk fun K2 hK2 => ?_
 refine L.va f5 (by exact E.loadB f5 U28 rfl wsz28_wk rfl (Bg0) rfl) fun a6 f6 => ?_
 refine L.cl f6 (run_call Tryd.call19 (args1 f6 rfl)) (right_any p s _ (IP.kept HK) hL (hT.old (HK.below (by simp) (Nat.le_refl _)))) ?_
 clear f1 a0 f2 a2 f3 a3 f4 f5 a4
 rintro e w2 ⟨kc2, rfl⟩
 refine ⟨_, rfl, fun a7 f7 => ?_⟩
 have szw2 := kc2.size
 replace HK := HK.trans kc2 (by simp)
 replace Bg0 := Bg0.kept kc2 (by simp)
 clear f6 a6 kc2
 refine L.va f7 (E.not f7 rfl) fun a8 f8 => ?_
 refine wpList_nil (hK2 _ _ ?_)
 have f9 := f8.sub (sc 1 (sc 9 sn))
 clear f7 a7 f8
 refine f9.splitNB 9 rfl (fun h0 f10 => ?_) (fun h0 f10 => ?_)
 ·have hr : rightB p = false := h0
  refine C.condT f10 rfl ?_
  refine C.sk fun K3 hK3 => ?_
  refine L.ag f10 fun a11 f11 => ?_
  refine L.ag f11 fun a12 f12 => ?_
  refine wpList_nil (hK3 _ _ ?_)
  have f13 := f12.sub (sc 2 (sc 3 sn))
  refine wp_ret ?_
  try simp only [Exit.inBlock, Exit.then]
  refine C.ret2 (P := Tryd.prog) (fn := Tryd.f17) f13 rfl rfl rfl ?_
  refine ⟨HK, none, 0, ?_, by rw [putB_f hr]; exact FB.nil _ _⟩
  rw [putB_f hr]
  rfl
 have hr : rightB p = true := h0
 have hRt := rightB_iff.1 hr
 have hkd := inB_iff.1 hRt.kd
 have hlen := hRt.len
 refine C.condF f10 rfl ?_
 refine wp_skip (hK1 _ _ ?_)
 have f11 := f10.sub (sc 1 sn)
 refine C.sk fun K4 hK4 => ?_
 refine L.va f11 (by exact E.loadB f11 U28 rfl wsz28_wk rfl (Bg0) rfl) fun a12 f12 => ?_
 refine L.cl f12 (run_call Tryd.call37 (args1 f12 rfl)) (behind_any p s _ (IP.kept HK) hL (fun hk => val_wq hRt.val hk)) ?_
 clear f9 f10 f11 a8
 rintro e w3 ⟨kc3, A3, c3, rfl, Q3⟩
 have szk := HK.size
 have F3 := FB.lower Q3 szk
 clear Q3
 refine ⟨_, rfl, fun a13 f13 => ?_⟩
 have szw3 := kc3.size
 replace HK := HK.trans kc3 (by simp)
 replace Bg0 := Bg0.kept kc3 (by simp)
 clear f12 a12 kc3
 refine L.ag f13 fun a14 f14 => ?_
 refine wpList_nil (hK4 _ _ ?_)
 have f15 := f14.sub (sc 1 (sc 4 sn))
 refine C.sk fun K5 hK5 => ?_
 refine L.mv f15 fun a16 f16 => ?_
 refine L.va f16 (E.lenL f16 U22 rfl) fun a17 f17 => ?_
 refine L.cl f17 (run_call Tryd.call38 (args1 f17 rfl)) (vput_any _ _ (by omega)) ?_
 clear f13 a13 f14 f15 a14 f16 a16
 rintro e w4 ⟨kc4, A4, c4, rfl, Q4⟩
 have szk := HK.size
 have F4 := FB.lower Q4 szk
 clear Q4
 refine ⟨_, rfl, fun a18 f18 => ?_⟩
 have szw4 := kc4.size
 replace HK := HK.trans kc4 (by simp)
 replace Bg0 := Bg0.kept kc4 (by simp)
 replace F3 := F3.kept0 kc4
 clear f17 a17 kc4
 refine L.mv f18 fun a19 f19 => ?_
 refine L.va f19 (E.extract f19 rfl rfl) fun a20 f20 => ?_
 refine L.va f20 (E.extract f20 rfl rfl) fun a21 f21 => ?_
 refine L.ag f21 fun a22 f22 => ?_
 refine L.ag f22 fun a23 f23 => ?_
 refine wpList_nil (hK5 _ _ ?_)
 have f24 := f23.sub (sc 1 (sc 4 (sc 5 sn)))
 refine C.sk fun K6 hK6 => ?_
 refine L.va f24 (by exact E.loadB f24 U28 rfl wsz28_wk rfl (Bg0) rfl) fun a25 f25 => ?_
 refine L.cl f25 (run_call Tryd.call40 (args1 f25 rfl)) (first_any p s _ (by omega) (fun hk => by have := (pub_facts hRt hk).1; omega)) ?_
 clear f18 a18 f19 a19 f20 a20 f21 a21 f22 a22 f23 f24 a23
 rintro e w5 ⟨kc5, rfl⟩
 refine ⟨_, rfl, fun a26 f26 => ?_⟩
 have szw5 := kc5.size
 replace HK := HK.trans kc5 (by simp)
 replace Bg0 := Bg0.kept kc5 (by simp)
 replace F3 := F3.kept0 kc5
 replace F4 := F4.kept0 kc5
 clear f25 a25 kc5
 refine L.buildSlice f26 wantedN (by decide) (parts1 f26 rfl) U22 wzi5_wk rfl rfl (wbs22_1_wk _) fun a27 w6 g5 N5 f27 => ?_
 have Bg5 := N5.blk
 have kg5 := N5.kept
 have log5 := N5.lo
 have ltg5 := Bg5.lt
 have szw6 := kg5.size
 have frg5 : w.heap.size ≤ g5 := Nat.le_trans HK.size log5
 have neg0_g5 : g0 ≠ g5 := by have := Bg0.lt; omega
 replace HK := HK.trans kg5 (by simp)
 replace Bg0 := Bg0.kept kg5 (by simp)
 replace F3 := F3.kept0 kg5
 replace F4 := F4.kept0 kg5
 clear N5 kg5
 refine L.mv f27 fun a28 f28 => ?_
 refine L.mv f28 fun a29 f29 => ?_
 refine L.buildSlice f29 wantedN (by decide) (parts3 f29 rfl rfl rfl) U45 wzi22_wk rfl rfl (wbs45_3_wk _ _ _ _ _ _ _ _ _) fun a30 w7 g6 N6 f30 => ?_
 have Bg6 := N6.blk
 have kg6 := N6.kept
 have log6 := N6.lo
 have ltg6 := Bg6.lt
 have szw7 := kg6.size
 have frg6 : w.heap.size ≤ g6 := Nat.le_trans HK.size log6
 have neg0_g6 : g0 ≠ g6 := by have := Bg0.lt; omega
 have neg5_g6 : g5 ≠ g6 := by have := Bg5.lt; omega
 replace HK := HK.trans kg6 (by simp)
 replace Bg0 := Bg0.kept kg6 (by simp)
 replace F3 := F3.kept0 kg6
 replace F4 := F4.kept0 kg6
 replace Bg5 := Bg5.kept kg6 (by simp)
 clear f26 a26 f27 a27 f28 a28 N6 kg6
 refine L.cl f30 (run_call Tryd.call39 (args1 f30 rfl)) (cat_any [(some ⟨g5, 0, none⟩, 1, [b8 (firstI p)]), (A4, c4, putL ((behindL p).length : Int)), (A3, c3, behindL p)] _ _ _ (Bg6.slN (size := 1) rfl) (cat_each ((Bg5.slN (size := 1) rfl)) F4.sl F3.sl) (by simp [putL_len]; have := szN_le ((behindL p).length : Int); omega) (by simp)) ?_
 clear f29 a29
 rintro e w8 ⟨kc8, A8, c8, rfl, Q8⟩
 have szk := HK.size
 have F8 := FB.lower Q8 szk
 clear Q8
 refine ⟨_, rfl, fun a31 f31 => ?_⟩
 have szw8 := kc8.size
 replace HK := HK.trans kc8 (by simp)
 replace Bg0 := Bg0.kept kc8 (by simp)
 replace F3 := F3.kept0 kc8
 replace F4 := F4.kept0 kc8
 replace Bg5 := Bg5.kept kc8 (by simp)
 replace Bg6 := Bg6.kept kc8 (by simp)
 clear f30 a30 kc8
 refine L.ag f31 fun a32 f32 => ?_
 refine L.ag f32 fun a33 f33 => ?_
 refine wpList_nil (hK6 _ _ ?_)
 have f34 := f33.sub (sc 2 (sc 3 sn))
 refine wp_ret ?_
 try simp only [Exit.inBlock, Exit.then]
 refine C.ret2 (P := Tryd.prog) (fn := Tryd.f17) f34 rfl rfl rfl ?_
 clear f31 a31 f32 a32 f33
 refine ⟨HK, A8, c8, ?_, ?_⟩
 ·rw [putB_t hr]
  simp [encL]
 rw [putB_t hr]
 simpa [encL] using F8
set_option maxHeartbeats 1000000 in
theorem wputR_any (p : Pk) (s : Ad) (w : World) (IP : p.In w s) (hL : p.Len) (hT : Tabs w) : Calls Tryd.prog 18 #[.agg (p.cells s)] w (PutW p w) := by
 have HK : Kept [] w w := Kept.refl [] w
 refine C.enter Tryd.func18 rfl Tryd.ntmps18 rfl ?_
 intro a0 f0
 have f1 : Fr 49 a0 [(0, .agg (p.cells s))] := f0
 refine C.sk fun K0 hK0 => ?_
 refine L.box f1 wantedN (by decide) rfl rfl fun a2 w1 g0 N0 f2 => ?_
 have Bg0 := N0.blk
 have kg0 := N0.kept
 have log0 := N0.lo
 have ltg0 := Bg0.lt
 have szw1 := kg0.size
 have frg0 : w.heap.size ≤ g0 := Nat.le_trans HK.size log0
 replace HK := HK.trans kg0 (by simp)
 clear f0 N0 kg0
 refine L.ag f2 fun a3 f3 => ?_
 refine L.ag f3 fun a4 f4 => ?_
 refine wpList_nil (hK0 _ _ ?_)
 have f5 := f4.sub (sc 1 sn)
 refine wp_seq_k fun K1 hK1 => ?_
 refine C.sk fun K2 hK2 => ?_
 refine L.va f5 (by exact E.loadB f5 U28 rfl wsz28_wk rfl (Bg0) rfl) fun a6 f6 => ?_
 refine L.cl f6 (run_call Tryd.call20 (args1 f6 rfl)) (rightR_any p s _ (IP.kept HK) hL (hT.old (HK.below (by simp) (Nat.le_refl _)))) ?_
 clear f1 a0 f2 a2 f3 a3 f4 f5 a4
 rintro e w2 ⟨kc2, rfl⟩
 refine ⟨_, rfl, fun a7 f7 => ?_⟩
 have szw2 := kc2.size
 replace HK := HK.trans kc2 (by simp)
 replace Bg0 := Bg0.kept kc2 (by simp)
 clear f6 a6 kc2
 refine L.va f7 (E.not f7 rfl) fun a8 f8 => ?_
 refine wpList_nil (hK2 _ _ ?_)
 have f9 := f8.sub (sc 1 (sc 10 sn))
 clear f7 a7 f8
 refine f9.splitNB 10 rfl (fun h0 f10 => ?_) (fun h0 f10 => ?_)
 ·have hr : rightB p = false := by rw [← rightR_is]; exact h0
  refine C.condT f10 rfl ?_
  refine C.sk fun K3 hK3 => ?_
  refine L.ag f10 fun a11 f11 => ?_
  refine L.ag f11 fun a12 f12 => ?_
  refine wpList_nil (hK3 _ _ ?_)
  have f13 := f12.sub (sc 2 (sc 3 sn))
  refine wp_ret ?_
  try simp only [Exit.inBlock, Exit.then]
  refine C.ret2 (P := Tryd.prog) (fn := Tryd.f18) f13 rfl rfl rfl ?_
  refine ⟨HK, none, 0, ?_, by rw [putB_f hr]; exact FB.nil _ _⟩
  rw [putB_f hr]
  rfl
 have hr : rightB p = true := by rw [← rightR_is]; exact h0
 have hRt := rightB_iff.1 hr
 have hkd := inB_iff.1 hRt.kd
 have hlen := hRt.len
 refine C.condF f10 rfl ?_
 refine wp_skip (hK1 _ _ ?_)
 have f11 := f10.sub (sc 1 sn)
 refine C.sk fun K4 hK4 => ?_
 refine L.ag f11 fun a12 f12 => ?_
 refine wpList_nil (hK4 _ _ ?_)
 have f13 := f12.sub (sc 1 (sc 4 sn))
 obtain ⟨J11, hJ11⟩ : ∃ J : Act → World → Prop, J = fun a W => ∃ fl : Int, p.kind * 16 + fl = firstI p ∧ (0 ≤ fl ∧ fl ≤ 15) ∧ Kept [] w W ∧ Blk W g0 28 (p.cells s) ∧ Fr 49 a [(1, .pointer (some ⟨g0, 0, none⟩)), (4, .int .i64 fl)] := ⟨_, rfl⟩
 clear f9 f10 f11 a8 f12
 refine C.cut J11 ?_ ?_
 ·skip
  refine C.sk fun K5 hK5 => ?_
  refine L.fa 0 f13 U28 rfl wsz3_wk fun a14 f14 => ?_
  refine L.ld f14 U3 Bg0 fun a15 f15 => ?_
  refine wpList_nil (hK5 _ _ ?_)
  have f16 := f15.sub (sc 1 (sc 4 (sc 12 sn)))
  refine wp_block ?_
  refine wp_seq_k fun K6 hK6 => ?_
  refine C.sk fun K7 hK7 => ?_
  refine L.va f16 (E.eq f16) fun a17 f17 => ?_
  refine L.ag f17 fun a18 f18 => ?_
  refine wpList_nil (hK7 _ _ ?_)
  have f19 := f18.sub (sc 1 (sc 4 (sc 12 (sc 13 sn))))
  clear f13 a12 f14 a14 f15 f16 a15 f17 a17 f18
  refine f19.splitD 13 rfl (fun h1 f20 => ?_) (fun h1 f20 => ?_)
  ·refine C.condT f20 rfl ?_
   refine wp_skip (hK6 _ _ ?_)
   have f21 := f20.sub (sc 1 (sc 4 (sc 12 (sc 13 sn))))
   refine C.condT f21 rfl ?_
   refine C.region ?_
   refine L.ag f21 fun a22 f22 => ?_
   exact wpList_nil (then_of (J := J11) (Q := fun _ _ _ => True) (by rw [hJ11]; exact ⟨2, by unfold firstI; rw [if_pos (by omega)], by omega, HK, Bg0, f22.sub (sub_cons rfl (sub_cons rfl sn))⟩))
  refine C.condF f20 rfl ?_
  refine C.sk fun K8 hK8 => ?_
  refine L.va f20 (E.eq f20) fun a21 f21 => ?_
  refine L.ag f21 fun a22 f22 => ?_
  refine wpList_nil (hK8 _ _ ?_)
  have f23 := f22.sub (sc 1 (sc 4 (sc 12 (sc 13 sn))))
  clear f19 f20 a18 f21 a21 f22
  refine f23.splitD 13 rfl (fun h2 f24 => ?_) (fun h2 f24 => ?_)
  ·refine C.condT f24 rfl ?_
   refine wp_skip (hK6 _ _ ?_)
   have f25 := f24.sub (sc 1 (sc 4 (sc 12 (sc 13 sn))))
   refine C.condT f25 rfl ?_
   refine C.region ?_
   refine L.ag f25 fun a26 f26 => ?_
   exact wpList_nil (then_of (J := J11) (Q := fun _ _ _ => True) (by rw [hJ11]; exact ⟨2, by unfold firstI; rw [if_pos (by omega)], by omega, HK, Bg0, f26.sub (sub_cons rfl (sub_cons rfl sn))⟩))
  refine C.condF f24 rfl ?_
  refine C.region ?_
  refine L.va f24 (E.eq f24) fun a25 f25 => ?_
  refine L.ag f25 fun a26 f26 => ?_
  refine wpList_nil (hK6 _ _ ?_)
  have f27 := f26.sub (sc 1 (sc 4 (sc 12 (sc 13 sn))))
  clear f23 f24 a22 f25 a25 f26
  refine f27.splitD 13 rfl (fun h3 f28 => ?_) (fun h3 f28 => ?_)
  ·refine C.condT f28 rfl ?_
   refine C.region ?_
   refine L.ag f28 fun a29 f29 => ?_
   exact wpList_nil (then_of (J := J11) (Q := fun _ _ _ => True) (by rw [hJ11]; exact ⟨2, by unfold firstI; rw [if_pos (by omega)], by omega, HK, Bg0, f29.sub (sub_cons rfl (sub_cons rfl sn))⟩))
  refine C.condF f28 rfl ?_
  refine C.sk fun K9 hK9 => ?_
  refine L.va f28 (E.eq f28) fun a29 f29 => ?_
  refine L.ag f29 fun a30 f30 => ?_
  refine wpList_nil (hK9 _ _ ?_)
  have f31 := f30.sub (sc 1 (sc 4 (sc 17 sn)))
  clear f27 f28 a26 f29 a29 f30
  refine f31.splitD 17 rfl (fun h4 f32 => ?_) (fun h4 f32 => ?_)
  ·refine C.condT f32 rfl ?_
   have hq3 := (pub_facts hRt (by omega)).1
   have hd8 := flg_bd p.dup 8 (by omega)
   have hr1 := flg_bd p.retain 1 (by omega)
   have hd10 : Kept [] w2 (w2.drewN 1) := (Kept.refl _ _).drewN 1
   refine R.beginT (S := fun W => (Kept [] w W) ∧ (Blk W g0 28 (p.cells s))) (by kernel_rfl) (by kernel_rfl) ⟨HK.trans hd10 (by simp), Bg0.kept hd10 (by simp)⟩ fun ht => ?_
   obtain ⟨w3, hww3⟩ : ∃ W, W = w2.drewN 1 := ⟨_, rfl⟩
   rw [← hww3] at hd10 ⊢
   clear f31 hww3
   have szw3 := hd10.size
   replace HK := HK.trans hd10 (by simp)
   replace Bg0 := Bg0.kept hd10 (by simp)
   clear hd10
   refine R.u 0 f32 rfl ht ⟨HK, Bg0⟩ (fun W hW => (E.fa 1 f32 U28 rfl wsz4_wk)) fun a33 f33 => ?_
   refine R.u 1 f33 rfl ht ⟨HK, Bg0⟩ (fun W hW => (by exact E.ld f33 U4 (hW.2))) fun a34 f34 => ?_
   refine R.u 3 f34 rfl ht ⟨HK, Bg0⟩ (fun W hW => (E.fa 3 f34 U28 rfl wsz3_wk)) fun a35 f35 => ?_
   refine R.u 4 f35 rfl ht ⟨HK, Bg0⟩ (fun W hW => (by exact E.ld f35 U3 (hW.2))) fun a36 f36 => ?_
   refine R.u 5 f36 rfl ht ⟨HK, Bg0⟩ (fun W hW => (E.mul f36 rfl rfl (IntWalk.i64_in _ (by omega)))) fun a37 f37 => ?_
   refine R.u 7 f37 rfl ht ⟨HK, Bg0⟩ (fun W hW => (E.fa 2 f37 U28 rfl wsz4_wk)) fun a38 f38 => ?_
   refine R.u 8 f38 rfl ht ⟨HK, Bg0⟩ (fun W hW => (by exact E.ld f38 U4 (hW.2))) fun a39 f39 => ?_
   clear f32 a30 f33 a33 f34 a34 f35 a35 f36 a36 f37 a37 f38 a38
   refine R.call 2 f39 rfl rfl (by decide) (by kernel_rfl) wantedN (run_call Tryd.call41 (args2 f39 rfl rfl)) (bit_any _ _ _) ?_
   rintro e w3x ⟨rfl, rfl⟩
   refine ⟨_, rfl, ⟨HK, Bg0⟩, fun a40 f40 => ?_⟩
   refine R.u 6 f40 rfl ht ⟨HK, Bg0⟩ (fun W hW => (E.add f40 rfl rfl (IntWalk.i64_in _ (by omega)))) fun a41 f41 => ?_
   refine R.call 9 f41 rfl rfl (by decide) (by kernel_rfl) wantedN (run_call Tryd.call41 (args2 f41 rfl rfl)) (bit_any _ _ _) ?_
   clear f39 a39 f40 a40
   rintro e w3x ⟨rfl, rfl⟩
   refine ⟨_, rfl, ⟨HK, Bg0⟩, fun a42 f42 => ?_⟩
   refine R.u 10 f42 rfl ht ⟨HK, Bg0⟩ (fun W hW => (E.add f42 rfl rfl (IntWalk.i64_in _ (by omega)))) fun a43 f43 => ?_
   refine R.u 11 f43 rfl ht ⟨HK, Bg0⟩ (fun W hW => (E.assign f43 rfl)) fun a44 f44 => ?_
   exact R.done (by kernel_rfl) (then_of (J := J11) (Q := fun _ _ _ => True) (by rw [hJ11]; exact ⟨flg p.dup 8 + 2 * p.qos + flg p.retain 1, by unfold firstI; rw [if_neg (by omega), if_pos (by omega)], by omega, HK, Bg0, f44.sub (sub_cons rfl (sub_cons rfl sn))⟩))
  refine C.condF f32 rfl ?_
  exact wp_skip (then_of (J := J11) (Q := fun _ _ _ => True) (by rw [hJ11]; exact ⟨0, by unfold firstI; rw [if_neg (by omega), if_neg (by omega)], by omega, HK, Bg0, f32.sub (sub_cons rfl (sub_cons rfl sn))⟩))
 intro a14 w3 hj
 rw [hJ11] at hj
 clear hJ11 J11
 obtain ⟨fl, hfl, hflb, HK, Bg0, f14⟩ := hj
 try clear f13
 refine C.sk fun K10 hK10 => ?_
 refine L.va f14 (by exact E.loadB f14 U28 rfl wsz28_wk rfl (Bg0) rfl) fun a15 f15 => ?_
 have hC := body_any p s w3 (IP.kept HK) hL (fun hk => val_wq hRt.val hk)
 rw [body_is p hRt.kd hRt.bare] at hC
 refine L.cl f15 (run_call Tryd.call42 (args1 f15 rfl)) hC ?_
 clear f14 a14
 rintro e w4 ⟨kc4, A4, c4, rfl, Q4⟩
 have szk := HK.size
 have F4 := FB.lower Q4 szk
 clear Q4
 refine ⟨_, rfl, fun a16 f16 => ?_⟩
 have szw4 := kc4.size
 replace HK := HK.trans kc4 (by simp)
 replace Bg0 := Bg0.kept kc4 (by simp)
 clear f15 a15 kc4
 refine L.ag f16 fun a17 f17 => ?_
 refine wpList_nil (hK10 _ _ ?_)
 have f18 := f17.sub (sc 1 (sc 4 (sc 5 sn)))
 refine C.sk fun K11 hK11 => ?_
 refine L.mv f18 fun a19 f19 => ?_
 refine L.va f19 (E.lenL f19 U22 rfl) fun a20 f20 => ?_
 refine L.cl f20 (run_call Tryd.call43 (args1 f20 rfl)) (vputR_any _ _ (by omega)) ?_
 clear f16 a16 f17 f18 a17 f19 a19
 rintro e w5 ⟨kc5, A5, c5, rfl, Q5⟩
 have szk := HK.size
 have F5 := FB.lower Q5 szk
 clear Q5
 refine ⟨_, rfl, fun a21 f21 => ?_⟩
 have szw5 := kc5.size
 replace HK := HK.trans kc5 (by simp)
 replace Bg0 := Bg0.kept kc5 (by simp)
 replace F4 := F4.kept0 kc5
 clear f20 a20 kc5
 refine L.mv f21 fun a22 f22 => ?_
 refine L.va f22 (E.extract f22 rfl rfl) fun a23 f23 => ?_
 refine L.va f23 (E.extract f23 rfl rfl) fun a24 f24 => ?_
 refine L.ag f24 fun a25 f25 => ?_
 refine L.ag f25 fun a26 f26 => ?_
 refine wpList_nil (hK11 _ _ ?_)
 have f27 := f26.sub (sc 1 (sc 4 (sc 5 (sc 6 sn))))
 refine wp_seq_k fun K12 hK12 => ?_
 have HK0 := HK
 replace HK : Kept [] w5 w5 := Kept.refl [] _
 refine C.region ?_
 refine L.fa 0 f27 U28 rfl wsz3_wk fun a28 f28 => ?_
 refine L.ld f28 U3 Bg0 fun a29 f29 => ?_
 clear f21 a21 f22 a22 f23 a23 f24 a24 f25 a25 f26 f27 a26 f28 a28
 refine L.va f29 (E.mul f29 rfl rfl (IntWalk.i64_in _ (by omega))) fun a30 f30 => ?_
 refine L.mv f30 fun a31 f31 => ?_
 refine L.va f31 (E.add f31 rfl rfl (IntWalk.i64_in _ (by omega))) fun a32 f32 => ?_
 refine L.va f32 (E.conv f32 U3 U5 rfl (wrap_u8 _)) fun a33 f33 => ?_
 refine L.buildSlice f33 wantedN (by decide) (parts1 f33 rfl) U22 wzi5_wk rfl rfl (wbs22_1_wk _) fun a34 w6 g5 N5 f34 => ?_
 have FZ := FB.one N5 (b := b8 (16 * p.kind + fl)) HK.size (by simp [u8_b8])
 have Bg5 := N5.blk
 have kg5 := N5.kept
 have log5 := N5.lo
 have ltg5 := Bg5.lt
 have szw6 := kg5.size
 have frg5 : w5.heap.size ≤ g5 := Nat.le_trans HK.size log5
 have neg0_g5 : g0 ≠ g5 := by have := Bg0.lt; omega
 replace HK := HK.trans kg5 (by simp)
 replace Bg0 := Bg0.kept kg5 (by simp)
 clear f29 a29 f30 a30 f31 a31 f32 a32 N5 kg5
 refine L.mv f34 fun a35 f35 => ?_
 refine L.append f35 wantedN (by decide) U22 wzib5_wk rfl rfl rfl rfl FZ.own (F5.sl.kept HK) (u8_one) (by first | (simp [putL_len, maxLen]; have := szN_le ((behindL p).length : Int); omega)) (by first | (simp [putL_len, maxLen]; have := szN_le ((behindL p).length : Int); omega)) fun a36 w7 A7 c7 AP7 f36 => ?_
 have FN7 := AP7.nextB FZ HK.size ((putL ((behindL p).length : Int))) (rfl) (rfl)
 have kap7 := AP7.kept
 have szw7 := kap7.size
 replace HK := FZ.rel HK kap7
 replace Bg0 := Bg0.kept kap7 (own_ne FZ.own Bg0 (by decide))
 clear f33 a33 f34 a34 f35 a35 kap7 AP7 FZ
 have f37 := f36.as (i := 46) rfl (sl_lenF FN7 (rfl))
 refine L.mv f37 fun a38 f38 => ?_
 refine L.append f38 wantedN (by decide) U22 wzib5_wk rfl rfl rfl rfl FN7.own (F4.sl.kept HK) (u8_one) (by first | (simp [putL_len, maxLen]; have := szN_le ((behindL p).length : Int); omega)) (by first | (simp [putL_len, maxLen]; have := szN_le ((behindL p).length : Int); omega)) fun a39 w8 A8 c8 AP8 f39 => ?_
 have FN8 := AP8.nextB FN7 HK.size ((behindL p)) (rfl) (rfl)
 have kap8 := AP8.kept
 have szw8 := kap8.size
 replace HK := FN7.rel HK kap8
 replace Bg0 := Bg0.kept kap8 (own_ne FN7.own Bg0 (by decide))
 clear f36 f37 a36 f38 a38 kap8 AP8 FN7
 have f40 := f39.as (i := 48) rfl (sl_lenF FN8 (rfl))
 refine L.ag f40 fun a41 f41 => ?_
 refine L.ag f41 fun a42 f42 => ?_
 refine wpList_nil (hK12 _ _ ?_)
 have f43 := f42.sub (sc 2 (sc 3 sn))
 refine wp_ret ?_
 try simp only [Exit.inBlock, Exit.then]
 refine C.ret2 (P := Tryd.prog) (fn := Tryd.f18) f43 rfl rfl rfl ?_
 have he : [b8 (16 * p.kind + fl)] ++ putL ((behindL p).length : Int) ++ behindL p = encL p := by unfold encL; rw [← hfl, Int.mul_comm]; rfl
 rw [he] at FN8
 exact ⟨HK0.trans HK (by simp), _, _, by rw [putB_t hr, ← he], by rw [putB_t hr]; exact FB.lower FN8 HK0.size⟩
end Go.Proofs.YtigjafbbnocihaaDoor
namespace Go.Hub
open Go.RowKit
section
variable {P : Program} {a : Act} {w : World} {n : Nat} {l : FL} {fn : Func} {R : Ending → World → Prop}
theorem C.retC3 (f : Fr n a l) {p u v : Tmp} {ty : TypeId} (hr : fn.results = #[.cell p ty, .tmp u, .tmp v]) {g : Nat} {cs : Array Value} {t : TypeId} {d : TypeDesc} {x y : Value} (hp : look l p = some (.pointer (some ⟨g, 0, none⟩))) (hx : look l u = some x) (hy : look l v = some y) (B : Blk w g t cs)
    (hu : P.underlying ty = some d) (hd : (match d with | .struct _ | .array _ _ => true | _ => false) = true) (hi : (P.info? ty).map (·.size) = some cs.size) (h : R (.returned (.tuple #[.agg cs, x, y])) w) : bodyPost P fn R .ret a w := by
  refine bodyPost_ret (v := .tuple #[.agg cs, x, y]) ?_ f.defers h
  have hl := run_loadVar_row (P := P) w g t ty cs (0, 0) d B hu hd hi
  have hp' : a.tmps[p]?.getD undef = .pointer (some ⟨g, 0, none⟩) := by simpa using f.get hp
  have hx' : a.tmps[u]?.getD undef = x := by simpa using f.get hx
  have hy' : a.tmps[v]?.getD undef = y := by simpa using f.get hy
  simp [results, hr, hp', hx', hy', asAddr, Sem.run_bind, Result.andThen, hl]
end
end Go.Hub
namespace Go.Proofs.YtigjafbbnocihaaDoor
open Go.RowKit Go.Hub Go.Lib Go.Vl
theorem readL_bd (l : List UInt8) : (0 ≤ (readL l).1 ∧ (readL l).1 ≤ 268435455) ∧ 0 ≤ (readL l).2.1 ∧ (readL l).2.1 ≤ 4 := by
  unfold readL
  simp only [rd]
  repeat' split
  all_goals simp
  all_goals omega
theorem vread_any (t : List UInt8) (A : Option Addr) (c : Nat) (w : World) {B : Nat} (h : Bs [5] B w A t.length t) (hm : t.length ≤ 1000000) : Calls Tryd.prog 58 #[.slice A t.length c] w fun e w' => w = w' ∧ ∃ n s er : Int, readL t = (n, s, er) ∧ (0 ≤ n ∧ n ≤ 268435455) ∧ (0 ≤ s ∧ s ≤ 4) ∧ e = .returned (.tuple #[.int .i64 n, .int .i64 s, .int .i64 er]) :=
  (read_any A t.length c t w rfl (by unfold maxLen; omega) h.rds).mono fun e w' ⟨h1, h2⟩ => ⟨h2, _, _, _, rfl, (readL_bd t).1, (readL_bd t).2, h1⟩
theorem vreadR_any (t : List UInt8) (A : Option Addr) (c : Nat) (w : World) {B : Nat} (h : Bs [5] B w A t.length t) (hm : t.length ≤ 1000000) : Calls Tryd.prog 61 #[.slice A t.length c] w fun e w' => w = w' ∧ ∃ n s er : Int, readL t = (n, s, er) ∧ (0 ≤ n ∧ n ≤ 268435455) ∧ (0 ≤ s ∧ s ≤ 4) ∧ e = .returned (.tuple #[.int .i64 n, .int .i64 s, .int .i64 er]) :=
  (readR_any A t.length c t w rfl (by unfold maxLen; omega) h.rds).mono fun e w' ⟨h1, h2⟩ => ⟨h2, _, _, _, rfl, (readL_bd t).1, (readL_bd t).2, h1⟩
theorem cut_tail {W : World} {A3 : Option Addr} {c3 s n : Nat} {c0 : UInt8} {t : List UInt8} {lo' : Int} {B : Nat} (S3 : Bs [5] B W A3 ((c0 :: t).take (s + n + 1)).length ((c0 :: t).take (s + n + 1))) (hc : ((c0 :: t).take (s + n + 1)).length ≤ c3) (hle : s + n ≤ t.length) (hlo : lo' = (s + 1 : Nat)) :
    ∃ A1 c1, (Value.slice (if c3 = lo'.toNat then A3 else A3.map (·.add (lo'.toNat * 1))) (((c0 :: t).take (s + n + 1)).length - lo'.toNat) (c3 - lo'.toNat)) = .slice A1 ((t.drop s).take n).length c1 ∧ Bs [5] B W A1 ((t.drop s).take n).length ((t.drop s).take n) ∧ ((t.drop s).take n).length ≤ c1 := by
  subst hlo
  have e0 : ((c0 :: t).take (s + n + 1)).length = s + n + 1 := by rw [List.length_take, List.length_cons]; omega
  have h := S3.cut (k := s + 1) (c := c3) (by omega) hc
  have e1 : ((c0 :: t).take (s + n + 1)).drop (s + 1) = (t.drop s).take n := by
    show (t.take (s + n)).drop s = _
    rw [List.drop_take]
    congr 1
    omega
  have e2 : ((t.drop s).take n).length = n := by rw [List.length_take, List.length_drop]; omega
  rw [e1, e0] at h
  rw [e2]
  rw [e0] at hc ⊢
  rw [Int.toNat_natCast]
  rw [show s + n + 1 - (s + 1) = n by omega] at h ⊢
  exact ⟨_, c3 - (s + 1), rfl, h, by omega⟩
theorem readR_ok {c0 : UInt8} {t : List UInt8} {n s : Nat} {er : Int} {p : Pk} {r : Rd} (hb : begunB c0.toNat = true) (hv : readL t = ((n : Int), (s : Int), er)) (he : er = 0) (hn : ¬ 8192 < (n : Int)) (hs : ¬ (t.length : Int) < (s : Int) + (n : Int)) (hq : parsedR c0.toNat ⟨(t.drop s).take n, false⟩ = (p, r)) (h1 : r.lk = false) (h2 : rightB p = true) (h3 : encL p = c0 :: t.take (s + n)) :
    readR (c0 :: t) = (p, 1 + (s : Int) + (n : Int), 0) := by
  rw [readR_cons, if_neg (by rw [head_is, hb]; decide), hv]
  simp only
  rw [if_neg (by omega), if_neg hn, if_neg hs]
  simp only [Int.toNat_natCast, hq]
  rw [if_pos ⟨h1, h2, by rw [h3]; congr 2⟩]
theorem readR_no {c0 : UInt8} {t : List UInt8} {n s : Nat} {er : Int} {p : Pk} {r : Rd} (hb : begunB c0.toNat = true) (hv : readL t = ((n : Int), (s : Int), er)) (he : er = 0) (hn : ¬ 8192 < (n : Int)) (hs : ¬ (t.length : Int) < (s : Int) + (n : Int)) (hq : parsedR c0.toNat ⟨(t.drop s).take n, false⟩ = (p, r)) (h : ¬ (r.lk = false ∧ rightB p = true ∧ encL p = c0 :: t.take (s + n))) :
    readR (c0 :: t) = ({}, 0, 21) := by
  rw [readR_cons, if_neg (by rw [head_is, hb]; decide), hv]
  simp only
  rw [if_neg (by omega), if_neg hn, if_neg hs]
  simp only [Int.toNat_natCast, hq]
  refine if_neg fun ⟨h1, h2, h3⟩ => h ⟨h1, h2, ?_⟩
  rw [h3]
  congr 2
section
variable {c0 : UInt8} {t : List UInt8} {n s er : Int}
theorem readP_nil : readP [] = ({}, 0, 20) := rfl
theorem readP_bad (hb : begunB c0.toNat = false) : readP (c0 :: t) = ({}, 0, 21) := by rw [readP_cons, if_pos hb]
theorem readP_err (hb : begunB c0.toNat = true) (hv : readL t = (n, s, er)) (he : er ≠ 0) : readP (c0 :: t) = ({}, 0, er) := by rw [readP_cons, if_neg (by rw [hb]; decide), hv]; simp only; rw [if_pos he]
theorem readP_long (hb : begunB c0.toNat = true) (hv : readL t = (n, s, er)) (he : er = 0) (hn : 8192 < n) : readP (c0 :: t) = ({}, 0, 22) := by rw [readP_cons, if_neg (by rw [hb]; decide), hv]; simp only; rw [if_neg (by omega), if_pos hn]
theorem readP_short (hb : begunB c0.toNat = true) (hv : readL t = (n, s, er)) (he : er = 0) (hn : ¬ 8192 < n) (hs : (t.length : Int) < s + n) : readP (c0 :: t) = ({}, 0, 20) := by rw [readP_cons, if_neg (by rw [hb]; decide), hv]; simp only; rw [if_neg (by omega), if_neg hn, if_pos hs]
end
section
variable {c0 : UInt8} {t : List UInt8} {n s : Nat} {er : Int} {p : Pk} {r : Rd}
theorem readP_ok (hb : begunB c0.toNat = true) (hv : readL t = ((n : Int), (s : Int), er)) (he : er = 0) (hn : ¬ 8192 < (n : Int)) (hs : ¬ (t.length : Int) < (s : Int) + (n : Int)) (hq : restP (begunP c0.toNat) ⟨(t.drop s).take n, false⟩ = (p, r)) (h1 : r.lk = false) (h2 : rightB p = true) (h3 : encL p = c0 :: t.take (s + n)) :
    readP (c0 :: t) = (p, 1 + (s : Int) + (n : Int), 0) := by
  rw [readP_cons, if_neg (by rw [hb]; decide), hv]
  simp only
  rw [if_neg (by omega), if_neg hn, if_neg hs]
  simp only [Int.toNat_natCast, hq]
  rw [if_pos ⟨h1, h2, by rw [h3]; congr 2⟩]
theorem readP_no (hb : begunB c0.toNat = true) (hv : readL t = ((n : Int), (s : Int), er)) (he : er = 0) (hn : ¬ 8192 < (n : Int)) (hs : ¬ (t.length : Int) < (s : Int) + (n : Int)) (hq : restP (begunP c0.toNat) ⟨(t.drop s).take n, false⟩ = (p, r)) (h : ¬ (r.lk = false ∧ rightB p = true ∧ encL p = c0 :: t.take (s + n))) :
    readP (c0 :: t) = ({}, 0, 21) := by
  rw [readP_cons, if_neg (by rw [hb]; decide), hv]
  simp only
  rw [if_neg (by omega), if_neg hn, if_neg hs]
  simp only [Int.toNat_natCast, hq]
  refine if_neg fun ⟨h1, h2, h3⟩ => h ⟨h1, h2, ?_⟩
  rw [h3]
  congr 2
end
theorem putB_0 {p : Pk} (h : (putB p).2 = 0) : rightB p = true := by
  unfold putB at h
  split at h
  · assumption
  simp at h
theorem putB_1 {p : Pk} (h : rightB p = true) : (putB p).2 = 0 := by rw [putB_t h]
theorem begunP_z (c : Int) : (begunP c).pay = [] ∧ (begunP c).wp = [] ∧ (begunP c).pass = [] ∧ (begunP c).subs = [] ∧ (begunP c).codes = [] := by
  unfold begunP
  split <;> exact ⟨rfl, rfl, rfl, rfl, rfl⟩
theorem begunP_1 {c : Int} (h : (begunP c).kind = 1) : begunP c = { kind := 1 } := by
  unfold begunP at h ⊢
  split at h
  · simp at h
  rename_i h3
  rw [if_neg h3]
  simp only at h
  rw [h]
theorem em_le : em.size ≤ 1000000 := by decide
theorem begunP_len (c : Int) : (begunP c).Len := by
  unfold begunP
  split <;> exact ⟨by simp, by simp, by simp, by simp, by simp, em_le, em_le, em_le, em_le, by simp⟩
section
variable {p : Pk} {r : Rd}
theorem lump_le (r : Rd) : r.lump.1.length ≤ 65535 := by
  have := two_bd r
  unfold Rd.lump
  rw [take_len]
  omega
theorem text_le (r : Rd) : r.text.1.size ≤ 65535 := by
  unfold Rd.text
  rw [bytes_arr]
  exact lump_le r
theorem connHead_len (h : p.Len) (r : Rd) : (connHead p r).1.2.Len := ⟨h.pay, h.wp, h.pass, h.subs, h.codes, h.topic, Nat.le_trans (text_le _) (by omega), h.wt, h.user, h.each⟩
theorem connWill_len (f : Int) (h : p.Len) (r : Rd) : (connWill f p r).1.Len := by
  unfold connWill
  split
  · exact ⟨h.pay, Nat.le_trans (lump_le _) (by omega), h.pass, h.subs, h.codes, h.topic, h.client, Nat.le_trans (text_le _) (by omega), h.user, h.each⟩
  exact h
theorem connUser_len (h : p.Len) (r : Rd) : (connUser p r).1.Len := by
  unfold connUser
  split
  · exact ⟨h.pay, h.wp, h.pass, h.subs, h.codes, h.topic, h.client, h.wt, Nat.le_trans (text_le _) (by omega), h.each⟩
  exact h
theorem connPass_len (h : p.Len) (r : Rd) : (connPass p r).1.Len := by
  unfold connPass
  split
  · exact ⟨h.pay, h.wp, Nat.le_trans (lump_le _) (by omega), h.subs, h.codes, h.topic, h.client, h.wt, h.user, h.each⟩
  exact h
theorem connP_len (h : p.Len) (r : Rd) : (connP p r).1.Len := connPass_len (connUser_len (connWill_len _ (connHead_len h r) _) _) _
theorem headP_len (h : p.Len) (r : Rd) : (headP p r).1.Len := by
  unfold headP
  split
  · exact connP_len h r
  split
  · exact ⟨h.pay, h.wp, h.pass, h.subs, h.codes, h.topic, h.client, h.wt, h.user, h.each⟩
  split
  · exact ⟨h.pay, h.wp, h.pass, h.subs, h.codes, Nat.le_trans (text_le _) (by omega), h.client, h.wt, h.user, h.each⟩
  exact h
theorem idP_len (h : p.Len) (r : Rd) : (idP p r).1.Len := by
  unfold idP
  split
  · exact ⟨h.pay, h.wp, h.pass, h.subs, h.codes, h.topic, h.client, h.wt, h.user, h.each⟩
  exact h
theorem loopP_len : ∀ (m : Nat) (p : Pk) (r : Rd), p.Len → p.subs.length + p.codes.length + r.l.length ≤ 1000000 → (loopP m p r).1.Len
  | 0, p, r, h, _ => h
  | m + 1, p, r, h, hb => by
    unfold loopP
    split
    · exact h
    rename_i h0
    split
    · refine loopP_len m _ _ ⟨?_, h.wp, h.pass, h.subs, h.codes, h.topic, h.client, h.wt, h.user, h.each⟩ ?_
      · show (r.take r.l.length).1.length ≤ _
        rw [take_len]; omega
      have := take_all_len r
      show p.subs.length + p.codes.length + _ ≤ _
      omega
    split
    · have h1 := text_lt h0
      have h2 := one_le r.text.2
      refine loopP_len m _ _ ⟨h.pay, h.wp, h.pass, ?_, h.codes, h.topic, h.client, h.wt, h.user, fun x hx => ?_⟩ ?_
      · show (p.subs ++ [_]).length ≤ _
        rw [List.length_append, List.length_singleton]; omega
      · rcases List.mem_append.1 hx with hx | hx
        · exact h.each x hx
        obtain rfl := List.mem_singleton.1 hx
        exact Nat.le_trans (text_le r) (by omega)
      show (p.subs ++ [_]).length + p.codes.length + _ ≤ _
      rw [List.length_append, List.length_singleton]; omega
    split
    · have h1 := text_lt h0
      refine loopP_len m _ _ ⟨h.pay, h.wp, h.pass, ?_, h.codes, h.topic, h.client, h.wt, h.user, fun x hx => ?_⟩ ?_
      · show (p.subs ++ [_]).length ≤ _
        rw [List.length_append, List.length_singleton]; omega
      · rcases List.mem_append.1 hx with hx | hx
        · exact h.each x hx
        obtain rfl := List.mem_singleton.1 hx
        exact Nat.le_trans (text_le r) (by omega)
      show (p.subs ++ [_]).length + p.codes.length + _ ≤ _
      rw [List.length_append, List.length_singleton]; omega
    split
    · have h1 := one_lt h0
      refine loopP_len m _ _ ⟨h.pay, h.wp, h.pass, h.subs, ?_, h.topic, h.client, h.wt, h.user, h.each⟩ ?_
      · show (p.codes ++ [_]).length ≤ _
        rw [List.length_append, List.length_singleton]; omega
      show p.subs.length + (p.codes ++ [_]).length + _ ≤ _
      rw [List.length_append, List.length_singleton]; omega
    exact loopP_len m _ _ h (by show p.subs.length + p.codes.length + 0 ≤ _; omega)
theorem conn_le (p : Pk) (r : Rd) : (connP p r).2.l.length ≤ r.l.length := by
  have ht : ∀ r : Rd, r.text.2.l.length ≤ r.l.length := fun r => Nat.le_trans (take_le _ _) (take_le _ _)
  have hl : ∀ r : Rd, r.lump.2.l.length ≤ r.l.length := fun r => Nat.le_trans (take_le _ _) (take_le _ _)
  have h2 : ∀ r : Rd, r.two.2.l.length ≤ r.l.length := fun r => take_le r 2
  have hw : ∀ f p r, (connWill f p r).2.l.length ≤ r.l.length := fun f p r => by
    unfold connWill
    split
    · exact Nat.le_trans (hl _) (ht _)
    exact Nat.le_refl _
  have hu : ∀ p r, (connUser p r).2.l.length ≤ r.l.length := fun p r => by
    unfold connUser
    split
    · exact ht _
    exact Nat.le_refl _
  have hp : ∀ p r, (connPass p r).2.l.length ≤ r.l.length := fun p r => by
    unfold connPass
    split
    · exact hl _
    exact Nat.le_refl _
  have hh : (connHead p r).2.l.length ≤ r.l.length := by
    simp only [connHead]
    exact Nat.le_trans (ht _) (Nat.le_trans (h2 _) (Nat.le_trans (one_le _) (Nat.le_trans (one_le _) (ht r))))
  simp only [connP]
  exact Nat.le_trans (hp _ _) (Nat.le_trans (hu _ _) (Nat.le_trans (hw _ _ _) hh))
theorem headP_le (p : Pk) (r : Rd) : (headP p r).2.l.length ≤ r.l.length := by
  unfold headP
  split
  · exact conn_le p r
  split
  · exact Nat.le_trans (take_le _ _) (take_le _ _)
  split
  · exact Nat.le_trans (take_le _ _) (take_le _ _)
  exact Nat.le_refl _
theorem idP_le (p : Pk) (r : Rd) : (idP p r).2.l.length ≤ r.l.length := by
  unfold idP
  split
  · exact take_le _ _
  exact Nat.le_refl _
theorem rest_len (h : p.Len) (hz : p.pay = [] ∧ p.wp = [] ∧ p.pass = [] ∧ p.subs = [] ∧ p.codes = []) (hr : r.l.length ≤ 1000000) : (restP p r).1.Len := by
  rw [restP_eq]
  refine loopP_len _ _ _ (idP_len (headP_len h r) _) ?_
  have h1 := headP_le p r
  have h2 := idP_le (headP p r).1 (headP p r).2
  have h3 : (idP (headP p r).1 (headP p r).2).1.subs = [] := (id_subs rfl).trans (head_subs hz.2.2.2.1 rfl)
  have h4 : (idP (headP p r).1 (headP p r).2).1.codes = [] := (id_codes rfl).trans (head_codes hz.2.2.2.2 rfl)
  rw [h3, h4]
  simp only [List.length_nil]
  omega
theorem lumpR_le (r : Rd) : r.lumpR.1.length ≤ 65535 := by
  have h := num_bd r 2 (by decide)
  have := takeR_len (r.numR 2).2 (r.numR 2).1.toNat
  unfold Rd.lumpR
  omega
theorem textR_le (r : Rd) : r.textR.1.size ≤ 65535 := by
  unfold Rd.textR
  rw [bytes_arr]
  exact lumpR_le r
theorem connHeadR_len (h : p.Len) (r : Rd) : (connHeadR p r).1.Len := ⟨h.pay, h.wp, h.pass, h.subs, h.codes, h.topic, Nat.le_trans (textR_le _) (by omega), h.wt, h.user, h.each⟩
theorem connWillR_len (h : p.Len) (r : Rd) : (connWillR p r).1.Len := by
  unfold connWillR
  split
  · exact ⟨h.pay, Nat.le_trans (lumpR_le _) (by omega), h.pass, h.subs, h.codes, h.topic, h.client, Nat.le_trans (textR_le _) (by omega), h.user, h.each⟩
  exact h
theorem connUserR_len (h : p.Len) (r : Rd) : (connUserR p r).1.Len := by
  unfold connUserR
  split
  · exact ⟨h.pay, h.wp, h.pass, h.subs, h.codes, h.topic, h.client, h.wt, Nat.le_trans (textR_le _) (by omega), h.each⟩
  exact h
theorem connPassR_len (h : p.Len) (r : Rd) : (connPassR p r).1.Len := by
  unfold connPassR
  split
  · exact ⟨h.pay, h.wp, Nat.le_trans (lumpR_le _) (by omega), h.subs, h.codes, h.topic, h.client, h.wt, h.user, h.each⟩
  exact h
theorem connR_len (h : p.Len) (r : Rd) : (connR p r).1.Len := connPassR_len (connUserR_len (connWillR_len (connHeadR_len h r) _) _) _
theorem subsR_len : ∀ (m : Nat) (p : Pk) (r : Rd), p.Len → p.subs.length + mu r ≤ 1000000 → (subsR m p r).1.Len
  | 0, p, r, h, _ => h
  | m + 1, p, r, h, hb => by
    unfold subsR
    split
    · exact h
    rename_i h0
    have hk : r.lk = false := by cases e : r.lk <;> simp_all
    have hn : r.l ≠ [] := fun e => h0 (.inr e)
    have h1 := textR_mu hn hk
    have each : ∀ z : Int, ∀ x ∈ p.subs ++ [(r.textR.1, z)], x.1.size ≤ 1000000 := fun z x hx => by
      rcases List.mem_append.1 hx with hx | hx
      · exact h.each x hx
      obtain rfl := List.mem_singleton.1 hx
      exact Nat.le_trans (textR_le r) (by omega)
    split
    · have h2 := numR_mu r.textR.2 1
      refine subsR_len m _ _ ⟨h.pay, h.wp, h.pass, ?_, h.codes, h.topic, h.client, h.wt, h.user, each _⟩ ?_
      · show (p.subs ++ [_]).length ≤ _
        rw [List.length_append, List.length_singleton]; omega
      show (p.subs ++ [_]).length + _ ≤ _
      rw [List.length_append, List.length_singleton]; omega
    refine subsR_len m _ _ ⟨h.pay, h.wp, h.pass, ?_, h.codes, h.topic, h.client, h.wt, h.user, each _⟩ ?_
    · show (p.subs ++ [_]).length ≤ _
      rw [List.length_append, List.length_singleton]; omega
    show (p.subs ++ [_]).length + _ ≤ _
    rw [List.length_append, List.length_singleton]; omega
theorem codesR_len : ∀ (m : Nat) (p : Pk) (r : Rd), p.Len → p.codes.length + mu r ≤ 1000000 → (codesR m p r).1.Len
  | 0, p, r, h, _ => h
  | m + 1, p, r, h, hb => by
    unfold codesR
    split
    · exact h
    rename_i h0
    have hk : r.lk = false := by cases e : r.lk <;> simp_all
    have hn : r.l ≠ [] := fun e => h0 (.inr e)
    have h1 := numR_lt hn hk (n := 1) (by decide)
    refine codesR_len m _ _ ⟨h.pay, h.wp, h.pass, h.subs, ?_, h.topic, h.client, h.wt, h.user, h.each⟩ ?_
    · show (p.codes ++ [_]).length ≤ _
      rw [List.length_append, List.length_singleton]; omega
    show (p.codes ++ [_]).length + _ ≤ _
    rw [List.length_append, List.length_singleton]; omega
theorem takeR_le (r : Rd) (n : Nat) : (r.takeR n).1.length ≤ r.l.length := by
  unfold Rd.takeR
  split
  · simp
  rw [List.length_take]; omega
theorem takeR_rest (r : Rd) (n : Nat) : (r.takeR n).2.l.length ≤ r.l.length := by
  unfold Rd.takeR
  split
  · exact Nat.le_refl _
  rw [List.length_drop]; omega
theorem parsed_len (c : Int) (hr : r.l.length ≤ 1000000) : (parsedR c r).1.Len := by
  have hz : ∀ k i : Int, Pk.Len { kind := k, id := i } := fun _ _ => ⟨by simp, by simp, by simp, by simp, by simp, em_le, em_le, em_le, em_le, by simp⟩
  have hm : mu (r.numR 2).2 ≤ 1000000 := Nat.le_trans (mu_le _) (Nat.le_trans (takeR_rest _ _) hr)
  unfold parsedR
  split
  · exact connR_len (hz _ 0) r
  split
  · exact ⟨by simp, by simp, by simp, by simp, by simp, em_le, em_le, em_le, em_le, by simp⟩
  split
  · simp only
    refine ⟨?_, by simp, by simp, by simp, by simp, Nat.le_trans (textR_le _) (by omega), em_le, em_le, em_le, by simp⟩
    refine Nat.le_trans (takeR_le _ _) ?_
    have h1 : r.textR.2.l.length ≤ r.l.length := Nat.le_trans (takeR_rest _ _) (takeR_rest _ _)
    split
    · exact Nat.le_trans (takeR_rest _ _) (by omega)
    exact Nat.le_trans h1 hr
  split
  · exact hz _ 0
  simp only
  split
  · exact subsR_len _ _ _ (hz _ _) (by simpa using hm)
  split
  · exact codesR_len _ _ _ (hz _ _) (by simpa using hm)
  exact hz _ _
end
end Go.Proofs.YtigjafbbnocihaaDoor
namespace Go.Proofs.YtigjafbbnocihaaDoor
open Go.RowKit Go.Hub Go.Lib Go.Vl
theorem kindLen (k : Int) : Pk.Len { kind := k } := ⟨by simp, by simp, by simp, by simp, by simp, em_le, em_le, em_le, em_le, by simp⟩
theorem rightK (k : Int) (h : 12 ≤ k ∧ k ≤ 14) : RightP { kind := k } := by
  have hn : numB { kind := k } = false := by simp [numB, inB]; omega
  refine ⟨inB_iff.2 (by constructor <;> (show _ ≤ _) <;> simp <;> omega), ?_, ?_, ?_⟩
  · unfold bareP
    simp only
    rw [if_neg (by omega), if_neg (by omega), if_neg (by omega), if_neg (by omega), if_neg (by omega), if_neg (by rw [hn]; decide)]
  · unfold valB
    rw [hn]
    simp only
    rw [if_neg (by omega), if_neg (by omega), if_neg (by omega), if_neg (by omega), if_neg (by omega), if_neg (by omega)]
    rfl
  unfold behindL
  simp only
  rw [if_neg (by omega), if_neg (by omega), if_neg (by omega), hn]
  simp
theorem behindK (k : Int) (h : 12 ≤ k ∧ k ≤ 14) : behindL { kind := k } = [] := by
  have hn : numB { kind := k } = false := by simp [numB, inB]; omega
  unfold behindL
  simp only
  rw [if_neg (by omega), if_neg (by omega), if_neg (by omega), hn]
  rfl
theorem sl_lit {w : World} {g : Nat} {cs : Array Value} (B : Blk w g 5 cs) (l : List UInt8) (h : cs.toList = l.map u8) : Sl w (some ⟨g, 0, none⟩) l.length 1 (l.map u8) := by
  have hs : cs.size = l.length * 1 := by
    have := congrArg List.length h
    simpa using this
  have := B.slN hs
  rwa [h] at this
theorem own_cap {w : World} {e size n c : Nat} {A : Option Addr} {xs : List Value} (h : Own w e size (.slice A n c) n xs) : n ≤ c := by
  rcases h.2 with ⟨_, h0⟩ | ⟨g, off, cap, cur, hv, _, hc, _⟩
  · omega
  injection hv with _ _ h3
  omega
end Go.Proofs.YtigjafbbnocihaaDoor
namespace Go.Hub
open Go.RowKit Go.ChangeShapes Go.WideShapes Go.Deep
section
variable {H : Type} {enc : TypeId × Value → H} {P : Program} {w : World} {spare : Nat → Bool} {held : Bool}
theorem spot0 {b off : Nat} {s : Option Nat} {v : Value} (h : w.cell? ⟨b, off, s⟩ = some v) : s = none := World.cell?_spot h
theorem open_bytes {t e n : Nat} {cs : List Value} {y : DataW H × List MemPlace} (E : List TypeId) (ht : P.underlying t = some (.slice e)) (he : P.underlying e = some (.int .u8)) (hsz : P.cellsOf e = 1)
    (h : DataW.trod enc P w 0 spare held n t cs = some y) : ∃ A c l, cs = [.slice A l.length c] ∧ l.length ≤ maxLen ∧ Bs E w.heap.size w A l.length l := by
  rcases open_ints ht he hsz h with ⟨rfl, _⟩ | ⟨a, len, cap, zs, rfl, _, hl, hm, hz, _, hc, hw⟩
  · exact ⟨none, 0, [], rfl, by simp [maxLen], Bs.nil _ _ _ _⟩
  · have hzl : len ≤ zs.length := by rw [hz]; split <;> omega
    have hlen : ((zs.take len).map fun z => UInt8.ofNat z.toNat).length = len := by simp; omega
    refine ⟨some a, cap, (zs.take len).map fun z => UInt8.ofNat z.toNat, by rw [hlen], by rw [hlen]; omega, ?_⟩
    rw [hlen]
    refine ⟨hlen, fun hp => ?_⟩
    obtain ⟨b, off, s⟩ := a
    have h0 := hc 0 (by omega)
    have h01 : w.cell? ⟨b, off, s⟩ = some (.int .u8 (zs.getD 0 0)) := by simpa [Addr.add] using h0
    obtain rfl := spot0 h01
    have hbw := World.block_lt_of_cell? w _ h01
    refine ⟨b, off, rfl, hbw, .inl hbw, fun j x hx => ?_⟩
    simp only [List.getElem?_map, Option.map_eq_some_iff] at hx
    obtain ⟨z, hz2, rfl⟩ := hx
    have hj : j < len := by
      rcases Nat.lt_or_ge j len with h | h
      · exact h
      · rw [List.getElem?_take, if_neg (by omega)] at hz2; cases hz2
    rw [List.getElem?_take, if_pos hj] at hz2
    have := hc j (by omega)
    rw [add_none] at this
    rw [this]
    have hzw := bd_u8 (hw z (List.mem_of_getElem? hz2))
    have e1 : zs.getD j 0 = z := by simp [List.getD_eq_getElem?_getD, hz2]
    rw [e1]
    unfold u8
    rw [UInt8.toNat_ofNat']
    congr 2
    omega
theorem arg_bytes {t e b0 : Nat} {r : Reach} {v : Value} {d : DataW H} {p : List MemPlace} (E : List TypeId) (ht : P.underlying t = some (.slice e)) (he : P.underlying e = some (.int .u8)) (hsz : P.cellsOf e = 1)
    (hv : Value.okWide P w r b0 t v) (h : DataW.Trod enc P w 0 spare held t v d p) : ∃ A c l, v = .slice A (l : List UInt8).length c ∧ l.length ≤ maxLen ∧ Bs E w.heap.size w A l.length l := by
  obtain ⟨a, len, cap, rfl⟩ := okWide_slice ht hv
  obtain ⟨fuel, hf⟩ := h
  obtain ⟨A, c, l, hcs, h1, h2⟩ := open_bytes E ht he hsz hf
  have e1 : [Value.slice a len cap] = [Value.slice A l.length c] := by rw [← hcs]; rfl
  injection e1 with e1
  exact ⟨A, c, l, e1, h1, h2⟩
end
end Go.Hub
namespace Go.Proofs.YtigjafbbnocihaaDoor
open Go.RowKit Go.Hub Go.Lib Go.Shelf Go.ChangeShapes Go.WideShapes Go.Deep
def laidU : List (String × DataW Unit) := [("unicode/utf8.acceptRanges", Rows.laid_unicode_utf8_acceptRanges), ("unicode/utf8.first", Rows.laid_unicode_utf8_first)]
def tabRen : Ren := ⟨fun n => n, fun | 119 => 121 | 138 => 123 | 139 => 124 | n => n, fun | 3 => 0 | 4 => 1 | n => n⟩
theorem tabTypes : U8Types Tryd.prog tabRen := { t5 := by kernel_rfl, t119 := by kernel_rfl, t138 := by kernel_rfl, t139 := by kernel_rfl }
theorem tabExtra : U8Extra Tryd.prog tabRen := { n3 := by kernel_rfl, n4 := by kernel_rfl, y3 := by kernel_rfl, y4 := by kernel_rfl, c5 := by kernel_rfl, c119 := by kernel_rfl, c138 := by kernel_rfl }
theorem first_eq : Rows.laid_unicode_utf8_first = firstData := by kernel_rfl
theorem accept_eq : (Rows.laid_unicode_utf8_acceptRanges : DataW Unit) = acceptData := by kernel_rfl
theorem tabs_of {w : World} (h : laidMet Tryd.prog laidU w) : Tabs w := by
  have h1 := laidMet.reads h (n := "unicode/utf8.first") (d := Rows.laid_unicode_utf8_first) (by simp [laidU])
  have h2 := laidMet.reads h (n := "unicode/utf8.acceptRanges") (d := Rows.laid_unicode_utf8_acceptRanges) (by simp [laidU])
  rw [first_eq] at h1
  rw [accept_eq] at h2
  exact utf8Tabs_of_readsT tabTypes tabExtra h1 h2
theorem laid_filter : (laidU.filter fun x => x.2.handleName?.isSome) = [] := by kernel_rfl
theorem met_of {w : World} (h : laidMetH Tryd.prog laidU w) : laidMet Tryd.prog laidU w := by
  unfold laidMetH at h
  rw [laid_filter] at h
  exact h
def layIn (cs : List Value) : Obj → Obj
  | .cells _ t frozen => .cells cs.toArray t frozen
  | o => o
def firstCells : List Value := (List.range 256).map fun c => Value.int .u8 (firstT c : Int)
def acceptCells : List Value := (List.range 32).map fun c => Value.int .u8 (if c % 2 = 0 then (accLo (c / 2) : Int) else (accHi (c / 2) : Int))
noncomputable def laidWorld (os : Os) : World :=
  { World.holding Tryd.prog os ⟨#[], #[], []⟩ with heap := ((World.holding Tryd.prog os ⟨#[], #[], []⟩).heap.modify 0 (layIn firstCells)).modify 1 (layIn acceptCells) }
section
variable {H : Type} {enc : TypeId × Value → H} {w : World} {spare : Nat → Bool} {held : Bool}
def IsBs (w : World) (v : Value) : Prop := ∃ (us : List UInt8) (A : Option Addr) (c : Nat), v = .slice A us.length c ∧ Sl w A us.length 1 (us.map u8) ∧ us.length ≤ c
theorem arg_cap {t e n c : Nat} {A : Option Addr} {d : DataW H} {p : List MemPlace} (ht : Tryd.prog.underlying t = some (.slice e)) (h : DataW.Trod enc Tryd.prog w 0 spare held t (.slice A n c) d p) : n ≤ c := by
  obtain ⟨fuel, hf⟩ := h
  rcases open_slice ht hf with ⟨hcs, _⟩ | ⟨a', len', cap', m, n, D, Pl, hcs, _, hl, hm, hmm, _, hi⟩
  · simp [Value.cells] at hcs
    obtain ⟨rfl, rfl, rfl⟩ := hcs
    exact Nat.le_refl _
  simp [Value.cells] at hcs
  obtain ⟨rfl, rfl, rfl⟩ := hcs
  omega
set_option maxRecDepth 100000 in
theorem arg_us {b0 : Nat} {r : Reach} {v : Value} {d : DataW H} {p : List MemPlace} (hv : Value.okWide Tryd.prog w r b0 22 v) (h : DataW.Trod enc Tryd.prog w 0 spare held 22 v d p) : IsBs w v := by
  obtain ⟨A, c, l, rfl, _, h2⟩ := arg_bytes [5] U22 U5 (show Tryd.prog.cellsOf 5 = 1 by kernel_rfl) hv h
  exact ⟨l, A, c, rfl, h2.toSl, arg_cap U22 h⟩
end
theorem end_of {e : Ending} {w w' : World} (h : Kept [] w w' ∧ e = .returned (.bool true)) : e = .returned (.bool true) ∧ Below w.heap.size w w' := ⟨h.2, h.1.below0⟩
theorem bd8 {k : Int} (h : (Lit.int .u8 k).wf = true) : 0 ≤ k ∧ k < 256 := by have := bd_u8 h; omega
end Go.Proofs.YtigjafbbnocihaaDoor
namespace Go.Proofs.YtigjafbbnocihaaDoor
open Go.RowKit Go.Hub Go.Lib Go.Vl
theorem wsz4_yb : (Tryd.prog.info? 4).map (·.size) = some 1 := by kernel_rfl
theorem wsz5_yb : (Tryd.prog.info? 5).map (·.size) = some 1 := by kernel_rfl
theorem wsz28_yb : (Tryd.prog.info? 28).map (·.size) = some 24 := by kernel_rfl
theorem wbl28__yb  : Tryd.prog.built 28 [] = some #[(.int .i64 0), (.bool false), (.bool false), (.int .i64 0), (.int .i64 0), (.string ⟨#[]⟩), (.slice none 0 0), (.int .i64 0), (.string ⟨#[]⟩), (.bool false), (.int .i64 0), (.bool false), (.string ⟨#[]⟩), (.slice none 0 0), (.int .i64 0), (.bool false), (.bool false), (.bool false), (.string ⟨#[]⟩), (.slice none 0 0), (.bool false), (.int .i64 0), (.slice none 0 0), (.slice none 0 0)] := by kernel_rfl
theorem wbl91_0_yb (x0 : Option Addr) (y0 z0 : Nat) : Tryd.prog.built 91 [(0, .slice x0 y0 z0)] = some #[.slice x0 y0 z0, (.bool false)] := by kernel_rfl
theorem wbl99_0_yb (x0 : Option Addr) (y0 z0 : Nat) : Tryd.prog.built 99 [(0, .slice x0 y0 z0)] = some #[.slice x0 y0 z0, (.int .i64 0), (.bool false)] := by kernel_rfl
structure PkO (B : Nat) (W : World) (p : Pk) (s : Ad) : Prop where
  pay : Bs [5] B W s.pa p.pay.length p.pay
  wp : Bs [5] B W s.wa p.wp.length p.wp
  pass : Bs [5] B W s.sa p.pass.length p.pass
  subs : Own W 70 2 (.slice s.ua p.subs.length s.uc) p.subs.length (subCells p.subs)
  codes : Own W 3 1 (.slice s.ca p.codes.length s.cc) p.codes.length (codeCells p.codes)
section
variable {B x : Nat} {w W W' : World} {p : Pk} {s : Ad} {t : TypeId} {cs : Array Value}
theorem PkM.o (h : PkM B w W p s) : PkO B W p s := ⟨h.pay, h.wp, h.pass, h.subs.own, h.codes.own⟩
theorem PkO.zero (B : Nat) (W : World) : PkO B W {} s0 := ⟨Bs.nil _ _ _ _, Bs.nil _ _ _ _, Bs.nil _ _ _ _, Own.nil _ _ _, Own.nil _ _ _⟩
theorem PkO.toIn (h : PkO B W p s) : p.In W s := ⟨h.pay.toSl, h.wp.toSl, h.pass.toSl, Sl.of_own h.subs, Sl.of_own h.codes⟩
theorem PkO.kept0 (h : PkO B W p s) (hk : Kept [] W W') : PkO B W' p s := ⟨h.pay.kept0 hk, h.wp.kept0 hk, h.pass.kept0 hk, h.subs.kept hk (by simp), h.codes.kept hk (by simp)⟩
theorem own_kept1 {e size n c : Nat} {A : Option Addr} {xs : List Value} (h : Own W e size (.slice A n c) n xs) (hk : Kept [x] W W') (b : Blk W x t cs) (ht : t ≠ e) : Own W' e size (.slice A n c) n xs := h.kept hk fun b' hb hx => by
  obtain rfl := List.mem_singleton.1 hx
  exact own_ne h b ht (by simpa using hb)
theorem PkO.kept1 (h : PkO B W p s) (hk : Kept [x] W W') (b : Blk W x t cs) (ht : t ∉ [5, 70, 3]) (hB : B ≤ x) : PkO B W' p s := by
  simp only [List.mem_cons, List.not_mem_nil, not_or, or_false] at ht
  exact ⟨h.pay.kept1 hk b (by simpa using ht.1) hB, h.wp.kept1 hk b (by simpa using ht.1) hB, h.pass.kept1 hk b (by simpa using ht.1) hB, own_kept1 h.subs hk b ht.2.1, own_kept1 h.codes hk b ht.2.2⟩
end
def ReadB (B : Nat) (v : Pk × Int × Int) (w : World) (e : Ending) (w' : World) : Prop := Kept [] w w' ∧ v.1.Len ∧ ∃ s, e = .returned (.tuple #[.agg (v.1.cells s), .int .i64 v.2.1, .int .i64 v.2.2]) ∧ PkO B w' v.1 s
section
variable {W : World} {A : Option Addr} {c B : Nat} {l : List UInt8} {c0 : UInt8} {t : List UInt8}
theorem cutB_one (SB : Bs [5] B W A (c0 :: t).length (c0 :: t)) (hcap : (c0 :: t).length ≤ c) : ∃ A1 c1, (Value.slice (if c = (1 : Int).toNat then A else A.map (·.add ((1 : Int).toNat * 1))) ((c0 :: t).length - (1 : Int).toNat) (c - (1 : Int).toNat)) = .slice A1 t.length c1 ∧ Bs [5] B W A1 t.length t ∧ t.length ≤ c1 := by
  have h := SB.cut (k := 1) (c := c) (by simp) hcap
  refine ⟨_, _, rfl, h, ?_⟩
  simp only [List.length_cons] at hcap
  show t.length ≤ c - 1
  omega
theorem cutB_mid {lo n : Nat} {hi : Int} (SB : Bs [5] B W A (c0 :: t).length (c0 :: t)) (hcap : (c0 :: t).length ≤ c) (hlo : 1 ≤ lo) (hh : hi = (lo + n : Nat)) (hle : lo + n ≤ (c0 :: t).length) {lo' : Int} (hlo' : lo' = lo) :
    ∃ A1 c1, (Value.slice (if c = lo'.toNat then A else A.map (·.add (lo'.toNat * 1))) (hi.toNat - lo'.toNat) (c - lo'.toNat)) = .slice A1 ((t.drop (lo - 1)).take n).length c1 ∧ Bs [5] B W A1 ((t.drop (lo - 1)).take n).length ((t.drop (lo - 1)).take n) ∧ ((t.drop (lo - 1)).take n).length ≤ c1 := by
  subst hh hlo'
  have h := (SB.cut (k := lo) (c := c) (by omega) hcap).head (k := n) (by omega)
  have e : (c0 :: t).drop lo = t.drop (lo - 1) := by
    obtain ⟨m, rfl⟩ : ∃ m, lo = m + 1 := ⟨lo - 1, by omega⟩
    rfl
  have e2 : ((t.drop (lo - 1)).take n).length = n := by
    simp only [List.length_cons] at hle
    rw [List.length_take, List.length_drop]
    omega
  rw [e] at h
  rw [e2]
  refine ⟨_, c - lo, ?_, h, ?_⟩
  · rw [Int.toNat_natCast, Int.toNat_natCast]
    congr 1
    omega
  omega
theorem cutB_hi {k : Nat} {hi : Int} (SB : Bs [5] B W A l.length l) (hcap : l.length ≤ c) (hh : hi = (k : Nat)) (hle : k ≤ l.length) :
    ∃ A1 c1, (Value.slice A hi.toNat c) = .slice A1 (l.take k).length c1 ∧ Bs [5] B W A1 (l.take k).length (l.take k) ∧ (l.take k).length ≤ c1 := by
  subst hh
  have h := SB.head hle
  have e2 : (l.take k).length = k := by rw [List.length_take]; omega
  rw [e2]
  exact ⟨A, c, by rw [Int.toNat_natCast], h, by omega⟩
end
set_option maxRecDepth 100000 in
set_option maxHeartbeats 4000000 in
theorem wreadB_any (l : List UInt8) (A : Option Addr) (c : Nat) (w : World) (B : Nat) (hB : B ≤ w.heap.size) (SB : Bs [5] B w A l.length l) (hcap : l.length ≤ c) (hl : l.length ≤ 1000000) (hT : Tabs w) : Calls Tryd.prog 23 #[.slice A l.length c] w (ReadB B (readP l) w) := by
 have HK : Kept [] w w := Kept.refl [] w
 have SA : Sl w A l.length 1 (l.map u8) := SB.toSl
 refine C.enter Tryd.func23 rfl Tryd.ntmps23 rfl ?_
 intro a0 f0
 have f1 : Fr 87 a0 [(0, .slice A l.length c)] := f0
 refine C.sk fun K0 hK0 => ?_
 refine L.alloc f1 wantedN (by decide) (z := (.agg #[(.int .i64 0), (.bool false), (.bool false), (.int .i64 0), (.int .i64 0), (.string ⟨#[]⟩), (.slice none 0 0), (.int .i64 0), (.string ⟨#[]⟩), (.bool false), (.int .i64 0), (.bool false), (.string ⟨#[]⟩), (.slice none 0 0), (.int .i64 0), (.bool false), (.bool false), (.bool false), (.string ⟨#[]⟩), (.slice none 0 0), (.bool false), (.int .i64 0), (.slice none 0 0), (.slice none 0 0)])) (fun _ => by kernel_rfl) rfl fun a2 w1 g0 N0 f2 => ?_
 have Bg0 := N0.blk
 have kg0 := N0.kept
 have log0 := N0.lo
 have ltg0 := Bg0.lt
 have szw1 := kg0.size
 have frg0 : w.heap.size ≤ g0 := Nat.le_trans HK.size log0
 replace HK := HK.trans kg0 (by simp)
 clear f0 N0 kg0
 refine L.ag f2 fun a3 f3 => ?_
 refine L.ag f3 fun a4 f4 => ?_
 refine wpList_nil (hK0 _ _ ?_)
 have f5 := f4.sub (sc 0 (sc 2 sn))
 refine wp_seq_k fun K1 hK1 => ?_
 refine C.sk fun K2 hK2 => ?_
 refine L.mv f5 fun a6 f6 => ?_
 refine L.va f6 (E.lenL f6 U22 rfl) fun a7 f7 => ?_
 refine L.va f7 (E.eq f7) fun a8 f8 => ?_
 refine wpList_nil (hK2 _ _ ?_)
 have f9 := f8.sub (sc 0 (sc 2 (sc 16 sn)))
 clear f1 a0 f2 a2 f3 a3 f4 f5 a4 f6 a6 f7 a7 f8
 refine f9.splitD 16 rfl (fun h0 f10 => ?_) (fun h0 f10 => ?_)
 ·refine C.condT f10 rfl ?_
  refine C.sk fun K3 hK3 => ?_
  refine L.va f10 (E.build f10 (parts0 f10) (wbl28__yb)) fun a11 f11 => ?_
  refine L.storeR f11 wantedN wsz28_yb rfl rfl rfl Bg0 rfl rfl fun a12 w2 f12 NB2 ks2 => ?_
  have szw2 := ks2.size
  replace HK := HK.trans ks2 (ktr (by omega))
  replace Bg0 := NB2
  clear f9 f10 a8 ks2 f11 a11
  refine L.ag f12 fun a13 f13 => ?_
  refine L.ag f13 fun a14 f14 => ?_
  refine wpList_nil (hK3 _ _ ?_)
  have f15 := f14.sub (sc 2 (sc 3 (sc 4 sn)))
  refine wp_ret ?_
  try simp only [Exit.inBlock, Exit.then]
  refine C.retC3 (P := Tryd.prog) (fn := Tryd.f23) f15 rfl rfl rfl rfl Bg0 U28 rfl wsz28_yb ?_
  have hl0 : l = [] := List.eq_nil_of_length_eq_zero (by omega)
  clear f12 a12 f13 a13 f14
  subst hl0
  refine ⟨HK, ?_, s0, ?_, ?_⟩
  ·rw [readP_nil]; exact Pk.Len.zero
  ·rw [readP_nil]; rfl
  rw [readP_nil]; exact PkO.zero _ _
 clear f9 SA
 obtain ⟨c0, t, rfl⟩ := List.exists_cons_of_ne_nil (l := l) (fun h => by subst h; simp at h0)
 have SA := SB.toSl
 obtain ⟨b0, off0, hA0⟩ := SA.addr (by simp)
 have hlen : (c0 :: t).length = t.length + 1 := rfl
 have hc0 : c0.toNat < 256 := UInt8.toNat_lt _
 refine C.condF f10 rfl ?_
 refine wp_skip (hK1 _ _ ?_)
 have f11 := f10.sub (sc 0 (sc 2 sn))
 refine C.sk fun K4 hK4 => ?_
 refine L.mv f11 fun a12 f12 => ?_
 refine L.va f12 (E.indexA f12 (by assumption) U22 wsz5_yb rfl rfl (by omega) (by omega)) fun a13 f13 => ?_
 refine L.va f13 (by exact E.load f13 U5 rfl rfl ((show World.cell? _ ⟨b0, off0 + (0 : Int).toNat * 1, none⟩ = some (.int .u8 (c0.toNat : Nat)) from byte_cell (SA.kept HK) hA0 (i := 0) rfl))) fun a14 f14 => ?_
 refine L.cl f14 (run_call Tryd.call57 (args1 f14 rfl)) (begun_any (c0.toNat : Nat) _ (by omega)) ?_
 clear f10 f11 a8 f12 a12 f13 a13
 rintro e w2 ⟨kc2, rfl⟩
 refine ⟨_, rfl, fun a15 f15 => ?_⟩
 have szw2 := kc2.size
 replace HK := HK.trans kc2 (by simp)
 replace Bg0 := Bg0.kept kc2 (by simp)
 clear f14 a14 kc2
 refine L.mv f15 fun a16 f16 => ?_
 refine L.va f16 (E.extract f16 rfl rfl) fun a17 f17 => ?_
 refine L.va f17 (E.extract f17 rfl rfl) fun a18 f18 => ?_
 refine L.alloc f18 wantedN (by decide) (z := (.agg #[(.int .i64 0), (.bool false), (.bool false), (.int .i64 0), (.int .i64 0), (.string ⟨#[]⟩), (.slice none 0 0), (.int .i64 0), (.string ⟨#[]⟩), (.bool false), (.int .i64 0), (.bool false), (.string ⟨#[]⟩), (.slice none 0 0), (.int .i64 0), (.bool false), (.bool false), (.bool false), (.string ⟨#[]⟩), (.slice none 0 0), (.bool false), (.int .i64 0), (.slice none 0 0), (.slice none 0 0)])) (fun _ => by kernel_rfl) rfl fun a19 w3 g2 N2 f19 => ?_
 have Bg2 := N2.blk
 have kg2 := N2.kept
 have log2 := N2.lo
 have ltg2 := Bg2.lt
 have szw3 := kg2.size
 have frg2 : w.heap.size ≤ g2 := Nat.le_trans HK.size log2
 have neg0_g2 : g0 ≠ g2 := by have := Bg0.lt; omega
 replace HK := HK.trans kg2 (by simp)
 replace Bg0 := Bg0.kept kg2 (by simp)
 clear f15 a15 f16 a16 f17 a17 N2 kg2
 refine L.storeR f19 wantedN wsz28_yb rfl rfl rfl Bg2 rfl rfl fun a20 w4 f20 NB4 ks4 => ?_
 have szw4 := ks4.size
 replace HK := HK.trans ks4 (ktr (by omega))
 replace Bg0 := Bg0.kept ks4 (by simp; omega)
 replace Bg2 := NB4
 clear f18 a18 ks4 f19 a19
 refine L.ag f20 fun a21 f21 => ?_
 refine wpList_nil (hK4 _ _ ?_)
 have f22 := f21.sub (sc 0 (sc 2 (sc 5 (sc 6 sn))))
 refine wp_seq_k fun K5 hK5 => ?_
 refine C.sk fun K6 hK6 => ?_
 refine L.mv f22 fun a23 f23 => ?_
 refine L.va f23 (E.not f23 rfl) fun a24 f24 => ?_
 refine wpList_nil (hK6 _ _ ?_)
 have f25 := f24.sub (sc 0 (sc 2 (sc 5 (sc 26 sn))))
 clear f20 a20 f21 f22 a21 f23 a23 f24
 refine f25.splitNB 26 rfl (fun h1 f26 => ?_) (fun h1 f26 => ?_)
 ·have hb : begunB c0.toNat = false := h1
  refine C.condT f26 rfl ?_
  refine C.sk fun K7 hK7 => ?_
  refine L.va f26 (E.build f26 (parts0 f26) (wbl28__yb)) fun a27 f27 => ?_
  refine L.storeR f27 wantedN wsz28_yb rfl rfl rfl Bg0 rfl rfl fun a28 w5 f28 NB5 ks5 => ?_
  have szw5 := ks5.size
  replace HK := HK.trans ks5 (ktr (by omega))
  replace Bg2 := Bg2.kept ks5 (by simp; omega)
  replace Bg0 := NB5
  clear f25 f26 a24 ks5 f27 a27
  refine L.ag f28 fun a29 f29 => ?_
  refine L.ag f29 fun a30 f30 => ?_
  refine wpList_nil (hK7 _ _ ?_)
  have f31 := f30.sub (sc 2 (sc 3 (sc 4 sn)))
  refine wp_ret ?_
  try simp only [Exit.inBlock, Exit.then]
  refine C.retC3 (P := Tryd.prog) (fn := Tryd.f23) f31 rfl rfl rfl rfl Bg0 U28 rfl wsz28_yb ?_
  clear f28 a28 f29 a29 f30
  refine ⟨HK, ?_, s0, ?_, ?_⟩
  ·rw [readP_bad hb]; exact Pk.Len.zero
  ·rw [readP_bad hb]; rfl
  rw [readP_bad hb]; exact PkO.zero _ _
 have hb : begunB c0.toNat = true := h1
 refine C.condF f26 rfl ?_
 refine wp_skip (hK5 _ _ ?_)
 have f27 := f26.sub (sc 0 (sc 2 (sc 5 sn)))
 refine C.sk fun K8 hK8 => ?_
 refine L.mv f27 fun a28 f28 => ?_
 refine L.va f28 (E.slLlo f28 U22 wsz5_yb rfl rfl (by decide) (by omega)) fun a29 f29 => ?_
 obtain ⟨A1, c1, hv_, SA1, hcA1⟩ := cutB_one (SB.kept0 HK) hcap
 have f30 := f29.as (i := 30) (v' := .slice A1 (t).length c1) rfl hv_
 clear f25 f26 f27 a24 f28 a28 f29 hv_
 refine L.cl f30 (run_call Tryd.call58 (args1 f30 rfl)) (vread_any t A1 c1 _ SA1 (by omega)) ?_
 rintro e w4x ⟨rfl, n, sz, er, hv, hnb, hsb, rfl⟩
 obtain ⟨n, rfl⟩ := Int.eq_ofNat_of_zero_le hnb.1
 obtain ⟨sz, rfl⟩ := Int.eq_ofNat_of_zero_le hsb.1
 refine ⟨_, rfl, fun a31 f31 => ?_⟩
 refine L.mv f31 fun a32 f32 => ?_
 refine L.va f32 (E.extract f32 rfl rfl) fun a33 f33 => ?_
 refine L.va f33 (E.extract f33 rfl rfl) fun a34 f34 => ?_
 refine L.va f34 (E.extract f34 rfl rfl) fun a35 f35 => ?_
 refine L.ag f35 fun a36 f36 => ?_
 refine L.ag f36 fun a37 f37 => ?_
 clear f30 a29 f31 a31 f32 a32 f33 a33 f34 a34 f35 a35 f36 a36
 refine L.ag f37 fun a38 f38 => ?_
 refine wpList_nil (hK8 _ _ ?_)
 have f39 := f38.sub (sc 0 (sc 2 (sc 5 (sc 7 (sc 8 (sc 9 sn))))))
 refine C.sk fun K9 hK9 => ?_
 refine L.mv f39 fun a40 f40 => ?_
 refine L.va f40 (E.add f40 rfl rfl (IntWalk.i64_in _ (by omega))) fun a41 f41 => ?_
 refine L.mv f41 fun a42 f42 => ?_
 refine L.va f42 (E.add f42 rfl rfl (IntWalk.i64_in _ (by omega))) fun a43 f43 => ?_
 refine L.ag f43 fun a44 f44 => ?_
 refine wpList_nil (hK9 _ _ ?_)
 have f45 := f44.sub (sc 0 (sc 2 (sc 5 (sc 7 (sc 8 (sc 9 (sc 10 sn)))))))
 clear f37 a37 f38 f39 a38 f40 a40 f41 a41 f42 a42 f43 a43 f44
 refine wp_seq_k fun K10 hK10 => ?_
 refine wp_block ?_
 refine C.sk fun K11 hK11 => ?_
 refine L.mv f45 fun a46 f46 => ?_
 refine L.va f46 (E.neq f46 rfl rfl) fun a47 f47 => ?_
 refine L.ag f47 fun a48 f48 => ?_
 refine wpList_nil (hK11 _ _ ?_)
 have f49 := f48.sub (sc 0 (sc 2 (sc 5 (sc 7 (sc 8 (sc 9 (sc 10 (sc 39 sn))))))))
 clear f45 a44 f46 a46 f47 a47 f48
 refine f49.splitN 39 rfl (fun h2 f50 => ?_) (fun h2 f50 => ?_)
 ·refine C.condT f50 rfl ?_
  refine C.sk fun K12 hK12 => ?_
  refine L.va f50 (E.build f50 (parts0 f50) (wbl28__yb)) fun a51 f51 => ?_
  refine L.mv f51 fun a52 f52 => ?_
  refine L.storeR f52 wantedN wsz28_yb rfl rfl rfl Bg0 rfl rfl fun a53 w5 f53 NB5 ks5 => ?_
  have szw5 := ks5.size
  replace HK := HK.trans ks5 (ktr (by omega))
  replace Bg2 := Bg2.kept ks5 (by simp; omega)
  replace SA1 := SA1.kept1 ks5 Bg0 (by decide) (by omega)
  replace Bg0 := NB5
  clear f49 f50 a48 f51 a51 ks5 f52 a52
  refine L.ag f53 fun a54 f54 => ?_
  refine L.ag f54 fun a55 f55 => ?_
  refine wpList_nil (hK12 _ _ ?_)
  have f56 := f55.sub (sc 2 (sc 3 (sc 4 sn)))
  refine wp_ret ?_
  try simp only [Exit.inBlock, Exit.then]
  refine C.retC3 (P := Tryd.prog) (fn := Tryd.f23) f56 rfl rfl rfl rfl Bg0 U28 rfl wsz28_yb ?_
  clear f53 a53 f54 a54 f55
  refine ⟨HK, ?_, s0, ?_, ?_⟩
  ·rw [readP_err hb hv (by omega)]; exact Pk.Len.zero
  ·rw [readP_err hb hv (by omega)]; rfl
  rw [readP_err hb hv (by omega)]; exact PkO.zero _ _
 refine C.condF f50 rfl ?_
 refine C.sk fun K13 hK13 => ?_
 refine L.mv f50 fun a51 f51 => ?_
 refine L.va f51 (E.gtr f51 rfl rfl) fun a52 f52 => ?_
 refine L.ag f52 fun a53 f53 => ?_
 refine wpList_nil (hK13 _ _ ?_)
 have f54 := f53.sub (sc 0 (sc 2 (sc 5 (sc 8 (sc 10 (sc 44 sn))))))
 clear f49 f50 a48 f51 a51 f52 a52 f53
 refine f54.splitD 44 rfl (fun h3 f55 => ?_) (fun h3 f55 => ?_)
 ·refine C.condT f55 rfl ?_
  refine C.sk fun K14 hK14 => ?_
  refine L.va f55 (E.build f55 (parts0 f55) (wbl28__yb)) fun a56 f56 => ?_
  refine L.storeR f56 wantedN wsz28_yb rfl rfl rfl Bg0 rfl rfl fun a57 w5 f57 NB5 ks5 => ?_
  have szw5 := ks5.size
  replace HK := HK.trans ks5 (ktr (by omega))
  replace Bg2 := Bg2.kept ks5 (by simp; omega)
  replace SA1 := SA1.kept1 ks5 Bg0 (by decide) (by omega)
  replace Bg0 := NB5
  clear f54 f55 a53 ks5 f56 a56
  refine L.ag f57 fun a58 f58 => ?_
  refine L.ag f58 fun a59 f59 => ?_
  refine wpList_nil (hK14 _ _ ?_)
  have f60 := f59.sub (sc 2 (sc 3 (sc 4 sn)))
  refine wp_ret ?_
  try simp only [Exit.inBlock, Exit.then]
  refine C.retC3 (P := Tryd.prog) (fn := Tryd.f23) f60 rfl rfl rfl rfl Bg0 U28 rfl wsz28_yb ?_
  clear f57 a57 f58 a58 f59
  refine ⟨HK, ?_, s0, ?_, ?_⟩
  ·rw [readP_long hb hv (by omega) (by omega)]; exact Pk.Len.zero
  ·rw [readP_long hb hv (by omega) (by omega)]; rfl
  rw [readP_long hb hv (by omega) (by omega)]; exact PkO.zero _ _
 refine C.condF f55 rfl ?_
 refine C.sk fun K15 hK15 => ?_
 refine L.mv f55 fun a56 f56 => ?_
 refine L.mv f56 fun a57 f57 => ?_
 refine L.va f57 (E.lenL f57 U22 rfl) fun a58 f58 => ?_
 refine L.va f58 (E.gtr f58 rfl rfl) fun a59 f59 => ?_
 refine L.ag f59 fun a60 f60 => ?_
 refine wpList_nil (hK15 _ _ ?_)
 have f61 := f60.sub (sc 0 (sc 2 (sc 5 (sc 8 (sc 10 (sc 48 sn))))))
 clear f54 f55 a53 f56 a56 f57 a57 f58 a58 f59 a59 f60
 refine f61.splitD 48 rfl (fun h4 f62 => ?_) (fun h4 f62 => ?_)
 ·refine C.condT f62 rfl ?_
  refine C.sk fun K16 hK16 => ?_
  refine L.va f62 (E.build f62 (parts0 f62) (wbl28__yb)) fun a63 f63 => ?_
  refine L.storeR f63 wantedN wsz28_yb rfl rfl rfl Bg0 rfl rfl fun a64 w5 f64 NB5 ks5 => ?_
  have szw5 := ks5.size
  replace HK := HK.trans ks5 (ktr (by omega))
  replace Bg2 := Bg2.kept ks5 (by simp; omega)
  replace SA1 := SA1.kept1 ks5 Bg0 (by decide) (by omega)
  replace Bg0 := NB5
  clear f61 f62 a60 ks5 f63 a63
  refine L.ag f64 fun a65 f65 => ?_
  refine L.ag f65 fun a66 f66 => ?_
  refine wpList_nil (hK16 _ _ ?_)
  have f67 := f66.sub (sc 2 (sc 3 (sc 4 sn)))
  refine wp_ret ?_
  try simp only [Exit.inBlock, Exit.then]
  refine C.retC3 (P := Tryd.prog) (fn := Tryd.f23) f67 rfl rfl rfl rfl Bg0 U28 rfl wsz28_yb ?_
  clear f64 a64 f65 a65 f66
  refine ⟨HK, ?_, s0, ?_, ?_⟩
  ·rw [readP_short hb hv (by omega) (by omega) (by omega)]; exact Pk.Len.zero
  ·rw [readP_short hb hv (by omega) (by omega) (by omega)]; rfl
  rw [readP_short hb hv (by omega) (by omega) (by omega)]; exact PkO.zero _ _
 refine C.condF f62 rfl ?_
 refine wp_skip (hK10 _ _ ?_)
 have f63 := f62.sub (sc 0 (sc 2 (sc 5 (sc 8 (sc 10 sn)))))
 refine C.sk fun K17 hK17 => ?_
 refine L.mv f63 fun a64 f64 => ?_
 refine L.mv f64 fun a65 f65 => ?_
 refine L.va f65 (E.add f65 rfl rfl (IntWalk.i64_in _ (by omega))) fun a66 f66 => ?_
 refine L.mv f66 fun a67 f67 => ?_
 refine L.va f67 (E.slL f67 U22 wsz5_yb rfl rfl rfl (by omega) (by omega) (by omega)) fun a68 f68 => ?_
 obtain ⟨A2, c2, hv_, SA2, hcA2⟩ := cutB_mid (lo := sz + 1) (n := n) (hi := 1 + (sz : Int) + (n : Int)) (lo' := 1 + (sz : Int)) (SB.kept0 HK) hcap (by omega) (by omega) (by omega) (by omega)
 have f69 := f68.as (i := 58) (v' := .slice A2 ((t.drop sz).take n).length c2) rfl hv_
 clear f61 f62 f63 a60 f64 a64 f65 a65 f66 a66 f67 a67 f68 hv_
 refine L.va f69 (E.build f69 (parts1 f69 rfl) (wbl91_0_yb _ _ _)) fun a70 f70 => ?_
 refine L.box f70 wantedN (by decide) rfl rfl fun a71 w5 g4 N4 f71 => ?_
 have Bg4 := N4.blk
 have kg4 := N4.kept
 have log4 := N4.lo
 have ltg4 := Bg4.lt
 have szw5 := kg4.size
 have frg4 : w.heap.size ≤ g4 := Nat.le_trans HK.size log4
 have neg0_g4 : g0 ≠ g4 := by have := Bg0.lt; omega
 have neg2_g4 : g2 ≠ g4 := by have := Bg2.lt; omega
 replace HK := HK.trans kg4 (by simp)
 replace Bg0 := Bg0.kept kg4 (by simp)
 replace Bg2 := Bg2.kept kg4 (by simp)
 replace SA1 := SA1.kept0 kg4
 replace SA2 := SA2.kept0 kg4
 clear f69 a68 N4 kg4
 refine L.ag f71 fun a72 f72 => ?_
 refine wpList_nil (hK17 _ _ ?_)
 have f73 := f72.sub (sc 0 (sc 2 (sc 5 (sc 10 (sc 11 sn)))))
 refine C.sk fun K18 hK18 => ?_
 refine L.mv f73 fun a74 f74 => ?_
 have RD : RdAt w5 B g4 ⟨(t.drop sz).take n, false⟩ := ⟨by omega, A2, c2, Bg4, SA2, hcA2, by rw [List.length_take]; omega⟩
 refine L.cl f74 (run_call Tryd.call59 (args2 f74 rfl rfl)) (rest_any (begunP c0.toNat) (fun h => begunP_1 h) (begunP_z _) B g4 g2 _ _ RD (by omega) (by omega) (Nat.le_trans hB HK.size) Bg2) ?_
 clear f70 a70 f71 a71 f72 f73 a72
 rintro e w6 ⟨pp, rr, ss, hq, rfl, kc6, RDn, BPn, PN⟩
 clear RD
 refine ⟨_, rfl, fun a75 f75 => ?_⟩
 have szw6 := kc6.size
 have HKn := HK.trans kc6 (by intro x hx hlt; simp at hx; rcases hx with rfl | rfl <;> (exfalso; omega))
 have B0n := Bg0.kept kc6 (by simp; omega)
 clear f74 a74 HK Bg0 Bg4 Bg2 kc6
 have HK := HKn
 have Bg0 := B0n
 have Bg2 := BPn
 clear HKn B0n BPn
 have hpl : pp.Len := by have h := rest_len (begunP_len c0.toNat) (begunP_z _) (r := ⟨(t.drop sz).take n, false⟩) (by rw [List.length_take]; omega); rw [hq] at h; exact h
 obtain ⟨_, Ar, cr, BG, -, -⟩ := RDn
 refine wpList_nil (hK18 _ _ ?_)
 have f76 := f75.sub (sc 0 (sc 2 (sc 5 (sc 10 (sc 11 sn)))))
 refine wp_seq_k fun K19 hK19 => ?_
 refine C.sk fun K20 hK20 => ?_
 refine L.va f76 (by exact E.loadB f76 U28 rfl wsz28_yb rfl (Bg2) rfl) fun a77 f77 => ?_
 refine L.cl f77 (run_call Tryd.call17 (args1 f77 rfl)) (wput_any pp ss _ PN.toIn hpl (hT.old (HK.below (by simp) (Nat.le_refl _)))) ?_
 clear f75 f76 a75
 rintro e w7 ⟨kc7, Aw, cw, rfl, FW⟩
 refine ⟨_, rfl, fun a78 f78 => ?_⟩
 have szw7 := kc7.size
 replace HK := HK.trans kc7 (by simp)
 replace Bg0 := Bg0.kept kc7 (by simp)
 replace Bg2 := Bg2.kept kc7 (by simp)
 replace BG := BG.kept kc7 (by simp)
 replace PN := PN.kept0 kc7
 clear f77 a77 kc7
 refine L.mv f78 fun a79 f79 => ?_
 refine L.va f79 (E.extract f79 rfl rfl) fun a80 f80 => ?_
 refine L.va f80 (E.extract f80 rfl rfl) fun a81 f81 => ?_
 refine L.ag f81 fun a82 f82 => ?_
 refine L.ag f82 fun a83 f83 => ?_
 refine wpList_nil (hK20 _ _ ?_)
 have f84 := f83.sub (sc 0 (sc 2 (sc 5 (sc 10 (sc 11 (sc 12 (sc 13 sn)))))))
 refine C.sk fun K21 hK21 => ?_
 refine L.mv f84 fun a85 f85 => ?_
 refine L.va f85 (E.nilCheck f85 rfl) fun a86 f86 => ?_
 clear f78 a78 f79 a79 f80 a80 f81 a81 f82 a82 f83 f84 a83 f85 a85
 refine L.fa 1 f86 U91 rfl wsz4_yb fun a87 f87 => ?_
 refine L.ld f87 U4 BG fun a88 f88 => ?_
 refine L.mv f88 fun a89 f89 => ?_
 clear f86 a86 f87 a87 f88 a88
 refine f89.split 72 rfl (fun h5 f90 => ?_) (fun h5 f90 => ?_)
 ·have hlk : rr.lk = true := h5
  refine L.sk f90 (f90.noF rfl rfl) fun a91 f91 => ?_
  refine L.sk f91 (f91.noF rfl rfl) fun a92 f92 => ?_
  refine L.va f92 (E.pickT f92 rfl rfl) fun a93 f93 => ?_
  refine L.mv f93 fun a94 f94 => ?_
  refine L.sk f94 (f94.noF rfl rfl) fun a95 f95 => ?_
  refine L.sk f95 (f95.noF rfl rfl) fun a96 f96 => ?_
  refine L.sk f96 (f96.noF rfl rfl) fun a97 f97 => ?_
  clear f89 f90 a89 f91 a91 f92 a92 f93 a93 f94 a94 f95 a95 f96 a96
  refine L.sk f97 (f97.noF rfl rfl) fun a98 f98 => ?_
  refine L.run f98 (rest' := []) (by kernel_rfl) fun a99 f99 => ?_
  clear f97 a97
  skip
  refine wpList_nil (hK21 _ _ ?_)
  have f100 := f99.sub (sub_cons (i := 2) (Fr.kept f99 (by kernel_rfl) rfl) (sub_cons (i := 5) (Fr.kept f99 (by kernel_rfl) rfl) (sub_cons (i := 10) (Fr.kept f99 (by kernel_rfl) rfl) (sub_cons (i := 83) (v := .bool true) (by kernel_rfl) sn))))
  refine C.condT f100 rfl ?_
  refine C.sk fun K22 hK22 => ?_
  refine L.va f100 (E.build f100 (parts0 f100) (wbl28__yb)) fun a101 f101 => ?_
  refine L.storeR f101 wantedN wsz28_yb rfl rfl rfl Bg0 rfl rfl fun a102 w8 f102 NB8 ks8 => ?_
  have szw8 := ks8.size
  replace HK := HK.trans ks8 (ktr (by omega))
  replace Bg2 := Bg2.kept ks8 (by simp; omega)
  replace BG := BG.kept ks8 (by simp; omega)
  replace PN := PN.kept1 ks8 Bg0 (by decide) (by omega)
  replace FW := FW.keptB ks8 Bg0 (by decide)
  replace Bg0 := NB8
  clear f99 f98 f100 a99 ks8 f101 a101
  refine L.ag f102 fun a103 f103 => ?_
  refine L.ag f103 fun a104 f104 => ?_
  refine wpList_nil (hK22 _ _ ?_)
  have f105 := f104.sub (sc 2 (sc 3 (sc 4 sn)))
  refine wp_ret ?_
  try simp only [Exit.inBlock, Exit.then]
  refine C.retC3 (P := Tryd.prog) (fn := Tryd.f23) f105 rfl rfl rfl rfl Bg0 U28 rfl wsz28_yb ?_
  have hx : readP (c0 :: t) = ({}, 0, 21) := readP_no hb hv (by omega) (by omega) (by omega) hq (by exact fun q => absurd q.1 (by rw [hlk]; decide))
  clear f102 a102 f103 a103 f104
  refine ⟨HK, ?_, s0, ?_, ?_⟩
  ·rw [hx]; exact Pk.Len.zero
  ·rw [hx]; rfl
  rw [hx]; exact PkO.zero _ _
 have hlk : rr.lk = false := h5
 refine L.mv f90 (hw := (f90.yes rfl rfl)) fun a91 f91 => ?_
 refine L.va f91 (E.neq f91 rfl rfl) (hw := (f91.yes rfl rfl)) fun a92 f92 => ?_
 refine L.va f92 (E.pickF f92 rfl rfl) fun a93 f93 => ?_
 refine L.mv f93 fun a94 f94 => ?_
 clear f89 f90 a89 f91 a91 f92 a92 f93 a93
 refine f94.splitN 76 rfl (fun h6 f95 => ?_) (fun h6 f95 => ?_)
 ·refine L.sk f95 (f95.noF rfl rfl) fun a96 f96 => ?_
  refine L.sk f96 (f96.noF rfl rfl) fun a97 f97 => ?_
  refine L.sk f97 (f97.noF rfl rfl) fun a98 f98 => ?_
  refine L.sk f98 (f98.noF rfl rfl) fun a99 f99 => ?_
  refine L.run f99 (rest' := []) (by kernel_rfl) fun a100 f100 => ?_
  clear f94 f95 a94 f96 a96 f97 a97 f98 a98
  skip
  refine wpList_nil (hK21 _ _ ?_)
  have f101 := f100.sub (sub_cons (i := 2) (Fr.kept f100 (by kernel_rfl) rfl) (sub_cons (i := 5) (Fr.kept f100 (by kernel_rfl) rfl) (sub_cons (i := 10) (Fr.kept f100 (by kernel_rfl) rfl) (sub_cons (i := 83) (v := .bool true) (by kernel_rfl) sn))))
  refine C.condT f101 rfl ?_
  refine C.sk fun K23 hK23 => ?_
  refine L.va f101 (E.build f101 (parts0 f101) (wbl28__yb)) fun a102 f102 => ?_
  refine L.storeR f102 wantedN wsz28_yb rfl rfl rfl Bg0 rfl rfl fun a103 w8 f103 NB8 ks8 => ?_
  have szw8 := ks8.size
  replace HK := HK.trans ks8 (ktr (by omega))
  replace Bg2 := Bg2.kept ks8 (by simp; omega)
  replace BG := BG.kept ks8 (by simp; omega)
  replace PN := PN.kept1 ks8 Bg0 (by decide) (by omega)
  replace FW := FW.keptB ks8 Bg0 (by decide)
  replace Bg0 := NB8
  clear f100 f99 f101 a100 ks8 f102 a102
  refine L.ag f103 fun a104 f104 => ?_
  refine L.ag f104 fun a105 f105 => ?_
  refine wpList_nil (hK23 _ _ ?_)
  have f106 := f105.sub (sc 2 (sc 3 (sc 4 sn)))
  refine wp_ret ?_
  try simp only [Exit.inBlock, Exit.then]
  refine C.retC3 (P := Tryd.prog) (fn := Tryd.f23) f106 rfl rfl rfl rfl Bg0 U28 rfl wsz28_yb ?_
  have hx : readP (c0 :: t) = ({}, 0, 21) := readP_no hb hv (by omega) (by omega) (by omega) hq (by exact fun q => absurd (putB_1 q.2.1) (by omega))
  clear f103 a103 f104 a104 f105
  refine ⟨HK, ?_, s0, ?_, ?_⟩
  ·rw [hx]; exact Pk.Len.zero
  ·rw [hx]; rfl
  rw [hx]; exact PkO.zero _ _
 refine L.mv f95 (hw := (f95.yes rfl rfl)) fun a96 f96 => ?_
 refine L.mv f96 (hw := (f96.yes rfl rfl)) fun a97 f97 => ?_
 refine L.mv f97 (hw := (f97.yes rfl rfl)) fun a98 f98 => ?_
 refine L.va f98 (E.slLhi f98 U22 wsz5_yb rfl rfl (by omega) (by omega)) (hw := (f98.yes rfl rfl)) fun a99 f99 => ?_
 obtain ⟨A3, c3, hv_, SA3, hcA3⟩ := cutB_hi (k := sz + n + 1) (hi := 1 + (sz : Int) + (n : Int)) (SB.kept0 HK) hcap (by omega) (by omega)
 have f100 := f99.as (i := 80) (v' := .slice A3 ((c0 :: t).take (sz + n + 1)).length c3) rfl hv_
 clear f94 f95 a94 f96 a96 f97 a97 f98 a98 f99 hv_
 refine L.cl f100 (run_call Tryd.call51 (args2 f100 rfl rfl)) (beq_any _ _ _ _ _ _ _ FW.sl SA3.toSl) ?_ (hw := (f100.yes rfl rfl))
 rintro e w7x ⟨rfl, rfl⟩
 refine ⟨_, rfl, fun a101 f101 => ?_⟩
 refine L.va f101 (E.not f101 rfl) (hw := (f101.yes rfl rfl)) fun a102 f102 => ?_
 refine L.va f102 (E.pickF f102 rfl rfl) fun a103 f103 => ?_
 refine wpList_nil (hK21 _ _ ?_)
 have f104 := f103.sub (sc 2 (sc 5 (sc 10 (sc 83 sn))))
 clear f100 a99 f101 a101 f102 a102 f103
 refine f104.splitN 83 rfl (fun h7 f105 => ?_) (fun h7 f105 => ?_)
 ·have hEq := h7
  refine C.condT f105 rfl ?_
  refine C.sk fun K24 hK24 => ?_
  refine L.va f105 (E.build f105 (parts0 f105) (wbl28__yb)) fun a106 f106 => ?_
  refine L.storeR f106 wantedN wsz28_yb rfl rfl rfl Bg0 rfl rfl fun a107 w8 f107 NB8 ks8 => ?_
  have szw8 := ks8.size
  replace HK := HK.trans ks8 (ktr (by omega))
  replace Bg2 := Bg2.kept ks8 (by simp; omega)
  replace BG := BG.kept ks8 (by simp; omega)
  replace PN := PN.kept1 ks8 Bg0 (by decide) (by omega)
  replace FW := FW.keptB ks8 Bg0 (by decide)
  replace SA3 := SA3.kept1 ks8 Bg0 (by decide) (by omega)
  replace Bg0 := NB8
  clear f104 f105 a103 ks8 f106 a106
  refine L.ag f107 fun a108 f108 => ?_
  refine L.ag f108 fun a109 f109 => ?_
  refine wpList_nil (hK24 _ _ ?_)
  have f110 := f109.sub (sc 2 (sc 3 (sc 4 sn)))
  refine wp_ret ?_
  try simp only [Exit.inBlock, Exit.then]
  refine C.retC3 (P := Tryd.prog) (fn := Tryd.f23) f110 rfl rfl rfl rfl Bg0 U28 rfl wsz28_yb ?_
  have hx : readP (c0 :: t) = ({}, 0, 21) := readP_no hb hv (by omega) (by omega) (by omega) hq (by exact fun q => hEq (by rw [putB_t q.2.1]; exact q.2.2))
  clear f107 a107 f108 a108 f109
  refine ⟨HK, ?_, s0, ?_, ?_⟩
  ·rw [hx]; exact Pk.Len.zero
  ·rw [hx]; rfl
  rw [hx]; exact PkO.zero _ _
 have hEq := h7
 refine C.condF f105 rfl ?_
 refine wp_skip (hK19 _ _ ?_)
 have f106 := f105.sub (sc 2 (sc 5 (sc 10 sn)))
 refine C.sk fun K25 hK25 => ?_
 refine L.va f106 (by exact E.loadB f106 U28 rfl wsz28_yb rfl (Bg2) rfl) fun a107 f107 => ?_
 refine L.mv f107 fun a108 f108 => ?_
 refine L.storeR f108 wantedN wsz28_yb rfl rfl rfl Bg0 rfl rfl fun a109 w8 f109 NB8 ks8 => ?_
 have szw8 := ks8.size
 replace HK := HK.trans ks8 (ktr (by omega))
 replace Bg2 := Bg2.kept ks8 (by simp; omega)
 replace BG := BG.kept ks8 (by simp; omega)
 replace PN := PN.kept1 ks8 Bg0 (by decide) (by omega)
 replace FW := FW.keptB ks8 Bg0 (by decide)
 replace SA3 := SA3.kept1 ks8 Bg0 (by decide) (by omega)
 replace Bg0 := NB8
 clear f104 f105 f106 a103 f107 a107 ks8 f108 a108
 refine L.ag f109 fun a110 f110 => ?_
 refine L.ag f110 fun a111 f111 => ?_
 refine wpList_nil (hK25 _ _ ?_)
 have f112 := f111.sub (sc 2 (sc 3 (sc 4 sn)))
 refine wp_ret ?_
 try simp only [Exit.inBlock, Exit.then]
 refine C.retC3 (P := Tryd.prog) (fn := Tryd.f23) f112 rfl rfl rfl rfl Bg0 U28 rfl wsz28_yb ?_
 have hr : rightB pp = true := putB_0 (by omega)
 have he : encL pp = c0 :: t.take (sz + n) := by rw [putB_t hr] at hEq; exact hEq
 have hx := readP_ok hb hv (by omega) (by omega) (by omega) hq hlk hr he
 refine ⟨HK, by rw [hx]; exact hpl, ss, ?_, by rw [hx]; exact PN.o⟩
 rw [hx]
set_option maxRecDepth 100000 in
set_option maxHeartbeats 4000000 in
theorem wreadRB_any (l : List UInt8) (A : Option Addr) (c : Nat) (w : World) (B : Nat) (hB : B ≤ w.heap.size) (SB : Bs [5] B w A l.length l) (hcap : l.length ≤ c) (hl : l.length ≤ 1000000) (hT : Tabs w) : Calls Tryd.prog 25 #[.slice A l.length c] w (ReadB B (readR l) w) := by
 have HK : Kept [] w w := Kept.refl [] w
 have SA : Sl w A l.length 1 (l.map u8) := SB.toSl
 refine C.enter Tryd.func25 rfl Tryd.ntmps25 rfl ?_
 intro a0 f0
 have f1 : Fr 88 a0 [(0, .slice A l.length c)] := f0
 refine C.sk fun K0 hK0 => ?_
 refine L.alloc f1 wantedN (by decide) (z := (.agg #[(.int .i64 0), (.bool false), (.bool false), (.int .i64 0), (.int .i64 0), (.string ⟨#[]⟩), (.slice none 0 0), (.int .i64 0), (.string ⟨#[]⟩), (.bool false), (.int .i64 0), (.bool false), (.string ⟨#[]⟩), (.slice none 0 0), (.int .i64 0), (.bool false), (.bool false), (.bool false), (.string ⟨#[]⟩), (.slice none 0 0), (.bool false), (.int .i64 0), (.slice none 0 0), (.slice none 0 0)])) (fun _ => by kernel_rfl) rfl fun a2 w1 g0 N0 f2 => ?_
 have Bg0 := N0.blk
 have kg0 := N0.kept
 have log0 := N0.lo
 have ltg0 := Bg0.lt
 have szw1 := kg0.size
 have frg0 : w.heap.size ≤ g0 := Nat.le_trans HK.size log0
 replace HK := HK.trans kg0 (by simp)
 clear f0 N0 kg0
 refine L.ag f2 fun a3 f3 => ?_
 refine L.ag f3 fun a4 f4 => ?_
 refine wpList_nil (hK0 _ _ ?_)
 have f5 := f4.sub (sc 0 (sc 2 sn))
 refine wp_seq_k fun K1 hK1 => ?_
 refine C.sk fun K2 hK2 => ?_
 refine L.mv f5 fun a6 f6 => ?_
 refine L.va f6 (E.lenL f6 U22 rfl) fun a7 f7 => ?_
 refine L.va f7 (E.eq f7) fun a8 f8 => ?_
 refine wpList_nil (hK2 _ _ ?_)
 have f9 := f8.sub (sc 0 (sc 2 (sc 14 sn)))
 clear f1 a0 f2 a2 f3 a3 f4 f5 a4 f6 a6 f7 a7 f8
 refine f9.splitD 14 rfl (fun h0 f10 => ?_) (fun h0 f10 => ?_)
 ·refine C.condT f10 rfl ?_
  refine C.sk fun K3 hK3 => ?_
  refine L.va f10 (E.build f10 (parts0 f10) (wbl28__yb)) fun a11 f11 => ?_
  refine L.storeR f11 wantedN wsz28_yb rfl rfl rfl Bg0 rfl rfl fun a12 w2 f12 NB2 ks2 => ?_
  have szw2 := ks2.size
  replace HK := HK.trans ks2 (ktr (by omega))
  replace Bg0 := NB2
  clear f9 f10 a8 ks2 f11 a11
  refine L.ag f12 fun a13 f13 => ?_
  refine L.ag f13 fun a14 f14 => ?_
  refine wpList_nil (hK3 _ _ ?_)
  have f15 := f14.sub (sc 2 (sc 3 (sc 4 sn)))
  refine wp_ret ?_
  try simp only [Exit.inBlock, Exit.then]
  refine C.retC3 (P := Tryd.prog) (fn := Tryd.f25) f15 rfl rfl rfl rfl Bg0 U28 rfl wsz28_yb ?_
  have hl0 : l = [] := List.eq_nil_of_length_eq_zero (by omega)
  clear f12 a12 f13 a13 f14
  subst hl0
  rw [read_eq]
  refine ⟨HK, ?_, s0, ?_, ?_⟩
  ·rw [readP_nil]; exact Pk.Len.zero
  ·rw [readP_nil]; rfl
  rw [readP_nil]; exact PkO.zero _ _
 clear f9 SA
 obtain ⟨c0, t, rfl⟩ := List.exists_cons_of_ne_nil (l := l) (fun h => by subst h; simp at h0)
 have SA := SB.toSl
 obtain ⟨b0, off0, hA0⟩ := SA.addr (by simp)
 have hlen : (c0 :: t).length = t.length + 1 := rfl
 have hc0 : c0.toNat < 256 := UInt8.toNat_lt _
 refine C.condF f10 rfl ?_
 refine wp_skip (hK1 _ _ ?_)
 have f11 := f10.sub (sc 0 (sc 2 sn))
 refine wp_seq_k fun K4 hK4 => ?_
 refine C.sk fun K5 hK5 => ?_
 refine L.mv f11 fun a12 f12 => ?_
 refine L.va f12 (E.indexA f12 (by assumption) U22 wsz5_yb rfl rfl (by omega) (by omega)) fun a13 f13 => ?_
 refine L.va f13 (by exact E.load f13 U5 rfl rfl ((show World.cell? _ ⟨b0, off0 + (0 : Int).toNat * 1, none⟩ = some (.int .u8 (c0.toNat : Nat)) from byte_cell (SA.kept HK) hA0 (i := 0) rfl))) fun a14 f14 => ?_
 refine L.cl f14 (run_call Tryd.call60 (args1 f14 rfl)) (head_any (c0.toNat : Nat) _ (by omega)) ?_
 clear f10 f11 a8 f12 a12 f13 a13
 rintro e w1x ⟨rfl, rfl⟩
 refine ⟨_, rfl, fun a15 f15 => ?_⟩
 refine L.va f15 (E.not f15 rfl) fun a16 f16 => ?_
 refine wpList_nil (hK5 _ _ ?_)
 have f17 := f16.sub (sc 0 (sc 2 (sc 20 sn)))
 clear f14 a14 f15 a15 f16
 refine f17.splitNB 20 rfl (fun h1 f18 => ?_) (fun h1 f18 => ?_)
 ·have hb : begunB c0.toNat = false := by rw [← head_is]; exact h1
  refine C.condT f18 rfl ?_
  refine C.sk fun K6 hK6 => ?_
  refine L.va f18 (E.build f18 (parts0 f18) (wbl28__yb)) fun a19 f19 => ?_
  refine L.storeR f19 wantedN wsz28_yb rfl rfl rfl Bg0 rfl rfl fun a20 w2 f20 NB2 ks2 => ?_
  have szw2 := ks2.size
  replace HK := HK.trans ks2 (ktr (by omega))
  replace Bg0 := NB2
  clear f17 f18 a16 ks2 f19 a19
  refine L.ag f20 fun a21 f21 => ?_
  refine L.ag f21 fun a22 f22 => ?_
  refine wpList_nil (hK6 _ _ ?_)
  have f23 := f22.sub (sc 2 (sc 3 (sc 4 sn)))
  refine wp_ret ?_
  try simp only [Exit.inBlock, Exit.then]
  refine C.retC3 (P := Tryd.prog) (fn := Tryd.f25) f23 rfl rfl rfl rfl Bg0 U28 rfl wsz28_yb ?_
  rw [read_eq]
  clear f20 a20 f21 a21 f22
  refine ⟨HK, ?_, s0, ?_, ?_⟩
  ·rw [readP_bad hb]; exact Pk.Len.zero
  ·rw [readP_bad hb]; rfl
  rw [readP_bad hb]; exact PkO.zero _ _
 have hb : begunB c0.toNat = true := by rw [← head_is]; exact h1
 refine C.condF f18 rfl ?_
 refine wp_skip (hK4 _ _ ?_)
 have f19 := f18.sub (sc 0 (sc 2 sn))
 refine C.sk fun K7 hK7 => ?_
 refine L.mv f19 fun a20 f20 => ?_
 refine L.va f20 (E.slLlo f20 U22 wsz5_yb rfl rfl (by decide) (by omega)) fun a21 f21 => ?_
 obtain ⟨A1, c1, hv_, SA1, hcA1⟩ := cutB_one (SB.kept0 HK) hcap
 have f22 := f21.as (i := 24) (v' := .slice A1 (t).length c1) rfl hv_
 clear f17 f18 f19 a16 f20 a20 f21 hv_
 refine L.cl f22 (run_call Tryd.call61 (args1 f22 rfl)) (vreadR_any t A1 c1 _ SA1 (by omega)) ?_
 rintro e w1x ⟨rfl, n, sz, er, hv, hnb, hsb, rfl⟩
 obtain ⟨n, rfl⟩ := Int.eq_ofNat_of_zero_le hnb.1
 obtain ⟨sz, rfl⟩ := Int.eq_ofNat_of_zero_le hsb.1
 refine ⟨_, rfl, fun a23 f23 => ?_⟩
 refine L.mv f23 fun a24 f24 => ?_
 refine L.va f24 (E.extract f24 rfl rfl) fun a25 f25 => ?_
 refine L.va f25 (E.extract f25 rfl rfl) fun a26 f26 => ?_
 refine L.va f26 (E.extract f26 rfl rfl) fun a27 f27 => ?_
 refine L.ag f27 fun a28 f28 => ?_
 refine L.ag f28 fun a29 f29 => ?_
 clear f22 a21 f23 a23 f24 a24 f25 a25 f26 a26 f27 a27 f28 a28
 refine L.ag f29 fun a30 f30 => ?_
 refine wpList_nil (hK7 _ _ ?_)
 have f31 := f30.sub (sc 0 (sc 2 (sc 5 (sc 6 (sc 7 sn)))))
 refine wp_seq_k fun K8 hK8 => ?_
 refine wp_block ?_
 refine C.sk fun K9 hK9 => ?_
 refine L.mv f31 fun a32 f32 => ?_
 refine L.va f32 (E.neq f32 rfl rfl) fun a33 f33 => ?_
 refine L.ag f33 fun a34 f34 => ?_
 refine wpList_nil (hK9 _ _ ?_)
 have f35 := f34.sub (sc 0 (sc 2 (sc 5 (sc 6 (sc 7 (sc 29 sn))))))
 clear f29 a29 f30 f31 a30 f32 a32 f33 a33 f34
 refine f35.splitN 29 rfl (fun h2 f36 => ?_) (fun h2 f36 => ?_)
 ·refine C.condT f36 rfl ?_
  refine C.sk fun K10 hK10 => ?_
  refine L.va f36 (E.build f36 (parts0 f36) (wbl28__yb)) fun a37 f37 => ?_
  refine L.mv f37 fun a38 f38 => ?_
  refine L.storeR f38 wantedN wsz28_yb rfl rfl rfl Bg0 rfl rfl fun a39 w2 f39 NB2 ks2 => ?_
  have szw2 := ks2.size
  replace HK := HK.trans ks2 (ktr (by omega))
  replace SA1 := SA1.kept1 ks2 Bg0 (by decide) (by omega)
  replace Bg0 := NB2
  clear f35 f36 a34 f37 a37 ks2 f38 a38
  refine L.ag f39 fun a40 f40 => ?_
  refine L.ag f40 fun a41 f41 => ?_
  refine wpList_nil (hK10 _ _ ?_)
  have f42 := f41.sub (sc 2 (sc 3 (sc 4 sn)))
  refine wp_ret ?_
  try simp only [Exit.inBlock, Exit.then]
  refine C.retC3 (P := Tryd.prog) (fn := Tryd.f25) f42 rfl rfl rfl rfl Bg0 U28 rfl wsz28_yb ?_
  rw [read_eq]
  clear f39 a39 f40 a40 f41
  refine ⟨HK, ?_, s0, ?_, ?_⟩
  ·rw [readP_err hb hv (by omega)]; exact Pk.Len.zero
  ·rw [readP_err hb hv (by omega)]; rfl
  rw [readP_err hb hv (by omega)]; exact PkO.zero _ _
 refine C.condF f36 rfl ?_
 refine C.sk fun K11 hK11 => ?_
 refine L.mv f36 fun a37 f37 => ?_
 refine L.va f37 (E.gtr f37 rfl rfl) fun a38 f38 => ?_
 refine L.ag f38 fun a39 f39 => ?_
 refine wpList_nil (hK11 _ _ ?_)
 have f40 := f39.sub (sc 0 (sc 2 (sc 5 (sc 6 (sc 34 sn)))))
 clear f35 f36 a34 f37 a37 f38 a38 f39
 refine f40.splitD 34 rfl (fun h3 f41 => ?_) (fun h3 f41 => ?_)
 ·refine C.condT f41 rfl ?_
  refine C.sk fun K12 hK12 => ?_
  refine L.va f41 (E.build f41 (parts0 f41) (wbl28__yb)) fun a42 f42 => ?_
  refine L.storeR f42 wantedN wsz28_yb rfl rfl rfl Bg0 rfl rfl fun a43 w2 f43 NB2 ks2 => ?_
  have szw2 := ks2.size
  replace HK := HK.trans ks2 (ktr (by omega))
  replace SA1 := SA1.kept1 ks2 Bg0 (by decide) (by omega)
  replace Bg0 := NB2
  clear f40 f41 a39 ks2 f42 a42
  refine L.ag f43 fun a44 f44 => ?_
  refine L.ag f44 fun a45 f45 => ?_
  refine wpList_nil (hK12 _ _ ?_)
  have f46 := f45.sub (sc 2 (sc 3 (sc 4 sn)))
  refine wp_ret ?_
  try simp only [Exit.inBlock, Exit.then]
  refine C.retC3 (P := Tryd.prog) (fn := Tryd.f25) f46 rfl rfl rfl rfl Bg0 U28 rfl wsz28_yb ?_
  rw [read_eq]
  clear f43 a43 f44 a44 f45
  refine ⟨HK, ?_, s0, ?_, ?_⟩
  ·rw [readP_long hb hv (by omega) (by omega)]; exact Pk.Len.zero
  ·rw [readP_long hb hv (by omega) (by omega)]; rfl
  rw [readP_long hb hv (by omega) (by omega)]; exact PkO.zero _ _
 refine C.condF f41 rfl ?_
 refine C.sk fun K13 hK13 => ?_
 refine L.mv f41 fun a42 f42 => ?_
 refine L.va f42 (E.lenL f42 U22 rfl) fun a43 f43 => ?_
 refine L.mv f43 fun a44 f44 => ?_
 refine L.va f44 (E.add f44 rfl rfl (IntWalk.i64_in _ (by omega))) fun a45 f45 => ?_
 refine L.mv f45 fun a46 f46 => ?_
 refine L.va f46 (E.add f46 rfl rfl (IntWalk.i64_in _ (by omega))) fun a47 f47 => ?_
 refine L.va f47 (E.lss f47 rfl rfl) fun a48 f48 => ?_
 clear f40 f41 a39 f42 a42 f43 a43 f44 a44 f45 a45 f46 a46 f47 a47
 refine L.ag f48 fun a49 f49 => ?_
 refine wpList_nil (hK13 _ _ ?_)
 have f50 := f49.sub (sc 0 (sc 2 (sc 5 (sc 6 (sc 38 sn)))))
 clear f48 a48 f49
 refine f50.splitD 38 rfl (fun h4 f51 => ?_) (fun h4 f51 => ?_)
 ·refine C.condT f51 rfl ?_
  refine C.sk fun K14 hK14 => ?_
  refine L.va f51 (E.build f51 (parts0 f51) (wbl28__yb)) fun a52 f52 => ?_
  refine L.storeR f52 wantedN wsz28_yb rfl rfl rfl Bg0 rfl rfl fun a53 w2 f53 NB2 ks2 => ?_
  have szw2 := ks2.size
  replace HK := HK.trans ks2 (ktr (by omega))
  replace SA1 := SA1.kept1 ks2 Bg0 (by decide) (by omega)
  replace Bg0 := NB2
  clear f50 f51 a49 ks2 f52 a52
  refine L.ag f53 fun a54 f54 => ?_
  refine L.ag f54 fun a55 f55 => ?_
  refine wpList_nil (hK14 _ _ ?_)
  have f56 := f55.sub (sc 2 (sc 3 (sc 4 sn)))
  refine wp_ret ?_
  try simp only [Exit.inBlock, Exit.then]
  refine C.retC3 (P := Tryd.prog) (fn := Tryd.f25) f56 rfl rfl rfl rfl Bg0 U28 rfl wsz28_yb ?_
  rw [read_eq]
  clear f53 a53 f54 a54 f55
  refine ⟨HK, ?_, s0, ?_, ?_⟩
  ·rw [readP_short hb hv (by omega) (by omega) (by omega)]; exact Pk.Len.zero
  ·rw [readP_short hb hv (by omega) (by omega) (by omega)]; rfl
  rw [readP_short hb hv (by omega) (by omega) (by omega)]; exact PkO.zero _ _
 refine C.condF f51 rfl ?_
 refine wp_skip (hK8 _ _ ?_)
 have f52 := f51.sub (sc 0 (sc 2 (sc 5 (sc 6 sn))))
 refine C.sk fun K15 hK15 => ?_
 refine L.mv f52 fun a53 f53 => ?_
 refine L.mv f53 fun a54 f54 => ?_
 refine L.va f54 (E.add f54 rfl rfl (IntWalk.i64_in _ (by omega))) fun a55 f55 => ?_
 refine L.mv f55 fun a56 f56 => ?_
 refine L.va f56 (E.add f56 rfl rfl (IntWalk.i64_in _ (by omega))) fun a57 f57 => ?_
 refine L.va f57 (E.slLhi f57 U22 wsz5_yb rfl rfl (by omega) (by omega)) fun a58 f58 => ?_
 clear f50 f51 f52 a49 f53 a53 f54 a54 f55 a55 f56 a56 f57 a57
 obtain ⟨A3, c3, hv_, SA3, hcA3⟩ := cutB_hi (k := sz + n + 1) (hi := 1 + (sz : Int) + (n : Int)) (SB.kept0 HK) hcap (by omega) (by omega)
 have f59 := f58.as (i := 52) (v' := .slice A3 ((c0 :: t).take (sz + n + 1)).length c3) rfl hv_
 clear f58 hv_
 refine L.ag f59 fun a60 f60 => ?_
 refine wpList_nil (hK15 _ _ ?_)
 have f61 := f60.sub (sc 0 (sc 2 (sc 6 (sc 8 sn))))
 refine C.sk fun K16 hK16 => ?_
 refine L.mv f61 fun a62 f62 => ?_
 refine L.mv f62 fun a63 f63 => ?_
 refine L.va f63 (E.add f63 rfl rfl (IntWalk.i64_in _ (by omega))) fun a64 f64 => ?_
 refine L.va f64 (E.slLlo f64 U22 wsz5_yb rfl rfl (by omega) (by rw [List.length_take]; omega)) fun a65 f65 => ?_
 obtain ⟨A2, c2, hv_, SA2, hcA2⟩ := cut_tail (s := sz) (n := n) (lo' := 1 + (sz : Int)) SA3 hcA3 (by omega) (by omega)
 have f66 := f65.as (i := 56) (v' := .slice A2 ((t.drop sz).take n).length c2) rfl hv_
 clear f59 a58 f60 f61 a60 f62 a62 f63 a63 f64 a64 f65 hv_
 refine L.va f66 (E.build f66 (parts1 f66 rfl) (wbl99_0_yb _ _ _)) fun a67 f67 => ?_
 refine L.box f67 wantedN (by decide) rfl rfl fun a68 w2 g1 N1 f68 => ?_
 have Bg1 := N1.blk
 have kg1 := N1.kept
 have log1 := N1.lo
 have ltg1 := Bg1.lt
 have szw2 := kg1.size
 have frg1 : w.heap.size ≤ g1 := Nat.le_trans HK.size log1
 have neg0_g1 : g0 ≠ g1 := by have := Bg0.lt; omega
 replace HK := HK.trans kg1 (by simp)
 replace Bg0 := Bg0.kept kg1 (by simp)
 replace SA1 := SA1.kept0 kg1
 replace SA3 := SA3.kept0 kg1
 replace SA2 := SA2.kept0 kg1
 clear f66 a65 N1 kg1
 refine L.ag f68 fun a69 f69 => ?_
 refine wpList_nil (hK16 _ _ ?_)
 have f70 := f69.sub (sc 0 (sc 2 (sc 8 (sc 9 sn))))
 refine C.sk fun K17 hK17 => ?_
 refine L.mv f70 fun a71 f71 => ?_
 refine L.va f71 (E.indexA f71 (by assumption) U22 wsz5_yb rfl rfl (by omega) (by omega)) fun a72 f72 => ?_
 refine L.va f72 (by exact E.load f72 U5 rfl rfl ((show World.cell? _ ⟨b0, off0 + (0 : Int).toNat * 1, none⟩ = some (.int .u8 (c0.toNat : Nat)) from byte_cell (SA.kept HK) hA0 (i := 0) rfl))) fun a73 f73 => ?_
 refine L.mv f73 fun a74 f74 => ?_
 have RD : PaAt w2 B g1 ⟨(t.drop sz).take n, false⟩ := ⟨by omega, A2, c2, 0, (t.drop sz).take n, Bg1, SA2, hcA2, Nat.zero_le _, rfl, by rw [List.length_take]; omega⟩
 refine L.cl f74 (run_call Tryd.call62 (args2 f74 rfl rfl)) (parsed_any (c0.toNat : Nat) (by omega) B g1 _ _ RD (Nat.le_trans hB HK.size)) ?_
 clear f67 a67 f68 a68 f69 f70 a69 f71 a71 f72 a72 f73 a73
 rintro e w3 ⟨pp, rr, ss, hq, rfl, kc3, RDn, PN⟩
 clear RD
 refine ⟨_, rfl, fun a75 f75 => ?_⟩
 have szw3 := kc3.size
 have HKw := HK
 have HKn := HK.trans kc3 (by intro x hx hlt; simp at hx; subst hx; exfalso; omega)
 have B0n := Bg0.kept kc3 (by simp; omega)
 have SA3n := SA3.kept1 kc3 Bg1 (by decide) (by omega)
 clear f74 a74 HK Bg0 Bg1 kc3 SA3
 have HK := HKn
 have Bg0 := B0n
 have SA3 := SA3n
 clear HKn B0n SA3n
 have hpl : pp.Len := by have h := parsed_len (c0.toNat : Nat) (r := ⟨(t.drop sz).take n, false⟩) (by rw [List.length_take]; omega); rw [hq] at h; exact h
 obtain ⟨_, Ar, cr, ar, Fr_, BG, -, -⟩ := RDn
 refine L.alloc f75 wantedN (by decide) (z := (.agg #[(.int .i64 0), (.bool false), (.bool false), (.int .i64 0), (.int .i64 0), (.string ⟨#[]⟩), (.slice none 0 0), (.int .i64 0), (.string ⟨#[]⟩), (.bool false), (.int .i64 0), (.bool false), (.string ⟨#[]⟩), (.slice none 0 0), (.int .i64 0), (.bool false), (.bool false), (.bool false), (.string ⟨#[]⟩), (.slice none 0 0), (.bool false), (.int .i64 0), (.slice none 0 0), (.slice none 0 0)])) (fun _ => by kernel_rfl) rfl fun a76 w4 g3 N3 f76 => ?_
 have Bg3 := N3.blk
 have kg3 := N3.kept
 have log3 := N3.lo
 have ltg3 := Bg3.lt
 have szw4 := kg3.size
 have frg3 : w.heap.size ≤ g3 := Nat.le_trans HK.size log3
 have neg0_g3 : g0 ≠ g3 := by have := Bg0.lt; omega
 have neg1_g3 : g1 ≠ g3 := by have := BG.lt; omega
 have FNg3 := PN.far log3
 replace HK := HK.trans kg3 (by simp)
 replace SA3 := SA3.kept0 kg3
 replace Bg0 := Bg0.kept kg3 (by simp)
 replace BG := BG.kept kg3 (by simp)
 replace PN := PN.kept0 kg3
 clear N3 kg3
 refine L.storeR f76 wantedN wsz28_yb rfl rfl rfl Bg3 rfl rfl fun a77 w5 f77 NB5 ks5 => ?_
 have szw5 := ks5.size
 replace HK := HK.trans ks5 (ktr (by omega))
 replace SA3 := SA3.kept1 ks5 Bg3 (by decide) (by omega)
 replace Bg0 := Bg0.kept ks5 (by simp; omega)
 replace BG := BG.kept ks5 (by simp; omega)
 replace PN := PN.kept1 ks5 Bg3 (by decide) (by omega)
 replace Bg3 := NB5
 clear f75 a75 ks5 f76 a76
 refine wpList_nil (hK17 _ _ ?_)
 have f78 := f77.sub (sc 2 (sc 8 (sc 9 (sc 10 sn))))
 refine C.sk fun K18 hK18 => ?_
 refine L.va f78 (by exact E.loadB f78 U28 rfl wsz28_yb rfl (Bg3) rfl) fun a79 f79 => ?_
 refine L.cl f79 (run_call Tryd.call18 (args1 f79 rfl)) (wputR_any pp ss _ PN.toIn hpl (hT.old (HK.below (by simp) (Nat.le_refl _)))) ?_
 clear f77 f78 a77
 rintro e w6 ⟨kc6, Aw, cw, rfl, FW⟩
 refine ⟨_, rfl, fun a80 f80 => ?_⟩
 have szw6 := kc6.size
 replace HK := HK.trans kc6 (by simp)
 replace SA3 := SA3.kept0 kc6
 replace Bg0 := Bg0.kept kc6 (by simp)
 replace BG := BG.kept kc6 (by simp)
 replace PN := PN.kept0 kc6
 replace Bg3 := Bg3.kept kc6 (by simp)
 clear f79 a79 kc6
 refine L.mv f80 fun a81 f81 => ?_
 refine L.va f81 (E.extract f81 rfl rfl) fun a82 f82 => ?_
 refine L.va f82 (E.extract f82 rfl rfl) fun a83 f83 => ?_
 refine L.ag f83 fun a84 f84 => ?_
 refine L.ag f84 fun a85 f85 => ?_
 refine wpList_nil (hK18 _ _ ?_)
 have f86 := f85.sub (sc 2 (sc 7 (sc 8 (sc 9 (sc 10 (sc 11 sn))))))
 refine wp_seq_k fun K19 hK19 => ?_
 refine C.sk fun K20 hK20 => ?_
 refine L.mv f86 fun a87 f87 => ?_
 refine L.va f87 (E.nilCheck f87 rfl) fun a88 f88 => ?_
 clear f80 a80 f81 a81 f82 a82 f83 a83 f84 a84 f85 f86 a85 f87 a87
 refine L.fa 2 f88 U99 rfl wsz4_yb fun a89 f89 => ?_
 refine L.ld f89 U4 BG fun a90 f90 => ?_
 refine L.mv f90 fun a91 f91 => ?_
 clear f88 a88 f89 a89 f90 a90
 refine f91.split 73 rfl (fun h5 f92 => ?_) (fun h5 f92 => ?_)
 ·have hlk : rr.lk = true := h5
  refine L.run f92 (rest' := []) (by kernel_rfl) fun a93 f93 => ?_
  clear f91
  skip
  refine wpList_nil (hK20 _ _ ?_)
  have f94 := f93.sub (sub_cons (i := 2) (Fr.kept f93 (by kernel_rfl) rfl) (sub_cons (i := 8) (Fr.kept f93 (by kernel_rfl) rfl) (sub_cons (i := 10) (Fr.kept f93 (by kernel_rfl) rfl) (sub_cons (i := 83) (v := .bool true) (by kernel_rfl) sn))))
  refine C.condT f94 rfl ?_
  refine C.sk fun K21 hK21 => ?_
  refine L.va f94 (E.build f94 (parts0 f94) (wbl28__yb)) fun a95 f95 => ?_
  refine L.storeR f95 wantedN wsz28_yb rfl rfl rfl Bg0 rfl rfl fun a96 w7 f96 NB7 ks7 => ?_
  have szw7 := ks7.size
  replace HK := HK.trans ks7 (ktr (by omega))
  replace SA3 := SA3.kept1 ks7 Bg0 (by decide) (by omega)
  replace BG := BG.kept ks7 (by simp; omega)
  replace PN := PN.kept1 ks7 Bg0 (by decide) (by omega)
  replace Bg3 := Bg3.kept ks7 (by simp; omega)
  replace FW := FW.keptB ks7 Bg0 (by decide)
  replace Bg0 := NB7
  clear f93 f92 f94 a93 ks7 f95 a95
  refine L.ag f96 fun a97 f97 => ?_
  refine L.ag f97 fun a98 f98 => ?_
  refine wpList_nil (hK21 _ _ ?_)
  have f99 := f98.sub (sc 2 (sc 3 (sc 4 sn)))
  refine wp_ret ?_
  try simp only [Exit.inBlock, Exit.then]
  refine C.retC3 (P := Tryd.prog) (fn := Tryd.f25) f99 rfl rfl rfl rfl Bg0 U28 rfl wsz28_yb ?_
  have hx : readR (c0 :: t) = ({}, 0, 21) := readR_no hb hv (by omega) (by omega) (by omega) hq (by exact fun q => absurd q.1 (by rw [hlk]; decide))
  clear f96 a96 f97 a97 f98
  refine ⟨HK, ?_, s0, ?_, ?_⟩
  ·rw [hx]; exact Pk.Len.zero
  ·rw [hx]; rfl
  rw [hx]; exact PkO.zero _ _
 have hlk : rr.lk = false := h5
 refine L.mv f92 (hw := (f92.yes rfl rfl)) fun a93 f93 => ?_
 refine L.va f93 (E.neq f93 rfl rfl) (hw := (f93.yes rfl rfl)) fun a94 f94 => ?_
 refine L.va f94 (E.pickF f94 rfl rfl) fun a95 f95 => ?_
 refine L.mv f95 fun a96 f96 => ?_
 clear f91 f92 a91 f93 a93 f94 a94 f95 a95
 refine f96.splitN 77 rfl (fun h6 f97 => ?_) (fun h6 f97 => ?_)
 ·refine L.run f97 (rest' := []) (by kernel_rfl) fun a98 f98 => ?_
  clear f96
  skip
  refine wpList_nil (hK20 _ _ ?_)
  have f99 := f98.sub (sub_cons (i := 2) (Fr.kept f98 (by kernel_rfl) rfl) (sub_cons (i := 8) (Fr.kept f98 (by kernel_rfl) rfl) (sub_cons (i := 10) (Fr.kept f98 (by kernel_rfl) rfl) (sub_cons (i := 83) (v := .bool true) (by kernel_rfl) sn))))
  refine C.condT f99 rfl ?_
  refine C.sk fun K22 hK22 => ?_
  refine L.va f99 (E.build f99 (parts0 f99) (wbl28__yb)) fun a100 f100 => ?_
  refine L.storeR f100 wantedN wsz28_yb rfl rfl rfl Bg0 rfl rfl fun a101 w7 f101 NB7 ks7 => ?_
  have szw7 := ks7.size
  replace HK := HK.trans ks7 (ktr (by omega))
  replace SA3 := SA3.kept1 ks7 Bg0 (by decide) (by omega)
  replace BG := BG.kept ks7 (by simp; omega)
  replace PN := PN.kept1 ks7 Bg0 (by decide) (by omega)
  replace Bg3 := Bg3.kept ks7 (by simp; omega)
  replace FW := FW.keptB ks7 Bg0 (by decide)
  replace Bg0 := NB7
  clear f98 f97 f99 a98 ks7 f100 a100
  refine L.ag f101 fun a102 f102 => ?_
  refine L.ag f102 fun a103 f103 => ?_
  refine wpList_nil (hK22 _ _ ?_)
  have f104 := f103.sub (sc 2 (sc 3 (sc 4 sn)))
  refine wp_ret ?_
  try simp only [Exit.inBlock, Exit.then]
  refine C.retC3 (P := Tryd.prog) (fn := Tryd.f25) f104 rfl rfl rfl rfl Bg0 U28 rfl wsz28_yb ?_
  have hx : readR (c0 :: t) = ({}, 0, 21) := readR_no hb hv (by omega) (by omega) (by omega) hq (by exact fun q => absurd (putB_1 q.2.1) (by omega))
  clear f101 a101 f102 a102 f103
  refine ⟨HK, ?_, s0, ?_, ?_⟩
  ·rw [hx]; exact Pk.Len.zero
  ·rw [hx]; rfl
  rw [hx]; exact PkO.zero _ _
 refine L.mv f97 (hw := (f97.yes rfl rfl)) fun a98 f98 => ?_
 refine L.va f98 (E.toStr f98 rfl U22 U5 U9 (FW.sl)) (hw := (f98.yes rfl rfl)) fun a99 f99 => ?_
 refine L.mv f99 (hw := (f99.yes rfl rfl)) fun a100 f100 => ?_
 refine L.va f100 (E.toStr f100 rfl U22 U5 U9 (SA3.toSl)) (hw := (f100.yes rfl rfl)) fun a101 f101 => ?_
 refine L.va f101 (E.neqS f101 rfl rfl) (hw := (f101.yes rfl rfl)) fun a102 f102 => ?_
 refine L.va f102 (E.pickF f102 rfl rfl) fun a103 f103 => ?_
 refine wpList_nil (hK20 _ _ ?_)
 have f104 := f103.sub (sc 2 (sc 8 (sc 10 (sc 83 sn))))
 clear f96 f97 a96 f98 a98 f99 a99 f100 a100 f101 a101 f102 a102 f103
 refine f104.splitN 83 rfl (fun h7 f105 => ?_) (fun h7 f105 => ?_)
 ·have hEq := h7
  refine C.condT f105 rfl ?_
  refine C.sk fun K23 hK23 => ?_
  refine L.va f105 (E.build f105 (parts0 f105) (wbl28__yb)) fun a106 f106 => ?_
  refine L.storeR f106 wantedN wsz28_yb rfl rfl rfl Bg0 rfl rfl fun a107 w7 f107 NB7 ks7 => ?_
  have szw7 := ks7.size
  replace HK := HK.trans ks7 (ktr (by omega))
  replace SA3 := SA3.kept1 ks7 Bg0 (by decide) (by omega)
  replace BG := BG.kept ks7 (by simp; omega)
  replace PN := PN.kept1 ks7 Bg0 (by decide) (by omega)
  replace Bg3 := Bg3.kept ks7 (by simp; omega)
  replace FW := FW.keptB ks7 Bg0 (by decide)
  replace Bg0 := NB7
  clear f104 f105 a103 ks7 f106 a106
  refine L.ag f107 fun a108 f108 => ?_
  refine L.ag f108 fun a109 f109 => ?_
  refine wpList_nil (hK23 _ _ ?_)
  have f110 := f109.sub (sc 2 (sc 3 (sc 4 sn)))
  refine wp_ret ?_
  try simp only [Exit.inBlock, Exit.then]
  refine C.retC3 (P := Tryd.prog) (fn := Tryd.f25) f110 rfl rfl rfl rfl Bg0 U28 rfl wsz28_yb ?_
  have hx : readR (c0 :: t) = ({}, 0, 21) := readR_no hb hv (by omega) (by omega) (by omega) hq (by exact fun q => hEq (bytes_eq.2 (by rw [putB_t q.2.1]; exact q.2.2)))
  clear f107 a107 f108 a108 f109
  refine ⟨HK, ?_, s0, ?_, ?_⟩
  ·rw [hx]; exact Pk.Len.zero
  ·rw [hx]; rfl
  rw [hx]; exact PkO.zero _ _
 have hEq := h7
 refine C.condF f105 rfl ?_
 refine wp_skip (hK19 _ _ ?_)
 have f106 := f105.sub (sc 2 (sc 8 (sc 10 sn)))
 refine C.sk fun K24 hK24 => ?_
 refine L.va f106 (by exact E.loadB f106 U28 rfl wsz28_yb rfl (Bg3) rfl) fun a107 f107 => ?_
 refine L.mv f107 fun a108 f108 => ?_
 refine L.va f108 (E.lenL f108 U22 rfl) fun a109 f109 => ?_
 refine L.storeR f109 wantedN wsz28_yb rfl rfl rfl Bg0 rfl rfl fun a110 w7 f110 NB7 ks7 => ?_
 have szw7 := ks7.size
 replace HK := HK.trans ks7 (ktr (by omega))
 replace SA3 := SA3.kept1 ks7 Bg0 (by decide) (by omega)
 replace BG := BG.kept ks7 (by simp; omega)
 replace PN := PN.kept1 ks7 Bg0 (by decide) (by omega)
 replace Bg3 := Bg3.kept ks7 (by simp; omega)
 replace FW := FW.keptB ks7 Bg0 (by decide)
 replace Bg0 := NB7
 clear f104 f105 f106 a103 f107 a107 f108 a108 ks7 f109 a109
 refine L.ag f110 fun a111 f111 => ?_
 refine L.ag f111 fun a112 f112 => ?_
 refine wpList_nil (hK24 _ _ ?_)
 have f113 := f112.sub (sc 2 (sc 3 (sc 4 sn)))
 refine wp_ret ?_
 try simp only [Exit.inBlock, Exit.then]
 refine C.retC3 (P := Tryd.prog) (fn := Tryd.f25) f113 rfl rfl rfl rfl Bg0 U28 rfl wsz28_yb ?_
 have hr : rightB pp = true := putB_0 (by omega)
 have he : encL pp = c0 :: t.take (sz + n) := by rw [putB_t hr] at hEq; exact bytes_eq.1 hEq
 have hx := readR_ok hb hv (by omega) (by omega) (by omega) hq hlk hr he
 have hle : ((c0 :: t).take (sz + n + 1)).length = sz + n + 1 := by rw [List.length_take]; omega
 refine ⟨HK, by rw [hx]; exact hpl, ss, ?_, by rw [hx]; exact PN.o⟩
 rw [hx, hle, show ((sz + n + 1 : Nat) : Int) = 1 + (sz : Int) + (n : Int) from by omega]
end Go.Proofs.YtigjafbbnocihaaDoor
namespace Go.Hub
open Go.Vl
theorem readL_bds (l : List UInt8) : (0 ≤ (readL l).1 ∧ (readL l).1 ≤ 268435455) ∧ 0 ≤ (readL l).2.1 ∧ (readL l).2.1 ≤ 4 := by
  unfold readL
  simp only [rd]
  repeat' split
  all_goals simp
  all_goals omega
theorem readP_len {l : List UInt8} (h : (readP l).2.2 = 0) : 1 ≤ (readP l).2.1 ∧ (readP l).2.1 ≤ l.length := by
  match l, h with
  | [], h => exact absurd h (by decide)
  | c :: t, h =>
    rw [readP_cons] at h ⊢
    obtain ⟨b1, b2⟩ := readL_bds t
    generalize readL t = v at h b1 b2 ⊢
    obtain ⟨n, s, e⟩ := v
    simp only at h b1 b2 ⊢
    rw [List.length_cons]
    by_cases h1 : begunB c.toNat = false
    · rw [if_pos h1] at h
      exact absurd h (by simp)
    rw [if_neg h1] at h ⊢
    by_cases h2 : e ≠ 0
    · rw [if_pos h2] at h
      exact absurd h h2
    rw [if_neg h2] at h ⊢
    by_cases h3 : 8192 < n
    · rw [if_pos h3] at h
      exact absurd h (by simp)
    rw [if_neg h3] at h ⊢
    by_cases h4 : (t.length : Int) < s + n
    · rw [if_pos h4] at h
      exact absurd h (by simp)
    rw [if_neg h4] at h ⊢
    split at h
    · rename_i h5
      rw [if_pos h5]
      simp only
      omega
    exact absurd h (by simp)
def feedN : Nat → List UInt8 → List Pk × List UInt8 × Int
  | 0, l => ([], l, 0)
  | k + 1, l => if (readP l).2.2 = 0 then ((readP l).1 :: (feedN k (l.drop (readP l).2.1.toNat)).1, (feedN k (l.drop (readP l).2.1.toNat)).2) else if (readP l).2.2 = 20 then ([], l, 0) else ([], [], (readP l).2.2)
def feedL (l : List UInt8) : List Pk × List UInt8 × Int := feedN (l.length + 1) l
theorem feedN_more : ∀ (k j : Nat) (l : List UInt8), l.length < k → l.length < j → feedN k l = feedN j l
  | 0, _, _, h, _ => by omega
  | _, 0, _, _, h => by omega
  | k + 1, j + 1, l, h1, h2 => by
    unfold feedN
    by_cases h : (readP l).2.2 = 0
    · have hn := readP_len h
      rw [if_pos h, if_pos h, feedN_more k j _ (by rw [List.length_drop]; omega) (by rw [List.length_drop]; omega)]
    rw [if_neg h, if_neg h]
theorem feedL_ok {l : List UInt8} {p : Pk} {n : Int} (h : readP l = (p, n, 0)) : feedL l = (p :: (feedL (l.drop n.toNat)).1, (feedL (l.drop n.toNat)).2) := by
  have hn := readP_len (l := l) (by rw [h])
  rw [h] at hn
  simp only at hn
  unfold feedL
  rw [feedN, h, if_pos rfl]
  simp only
  rw [feedN_more l.length ((l.drop n.toNat).length + 1) _ (by rw [List.length_drop]; omega) (by omega)]
theorem feedL_short {l : List UInt8} (h : (readP l).2.2 = 20) : feedL l = ([], l, 0) := by
  unfold feedL
  rw [feedN, if_neg (by omega), if_pos h]
theorem feedL_err {l : List UInt8} (h : (readP l).2.2 ≠ 0) (h2 : (readP l).2.2 ≠ 20) : feedL l = ([], [], (readP l).2.2) := by
  unfold feedL
  rw [feedN, if_neg h, if_neg h2]
def feedS (st : List UInt8 × Int) (b : List UInt8) : List Pk × List UInt8 × Int := if st.2 = 0 then feedL (st.1 ++ b) else ([], st)
theorem feedL_len : ∀ (n : Nat) (l : List UInt8), l.length < n → (feedL l).1.length + (feedL l).2.1.length ≤ l.length
  | 0, _, h => by omega
  | n + 1, l, h => by
    by_cases h0 : (readP l).2.2 = 0
    · rcases hv : readP l with ⟨p, m, e⟩
      rw [hv] at h0
      simp only at h0
      subst h0
      have hn := readP_len (l := l) (by rw [hv])
      rw [hv] at hn
      simp only at hn
      have := feedL_len n (l.drop m.toNat) (by rw [List.length_drop]; omega)
      rw [List.length_drop] at this
      rw [feedL_ok hv]
      simp only [List.length_cons]
      omega
    by_cases h1 : (readP l).2.2 = 20
    · rw [feedL_short h1]
      simp
    rw [feedL_err h0 h1]
    simp
theorem feedL_le (l : List UInt8) : (feedL l).1.length + (feedL l).2.1.length ≤ l.length := feedL_len (l.length + 1) l (by omega)
theorem feedS_le (st : List UInt8 × Int) (b : List UInt8) : (feedS st b).2.1.length ≤ st.1.length + b.length := by
  unfold feedS
  split
  · have := feedL_le (st.1 ++ b)
    rw [List.length_append] at this
    omega
  simp
theorem feed_encs : ∀ (ps : List Pk) (x : List UInt8), (∀ p ∈ ps, RightP p) → feedL (ps.flatMap encL ++ x) = (ps ++ (feedL x).1, (feedL x).2)
  | [], x, _ => by simp
  | p :: r, x, h => by
    have e : (p :: r).flatMap encL ++ x = encL p ++ (r.flatMap encL ++ x) := by simp
    rw [e, feedL_ok (read_enc (h p (by simp)) _)]
    rw [Int.toNat_natCast, List.drop_left, feed_encs r x fun q hq => h q (by simp [hq])]
    rfl
end Go.Hub
namespace Go.Proofs.YtigjafbbnocihaaDoor
open Go.RowKit Go.Hub Go.Lib Go.Vl
theorem wzi9_xf : (Tryd.prog.info? 9).map (fun i => (i.zero, i.size)) = some (some (.string ⟨#[]⟩), 1) := by kernel_rfl
theorem wbs104_10_xf (x0 : ByteArray) (x1 : ByteArray) (x2 : ByteArray) (x3 : ByteArray) (x4 : ByteArray) (x5 : ByteArray) (x6 : ByteArray) (x7 : ByteArray) (x8 : ByteArray) (x9 : ByteArray) : Instr.fill (fun i => some (i * 1, 1)) ((Array.range (10 * 1)).map fun j => (Value.cells (.string ⟨#[]⟩))[j % (Value.cells (.string ⟨#[]⟩)).size]!) [(0, .string x0), (1, .string x1), (2, .string x2), (3, .string x3), (4, .string x4), (5, .string x5), (6, .string x6), (7, .string x7), (8, .string x8), (9, .string x9)] = some #[.string x0, .string x1, .string x2, .string x3, .string x4, .string x5, .string x6, .string x7, .string x8, .string x9] := by kernel_rfl
theorem wsz9_xf : (Tryd.prog.info? 9).map (·.size) = some 1 := by kernel_rfl
theorem wbs104_7_xf (x0 : ByteArray) (x1 : ByteArray) (x2 : ByteArray) (x3 : ByteArray) (x4 : ByteArray) (x5 : ByteArray) (x6 : ByteArray) : Instr.fill (fun i => some (i * 1, 1)) ((Array.range (7 * 1)).map fun j => (Value.cells (.string ⟨#[]⟩))[j % (Value.cells (.string ⟨#[]⟩)).size]!) [(0, .string x0), (1, .string x1), (2, .string x2), (3, .string x3), (4, .string x4), (5, .string x5), (6, .string x6)] = some #[.string x0, .string x1, .string x2, .string x3, .string x4, .string x5, .string x6] := by kernel_rfl
theorem wbs104_5_xf (x0 : ByteArray) (x1 : ByteArray) (x2 : ByteArray) (x3 : ByteArray) (x4 : ByteArray) : Instr.fill (fun i => some (i * 1, 1)) ((Array.range (5 * 1)).map fun j => (Value.cells (.string ⟨#[]⟩))[j % (Value.cells (.string ⟨#[]⟩)).size]!) [(0, .string x0), (1, .string x1), (2, .string x2), (3, .string x3), (4, .string x4)] = some #[.string x0, .string x1, .string x2, .string x3, .string x4] := by kernel_rfl
theorem wsz3_xf : (Tryd.prog.info? 3).map (·.size) = some 1 := by kernel_rfl
theorem wsz4_xf : (Tryd.prog.info? 4).map (·.size) = some 1 := by kernel_rfl
theorem wsz22_xf : (Tryd.prog.info? 22).map (·.size) = some 1 := by kernel_rfl
theorem wsz24_xf : (Tryd.prog.info? 24).map (·.size) = some 4 := by kernel_rfl
theorem wsz28_xf : (Tryd.prog.info? 28).map (·.size) = some 24 := by kernel_rfl
theorem wbl24_0_1_2_3_xf (x0 : ByteArray) (x1 : Option Addr) (y1 z1 : Nat) (x2 : Int) (x3 : Bool) : Tryd.prog.built 24 [(0, .string x0), (1, .slice x1 y1 z1), (2, .int .i64 x2), (3, .bool x3)] = some #[.string x0, .slice x1 y1 z1, .int .i64 x2, .bool x3] := by kernel_rfl
theorem wbl28_0_7_8_9_10_xf (x0 : Int) (x1 : Int) (x2 : ByteArray) (x3 : Bool) (x4 : Int) : Tryd.prog.built 28 [(0, .int .i64 x0), (7, .int .i64 x1), (8, .string x2), (9, .bool x3), (10, .int .i64 x4)] = some #[.int .i64 x0, (.bool false), (.bool false), (.int .i64 0), (.int .i64 0), (.string ⟨#[]⟩), (.slice none 0 0), .int .i64 x1, .string x2, .bool x3, .int .i64 x4, (.bool false), (.string ⟨#[]⟩), (.slice none 0 0), (.int .i64 0), (.bool false), (.bool false), (.bool false), (.string ⟨#[]⟩), (.slice none 0 0), (.bool false), (.int .i64 0), (.slice none 0 0), (.slice none 0 0)] := by kernel_rfl
def p7 : List ByteArray := [⟨#[97]⟩, ⟨#[97, 47, 98]⟩, ⟨#[98, 47, 99]⟩, ⟨#[36, 115, 47, 97]⟩, ⟨#[97, 47, 47, 98]⟩, ⟨#[195, 169, 47, 97]⟩, ⟨#[99]⟩]
def p10 : List ByteArray := [⟨#[97]⟩, ⟨#[35]⟩, ⟨#[97, 47, 43]⟩, ⟨#[43, 47, 98]⟩, ⟨#[97, 47, 35]⟩, ⟨#[98, 47, 99]⟩, ⟨#[36, 115, 47, 35]⟩, ⟨#[43]⟩, ⟨#[43, 47, 43]⟩, ⟨#[195, 169, 47, 35]⟩]
def p5 : List ByteArray := [⟨#[107]⟩, ⟨#[108]⟩, ⟨#[109]⟩, ⟨#[195, 169]⟩, ⟨#[]⟩]
def topicS (k : Int) : ByteArray := p7.getD (k % 7).toNat em
def filterS (k : Int) : ByteArray := p10.getD (k % 10).toNat em
def cliS (k : Int) : ByteArray := p5.getD (k % 5).toNat em
theorem list_at (l : List ByteArray) (i : Nat) (h : i < l.length) : l[i]? = some (l.getD i em) := by rw [List.getD_eq_getElem?_getD, List.getElem?_eq_getElem h]; rfl
theorem ss_blk {w : World} {g t : Nat} {l : List ByteArray} (B : Blk w g t (l.map Value.string).toArray) : Sl w (some ⟨g, 0, none⟩) l.length 1 (l.map Value.string) := by
  have h := B.slN (n := l.length) (size := 1) (by simp)
  simpa using h
theorem ss_cellI {w : World} {A : Option Addr} {b off : Nat} {l : List ByteArray} {x : ByteArray} {i : Int} (h : Sl w A l.length 1 (l.map Value.string)) (hA : A = some ⟨b, off, none⟩) (hx : l[i.toNat]? = some x) : w.cell? ⟨b, off + i.toNat * 1, none⟩ = some (.string x) := by
  have hk := (List.getElem?_eq_some_iff.1 hx).1
  rw [Nat.mul_one]
  exact Sl.cell h (by omega) hA (by simp [hx])
def SeatPost (p : Pk) (w : World) (e : Ending) (w' : World) : Prop := ∃ s, e = .returned (.agg (p.cells s)) ∧ Kept [] w w' ∧ p.In w' s
def con1 (a b c : Int) : Pk := if cliS a = em then { kind := 1, level := 4, client := cliS a, clean := decide (0 < b % 9), keep := c % 5 } else { kind := 1, level := 4, client := cliS a, clean := decide (b % 2 = 0), keep := c % 5 }
def con2 (a b c : Int) (x : List UInt8) (p : Pk) : Pk := if c % 3 = 0 then { p with hasWill := true, wt := topicS c, wp := x, wq := a % 3, wr := decide (b % 3 = 0) } else p
def con3 (a : Int) (p : Pk) : Pk := if a % 8 = 7 then { p with level := 3 } else p
def con4 (b : Int) (x : List UInt8) (p : Pk) : Pk := if b % 10 = 9 then { p with hasUser := true, user := ⟨#[117]⟩, hasPass := true, pass := x } else p
def seatCon (a b c : Int) (x : List UInt8) : Pk := con4 b x (con3 a (con2 a b c x (con1 a b c)))
theorem con1_nil (a b c : Int) : (con1 a b c).pay = [] ∧ (con1 a b c).wp = [] ∧ (con1 a b c).pass = [] ∧ (con1 a b c).subs = [] ∧ (con1 a b c).codes = [] := by
  unfold con1
  split <;> exact ⟨rfl, rfl, rfl, rfl, rfl⟩
def adC (b c : Int) (A : Option Addr) (cx : Nat) : Ad := if b % 10 = 9 then { (if c % 3 = 0 then { s0 with wa := A, wc := cx } else s0 : Ad) with sa := A, sc := cx } else (if c % 3 = 0 then { s0 with wa := A, wc := cx } else s0)
theorem seatcon_in {W : World} {a b c : Int} {x : List UInt8} {A : Option Addr} {cx : Nat} (S : Sl W A x.length 1 (x.map u8)) :
    (seatCon a b c x).In W (adC b c A cx) := by
  unfold adC
  have z : Pk.In W {} s0 := Pk.In.zero W
  obtain ⟨h1, h2, h3, h4, h5⟩ := con1_nil a b c
  unfold seatCon con4 con3 con2
  by_cases hb : b % 10 = 9 <;> by_cases hc : c % 3 = 0 <;> by_cases ha : a % 8 = 7 <;> simp only [hb, hc, ha, if_true, if_false, reduceIte] <;> constructor <;> (first | exact S | (simp only [h1, h2, h3, h4, h5]; exact Sl.nil _ _ _))
set_option maxHeartbeats 1000000 in
theorem filterS_any (k : Int) (w : World) (hk : 0 ≤ k ∧ k < 256) : Calls Tryd.prog 35 #[.int .u8 k] w (fun e w' => Kept [] w w' ∧ e = .returned (.string (filterS k))) := by
 have HK : Kept [] w w := Kept.refl [] w
 refine C.enter Tryd.func35 rfl Tryd.ntmps35 rfl ?_
 intro a0 f0
 have f1 : Fr 8 a0 [(0, .int .u8 k)] := f0
 refine C.sk fun K0 hK0 => ?_
 refine L.ag f1 fun a2 f2 => ?_
 refine wpList_nil (hK0 _ _ ?_)
 have f3 := f2.sub (sc 0 sn)
 refine wp_seq_k fun K1 hK1 => ?_
 have hx : p10[(k % 10).toNat]? = some (filterS k) := list_at p10 _ (by show _ < 10; omega)
 refine C.region ?_
 refine L.buildSlice f3 wantedN (by decide) (parts10 f3 rfl rfl rfl rfl rfl rfl rfl rfl rfl rfl) U104 wzi9_xf rfl rfl (wbs104_10_xf _ _ _ _ _ _ _ _ _ _) fun a4 w1 g0 N0 f4 => ?_
 have SL := ss_blk (l := p10) N0.blk
 have Bg0 := N0.blk
 have kg0 := N0.kept
 have log0 := N0.lo
 have ltg0 := Bg0.lt
 have szw1 := kg0.size
 have frg0 : w.heap.size ≤ g0 := Nat.le_trans HK.size log0
 replace HK := HK.trans kg0 (by simp)
 clear f0 f1 a0 f2 N0 kg0
 refine L.mv f4 fun a5 f5 => ?_
 refine L.va f5 (E.rem f5 rfl rfl (by omega) (Int.tmod_eq_emod_of_nonneg (by omega))) fun a6 f6 => ?_
 refine L.va f6 (E.indexA f6 (by rfl) U104 wsz9_xf rfl rfl (by omega) (by omega)) fun a7 f7 => ?_
 refine L.va f7 (by exact E.load f7 U9 rfl rfl (ss_cellI SL rfl hx)) fun a8 f8 => ?_
 refine L.ag f8 fun a9 f9 => ?_
 refine wpList_nil (hK1 _ _ ?_)
 have f10 := f9.sub (sc 2 sn)
 refine wp_ret ?_
 try simp only [Exit.inBlock, Exit.then]
 refine C.ret (P := Tryd.prog) (fn := Tryd.f35) f10 rfl rfl ?_
 exact ⟨HK, rfl⟩
set_option maxHeartbeats 1000000 in
theorem topicS_any (k : Int) (w : World) (hk : 0 ≤ k ∧ k < 256) : Calls Tryd.prog 34 #[.int .u8 k] w (fun e w' => Kept [] w w' ∧ e = .returned (.string (topicS k))) := by
 have HK : Kept [] w w := Kept.refl [] w
 refine C.enter Tryd.func34 rfl Tryd.ntmps34 rfl ?_
 intro a0 f0
 have f1 : Fr 8 a0 [(0, .int .u8 k)] := f0
 refine C.sk fun K0 hK0 => ?_
 refine L.ag f1 fun a2 f2 => ?_
 refine wpList_nil (hK0 _ _ ?_)
 have f3 := f2.sub (sc 0 sn)
 refine wp_seq_k fun K1 hK1 => ?_
 have hx : p7[(k % 7).toNat]? = some (topicS k) := list_at p7 _ (by show _ < 7; omega)
 refine C.region ?_
 refine L.buildSlice f3 wantedN (by decide) (parts7 f3 rfl rfl rfl rfl rfl rfl rfl) U104 wzi9_xf rfl rfl (wbs104_7_xf _ _ _ _ _ _ _) fun a4 w1 g0 N0 f4 => ?_
 have SL := ss_blk (l := p7) N0.blk
 have Bg0 := N0.blk
 have kg0 := N0.kept
 have log0 := N0.lo
 have ltg0 := Bg0.lt
 have szw1 := kg0.size
 have frg0 : w.heap.size ≤ g0 := Nat.le_trans HK.size log0
 replace HK := HK.trans kg0 (by simp)
 clear f0 f1 a0 f2 N0 kg0
 refine L.mv f4 fun a5 f5 => ?_
 refine L.va f5 (E.rem f5 rfl rfl (by omega) (Int.tmod_eq_emod_of_nonneg (by omega))) fun a6 f6 => ?_
 refine L.va f6 (E.indexA f6 (by rfl) U104 wsz9_xf rfl rfl (by omega) (by omega)) fun a7 f7 => ?_
 refine L.va f7 (by exact E.load f7 U9 rfl rfl (ss_cellI SL rfl hx)) fun a8 f8 => ?_
 refine L.ag f8 fun a9 f9 => ?_
 refine wpList_nil (hK1 _ _ ?_)
 have f10 := f9.sub (sc 2 sn)
 refine wp_ret ?_
 try simp only [Exit.inBlock, Exit.then]
 refine C.ret (P := Tryd.prog) (fn := Tryd.f34) f10 rfl rfl ?_
 exact ⟨HK, rfl⟩
set_option maxHeartbeats 4000000 in
theorem seatcon_any (a0_ b c : Int) (x : List UInt8) (A : Option Addr) (cx : Nat) (w : World) (SX : Sl w A x.length 1 (x.map u8)) (ha : 0 ≤ a0_ ∧ a0_ < 256) (hb : 0 ≤ b ∧ b < 256) (hc : 0 ≤ c ∧ c < 256) : Calls Tryd.prog 36 #[.int .u8 a0_, .int .u8 b, .int .u8 c, .slice A x.length cx] w (fun e w' => Kept [] w w' ∧ e = .returned (.agg ((seatCon a0_ b c x).cells (adC b c A cx)))) := by
 have HK : Kept [] w w := Kept.refl [] w
 refine C.enter Tryd.func36 rfl Tryd.ntmps36 rfl ?_
 intro a0 f0
 have f1 : Fr 57 a0 [(0, .int .u8 a0_), (1, .int .u8 b), (2, .int .u8 c), (3, .slice A x.length cx)] := f0
 refine C.sk fun K0 hK0 => ?_
 refine L.alloc f1 wantedN (by decide) (z := (.agg #[(.int .i64 0), (.bool false), (.bool false), (.int .i64 0), (.int .i64 0), (.string ⟨#[]⟩), (.slice none 0 0), (.int .i64 0), (.string ⟨#[]⟩), (.bool false), (.int .i64 0), (.bool false), (.string ⟨#[]⟩), (.slice none 0 0), (.int .i64 0), (.bool false), (.bool false), (.bool false), (.string ⟨#[]⟩), (.slice none 0 0), (.bool false), (.int .i64 0), (.slice none 0 0), (.slice none 0 0)])) (fun _ => by kernel_rfl) rfl fun a2 w1 g0 N0 f2 => ?_
 have Bg0 := N0.blk
 have kg0 := N0.kept
 have log0 := N0.lo
 have ltg0 := Bg0.lt
 have szw1 := kg0.size
 have frg0 : w.heap.size ≤ g0 := Nat.le_trans HK.size log0
 replace HK := HK.trans kg0 (by simp)
 clear f0 N0 kg0
 refine wpList_nil (hK0 _ _ ?_)
 have f3 := f2.sub (sc 0 (sc 1 (sc 2 (sc 3 (sc 8 sn)))))
 refine wp_seq_k fun K1 hK1 => ?_
 have hx : p5[(a0_ % 5).toNat]? = some (cliS a0_) := list_at p5 _ (by show _ < 5; omega)
 refine C.region ?_
 refine L.buildSlice f3 wantedN (by decide) (parts5 f3 rfl rfl rfl rfl rfl) U104 wzi9_xf rfl rfl (wbs104_5_xf _ _ _ _ _) fun a4 w2 g1 N1 f4 => ?_
 have SL := ss_blk (l := p5) N1.blk
 have Bg1 := N1.blk
 have kg1 := N1.kept
 have log1 := N1.lo
 have ltg1 := Bg1.lt
 have szw2 := kg1.size
 have frg1 : w.heap.size ≤ g1 := Nat.le_trans HK.size log1
 have neg0_g1 : g0 ≠ g1 := by have := Bg0.lt; omega
 replace HK := HK.trans kg1 (by simp)
 replace Bg0 := Bg0.kept kg1 (by simp)
 clear f1 a0 f2 N1 kg1
 refine L.mv f4 fun a5 f5 => ?_
 refine L.va f5 (E.rem f5 rfl rfl (by omega) (Int.tmod_eq_emod_of_nonneg (by omega))) fun a6 f6 => ?_
 refine L.va f6 (E.indexA f6 (by rfl) U104 wsz9_xf rfl rfl (by omega) (by omega)) fun a7 f7 => ?_
 refine L.va f7 (by exact E.load f7 U9 rfl rfl (ss_cellI SL rfl hx)) fun a8 f8 => ?_
 refine L.mv f8 fun a9 f9 => ?_
 refine L.va f9 (E.rem f9 rfl rfl (by omega) (Int.tmod_eq_emod_of_nonneg (by omega))) fun a10 f10 => ?_
 clear f3 a2 f4 a4 f5 a5 f6 a6 f7 a7 f8 a8 f9 a9
 refine L.va f10 (E.eq f10) fun a11 f11 => ?_
 refine L.mv f11 fun a12 f12 => ?_
 refine L.va f12 (E.rem f12 rfl rfl (by omega) (Int.tmod_eq_emod_of_nonneg (by omega))) fun a13 f13 => ?_
 refine L.va f13 (E.conv f13 U5 U3 rfl (IntWalk.i64_in _ (by omega))) fun a14 f14 => ?_
 refine L.va f14 (E.build f14 (parts5 f14 rfl rfl rfl rfl rfl) (wbl28_0_7_8_9_10_xf _ _ _ _ _)) fun a15 f15 => ?_
 refine L.alloc f15 wantedN (by decide) (z := (.agg #[(.int .i64 0), (.bool false), (.bool false), (.int .i64 0), (.int .i64 0), (.string ⟨#[]⟩), (.slice none 0 0), (.int .i64 0), (.string ⟨#[]⟩), (.bool false), (.int .i64 0), (.bool false), (.string ⟨#[]⟩), (.slice none 0 0), (.int .i64 0), (.bool false), (.bool false), (.bool false), (.string ⟨#[]⟩), (.slice none 0 0), (.bool false), (.int .i64 0), (.slice none 0 0), (.slice none 0 0)])) (fun _ => by kernel_rfl) rfl fun a16 w3 g2 N2 f16 => ?_
 have Bg2 := N2.blk
 have kg2 := N2.kept
 have log2 := N2.lo
 have ltg2 := Bg2.lt
 have szw3 := kg2.size
 have frg2 : w.heap.size ≤ g2 := Nat.le_trans HK.size log2
 have neg0_g2 : g0 ≠ g2 := by have := Bg0.lt; omega
 have neg1_g2 : g1 ≠ g2 := by have := Bg1.lt; omega
 replace HK := HK.trans kg2 (by simp)
 replace Bg0 := Bg0.kept kg2 (by simp)
 replace Bg1 := Bg1.kept kg2 (by simp)
 clear f10 a10 f11 a11 f12 a12 f13 a13 f14 a14 N2 kg2
 refine L.storeR f16 wantedN wsz28_xf rfl rfl rfl Bg2 rfl rfl fun a17 w4 f17 NB4 ks4 => ?_
 have szw4 := ks4.size
 replace HK := HK.trans ks4 (ktr (by omega))
 replace Bg0 := Bg0.kept ks4 (by simp; omega)
 replace Bg1 := Bg1.kept ks4 (by simp; omega)
 replace Bg2 := NB4
 clear f15 a15 ks4 f16 a16
 refine wpList_nil (hK1 _ _ ?_)
 have f18 := f17.sub (sc 0 (sc 1 (sc 2 (sc 3 (sc 8 (sc 9 sn))))))
 obtain ⟨J4, hJ4⟩ : ∃ J : Act → World → Prop, J = fun a W => ∃ (gq : Nat) (p : Pk), p = con1 a0_ b c ∧ gq ≠ g0 ∧ w.heap.size ≤ gq ∧ Kept [] w W ∧ Blk W g0 28 zeroPk ∧ Blk W gq 28 (p.cells s0) ∧ Fr 57 a [(0, .int .u8 a0_), (1, .int .u8 b), (2, .int .u8 c), (3, .slice A x.length cx), (8, .pointer (some ⟨g0, 0, none⟩)), (9, .pointer (some ⟨gq, 0, none⟩))] := ⟨_, rfl⟩
 clear f17
 refine C.cut J4 ?_ ?_
 ·skip
  refine C.sk fun K2 hK2 => ?_
  refine L.fa 8 f18 U28 rfl wsz9_xf fun a19 f19 => ?_
  refine L.ld f19 U9 Bg2 fun a20 f20 => ?_
  refine L.va f20 (E.eqlS f20 rfl rfl) fun a21 f21 => ?_
  refine wpList_nil (hK2 _ _ ?_)
  have f22 := f21.sub (sc 0 (sc 1 (sc 2 (sc 3 (sc 8 (sc 9 (sc 24 sn)))))))
  clear f18 a17 f19 a19 f20 a20 f21
  refine f22.splitD 24 rfl (fun h0 f23 => ?_) (fun h0 f23 => ?_)
  ·refine C.condT f23 rfl ?_
   refine C.region ?_
   refine L.mv f23 fun a24 f24 => ?_
   refine L.va f24 (E.rem f24 rfl rfl (by omega) (Int.tmod_eq_emod_of_nonneg (by omega))) fun a25 f25 => ?_
   refine L.va f25 (E.gtr f25 rfl rfl) fun a26 f26 => ?_
   refine L.fa 9 f26 U28 rfl wsz4_xf fun a27 f27 => ?_
   refine L.store f27 wantedN wsz4_xf rfl rfl rfl Bg2 (by (simp [Value.cells]; done)) fun a28 w5 f28 NB5 ks5 => ?_
   have szw5 := ks5.size
   replace HK := HK.trans ks5 (ktr (by omega))
   replace Bg0 := Bg0.kept ks5 (by simp; omega)
   replace Bg1 := Bg1.kept ks5 (by simp; omega)
   replace Bg2 := NB5
   simp only [Value.cells, z1, z2, z3, Nat.reduceAdd, Nat.zero_add] at Bg2
   clear f22 f23 a21 f24 a24 f25 a25 f26 a26 ks5 f27 a27
   exact wpList_nil (then_of (J := J4) (Q := fun _ _ _ => True) (by rw [hJ4]; exact ⟨g2, { kind := 1, level := 4, client := cliS a0_, clean := decide (0 < b % 9), keep := c % 5 }, by unfold con1; rw [if_pos (by assumption)], by omega, by omega, HK, Bg0, Bg2, f28.sub (sub_cons rfl (sub_cons rfl (sub_cons rfl (sub_cons rfl (sub_cons rfl (sub_cons rfl sn))))))⟩))
  refine C.condF f23 rfl ?_
  exact wp_skip (then_of (J := J4) (Q := fun _ _ _ => True) (by rw [hJ4]; exact ⟨g2, { kind := 1, level := 4, client := cliS a0_, clean := decide (b % 2 = 0), keep := c % 5 }, by unfold con1; rw [if_neg (by assumption)], by omega, by omega, HK, Bg0, Bg2, f23.sub (sub_cons rfl (sub_cons rfl (sub_cons rfl (sub_cons rfl (sub_cons rfl (sub_cons rfl sn))))))⟩))
 intro a19 w5 hj
 rw [hJ4] at hj
 clear hJ4 J4
 obtain ⟨gq, p, hp, hne, hgq, HK, Bg0, BQ, f19⟩ := hj
 try clear f18
 replace BQ : Blk w5 gq 28 #[.int .i64 p.kind, .bool p.dup, .bool p.retain, .int .i64 p.qos, .int .i64 p.id, .string p.topic, .slice s0.pa p.pay.length s0.pc, .int .i64 p.level, .string p.client, .bool p.clean, .int .i64 p.keep, .bool p.hasWill, .string p.wt, .slice s0.wa p.wp.length s0.wc, .int .i64 p.wq, .bool p.wr, .bool p.hasUser, .bool p.hasPass, .string p.user, .slice s0.sa p.pass.length s0.sc, .bool p.present, .int .i64 p.code, .slice s0.ua p.subs.length s0.uc, .slice s0.ca p.codes.length s0.cc] := BQ
 have hne2 : g0 ≠ gq := fun e => hne e.symm
 obtain ⟨J6, hJ6⟩ : ∃ J : Act → World → Prop, J = fun a W => ∃ (p1 : Pk) (s1 : Ad), p1 = con2 a0_ b c x p ∧ s1 = (if c % 3 = 0 then { s0 with wa := A, wc := cx } else s0) ∧ Kept [] w W ∧ Blk W g0 28 zeroPk ∧ Blk W gq 28 (p1.cells s1) ∧ Fr 57 a [(0, .int .u8 a0_), (1, .int .u8 b), (3, .slice A x.length cx), (8, .pointer (some ⟨g0, 0, none⟩)), (9, .pointer (some ⟨gq, 0, none⟩))] := ⟨_, rfl⟩
 refine C.cut J6 ?_ ?_
 ·skip
  refine C.sk fun K3 hK3 => ?_
  refine L.mv f19 fun a20 f20 => ?_
  refine L.va f20 (E.rem f20 rfl rfl (by omega) (Int.tmod_eq_emod_of_nonneg (by omega))) fun a21 f21 => ?_
  refine L.va f21 (E.eq f21) fun a22 f22 => ?_
  refine wpList_nil (hK3 _ _ ?_)
  have f23 := f22.sub (sc 0 (sc 1 (sc 2 (sc 3 (sc 8 (sc 9 (sc 31 sn)))))))
  clear f19 a19 f20 a20 f21 a21 f22
  refine f23.splitD 31 rfl (fun h1 f24 => ?_) (fun h1 f24 => ?_)
  ·refine C.condT f24 rfl ?_
   refine C.region ?_
   refine L.mv f24 fun a25 f25 => ?_
   refine L.cl f25 (run_call Tryd.call34 (args1 f25 rfl)) (topicS_any c _ hc) ?_
   clear f23 f24 a22
   rintro e w6 ⟨kc6, rfl⟩
   refine ⟨_, rfl, fun a26 f26 => ?_⟩
   have szw6 := kc6.size
   replace HK := HK.trans kc6 (by simp)
   replace Bg0 := Bg0.kept kc6 (by simp)
   replace BQ := BQ.kept kc6 (by simp)
   clear f25 a25 kc6
   refine L.mv f26 fun a27 f27 => ?_
   refine L.mv f27 fun a28 f28 => ?_
   refine L.va f28 (E.rem f28 rfl rfl (by omega) (Int.tmod_eq_emod_of_nonneg (by omega))) fun a29 f29 => ?_
   refine L.va f29 (E.conv f29 U5 U3 rfl (IntWalk.i64_in _ (by omega))) fun a30 f30 => ?_
   refine L.mv f30 fun a31 f31 => ?_
   refine L.va f31 (E.rem f31 rfl rfl (by omega) (Int.tmod_eq_emod_of_nonneg (by omega))) fun a32 f32 => ?_
   refine L.va f32 (E.eq f32) fun a33 f33 => ?_
   clear f26 a26 f27 a27 f28 a28 f29 a29 f30 a30 f31 a31 f32 a32
   refine L.va f33 (E.build f33 (parts4 f33 rfl rfl rfl rfl) (wbl24_0_1_2_3_xf _ _ _ _ _ _)) fun a34 f34 => ?_
   refine L.fa 11 f34 U28 rfl wsz4_xf fun a35 f35 => ?_
   refine L.store f35 wantedN wsz4_xf rfl rfl rfl BQ (by (simp [Value.cells]; done)) fun a36 w7 f36 NB7 ks7 => ?_
   have szw7 := ks7.size
   replace HK := HK.trans ks7 (ktr (by omega))
   replace Bg0 := Bg0.kept ks7 (by simp; omega)
   replace BQ := NB7
   simp only [Value.cells, z1, z2, z3, Nat.reduceAdd, Nat.zero_add] at BQ
   clear f33 a33 f34 a34 ks7 f35 a35
   refine L.fa 12 f36 U28 rfl wsz24_xf fun a37 f37 => ?_
   refine L.storeSeg f37 wantedN wsz24_xf rfl rfl rfl BQ (Nat.le_of_ble_eq_true rfl) rfl fun a38 w8 f38 NB8 ks8 => ?_
   have szw8 := ks8.size
   replace HK := HK.trans ks8 (ktr (by omega))
   replace Bg0 := Bg0.kept ks8 (by simp; omega)
   replace BQ := NB8
   simp only [setSeg, List.set_cons_zero, List.set_cons_succ, Nat.reduceAdd, Nat.zero_add] at BQ
   clear f36 a36 ks8 f37 a37
   exact wpList_nil (then_of (J := J6) (Q := fun _ _ _ => True) (by rw [hJ6]; exact ⟨{ p with hasWill := true, wt := topicS c, wp := x, wq := a0_ % 3, wr := decide (b % 3 = 0) }, { s0 with wa := A, wc := cx }, by unfold con2; rw [if_pos (by assumption)], by rw [if_pos (by assumption)], HK, Bg0, BQ, f38.sub (sub_cons rfl (sub_cons rfl (sub_cons rfl (sub_cons rfl (sub_cons rfl sn)))))⟩))
  refine C.condF f24 rfl ?_
  exact wp_skip (then_of (J := J6) (Q := fun _ _ _ => True) (by rw [hJ6]; exact ⟨p, s0, by unfold con2; rw [if_neg (by assumption)], by rw [if_neg (by assumption)], HK, Bg0, BQ, f24.sub (sub_cons rfl (sub_cons rfl (sub_cons rfl (sub_cons rfl (sub_cons rfl sn)))))⟩))
 intro a20 w6 hj
 rw [hJ6] at hj
 clear hJ6 J6
 obtain ⟨p1, s1, hp1, hs1, HK, Bg0, BQ, f20⟩ := hj
 try clear f19
 replace BQ : Blk w6 gq 28 #[.int .i64 p1.kind, .bool p1.dup, .bool p1.retain, .int .i64 p1.qos, .int .i64 p1.id, .string p1.topic, .slice s1.pa p1.pay.length s1.pc, .int .i64 p1.level, .string p1.client, .bool p1.clean, .int .i64 p1.keep, .bool p1.hasWill, .string p1.wt, .slice s1.wa p1.wp.length s1.wc, .int .i64 p1.wq, .bool p1.wr, .bool p1.hasUser, .bool p1.hasPass, .string p1.user, .slice s1.sa p1.pass.length s1.sc, .bool p1.present, .int .i64 p1.code, .slice s1.ua p1.subs.length s1.uc, .slice s1.ca p1.codes.length s1.cc] := BQ
 obtain ⟨J8, hJ8⟩ : ∃ J : Act → World → Prop, J = fun a W => ∃ (p2 : Pk), p2 = con3 a0_ p1 ∧ Kept [] w W ∧ Blk W g0 28 zeroPk ∧ Blk W gq 28 (p2.cells s1) ∧ Fr 57 a [(1, .int .u8 b), (3, .slice A x.length cx), (8, .pointer (some ⟨g0, 0, none⟩)), (9, .pointer (some ⟨gq, 0, none⟩))] := ⟨_, rfl⟩
 refine C.cut J8 ?_ ?_
 ·skip
  refine C.sk fun K4 hK4 => ?_
  refine L.mv f20 fun a21 f21 => ?_
  refine L.va f21 (E.rem f21 rfl rfl (by omega) (Int.tmod_eq_emod_of_nonneg (by omega))) fun a22 f22 => ?_
  refine L.va f22 (E.eq f22) fun a23 f23 => ?_
  refine wpList_nil (hK4 _ _ ?_)
  have f24 := f23.sub (sc 1 (sc 3 (sc 8 (sc 9 (sc 46 sn)))))
  clear f20 a20 f21 a21 f22 a22 f23
  refine f24.splitD 46 rfl (fun h2 f25 => ?_) (fun h2 f25 => ?_)
  ·refine C.condT f25 rfl ?_
   refine C.region ?_
   refine L.fa 7 f25 U28 rfl wsz3_xf fun a26 f26 => ?_
   refine L.store f26 wantedN wsz3_xf rfl rfl rfl BQ (by (simp [Value.cells]; done)) fun a27 w7 f27 NB7 ks7 => ?_
   have szw7 := ks7.size
   replace HK := HK.trans ks7 (ktr (by omega))
   replace Bg0 := Bg0.kept ks7 (by simp; omega)
   replace BQ := NB7
   simp only [Value.cells, z1, z2, z3, Nat.reduceAdd, Nat.zero_add] at BQ
   clear f24 f25 a23 ks7 f26 a26
   exact wpList_nil (then_of (J := J8) (Q := fun _ _ _ => True) (by rw [hJ8]; exact ⟨{ p1 with level := 3 }, by unfold con3; rw [if_pos (by assumption)], HK, Bg0, BQ, f27.sub (sub_cons rfl (sub_cons rfl (sub_cons rfl (sub_cons rfl sn))))⟩))
  refine C.condF f25 rfl ?_
  exact wp_skip (then_of (J := J8) (Q := fun _ _ _ => True) (by rw [hJ8]; exact ⟨p1, by unfold con3; rw [if_neg (by assumption)], HK, Bg0, BQ, f25.sub (sub_cons rfl (sub_cons rfl (sub_cons rfl (sub_cons rfl sn))))⟩))
 intro a21 w7 hj
 rw [hJ8] at hj
 clear hJ8 J8
 obtain ⟨p2, hp2, HK, Bg0, BQ, f21⟩ := hj
 try clear f20
 replace BQ : Blk w7 gq 28 #[.int .i64 p2.kind, .bool p2.dup, .bool p2.retain, .int .i64 p2.qos, .int .i64 p2.id, .string p2.topic, .slice s1.pa p2.pay.length s1.pc, .int .i64 p2.level, .string p2.client, .bool p2.clean, .int .i64 p2.keep, .bool p2.hasWill, .string p2.wt, .slice s1.wa p2.wp.length s1.wc, .int .i64 p2.wq, .bool p2.wr, .bool p2.hasUser, .bool p2.hasPass, .string p2.user, .slice s1.sa p2.pass.length s1.sc, .bool p2.present, .int .i64 p2.code, .slice s1.ua p2.subs.length s1.uc, .slice s1.ca p2.codes.length s1.cc] := BQ
 obtain ⟨J10, hJ10⟩ : ∃ J : Act → World → Prop, J = fun a W => ∃ (p3 : Pk) (s3 : Ad), p3 = con4 b x p2 ∧ s3 = (if b % 10 = 9 then { s1 with sa := A, sc := cx } else s1) ∧ Kept [] w W ∧ Blk W g0 28 zeroPk ∧ Blk W gq 28 (p3.cells s3) ∧ Fr 57 a [(8, .pointer (some ⟨g0, 0, none⟩)), (9, .pointer (some ⟨gq, 0, none⟩))] := ⟨_, rfl⟩
 refine C.cut J10 ?_ ?_
 ·skip
  refine C.sk fun K5 hK5 => ?_
  refine L.mv f21 fun a22 f22 => ?_
  refine L.va f22 (E.rem f22 rfl rfl (by omega) (Int.tmod_eq_emod_of_nonneg (by omega))) fun a23 f23 => ?_
  refine L.va f23 (E.eq f23) fun a24 f24 => ?_
  refine wpList_nil (hK5 _ _ ?_)
  have f25 := f24.sub (sc 3 (sc 8 (sc 9 (sc 50 sn))))
  clear f21 a21 f22 a22 f23 a23 f24
  refine f25.splitD 50 rfl (fun h3 f26 => ?_) (fun h3 f26 => ?_)
  ·refine C.condT f26 rfl ?_
   refine C.region ?_
   refine L.mv f26 fun a27 f27 => ?_
   refine L.fa 16 f27 U28 rfl wsz4_xf fun a28 f28 => ?_
   refine L.store f28 wantedN wsz4_xf rfl rfl rfl BQ (by (simp [Value.cells]; done)) fun a29 w8 f29 NB8 ks8 => ?_
   have szw8 := ks8.size
   replace HK := HK.trans ks8 (ktr (by omega))
   replace Bg0 := Bg0.kept ks8 (by simp; omega)
   replace BQ := NB8
   simp only [Value.cells, z1, z2, z3, Nat.reduceAdd, Nat.zero_add] at BQ
   clear f25 f26 a24 f27 a27 ks8 f28 a28
   refine L.fa 18 f29 U28 rfl wsz9_xf fun a30 f30 => ?_
   refine L.store f30 wantedN wsz9_xf rfl rfl rfl BQ (by (simp [Value.cells]; done)) fun a31 w9 f31 NB9 ks9 => ?_
   have szw9 := ks9.size
   replace HK := HK.trans ks9 (ktr (by omega))
   replace Bg0 := Bg0.kept ks9 (by simp; omega)
   replace BQ := NB9
   simp only [Value.cells, z1, z2, z3, Nat.reduceAdd, Nat.zero_add] at BQ
   clear f29 a29 ks9 f30 a30
   refine L.fa 17 f31 U28 rfl wsz4_xf fun a32 f32 => ?_
   refine L.store f32 wantedN wsz4_xf rfl rfl rfl BQ (by (simp [Value.cells]; done)) fun a33 w10 f33 NB10 ks10 => ?_
   have szw10 := ks10.size
   replace HK := HK.trans ks10 (ktr (by omega))
   replace Bg0 := Bg0.kept ks10 (by simp; omega)
   replace BQ := NB10
   simp only [Value.cells, z1, z2, z3, Nat.reduceAdd, Nat.zero_add] at BQ
   clear f31 a31 ks10 f32 a32
   refine L.fa 19 f33 U28 rfl wsz22_xf fun a34 f34 => ?_
   refine L.store f34 wantedN wsz22_xf rfl rfl rfl BQ (by (simp [Value.cells]; done)) fun a35 w11 f35 NB11 ks11 => ?_
   have szw11 := ks11.size
   replace HK := HK.trans ks11 (ktr (by omega))
   replace Bg0 := Bg0.kept ks11 (by simp; omega)
   replace BQ := NB11
   simp only [Value.cells, z1, z2, z3, Nat.reduceAdd, Nat.zero_add] at BQ
   clear f33 a33 ks11 f34 a34
   exact wpList_nil (then_of (J := J10) (Q := fun _ _ _ => True) (by rw [hJ10]; exact ⟨{ p2 with hasUser := true, user := ⟨#[117]⟩, hasPass := true, pass := x }, { s1 with sa := A, sc := cx }, by unfold con4; rw [if_pos (by assumption)], by rw [if_pos (by assumption)], HK, Bg0, BQ, f35.sub (sub_cons rfl (sub_cons rfl sn))⟩))
  refine C.condF f26 rfl ?_
  exact wp_skip (then_of (J := J10) (Q := fun _ _ _ => True) (by rw [hJ10]; exact ⟨p2, s1, by unfold con4; rw [if_neg (by assumption)], by rw [if_neg (by assumption)], HK, Bg0, BQ, f26.sub (sub_cons rfl (sub_cons rfl sn))⟩))
 intro a22 w8 hj
 rw [hJ10] at hj
 clear hJ10 J10
 obtain ⟨p3, s3, hp3, hs3, HK, Bg0, BQ, f22⟩ := hj
 try clear f21
 refine C.sk fun K6 hK6 => ?_
 refine L.va f22 (by exact E.loadB f22 U28 rfl wsz28_xf rfl (BQ) rfl) fun a23 f23 => ?_
 refine L.storeR f23 wantedN wsz28_xf rfl rfl rfl Bg0 rfl rfl fun a24 w9 f24 NB9 ks9 => ?_
 have szw9 := ks9.size
 replace HK := HK.trans ks9 (ktr (by omega))
 replace BQ := BQ.kept ks9 (by simp; omega)
 replace Bg0 := NB9
 clear f22 a22 ks9 f23 a23
 refine wpList_nil (hK6 _ _ ?_)
 have f25 := f24.sub (sc 8 sn)
 refine wp_ret ?_
 try simp only [Exit.inBlock, Exit.then]
 refine C.retC (P := Tryd.prog) (fn := Tryd.f36) f25 rfl rfl Bg0 U28 rfl wsz28_xf ?_
 have he : p3 = seatCon a0_ b c x := by rw [hp3, hp2, hp1, hp]; rfl
 have hs : s3 = adC b c A cx := by rw [hs3, hs1]; rfl
 exact ⟨HK, by rw [← he, ← hs]⟩
end Go.Proofs.YtigjafbbnocihaaDoor
