/- Merged by program (shrink.py): contracts and plain laws that the claim's statement uses, part 2. -/
import Derived.Test.YtigjafbbnocihaaDoorMc1
set_option linter.all false

namespace Go.Proofs.YtigjafbbnocihaaDoor
open Go.RowKit Go.Hub Go.Lib Go.Vl
theorem wsz3_wb : (Tryd.prog.info? 3).map (·.size) = some 1 := by kernel_rfl
theorem wsz4_wb : (Tryd.prog.info? 4).map (·.size) = some 1 := by kernel_rfl
theorem wsz9_wb : (Tryd.prog.info? 9).map (·.size) = some 1 := by kernel_rfl
theorem wsz22_wb : (Tryd.prog.info? 22).map (·.size) = some 1 := by kernel_rfl
theorem wsz24_wb : (Tryd.prog.info? 24).map (·.size) = some 4 := by kernel_rfl
theorem wsz25_wb : (Tryd.prog.info? 25).map (·.size) = some 1 := by kernel_rfl
theorem wsz26_wb : (Tryd.prog.info? 26).map (·.size) = some 1 := by kernel_rfl
theorem wsz28_wb : (Tryd.prog.info? 28).map (·.size) = some 24 := by kernel_rfl
theorem wsz70_wb : (Tryd.prog.info? 70).map (·.size) = some 2 := by kernel_rfl
theorem same_eq (p q : Pk) : samePk p q = (decide (p.kind = q.kind) && (p.dup == q.dup) && (p.retain == q.retain) && decide (p.qos = q.qos) && decide (p.id = q.id) && decide (p.topic = q.topic) && decide (p.pay = q.pay) && greetB p q && willB p q && decide (p.subs = q.subs) && decide (p.codes = q.codes)) := rfl
theorem willB_refl (p : Pk) : willB p p = true := by simp [willB]
theorem will_row {w : World} {g : Nat} {t : TypeId} {p : Pk} {s : Ad} (B : Blk w g t (p.cells s)) : w.rangeAt g (0 + 12) [.string p.wt, .slice s.wa p.wp.length s.wc, .int .i64 p.wq, .bool p.wr] := fun j u hj => by
  match j, hj with
  | 0, hj => simp at hj; subst hj; exact B.cl rfl
  | 1, hj => simp at hj; subst hj; exact B.cl rfl
  | 2, hj => simp at hj; subst hj; exact B.cl rfl
  | 3, hj => simp at hj; subst hj; exact B.cl rfl
  | j + 4, hj => simp at hj
theorem toList_len (s : ByteArray) : s.toList.length = s.size := by rw [ByteArray.toList_eq]; rfl
theorem tx_t {s : ByteArray} (h2 : s.size ≤ 65535) : txB s = decide (chk s.toList < 0) := by simp [txB, h2]
theorem tx_f {s : ByteArray} (h : ¬ s.size ≤ 65535) : txB s = false := by simp [txB, h]
section
variable {P : Program} {ops : Array Oper} {rest : List Oper} {a : Act} {w : World} {Q : Exit → Act → World → Prop} {n d : Nat} {l : FL} {ty : TypeId} {ps : String} {af : Array Edge} {gd : Option (Nat × Bool)} {x : Operand} {src dst u8t : TypeId}
theorem L.convSB (f : Fr n a l) (hw : Region.wanted ⟨some d, .convert src dst x, ty, ps, af, gd⟩ (yielded ops a.tmps) = true) (hn : d < n) (hs : P.underlying src = some .string) (hd : P.underlying dst = some (.slice 5)) (he : P.underlying 5 = some (.int .u8)) {s : ByteArray} (hx : evl l x = some (.string s))
    (hm : s.size ≤ 1000000) (hK : ∀ a' w' c, Fr n a' ((d, .slice (some ⟨w.heap.size, 0, none⟩) s.toList.length c) :: l) → (s.toList.length ≤ c ∧ c ≤ maxLen) → Bs [5] w'.heap.size w' (some ⟨w.heap.size, 0, none⟩) s.toList.length s.toList → Kept [] w w' → wpList P ops Q rest a' w') : wpList P ops Q (⟨some d, .convert src dst x, ty, ps, af, gd⟩ :: rest) a w := by
  have h := run_bytes_of_string (P := P) w src dst 5 s hs hd he
  refine L.val (v := .slice (some ⟨w.heap.size, 0, none⟩) s.size (grownCap w s.size 0 5)) (w' := w.drew.alloc (.cells (bytesRow s (grownCap w s.size 0 5)) 5 ((bytesRow s (grownCap w s.size 0 5)).size, (bytesRow s (grownCap w s.size 0 5)).size + 1))) f hw rfl hn (by simp only [execOp, f.ev hx, Sem.run_bind, h, Result.andThen, Sem.run_pure]) fun a' f' => hK a' _ (grownCap w s.size 0 5) (by rw [toList_len]; exact f') ?_ ?_ ?_
  · rw [toList_len]
    exact ⟨grownCap_ge _ _ _ _, grownCap_le_maxLen _ _ _ _ (by unfold maxLen; omega)⟩
  · rw [ByteArray.toList_eq]
    exact bs_conv [5] _ w s 5 (by simp) _ _
  exact ((Kept.refl [] w).drewN 1).alloc _
end
theorem in_take {α : Type} {l : List α} {k : Nat} {d : α} {p : α → Prop} (h : ∀ x ∈ l.take k, p x) (hd : l[k]? = some d) (hp : p d) : ∀ x ∈ l.take (k + 1), p x := fun x hx => by
  rw [List.take_add_one, hd] at hx
  rcases List.mem_append.1 hx with hx | hx
  · exact h x hx
  simp at hx; subst hx; exact hp
theorem all_take {α : Type} {l : List α} {k : Nat} {p : α → Prop} (h : ∀ x ∈ l.take k, p x) (hk : l.length ≤ k) : ∀ x ∈ l, p x := by rwa [List.take_of_length_le hk] at h
theorem subB_t {m : Int} {l : List (ByteArray × Int)} (h : ∀ x ∈ l, (txB x.1 && inB x.2 0 m) = true) : subB m l = true := List.all_eq_true.2 h
theorem subB_f {m : Int} {l : List (ByteArray × Int)} {d : ByteArray × Int} (hd : d ∈ l) (h : (txB d.1 && inB d.2 0 m) = false) : subB m l = false := List.all_eq_false.2 ⟨d, hd, by simp [h]⟩
theorem codB_t {l : List Int} (h : ∀ x ∈ l, (inB x 0 2 || decide (x = 128)) = true) : codB l = true := List.all_eq_true.2 h
theorem codB_f {l : List Int} {d : Int} (hd : d ∈ l) (h : (inB d 0 2 || decide (d = 128)) = false) : codB l = false := List.all_eq_false.2 ⟨d, hd, by simp [h]⟩
theorem con_eq {r : Int} {l : List Int} (h : 0 ≤ r ↔ codB l = false) : decide (0 ≤ r) = !codB l := by
  by_cases hr : 0 ≤ r
  · rw [h.1 hr]; simp [hr]
  have : codB l = true := by
    cases hc : codB l
    · exact absurd (h.2 hc) hr
    rfl
  rw [this]; simp [hr]
theorem flg_bd (b : Bool) (n : Int) (h : 0 ≤ n) : 0 ≤ flg b n ∧ flg b n ≤ n := by cases b <;> simp [flg] <;> omega
def BarePost (p : Pk) (w : World) (e : Ending) (w' : World) : Prop := Kept [] w w' ∧ ∃ t, e = .returned (.agg ((bareP p).cells t)) ∧ (bareP p).In w' t
set_option maxHeartbeats 1000000 in
theorem same_any (p q : Pk) (s t : Ad) (w : World) (IP : p.In w s) (IQ : q.In w t) (hl : p.subs.length ≤ 1000000) (hl2 : p.codes.length ≤ 1000000) : Calls Tryd.prog 21 #[.agg (p.cells s), .agg (q.cells t)] w (fun e w' => Kept [] w w' ∧ e = .returned (.bool (samePk p q))) := by
 have HK : Kept [] w w := Kept.refl [] w
 refine C.enter Tryd.func21 rfl Tryd.ntmps21 rfl ?_
 intro a0 f0
 have f1 : Fr 78 a0 [(0, .agg (p.cells s)), (1, .agg (q.cells t))] := f0
 refine wp_seq_k fun K0 hK0 => C.region ?_
 refine L.box f1 wantedN (by decide) rfl rfl fun a2 w1 g0 N0 f2 => ?_
 have Bg0 := N0.blk
 have kg0 := N0.kept
 have log0 := N0.lo
 have ltg0 := Bg0.lt
 have szw1 := kg0.size
 have frg0 : w.heap.size ≤ g0 := Nat.le_trans HK.size log0
 replace HK := HK.trans kg0 (by simp)
 clear N0 kg0
 refine L.box f2 wantedN (by decide) rfl rfl fun a3 w2 g1 N1 f3 => ?_
 have Bg1 := N1.blk
 have kg1 := N1.kept
 have log1 := N1.lo
 have ltg1 := Bg1.lt
 have szw2 := kg1.size
 have frg1 : w.heap.size ≤ g1 := Nat.le_trans HK.size log1
 have neg0_g1 : g0 ≠ g1 := by have := Bg0.lt; omega
 replace HK := HK.trans kg1 (by simp)
 replace Bg0 := Bg0.kept kg1 (by simp)
 clear N1 kg1
 refine L.ag f3 fun a4 f4 => ?_
 refine wpList_nil (hK0 _ _ ?_)
 have f5 := f4.sub (sc 2 (sc 3 sn))
 refine wp_seq_k fun K1 hK1 => C.region ?_
 refine L.fa 0 f5 U28 rfl wsz3_wb fun a6 f6 => ?_
 refine L.ld f6 U3 Bg0 fun a7 f7 => ?_
 refine L.fa 0 f7 U28 rfl wsz3_wb fun a8 f8 => ?_
 clear f0 f1 a0 f2 a2 f3 a3 f4 f5 a4 f6 a6 f7 a7
 refine L.ld f8 U3 Bg1 fun a9 f9 => ?_
 refine L.va f9 (E.eq f9) fun a10 f10 => ?_
 refine L.mv f10 fun a11 f11 => ?_
 clear f8 a8 f9 a9 f10 a10
 refine f11.splitD 10 rfl (fun h0 f12 => ?_) (fun h0 f12 => ?_)
 ·refine L.fa 1 f12 U28 rfl wsz4_wb (hw := (f12.yes rfl rfl)) fun a13 f13 => ?_
  refine L.ld f13 U4 Bg0 (hw := (f13.yes rfl rfl)) fun a14 f14 => ?_
  refine L.fa 1 f14 U28 rfl wsz4_wb (hw := (f14.yes rfl rfl)) fun a15 f15 => ?_
  refine L.ld f15 U4 Bg1 (hw := (f15.yes rfl rfl)) fun a16 f16 => ?_
  refine L.va f16 (E.eqlB f16 U4 rfl rfl) (hw := (f16.yes rfl rfl)) fun a17 f17 => ?_
  refine L.va f17 (E.pickT f17 rfl rfl) fun a18 f18 => ?_
  refine L.mv f18 fun a19 f19 => ?_
  clear f11 f12 a11 f13 a13 f14 a14 f15 a15 f16 a16 f17 a17 f18 a18
  refine f19.splitD 17 rfl (fun h1 f20 => ?_) (fun h1 f20 => ?_)
  ·refine L.fa 2 f20 U28 rfl wsz4_wb (hw := (f20.yes rfl rfl)) fun a21 f21 => ?_
   refine L.ld f21 U4 Bg0 (hw := (f21.yes rfl rfl)) fun a22 f22 => ?_
   refine L.fa 2 f22 U28 rfl wsz4_wb (hw := (f22.yes rfl rfl)) fun a23 f23 => ?_
   refine L.ld f23 U4 Bg1 (hw := (f23.yes rfl rfl)) fun a24 f24 => ?_
   refine L.va f24 (E.eqlB f24 U4 rfl rfl) (hw := (f24.yes rfl rfl)) fun a25 f25 => ?_
   refine L.va f25 (E.pickT f25 rfl rfl) fun a26 f26 => ?_
   refine L.mv f26 fun a27 f27 => ?_
   clear f19 f20 a19 f21 a21 f22 a22 f23 a23 f24 a24 f25 a25 f26 a26
   refine f27.splitD 24 rfl (fun h2 f28 => ?_) (fun h2 f28 => ?_)
   ·refine L.fa 3 f28 U28 rfl wsz3_wb (hw := (f28.yes rfl rfl)) fun a29 f29 => ?_
    refine L.ld f29 U3 Bg0 (hw := (f29.yes rfl rfl)) fun a30 f30 => ?_
    refine L.fa 3 f30 U28 rfl wsz3_wb (hw := (f30.yes rfl rfl)) fun a31 f31 => ?_
    refine L.ld f31 U3 Bg1 (hw := (f31.yes rfl rfl)) fun a32 f32 => ?_
    refine L.va f32 (E.eq f32) (hw := (f32.yes rfl rfl)) fun a33 f33 => ?_
    refine L.va f33 (E.pickT f33 rfl rfl) fun a34 f34 => ?_
    refine L.mv f34 fun a35 f35 => ?_
    clear f27 f28 a27 f29 a29 f30 a30 f31 a31 f32 a32 f33 a33 f34 a34
    refine f35.splitD 31 rfl (fun h3 f36 => ?_) (fun h3 f36 => ?_)
    ·refine L.fa 4 f36 U28 rfl wsz3_wb (hw := (f36.yes rfl rfl)) fun a37 f37 => ?_
     refine L.ld f37 U3 Bg0 (hw := (f37.yes rfl rfl)) fun a38 f38 => ?_
     refine L.fa 4 f38 U28 rfl wsz3_wb (hw := (f38.yes rfl rfl)) fun a39 f39 => ?_
     refine L.ld f39 U3 Bg1 (hw := (f39.yes rfl rfl)) fun a40 f40 => ?_
     refine L.va f40 (E.eq f40) (hw := (f40.yes rfl rfl)) fun a41 f41 => ?_
     refine L.va f41 (E.pickT f41 rfl rfl) fun a42 f42 => ?_
     refine L.mv f42 fun a43 f43 => ?_
     clear f35 f36 a35 f37 a37 f38 a38 f39 a39 f40 a40 f41 a41 f42 a42
     refine f43.splitD 38 rfl (fun h4 f44 => ?_) (fun h4 f44 => ?_)
     ·refine L.fa 5 f44 U28 rfl wsz9_wb (hw := (f44.yes rfl rfl)) fun a45 f45 => ?_
      refine L.ld f45 U9 Bg0 (hw := (f45.yes rfl rfl)) fun a46 f46 => ?_
      refine L.fa 5 f46 U28 rfl wsz9_wb (hw := (f46.yes rfl rfl)) fun a47 f47 => ?_
      refine L.ld f47 U9 Bg1 (hw := (f47.yes rfl rfl)) fun a48 f48 => ?_
      refine L.va f48 (E.eqlS f48 rfl rfl) (hw := (f48.yes rfl rfl)) fun a49 f49 => ?_
      refine L.va f49 (E.pickT f49 rfl rfl) fun a50 f50 => ?_
      refine L.mv f50 fun a51 f51 => ?_
      clear f43 f44 a43 f45 a45 f46 a46 f47 a47 f48 a48 f49 a49 f50 a50
      refine f51.splitD 45 rfl (fun h5 f52 => ?_) (fun h5 f52 => ?_)
      ·refine L.fa 6 f52 U28 rfl wsz22_wb (hw := (f52.yes rfl rfl)) fun a53 f53 => ?_
       refine L.ld f53 U22 Bg0 (hw := (f53.yes rfl rfl)) fun a54 f54 => ?_
       refine L.fa 6 f54 U28 rfl wsz22_wb (hw := (f54.yes rfl rfl)) fun a55 f55 => ?_
       refine L.ld f55 U22 Bg1 (hw := (f55.yes rfl rfl)) fun a56 f56 => ?_
       refine L.cl f56 (run_call Tryd.call51 (args2 f56 rfl rfl)) (beq_any _ _ _ _ _ _ _ (IP.pay.kept HK) (IQ.pay.kept HK)) ?_ (hw := (f56.yes rfl rfl))
       clear f51 f52 a51 f53 a53 f54 a54 f55 a55
       rintro e w2x ⟨rfl, rfl⟩
       refine ⟨_, rfl, fun a57 f57 => ?_⟩
       refine L.va f57 (E.pickT f57 rfl rfl) fun a58 f58 => ?_
       refine L.mv f58 fun a59 f59 => ?_
       clear f56 a56 f57 a57 f58 a58
       refine f59.splitD 52 rfl (fun h6 f60 => ?_) (fun h6 f60 => ?_)
       ·refine L.va f60 (by exact E.loadB f60 U28 rfl wsz28_wb rfl (Bg0) rfl) (hw := (f60.yes rfl rfl)) fun a61 f61 => ?_
        refine L.va f61 (by exact E.loadB f61 U28 rfl wsz28_wb rfl (Bg1) rfl) (hw := (f61.yes rfl rfl)) fun a62 f62 => ?_
        refine L.cl f62 (run_call Tryd.call52 (args2 f62 rfl rfl)) (greets_any p q s t _ (IP.kept HK) (IQ.kept HK)) ?_ (hw := (f62.yes rfl rfl))
        clear f59 f60 a59 f61 a61
        rintro e w3 ⟨kc3, rfl⟩
        refine ⟨_, rfl, fun a63 f63 => ?_⟩
        have szw3 := kc3.size
        replace HK := HK.trans kc3 (by simp)
        replace Bg0 := Bg0.kept kc3 (by simp)
        replace Bg1 := Bg1.kept kc3 (by simp)
        clear kc3
        refine L.va f63 (E.pickT f63 rfl rfl) fun a64 f64 => ?_
        refine L.mv f64 fun a65 f65 => ?_
        clear f62 a62 f63 a63 f64 a64
        refine f65.split 57 rfl (fun h7 f66 => ?_) (fun h7 f66 => ?_)
        ·refine L.fa 12 f66 U28 rfl wsz24_wb (hw := (f66.yes rfl rfl)) fun a67 f67 => ?_
         refine L.va f67 (by exact E.loadR f67 U24 rfl wsz24_wb rfl (will_row Bg0) rfl) (hw := (f67.yes rfl rfl)) fun a68 f68 => ?_
         refine L.fa 12 f68 U28 rfl wsz24_wb (hw := (f68.yes rfl rfl)) fun a69 f69 => ?_
         refine L.va f69 (by exact E.loadR f69 U24 rfl wsz24_wb rfl (will_row Bg1) rfl) (hw := (f69.yes rfl rfl)) fun a70 f70 => ?_
         refine L.cl f70 (run_call Tryd.call53 (args2 f70 rfl rfl)) (wills_any p q s t _ (IP.kept HK) (IQ.kept HK)) ?_ (hw := (f70.yes rfl rfl))
         clear f65 f66 a65 f67 a67 f68 a68 f69 a69
         rintro e w4 ⟨kc4, rfl⟩
         refine ⟨_, rfl, fun a71 f71 => ?_⟩
         have szw4 := kc4.size
         replace HK := HK.trans kc4 (by simp)
         replace Bg0 := Bg0.kept kc4 (by simp)
         replace Bg1 := Bg1.kept kc4 (by simp)
         clear kc4
         refine L.va f71 (E.pickT f71 rfl rfl) fun a72 f72 => ?_
         refine L.mv f72 fun a73 f73 => ?_
         clear f70 a70 f71 a71 f72 a72
         refine f73.split 64 rfl (fun h8 f74 => ?_) (fun h8 f74 => ?_)
         ·refine L.fa 22 f74 U28 rfl wsz25_wb (hw := (f74.yes rfl rfl)) fun a75 f75 => ?_
          refine L.ld f75 U25 Bg0 (hw := (f75.yes rfl rfl)) fun a76 f76 => ?_
          refine L.fa 22 f76 U28 rfl wsz25_wb (hw := (f76.yes rfl rfl)) fun a77 f77 => ?_
          refine L.ld f77 U25 Bg1 (hw := (f77.yes rfl rfl)) fun a78 f78 => ?_
          refine L.cl f78 (run_call Tryd.call54 (args2 f78 rfl rfl)) (eqSub_any _ _ _ _ _ _ _ (IP.subs.kept HK) (IQ.subs.kept HK) (by omega)) ?_ (hw := (f78.yes rfl rfl))
          clear f73 f74 a73 f75 a75 f76 a76 f77 a77
          rintro e w5 ⟨kc5, rfl⟩
          refine ⟨_, rfl, fun a79 f79 => ?_⟩
          have szw5 := kc5.size
          replace HK := HK.trans kc5 (by simp)
          replace Bg0 := Bg0.kept kc5 (by simp)
          replace Bg1 := Bg1.kept kc5 (by simp)
          clear kc5
          refine L.va f79 (E.pickT f79 rfl rfl) fun a80 f80 => ?_
          refine L.mv f80 fun a81 f81 => ?_
          clear f78 a78 f79 a79 f80 a80
          refine f81.splitD 71 rfl (fun h9 f82 => ?_) (fun h9 f82 => ?_)
          ·refine L.fa 23 f82 U28 rfl wsz26_wb (hw := (f82.yes rfl rfl)) fun a83 f83 => ?_
           refine L.ld f83 U26 Bg0 (hw := (f83.yes rfl rfl)) fun a84 f84 => ?_
           refine L.fa 23 f84 U28 rfl wsz26_wb (hw := (f84.yes rfl rfl)) fun a85 f85 => ?_
           refine L.ld f85 U26 Bg1 (hw := (f85.yes rfl rfl)) fun a86 f86 => ?_
           refine L.cl f86 (run_call Tryd.call55 (args2 f86 rfl rfl)) (eqInt_any _ _ _ _ _ _ _ (IP.codes.kept HK) (IQ.codes.kept HK) (by omega)) ?_ (hw := (f86.yes rfl rfl))
           clear f81 f82 a81 f83 a83 f84 a84 f85 a85
           rintro e w6 ⟨kc6, rfl⟩
           refine ⟨_, rfl, fun a87 f87 => ?_⟩
           have szw6 := kc6.size
           replace HK := HK.trans kc6 (by simp)
           replace Bg0 := Bg0.kept kc6 (by simp)
           replace Bg1 := Bg1.kept kc6 (by simp)
           clear kc6
           refine L.va f87 (E.pickT f87 rfl rfl) fun a88 f88 => ?_
           refine L.ag f88 fun a89 f89 => ?_
           refine wpList_nil (hK1 _ _ ?_)
           have f90 := f89.sub (sc 4 sn)
           refine wp_ret ?_
           try simp only [Exit.inBlock, Exit.then]
           refine C.ret (P := Tryd.prog) (fn := Tryd.f21) f90 rfl rfl ?_
           exact ⟨HK, by rw [same_eq]; simp [*]⟩
          refine L.run f82 (rest' := []) (by kernel_rfl) fun a83 f83 => ?_
          clear f81
          skip
          refine wpList_nil (hK1 _ _ ?_)
          have f84 := f83.sub (sub_cons (i := 4) (v := .bool false) (by kernel_rfl) sn)
          refine wp_ret ?_
          try simp only [Exit.inBlock, Exit.then]
          refine C.ret (P := Tryd.prog) (fn := Tryd.f21) f84 rfl rfl ?_
          exact ⟨HK, by rw [same_eq]; simp [*]⟩
         refine L.run f74 (rest' := []) (by kernel_rfl) fun a75 f75 => ?_
         clear f73
         skip
         refine wpList_nil (hK1 _ _ ?_)
         have f76 := f75.sub (sub_cons (i := 4) (v := .bool false) (by kernel_rfl) sn)
         refine wp_ret ?_
         try simp only [Exit.inBlock, Exit.then]
         refine C.ret (P := Tryd.prog) (fn := Tryd.f21) f76 rfl rfl ?_
         exact ⟨HK, by rw [same_eq]; simp [*]⟩
        refine L.run f66 (rest' := []) (by kernel_rfl) fun a67 f67 => ?_
        clear f65
        skip
        refine wpList_nil (hK1 _ _ ?_)
        have f68 := f67.sub (sub_cons (i := 4) (v := .bool false) (by kernel_rfl) sn)
        refine wp_ret ?_
        try simp only [Exit.inBlock, Exit.then]
        refine C.ret (P := Tryd.prog) (fn := Tryd.f21) f68 rfl rfl ?_
        exact ⟨HK, by rw [same_eq]; simp [*]⟩
       refine L.run f60 (rest' := []) (by kernel_rfl) fun a61 f61 => ?_
       clear f59
       skip
       refine wpList_nil (hK1 _ _ ?_)
       have f62 := f61.sub (sub_cons (i := 4) (v := .bool false) (by kernel_rfl) sn)
       refine wp_ret ?_
       try simp only [Exit.inBlock, Exit.then]
       refine C.ret (P := Tryd.prog) (fn := Tryd.f21) f62 rfl rfl ?_
       exact ⟨HK, by rw [same_eq]; simp [*]⟩
      refine L.run f52 (rest' := []) (by kernel_rfl) fun a53 f53 => ?_
      clear f51
      skip
      refine wpList_nil (hK1 _ _ ?_)
      have f54 := f53.sub (sub_cons (i := 4) (v := .bool false) (by kernel_rfl) sn)
      refine wp_ret ?_
      try simp only [Exit.inBlock, Exit.then]
      refine C.ret (P := Tryd.prog) (fn := Tryd.f21) f54 rfl rfl ?_
      exact ⟨HK, by rw [same_eq]; simp [*]⟩
     refine L.run f44 (rest' := []) (by kernel_rfl) fun a45 f45 => ?_
     clear f43
     skip
     refine wpList_nil (hK1 _ _ ?_)
     have f46 := f45.sub (sub_cons (i := 4) (v := .bool false) (by kernel_rfl) sn)
     refine wp_ret ?_
     try simp only [Exit.inBlock, Exit.then]
     refine C.ret (P := Tryd.prog) (fn := Tryd.f21) f46 rfl rfl ?_
     exact ⟨HK, by rw [same_eq]; simp [*]⟩
    refine L.run f36 (rest' := []) (by kernel_rfl) fun a37 f37 => ?_
    clear f35
    skip
    refine wpList_nil (hK1 _ _ ?_)
    have f38 := f37.sub (sub_cons (i := 4) (v := .bool false) (by kernel_rfl) sn)
    refine wp_ret ?_
    try simp only [Exit.inBlock, Exit.then]
    refine C.ret (P := Tryd.prog) (fn := Tryd.f21) f38 rfl rfl ?_
    exact ⟨HK, by rw [same_eq]; simp [*]⟩
   refine L.run f28 (rest' := []) (by kernel_rfl) fun a29 f29 => ?_
   clear f27
   skip
   refine wpList_nil (hK1 _ _ ?_)
   have f30 := f29.sub (sub_cons (i := 4) (v := .bool false) (by kernel_rfl) sn)
   refine wp_ret ?_
   try simp only [Exit.inBlock, Exit.then]
   refine C.ret (P := Tryd.prog) (fn := Tryd.f21) f30 rfl rfl ?_
   exact ⟨HK, by rw [same_eq]; simp [*]⟩
  refine L.run f20 (rest' := []) (by kernel_rfl) fun a21 f21 => ?_
  clear f19
  skip
  refine wpList_nil (hK1 _ _ ?_)
  have f22 := f21.sub (sub_cons (i := 4) (v := .bool false) (by kernel_rfl) sn)
  refine wp_ret ?_
  try simp only [Exit.inBlock, Exit.then]
  refine C.ret (P := Tryd.prog) (fn := Tryd.f21) f22 rfl rfl ?_
  exact ⟨HK, by rw [same_eq]; simp [*]⟩
 refine L.run f12 (rest' := []) (by kernel_rfl) fun a13 f13 => ?_
 clear f11
 skip
 refine wpList_nil (hK1 _ _ ?_)
 have f14 := f13.sub (sub_cons (i := 4) (v := .bool false) (by kernel_rfl) sn)
 refine wp_ret ?_
 try simp only [Exit.inBlock, Exit.then]
 refine C.ret (P := Tryd.prog) (fn := Tryd.f21) f14 rfl rfl ?_
 exact ⟨HK, by rw [same_eq]; simp [*]⟩
set_option maxRecDepth 100000 in
set_option maxHeartbeats 2000000 in
theorem sameR_any (p q : Pk) (s t : Ad) (w : World) (IP : p.In w s) (IQ : q.In w t) (hl : p.subs.length ≤ 1000000) (hl2 : p.codes.length ≤ 1000000) : Calls Tryd.prog 22 #[.agg (p.cells s), .agg (q.cells t)] w (fun e w' => Kept [] w w' ∧ e = .returned (.bool (samePk p q))) := by
 have HK : Kept [] w w := Kept.refl [] w
 refine C.enter Tryd.func22 rfl Tryd.ntmps22 rfl ?_
 intro a0 f0
 have f1 : Fr 195 a0 [(0, .agg (p.cells s)), (1, .agg (q.cells t))] := f0
 refine wp_seq_k fun K0 hK0 => C.region ?_
 refine L.box f1 wantedN (by decide) rfl rfl fun a2 w1 g0 N0 f2 => ?_
 have Bg0 := N0.blk
 have kg0 := N0.kept
 have log0 := N0.lo
 have ltg0 := Bg0.lt
 have szw1 := kg0.size
 have frg0 : w.heap.size ≤ g0 := Nat.le_trans HK.size log0
 replace HK := HK.trans kg0 (by simp)
 clear N0 kg0
 refine L.box f2 wantedN (by decide) rfl rfl fun a3 w2 g1 N1 f3 => ?_
 have Bg1 := N1.blk
 have kg1 := N1.kept
 have log1 := N1.lo
 have ltg1 := Bg1.lt
 have szw2 := kg1.size
 have frg1 : w.heap.size ≤ g1 := Nat.le_trans HK.size log1
 have neg0_g1 : g0 ≠ g1 := by have := Bg0.lt; omega
 replace HK := HK.trans kg1 (by simp)
 replace Bg0 := Bg0.kept kg1 (by simp)
 clear N1 kg1
 refine L.ag f3 fun a4 f4 => ?_
 refine wpList_nil (hK0 _ _ ?_)
 have f5 := f4.sub (sc 2 (sc 3 sn))
 obtain ⟨J3, hJ3⟩ : ∃ J : Act → World → Prop, J = fun a W => Kept [] w W ∧ Blk W g0 28 (p.cells s) ∧ Blk W g1 28 (q.cells t) ∧ (p.subs.length = q.subs.length ∧ p.codes.length = q.codes.length ∧ p.pay = q.pay ∧ p.pass = q.pass ∧ willB p q = true) ∧ Fr 195 a [(2, .pointer (some ⟨g0, 0, none⟩)), (3, .pointer (some ⟨g1, 0, none⟩))] := ⟨_, rfl⟩
 clear f0 f1 a0 f2 a2 f3 a3 f4
 refine C.cut J3 ?_ ?_
 ·skip
  refine wp_seq_k fun K1 hK1 => C.region ?_
  refine L.fa 22 f5 U28 rfl wsz25_wb fun a6 f6 => ?_
  refine L.ld f6 U25 Bg0 fun a7 f7 => ?_
  refine L.va f7 (E.lenL f7 U25 rfl) fun a8 f8 => ?_
  refine L.fa 22 f8 U28 rfl wsz25_wb fun a9 f9 => ?_
  refine L.ld f9 U25 Bg1 fun a10 f10 => ?_
  refine L.va f10 (E.lenL f10 U25 rfl) fun a11 f11 => ?_
  refine L.va f11 (E.neq f11 rfl rfl) fun a12 f12 => ?_
  clear f5 a4 f6 a6 f7 a7 f8 a8 f9 a9 f10 a10 f11 a11
  refine L.mv f12 fun a13 f13 => ?_
  clear f12 a12
  refine f13.splitN 14 rfl (fun h0 f14 => ?_) (fun h0 f14 => ?_)
  ·refine L.run f14 (rest' := []) (by kernel_rfl) fun a15 f15 => ?_
   clear f13
   skip
   refine wpList_nil (hK1 _ _ ?_)
   have f16 := f15.sub (sub_cons (i := 2) (Fr.kept f15 (by kernel_rfl) rfl) (sub_cons (i := 3) (Fr.kept f15 (by kernel_rfl) rfl) (sub_cons (i := 48) (v := .bool true) (by kernel_rfl) sn)))
   refine C.condT f16 rfl ?_
   refine wp_seq_k fun K2 hK2 => C.region ?_
   refine L.ag f16 fun a17 f17 => ?_
   refine wpList_nil (hK2 _ _ ?_)
   have f18 := f17.sub (sc 4 sn)
   refine wp_ret ?_
   try simp only [Exit.inBlock, Exit.then]
   refine C.ret (P := Tryd.prog) (fn := Tryd.f22) f18 rfl rfl ?_
   refine ⟨HK, ?_⟩
   rw [samePk_f (p := p) (q := q) (fun e => by subst e; (apply absurd rfl; assumption))]
  refine L.fa 23 f14 U28 rfl wsz26_wb (hw := (f14.yes rfl rfl)) fun a15 f15 => ?_
  refine L.ld f15 U26 Bg0 (hw := (f15.yes rfl rfl)) fun a16 f16 => ?_
  refine L.va f16 (E.lenL f16 U26 rfl) (hw := (f16.yes rfl rfl)) fun a17 f17 => ?_
  refine L.fa 23 f17 U28 rfl wsz26_wb (hw := (f17.yes rfl rfl)) fun a18 f18 => ?_
  refine L.ld f18 U26 Bg1 (hw := (f18.yes rfl rfl)) fun a19 f19 => ?_
  refine L.va f19 (E.lenL f19 U26 rfl) (hw := (f19.yes rfl rfl)) fun a20 f20 => ?_
  refine L.va f20 (E.neq f20 rfl rfl) (hw := (f20.yes rfl rfl)) fun a21 f21 => ?_
  clear f13 f14 a13 f15 a15 f16 a16 f17 a17 f18 a18 f19 a19 f20 a20
  refine L.va f21 (E.pickF f21 rfl rfl) fun a22 f22 => ?_
  refine L.mv f22 fun a23 f23 => ?_
  clear f21 a21 f22 a22
  refine f23.splitN 23 rfl (fun h1 f24 => ?_) (fun h1 f24 => ?_)
  ·refine L.run f24 (rest' := []) (by kernel_rfl) fun a25 f25 => ?_
   clear f23
   skip
   refine wpList_nil (hK1 _ _ ?_)
   have f26 := f25.sub (sub_cons (i := 2) (Fr.kept f25 (by kernel_rfl) rfl) (sub_cons (i := 3) (Fr.kept f25 (by kernel_rfl) rfl) (sub_cons (i := 48) (v := .bool true) (by kernel_rfl) sn)))
   refine C.condT f26 rfl ?_
   refine wp_seq_k fun K3 hK3 => C.region ?_
   refine L.ag f26 fun a27 f27 => ?_
   refine wpList_nil (hK3 _ _ ?_)
   have f28 := f27.sub (sc 4 sn)
   refine wp_ret ?_
   try simp only [Exit.inBlock, Exit.then]
   refine C.ret (P := Tryd.prog) (fn := Tryd.f22) f28 rfl rfl ?_
   refine ⟨HK, ?_⟩
   rw [samePk_f (p := p) (q := q) (fun e => by subst e; (apply absurd rfl; assumption))]
  refine L.fa 6 f24 U28 rfl wsz22_wb (hw := (f24.yes rfl rfl)) fun a25 f25 => ?_
  refine L.ld f25 U22 Bg0 (hw := (f25.yes rfl rfl)) fun a26 f26 => ?_
  refine L.va f26 (E.toStr f26 rfl U22 U5 U9 (IP.pay.kept HK)) (hw := (f26.yes rfl rfl)) fun a27 f27 => ?_
  refine L.fa 6 f27 U28 rfl wsz22_wb (hw := (f27.yes rfl rfl)) fun a28 f28 => ?_
  refine L.ld f28 U22 Bg1 (hw := (f28.yes rfl rfl)) fun a29 f29 => ?_
  refine L.va f29 (E.toStr f29 rfl U22 U5 U9 (IQ.pay.kept HK)) (hw := (f29.yes rfl rfl)) fun a30 f30 => ?_
  refine L.va f30 (E.neqS f30 rfl rfl) (hw := (f30.yes rfl rfl)) fun a31 f31 => ?_
  clear f23 f24 a23 f25 a25 f26 a26 f27 a27 f28 a28 f29 a29 f30 a30
  refine L.va f31 (E.pickF f31 rfl rfl) fun a32 f32 => ?_
  refine L.mv f32 fun a33 f33 => ?_
  clear f31 a31 f32 a32
  refine f33.splitN 32 rfl (fun h2 f34 => ?_) (fun h2 f34 => ?_)
  ·refine L.run f34 (rest' := []) (by kernel_rfl) fun a35 f35 => ?_
   clear f33
   skip
   refine wpList_nil (hK1 _ _ ?_)
   have f36 := f35.sub (sub_cons (i := 2) (Fr.kept f35 (by kernel_rfl) rfl) (sub_cons (i := 3) (Fr.kept f35 (by kernel_rfl) rfl) (sub_cons (i := 48) (v := .bool true) (by kernel_rfl) sn)))
   refine C.condT f36 rfl ?_
   refine wp_seq_k fun K4 hK4 => C.region ?_
   refine L.ag f36 fun a37 f37 => ?_
   refine wpList_nil (hK4 _ _ ?_)
   have f38 := f37.sub (sc 4 sn)
   refine wp_ret ?_
   try simp only [Exit.inBlock, Exit.then]
   refine C.ret (P := Tryd.prog) (fn := Tryd.f22) f38 rfl rfl ?_
   refine ⟨HK, ?_⟩
   rw [samePk_f (p := p) (q := q) (fun e => by subst e; (apply absurd rfl; assumption))]
  have hpay := bytes_eq.1 h2
  refine L.fa 19 f34 U28 rfl wsz22_wb (hw := (f34.yes rfl rfl)) fun a35 f35 => ?_
  refine L.ld f35 U22 Bg0 (hw := (f35.yes rfl rfl)) fun a36 f36 => ?_
  refine L.va f36 (E.toStr f36 rfl U22 U5 U9 (IP.pass.kept HK)) (hw := (f36.yes rfl rfl)) fun a37 f37 => ?_
  refine L.fa 19 f37 U28 rfl wsz22_wb (hw := (f37.yes rfl rfl)) fun a38 f38 => ?_
  refine L.ld f38 U22 Bg1 (hw := (f38.yes rfl rfl)) fun a39 f39 => ?_
  refine L.va f39 (E.toStr f39 rfl U22 U5 U9 (IQ.pass.kept HK)) (hw := (f39.yes rfl rfl)) fun a40 f40 => ?_
  refine L.va f40 (E.neqS f40 rfl rfl) (hw := (f40.yes rfl rfl)) fun a41 f41 => ?_
  clear f33 f34 a33 f35 a35 f36 a36 f37 a37 f38 a38 f39 a39 f40 a40
  refine L.va f41 (E.pickF f41 rfl rfl) fun a42 f42 => ?_
  refine L.mv f42 fun a43 f43 => ?_
  clear f41 a41 f42 a42
  refine f43.splitN 41 rfl (fun h3 f44 => ?_) (fun h3 f44 => ?_)
  ·refine L.run f44 (rest' := []) (by kernel_rfl) fun a45 f45 => ?_
   clear f43
   skip
   refine wpList_nil (hK1 _ _ ?_)
   have f46 := f45.sub (sub_cons (i := 2) (Fr.kept f45 (by kernel_rfl) rfl) (sub_cons (i := 3) (Fr.kept f45 (by kernel_rfl) rfl) (sub_cons (i := 48) (v := .bool true) (by kernel_rfl) sn)))
   refine C.condT f46 rfl ?_
   refine wp_seq_k fun K5 hK5 => C.region ?_
   refine L.ag f46 fun a47 f47 => ?_
   refine wpList_nil (hK5 _ _ ?_)
   have f48 := f47.sub (sc 4 sn)
   refine wp_ret ?_
   try simp only [Exit.inBlock, Exit.then]
   refine C.ret (P := Tryd.prog) (fn := Tryd.f22) f48 rfl rfl ?_
   refine ⟨HK, ?_⟩
   rw [samePk_f (p := p) (q := q) (fun e => by subst e; (apply absurd rfl; assumption))]
  have hpass := bytes_eq.1 h3
  refine L.fa 12 f44 U28 rfl wsz24_wb (hw := (f44.yes rfl rfl)) fun a45 f45 => ?_
  refine L.va f45 (by exact E.loadR f45 U24 rfl wsz24_wb rfl (will_row Bg0) rfl) (hw := (f45.yes rfl rfl)) fun a46 f46 => ?_
  refine L.fa 12 f46 U28 rfl wsz24_wb (hw := (f46.yes rfl rfl)) fun a47 f47 => ?_
  refine L.va f47 (by exact E.loadR f47 U24 rfl wsz24_wb rfl (will_row Bg1) rfl) (hw := (f47.yes rfl rfl)) fun a48 f48 => ?_
  refine L.cl f48 (run_call Tryd.call56 (args2 f48 rfl rfl)) (willsR_any p q s t _ (IP.kept HK) (IQ.kept HK)) ?_ (hw := (f48.yes rfl rfl))
  clear f43 f44 a43 f45 a45 f46 a46 f47 a47
  rintro e w3 ⟨kc3, rfl⟩
  refine ⟨_, rfl, fun a49 f49 => ?_⟩
  have szw3 := kc3.size
  replace HK := HK.trans kc3 (by simp)
  replace Bg0 := Bg0.kept kc3 (by simp)
  replace Bg1 := Bg1.kept kc3 (by simp)
  clear kc3
  refine L.va f49 (E.not f49 rfl) (hw := (f49.yes rfl rfl)) fun a50 f50 => ?_
  refine L.va f50 (E.pickF f50 rfl rfl) fun a51 f51 => ?_
  refine wpList_nil (hK1 _ _ ?_)
  have f52 := f51.sub (sc 2 (sc 3 (sc 48 sn)))
  clear f48 a48 f49 a49 f50 a50 f51
  refine f52.splitNB 48 rfl (fun h4 f53 => ?_) (fun h4 f53 => ?_)
  ·refine C.condT f53 rfl ?_
   refine wp_seq_k fun K6 hK6 => C.region ?_
   refine L.ag f53 fun a54 f54 => ?_
   refine wpList_nil (hK6 _ _ ?_)
   have f55 := f54.sub (sc 4 sn)
   refine wp_ret ?_
   try simp only [Exit.inBlock, Exit.then]
   refine C.ret (P := Tryd.prog) (fn := Tryd.f22) f55 rfl rfl ?_
   refine ⟨HK, ?_⟩
   rw [samePk_f (p := p) (q := q) (fun e => by subst e; (rw [willB_refl] at *; contradiction))]
  refine C.condF f53 rfl ?_
  exact wp_skip (then_of (J := J3) (Q := fun _ _ _ => True) (by rw [hJ3]; exact ⟨HK, Bg0, Bg1, ⟨by omega, by omega, hpay, hpass, by assumption⟩, f53.sub (sub_cons rfl (sub_cons rfl sn))⟩))
 intro a6 w3 hj
 rw [hJ3] at hj
 clear hJ3 J3
 obtain ⟨HK, Bg0, Bg1, ⟨hls, hlc, hpay, hpass, hwl⟩, f6⟩ := hj
 try clear f5
 obtain ⟨J8, hJ8⟩ : ∃ J : Act → World → Prop, J = fun a W => Kept [] w W ∧ Blk W g0 28 (p.cells s) ∧ Blk W g1 28 (q.cells t) ∧ p.subs = q.subs ∧ Fr 195 a [(2, .pointer (some ⟨g0, 0, none⟩)), (3, .pointer (some ⟨g1, 0, none⟩))] := ⟨_, rfl⟩
 refine C.cut J8 ?_ ?_
 ·skip
  refine wp_seq_k fun K7 hK7 => C.region ?_
  refine L.ag f6 fun a7 f7 => ?_
  refine wpList_nil (hK7 _ _ ?_)
  have f8 := f7.sub (sc 2 (sc 3 (sc 5 sn)))
  refine wp_block ?_
  clear f6 a6 f7
  refine C.loop (fun gk a W => ∃ k : Nat, k + gk = p.subs.length ∧ Kept [] w W ∧ Blk W g0 28 (p.cells s) ∧ Blk W g1 28 (q.cells t) ∧ p.subs.take k = q.subs.take k ∧ Fr 195 a [(2, .pointer (some ⟨g0, 0, none⟩)), (3, .pointer (some ⟨g1, 0, none⟩)), (5, .int .i64 k)]) (p.subs.length) ?_ ?_
  ·exact ⟨0, by omega, HK, Bg0, Bg1, rfl, f8.sub (sub_cons rfl (sub_cons rfl (sub_cons rfl sn)))⟩
  intro gk9 a9 w4 hI KL8 hKL8
  obtain ⟨k, hk, HK, Bg0, Bg1, hq0, f9⟩ := hI
  try clear f8
  refine wp_seq_k fun K9 hK9 => ?_
  refine wp_seq_k fun K10 hK10 => C.region ?_
  refine L.mv f9 fun a10 f10 => ?_
  refine L.fa 22 f10 U28 rfl wsz25_wb fun a11 f11 => ?_
  refine L.ld f11 U25 Bg0 fun a12 f12 => ?_
  refine L.va f12 (E.lenL f12 U25 rfl) fun a13 f13 => ?_
  refine L.va f13 (E.lss f13 rfl rfl) fun a14 f14 => ?_
  refine wpList_nil (hK10 _ _ ?_)
  have f15 := f14.sub (sc 2 (sc 3 (sc 5 (sc 53 sn))))
  clear f9 a9 f10 a10 f11 a11 f12 a12 f13 a13 f14
  refine f15.splitD 53 rfl (fun h5 f16 => ?_) (fun h5 f16 => ?_)
  ·obtain ⟨d, hd⟩ := some_at p.subs k (by omega)
   obtain ⟨bk, off, hA⟩ := IP.subs.addr (by omega)
   obtain ⟨d', hd'⟩ := some_at q.subs k (by omega)
   obtain ⟨bk', off', hA'⟩ := IQ.subs.addr (by omega)
   refine C.condT f16 rfl ?_
   refine wp_skip (hK9 _ _ ?_)
   have f17 := f16.sub (sc 2 (sc 3 (sc 5 sn)))
   refine wp_seq_k fun K11 hK11 => ?_
   refine wp_block ?_
   refine wp_seq_k fun K12 hK12 => ?_
   refine R.beginT (S := fun W => Kept [] w4 W) (by kernel_rfl) (by kernel_rfl) (by exact (Kept.refl _ _).drewN 1) fun ht => ?_
   have hS6 : Kept [] w4 (w4.drewN 1) := (Kept.refl _ _).drewN 1
   have hd6 : Kept [] w4 (w4.drewN 1) := (Kept.refl _ _).drewN 1
   obtain ⟨w5, hww5⟩ : ∃ W, W = w4.drewN 1 := ⟨_, rfl⟩
   rw [← hww5] at hS6 hd6 ⊢
   clear hww5
   have szw5 := hS6.size
   refine R.u 0 f17 rfl ht hS6 (fun W hW => (E.fa 22 f17 U28 rfl wsz25_wb)) fun a18 f18 => ?_
   refine R.u 1 f18 rfl ht hS6 (fun W hW => (by exact E.ld f18 U25 (Bg0.kept hW (by simp)))) fun a19 f19 => ?_
   refine R.u 2 f19 rfl ht hS6 (fun W hW => (E.move f19 rfl)) fun a20 f20 => ?_
   refine R.u 3 f20 rfl ht hS6 (fun W hW => (E.indexA f20 (by assumption) U25 wsz70_wb rfl rfl (by omega) (by omega))) fun a21 f21 => ?_
   refine R.u 4 f21 rfl ht hS6 (fun W hW => (by exact E.loadR f21 U70 rfl wsz70_wb rfl (sub_row (IP.subs.kept (HK.trans hW (by simp))) hA hd) rfl)) fun a22 f22 => ?_
   refine R.u 5 f22 rfl ht hS6 (fun W hW => (E.fa 22 f22 U28 rfl wsz25_wb)) fun a23 f23 => ?_
   clear f15 f16 f17 a14 f18 a18 f19 a19 f20 a20 f21 a21 f22 a22
   refine R.u 6 f23 rfl ht hS6 (fun W hW => (by exact E.ld f23 U25 (Bg1.kept hW (by simp)))) fun a24 f24 => ?_
   refine R.u 7 f24 rfl ht hS6 (fun W hW => (E.move f24 rfl)) fun a25 f25 => ?_
   refine R.u 8 f25 rfl ht hS6 (fun W hW => (E.indexA f25 (by assumption) U25 wsz70_wb rfl rfl (by omega) (by omega))) fun a26 f26 => ?_
   refine R.u 9 f26 rfl ht hS6 (fun W hW => (by exact E.loadR f26 U70 rfl wsz70_wb rfl (sub_row (IQ.subs.kept (HK.trans hW (by simp))) hA' hd') rfl)) fun a27 f27 => ?_
   refine R.u 10 f27 rfl ht hS6 (fun W hW => (E.neqV f27 rfl rfl (neqSub _ _ _ _ _ _))) fun a28 f28 => ?_
   have szw5r := hS6.size
   replace HK := HK.trans hS6 (by simp)
   replace Bg0 := Bg0.kept hS6 (by simp)
   replace Bg1 := Bg1.kept hS6 (by simp)
   clear hS6
   refine R.done (by kernel_rfl) (hK12 _ _ ?_)
   have f29 := f28.sub (sc 2 (sc 3 (sc 5 (sc 66 sn))))
   clear f23 a23 f24 a24 f25 a25 f26 a26 f27 a27 f28
   refine f29.splitN 66 rfl (fun h6 f30 => ?_) (fun h6 f30 => ?_)
   ·refine C.condT f30 rfl ?_
    refine wp_seq_k fun K13 hK13 => C.region ?_
    refine L.ag f30 fun a31 f31 => ?_
    refine wpList_nil (hK13 _ _ ?_)
    have f32 := f31.sub (sc 4 sn)
    refine wp_ret ?_
    try simp only [Exit.inBlock, Exit.then]
    refine C.ret (P := Tryd.prog) (fn := Tryd.f22) f32 rfl rfl ?_
    refine ⟨HK, ?_⟩
    rw [samePk_f (p := p) (q := q) (fun e => by subst e; (rw [hd] at hd'; cases hd'; apply absurd rfl; assumption))]
   have heq0 := h6
   refine C.condF f30 rfl ?_
   refine wp_skip (hK11 _ _ ?_)
   have f31 := f30.sub (sc 2 (sc 3 (sc 5 sn)))
   refine C.region ?_
   refine L.mv f31 fun a32 f32 => ?_
   refine L.va f32 (E.add f32 rfl rfl (IntWalk.i64_in _ (by omega))) fun a33 f33 => ?_
   refine L.ag f33 fun a34 f34 => ?_
   clear f29 f30 f31 a28 f32 a32 f33 a33
   refine wpList_nil (hKL8 _ _ (gk9 - 1) ?_ ?_)
   ·omega
   exact ⟨k + 1, by omega, HK, Bg0, Bg1, eq_take hq0 hd hd' heq0, f34.sub (sub_cons rfl (sub_cons rfl (sub_cons rfl sn)))⟩
  have hsubs : p.subs = q.subs := by rw [List.take_of_length_le (by omega), List.take_of_length_le (by omega)] at hq0; exact hq0
  refine C.condF f16 rfl ?_
  exact wp_exit (then_of (J := J8) (Q := fun _ _ _ => True) (by rw [hJ8]; exact ⟨HK, Bg0, Bg1, hsubs, f16.sub (sub_cons rfl (sub_cons rfl sn))⟩))
 intro a7 w4 hj
 rw [hJ8] at hj
 clear hJ8 J8
 obtain ⟨HK, Bg0, Bg1, hsubs, f7⟩ := hj
 try clear f6
 obtain ⟨J13, hJ13⟩ : ∃ J : Act → World → Prop, J = fun a W => Kept [] w W ∧ Blk W g0 28 (p.cells s) ∧ Blk W g1 28 (q.cells t) ∧ p.codes = q.codes ∧ Fr 195 a [(2, .pointer (some ⟨g0, 0, none⟩)), (3, .pointer (some ⟨g1, 0, none⟩))] := ⟨_, rfl⟩
 refine C.cut J13 ?_ ?_
 ·skip
  refine wp_seq_k fun K14 hK14 => C.region ?_
  refine L.ag f7 fun a8 f8 => ?_
  refine wpList_nil (hK14 _ _ ?_)
  have f9 := f8.sub (sc 2 (sc 3 (sc 6 sn)))
  refine wp_block ?_
  clear f7 a7 f8
  refine C.loop (fun gk a W => ∃ k : Nat, k + gk = p.codes.length ∧ Kept [] w W ∧ Blk W g0 28 (p.cells s) ∧ Blk W g1 28 (q.cells t) ∧ p.codes.take k = q.codes.take k ∧ Fr 195 a [(2, .pointer (some ⟨g0, 0, none⟩)), (3, .pointer (some ⟨g1, 0, none⟩)), (6, .int .i64 k)]) (p.codes.length) ?_ ?_
  ·exact ⟨0, by omega, HK, Bg0, Bg1, rfl, f9.sub (sub_cons rfl (sub_cons rfl (sub_cons rfl sn)))⟩
  intro gk16 a10 w5 hI KL15 hKL15
  obtain ⟨k, hk, HK, Bg0, Bg1, hq1, f10⟩ := hI
  try clear f9
  refine wp_seq_k fun K16 hK16 => ?_
  refine wp_seq_k fun K17 hK17 => C.region ?_
  refine L.mv f10 fun a11 f11 => ?_
  refine L.fa 23 f11 U28 rfl wsz26_wb fun a12 f12 => ?_
  refine L.ld f12 U26 Bg0 fun a13 f13 => ?_
  refine L.va f13 (E.lenL f13 U26 rfl) fun a14 f14 => ?_
  refine L.va f14 (E.lss f14 rfl rfl) fun a15 f15 => ?_
  refine wpList_nil (hK17 _ _ ?_)
  have f16 := f15.sub (sc 2 (sc 3 (sc 6 (sc 71 sn))))
  clear f10 a10 f11 a11 f12 a12 f13 a13 f14 a14 f15
  refine f16.splitD 71 rfl (fun h7 f17 => ?_) (fun h7 f17 => ?_)
  ·obtain ⟨d, hd⟩ := some_at p.codes k (by omega)
   obtain ⟨bk, off, hA⟩ := IP.codes.addr (by omega)
   obtain ⟨d', hd'⟩ := some_at q.codes k (by omega)
   obtain ⟨bk', off', hA'⟩ := IQ.codes.addr (by omega)
   refine C.condT f17 rfl ?_
   refine wp_skip (hK16 _ _ ?_)
   have f18 := f17.sub (sc 2 (sc 3 (sc 6 sn)))
   refine wp_seq_k fun K18 hK18 => ?_
   refine wp_block ?_
   refine wp_seq_k fun K19 hK19 => ?_
   refine R.beginT (S := fun W => Kept [] w5 W) (by kernel_rfl) (by kernel_rfl) (by exact (Kept.refl _ _).drewN 1) fun ht => ?_
   have hS11 : Kept [] w5 (w5.drewN 1) := (Kept.refl _ _).drewN 1
   have hd11 : Kept [] w5 (w5.drewN 1) := (Kept.refl _ _).drewN 1
   obtain ⟨w6, hww6⟩ : ∃ W, W = w5.drewN 1 := ⟨_, rfl⟩
   rw [← hww6] at hS11 hd11 ⊢
   clear hww6
   have szw6 := hS11.size
   refine R.u 0 f18 rfl ht hS11 (fun W hW => (E.fa 23 f18 U28 rfl wsz26_wb)) fun a19 f19 => ?_
   refine R.u 1 f19 rfl ht hS11 (fun W hW => (by exact E.ld f19 U26 (Bg0.kept hW (by simp)))) fun a20 f20 => ?_
   refine R.u 2 f20 rfl ht hS11 (fun W hW => (E.move f20 rfl)) fun a21 f21 => ?_
   refine R.u 3 f21 rfl ht hS11 (fun W hW => (E.indexA f21 (by assumption) U26 wsz3_wb rfl rfl (by omega) (by omega))) fun a22 f22 => ?_
   refine R.u 4 f22 rfl ht hS11 (fun W hW => (by exact E.load f22 U3 rfl rfl (code_cell1 (IP.codes.kept (HK.trans hW (by simp))) hA hd))) fun a23 f23 => ?_
   refine R.u 5 f23 rfl ht hS11 (fun W hW => (E.fa 23 f23 U28 rfl wsz26_wb)) fun a24 f24 => ?_
   clear f16 f17 f18 a15 f19 a19 f20 a20 f21 a21 f22 a22 f23 a23
   refine R.u 6 f24 rfl ht hS11 (fun W hW => (by exact E.ld f24 U26 (Bg1.kept hW (by simp)))) fun a25 f25 => ?_
   refine R.u 7 f25 rfl ht hS11 (fun W hW => (E.move f25 rfl)) fun a26 f26 => ?_
   refine R.u 8 f26 rfl ht hS11 (fun W hW => (E.indexA f26 (by assumption) U26 wsz3_wb rfl rfl (by omega) (by omega))) fun a27 f27 => ?_
   refine R.u 9 f27 rfl ht hS11 (fun W hW => (by exact E.load f27 U3 rfl rfl (code_cell1 (IQ.codes.kept (HK.trans hW (by simp))) hA' hd'))) fun a28 f28 => ?_
   refine R.u 10 f28 rfl ht hS11 (fun W hW => (E.neq f28 rfl rfl)) fun a29 f29 => ?_
   have szw6r := hS11.size
   replace HK := HK.trans hS11 (by simp)
   replace Bg0 := Bg0.kept hS11 (by simp)
   replace Bg1 := Bg1.kept hS11 (by simp)
   clear hS11
   refine R.done (by kernel_rfl) (hK19 _ _ ?_)
   have f30 := f29.sub (sc 2 (sc 3 (sc 6 (sc 84 sn))))
   clear f24 a24 f25 a25 f26 a26 f27 a27 f28 a28 f29
   refine f30.splitN 84 rfl (fun h8 f31 => ?_) (fun h8 f31 => ?_)
   ·refine C.condT f31 rfl ?_
    refine wp_seq_k fun K20 hK20 => C.region ?_
    refine L.ag f31 fun a32 f32 => ?_
    refine wpList_nil (hK20 _ _ ?_)
    have f33 := f32.sub (sc 4 sn)
    refine wp_ret ?_
    try simp only [Exit.inBlock, Exit.then]
    refine C.ret (P := Tryd.prog) (fn := Tryd.f22) f33 rfl rfl ?_
    refine ⟨HK, ?_⟩
    rw [samePk_f (p := p) (q := q) (fun e => by subst e; (rw [hd] at hd'; cases hd'; apply absurd rfl; assumption))]
   have heq1 := h8
   refine C.condF f31 rfl ?_
   refine wp_skip (hK18 _ _ ?_)
   have f32 := f31.sub (sc 2 (sc 3 (sc 6 sn)))
   refine C.region ?_
   refine L.mv f32 fun a33 f33 => ?_
   refine L.va f33 (E.add f33 rfl rfl (IntWalk.i64_in _ (by omega))) fun a34 f34 => ?_
   refine L.ag f34 fun a35 f35 => ?_
   clear f30 f31 f32 a29 f33 a33 f34 a34
   refine wpList_nil (hKL15 _ _ (gk16 - 1) ?_ ?_)
   ·omega
   exact ⟨k + 1, by omega, HK, Bg0, Bg1, eq_take hq1 hd hd' heq1, f35.sub (sub_cons rfl (sub_cons rfl (sub_cons rfl sn)))⟩
  have hcodes : p.codes = q.codes := by rw [List.take_of_length_le (by omega), List.take_of_length_le (by omega)] at hq1; exact hq1
  refine C.condF f17 rfl ?_
  exact wp_exit (then_of (J := J13) (Q := fun _ _ _ => True) (by rw [hJ13]; exact ⟨HK, Bg0, Bg1, hcodes, f17.sub (sub_cons rfl (sub_cons rfl sn))⟩))
 intro a8 w5 hj
 rw [hJ13] at hj
 clear hJ13 J13
 obtain ⟨HK, Bg0, Bg1, hcodes, f8⟩ := hj
 try clear f7
 refine wp_seq_k fun K21 hK21 => C.region ?_
 refine L.fa 0 f8 U28 rfl wsz3_wb fun a9 f9 => ?_
 refine L.ld f9 U3 Bg0 fun a10 f10 => ?_
 refine L.fa 0 f10 U28 rfl wsz3_wb fun a11 f11 => ?_
 refine L.ld f11 U3 Bg1 fun a12 f12 => ?_
 refine L.va f12 (E.eq f12) fun a13 f13 => ?_
 refine L.mv f13 fun a14 f14 => ?_
 clear f8 a8 f9 a9 f10 a10 f11 a11 f12 a12 f13 a13
 refine f14.splitD 90 rfl (fun h9 f15 => ?_) (fun h9 f15 => ?_)
 ·refine L.fa 1 f15 U28 rfl wsz4_wb (hw := (f15.yes rfl rfl)) fun a16 f16 => ?_
  refine L.ld f16 U4 Bg0 (hw := (f16.yes rfl rfl)) fun a17 f17 => ?_
  refine L.fa 1 f17 U28 rfl wsz4_wb (hw := (f17.yes rfl rfl)) fun a18 f18 => ?_
  refine L.ld f18 U4 Bg1 (hw := (f18.yes rfl rfl)) fun a19 f19 => ?_
  refine L.va f19 (E.eqlB f19 U4 rfl rfl) (hw := (f19.yes rfl rfl)) fun a20 f20 => ?_
  refine L.va f20 (E.pickT f20 rfl rfl) fun a21 f21 => ?_
  refine L.mv f21 fun a22 f22 => ?_
  clear f14 f15 a14 f16 a16 f17 a17 f18 a18 f19 a19 f20 a20 f21 a21
  refine f22.splitD 97 rfl (fun h10 f23 => ?_) (fun h10 f23 => ?_)
  ·refine L.fa 2 f23 U28 rfl wsz4_wb (hw := (f23.yes rfl rfl)) fun a24 f24 => ?_
   refine L.ld f24 U4 Bg0 (hw := (f24.yes rfl rfl)) fun a25 f25 => ?_
   refine L.fa 2 f25 U28 rfl wsz4_wb (hw := (f25.yes rfl rfl)) fun a26 f26 => ?_
   refine L.ld f26 U4 Bg1 (hw := (f26.yes rfl rfl)) fun a27 f27 => ?_
   refine L.va f27 (E.eqlB f27 U4 rfl rfl) (hw := (f27.yes rfl rfl)) fun a28 f28 => ?_
   refine L.va f28 (E.pickT f28 rfl rfl) fun a29 f29 => ?_
   refine L.mv f29 fun a30 f30 => ?_
   clear f22 f23 a22 f24 a24 f25 a25 f26 a26 f27 a27 f28 a28 f29 a29
   refine f30.splitD 104 rfl (fun h11 f31 => ?_) (fun h11 f31 => ?_)
   ·refine L.fa 3 f31 U28 rfl wsz3_wb (hw := (f31.yes rfl rfl)) fun a32 f32 => ?_
    refine L.ld f32 U3 Bg0 (hw := (f32.yes rfl rfl)) fun a33 f33 => ?_
    refine L.fa 3 f33 U28 rfl wsz3_wb (hw := (f33.yes rfl rfl)) fun a34 f34 => ?_
    refine L.ld f34 U3 Bg1 (hw := (f34.yes rfl rfl)) fun a35 f35 => ?_
    refine L.va f35 (E.eq f35) (hw := (f35.yes rfl rfl)) fun a36 f36 => ?_
    refine L.va f36 (E.pickT f36 rfl rfl) fun a37 f37 => ?_
    refine L.mv f37 fun a38 f38 => ?_
    clear f30 f31 a30 f32 a32 f33 a33 f34 a34 f35 a35 f36 a36 f37 a37
    refine f38.splitD 111 rfl (fun h12 f39 => ?_) (fun h12 f39 => ?_)
    ·refine L.fa 4 f39 U28 rfl wsz3_wb (hw := (f39.yes rfl rfl)) fun a40 f40 => ?_
     refine L.ld f40 U3 Bg0 (hw := (f40.yes rfl rfl)) fun a41 f41 => ?_
     refine L.fa 4 f41 U28 rfl wsz3_wb (hw := (f41.yes rfl rfl)) fun a42 f42 => ?_
     refine L.ld f42 U3 Bg1 (hw := (f42.yes rfl rfl)) fun a43 f43 => ?_
     refine L.va f43 (E.eq f43) (hw := (f43.yes rfl rfl)) fun a44 f44 => ?_
     refine L.va f44 (E.pickT f44 rfl rfl) fun a45 f45 => ?_
     refine L.mv f45 fun a46 f46 => ?_
     clear f38 f39 a38 f40 a40 f41 a41 f42 a42 f43 a43 f44 a44 f45 a45
     refine f46.splitD 118 rfl (fun h13 f47 => ?_) (fun h13 f47 => ?_)
     ·refine L.fa 5 f47 U28 rfl wsz9_wb (hw := (f47.yes rfl rfl)) fun a48 f48 => ?_
      refine L.ld f48 U9 Bg0 (hw := (f48.yes rfl rfl)) fun a49 f49 => ?_
      refine L.fa 5 f49 U28 rfl wsz9_wb (hw := (f49.yes rfl rfl)) fun a50 f50 => ?_
      refine L.ld f50 U9 Bg1 (hw := (f50.yes rfl rfl)) fun a51 f51 => ?_
      refine L.va f51 (E.eqlS f51 rfl rfl) (hw := (f51.yes rfl rfl)) fun a52 f52 => ?_
      refine L.va f52 (E.pickT f52 rfl rfl) fun a53 f53 => ?_
      refine L.mv f53 fun a54 f54 => ?_
      clear f46 f47 a46 f48 a48 f49 a49 f50 a50 f51 a51 f52 a52 f53 a53
      refine f54.splitD 125 rfl (fun h14 f55 => ?_) (fun h14 f55 => ?_)
      ·refine L.fa 7 f55 U28 rfl wsz3_wb (hw := (f55.yes rfl rfl)) fun a56 f56 => ?_
       refine L.ld f56 U3 Bg0 (hw := (f56.yes rfl rfl)) fun a57 f57 => ?_
       refine L.fa 7 f57 U28 rfl wsz3_wb (hw := (f57.yes rfl rfl)) fun a58 f58 => ?_
       refine L.ld f58 U3 Bg1 (hw := (f58.yes rfl rfl)) fun a59 f59 => ?_
       refine L.va f59 (E.eq f59) (hw := (f59.yes rfl rfl)) fun a60 f60 => ?_
       refine L.va f60 (E.pickT f60 rfl rfl) fun a61 f61 => ?_
       refine L.mv f61 fun a62 f62 => ?_
       clear f54 f55 a54 f56 a56 f57 a57 f58 a58 f59 a59 f60 a60 f61 a61
       refine f62.splitD 132 rfl (fun h15 f63 => ?_) (fun h15 f63 => ?_)
       ·refine L.fa 8 f63 U28 rfl wsz9_wb (hw := (f63.yes rfl rfl)) fun a64 f64 => ?_
        refine L.ld f64 U9 Bg0 (hw := (f64.yes rfl rfl)) fun a65 f65 => ?_
        refine L.fa 8 f65 U28 rfl wsz9_wb (hw := (f65.yes rfl rfl)) fun a66 f66 => ?_
        refine L.ld f66 U9 Bg1 (hw := (f66.yes rfl rfl)) fun a67 f67 => ?_
        refine L.va f67 (E.eqlS f67 rfl rfl) (hw := (f67.yes rfl rfl)) fun a68 f68 => ?_
        refine L.va f68 (E.pickT f68 rfl rfl) fun a69 f69 => ?_
        refine L.mv f69 fun a70 f70 => ?_
        clear f62 f63 a62 f64 a64 f65 a65 f66 a66 f67 a67 f68 a68 f69 a69
        refine f70.splitD 139 rfl (fun h16 f71 => ?_) (fun h16 f71 => ?_)
        ·refine L.fa 9 f71 U28 rfl wsz4_wb (hw := (f71.yes rfl rfl)) fun a72 f72 => ?_
         refine L.ld f72 U4 Bg0 (hw := (f72.yes rfl rfl)) fun a73 f73 => ?_
         refine L.fa 9 f73 U28 rfl wsz4_wb (hw := (f73.yes rfl rfl)) fun a74 f74 => ?_
         refine L.ld f74 U4 Bg1 (hw := (f74.yes rfl rfl)) fun a75 f75 => ?_
         refine L.va f75 (E.eqlB f75 U4 rfl rfl) (hw := (f75.yes rfl rfl)) fun a76 f76 => ?_
         refine L.va f76 (E.pickT f76 rfl rfl) fun a77 f77 => ?_
         refine L.mv f77 fun a78 f78 => ?_
         clear f70 f71 a70 f72 a72 f73 a73 f74 a74 f75 a75 f76 a76 f77 a77
         refine f78.splitD 146 rfl (fun h17 f79 => ?_) (fun h17 f79 => ?_)
         ·refine L.fa 10 f79 U28 rfl wsz3_wb (hw := (f79.yes rfl rfl)) fun a80 f80 => ?_
          refine L.ld f80 U3 Bg0 (hw := (f80.yes rfl rfl)) fun a81 f81 => ?_
          refine L.fa 10 f81 U28 rfl wsz3_wb (hw := (f81.yes rfl rfl)) fun a82 f82 => ?_
          refine L.ld f82 U3 Bg1 (hw := (f82.yes rfl rfl)) fun a83 f83 => ?_
          refine L.va f83 (E.eq f83) (hw := (f83.yes rfl rfl)) fun a84 f84 => ?_
          refine L.va f84 (E.pickT f84 rfl rfl) fun a85 f85 => ?_
          refine L.mv f85 fun a86 f86 => ?_
          clear f78 f79 a78 f80 a80 f81 a81 f82 a82 f83 a83 f84 a84 f85 a85
          refine f86.splitD 153 rfl (fun h18 f87 => ?_) (fun h18 f87 => ?_)
          ·refine L.fa 11 f87 U28 rfl wsz4_wb (hw := (f87.yes rfl rfl)) fun a88 f88 => ?_
           refine L.ld f88 U4 Bg0 (hw := (f88.yes rfl rfl)) fun a89 f89 => ?_
           refine L.fa 11 f89 U28 rfl wsz4_wb (hw := (f89.yes rfl rfl)) fun a90 f90 => ?_
           refine L.ld f90 U4 Bg1 (hw := (f90.yes rfl rfl)) fun a91 f91 => ?_
           refine L.va f91 (E.eqlB f91 U4 rfl rfl) (hw := (f91.yes rfl rfl)) fun a92 f92 => ?_
           refine L.va f92 (E.pickT f92 rfl rfl) fun a93 f93 => ?_
           refine L.mv f93 fun a94 f94 => ?_
           clear f86 f87 a86 f88 a88 f89 a89 f90 a90 f91 a91 f92 a92 f93 a93
           refine f94.splitD 160 rfl (fun h19 f95 => ?_) (fun h19 f95 => ?_)
           ·refine L.fa 16 f95 U28 rfl wsz4_wb (hw := (f95.yes rfl rfl)) fun a96 f96 => ?_
            refine L.ld f96 U4 Bg0 (hw := (f96.yes rfl rfl)) fun a97 f97 => ?_
            refine L.fa 16 f97 U28 rfl wsz4_wb (hw := (f97.yes rfl rfl)) fun a98 f98 => ?_
            refine L.ld f98 U4 Bg1 (hw := (f98.yes rfl rfl)) fun a99 f99 => ?_
            refine L.va f99 (E.eqlB f99 U4 rfl rfl) (hw := (f99.yes rfl rfl)) fun a100 f100 => ?_
            refine L.va f100 (E.pickT f100 rfl rfl) fun a101 f101 => ?_
            refine L.mv f101 fun a102 f102 => ?_
            clear f94 f95 a94 f96 a96 f97 a97 f98 a98 f99 a99 f100 a100 f101 a101
            refine f102.splitD 167 rfl (fun h20 f103 => ?_) (fun h20 f103 => ?_)
            ·refine L.fa 17 f103 U28 rfl wsz4_wb (hw := (f103.yes rfl rfl)) fun a104 f104 => ?_
             refine L.ld f104 U4 Bg0 (hw := (f104.yes rfl rfl)) fun a105 f105 => ?_
             refine L.fa 17 f105 U28 rfl wsz4_wb (hw := (f105.yes rfl rfl)) fun a106 f106 => ?_
             refine L.ld f106 U4 Bg1 (hw := (f106.yes rfl rfl)) fun a107 f107 => ?_
             refine L.va f107 (E.eqlB f107 U4 rfl rfl) (hw := (f107.yes rfl rfl)) fun a108 f108 => ?_
             refine L.va f108 (E.pickT f108 rfl rfl) fun a109 f109 => ?_
             refine L.mv f109 fun a110 f110 => ?_
             clear f102 f103 a102 f104 a104 f105 a105 f106 a106 f107 a107 f108 a108 f109 a109
             refine f110.splitD 174 rfl (fun h21 f111 => ?_) (fun h21 f111 => ?_)
             ·refine L.fa 18 f111 U28 rfl wsz9_wb (hw := (f111.yes rfl rfl)) fun a112 f112 => ?_
              refine L.ld f112 U9 Bg0 (hw := (f112.yes rfl rfl)) fun a113 f113 => ?_
              refine L.fa 18 f113 U28 rfl wsz9_wb (hw := (f113.yes rfl rfl)) fun a114 f114 => ?_
              refine L.ld f114 U9 Bg1 (hw := (f114.yes rfl rfl)) fun a115 f115 => ?_
              refine L.va f115 (E.eqlS f115 rfl rfl) (hw := (f115.yes rfl rfl)) fun a116 f116 => ?_
              refine L.va f116 (E.pickT f116 rfl rfl) fun a117 f117 => ?_
              refine L.mv f117 fun a118 f118 => ?_
              clear f110 f111 a110 f112 a112 f113 a113 f114 a114 f115 a115 f116 a116 f117 a117
              refine f118.splitD 181 rfl (fun h22 f119 => ?_) (fun h22 f119 => ?_)
              ·refine L.fa 20 f119 U28 rfl wsz4_wb (hw := (f119.yes rfl rfl)) fun a120 f120 => ?_
               refine L.ld f120 U4 Bg0 (hw := (f120.yes rfl rfl)) fun a121 f121 => ?_
               refine L.fa 20 f121 U28 rfl wsz4_wb (hw := (f121.yes rfl rfl)) fun a122 f122 => ?_
               refine L.ld f122 U4 Bg1 (hw := (f122.yes rfl rfl)) fun a123 f123 => ?_
               refine L.va f123 (E.eqlB f123 U4 rfl rfl) (hw := (f123.yes rfl rfl)) fun a124 f124 => ?_
               refine L.va f124 (E.pickT f124 rfl rfl) fun a125 f125 => ?_
               refine L.mv f125 fun a126 f126 => ?_
               clear f118 f119 a118 f120 a120 f121 a121 f122 a122 f123 a123 f124 a124 f125 a125
               refine f126.splitD 188 rfl (fun h23 f127 => ?_) (fun h23 f127 => ?_)
               ·refine L.fa 21 f127 U28 rfl wsz3_wb (hw := (f127.yes rfl rfl)) fun a128 f128 => ?_
                refine L.ld f128 U3 Bg0 (hw := (f128.yes rfl rfl)) fun a129 f129 => ?_
                refine L.fa 21 f129 U28 rfl wsz3_wb (hw := (f129.yes rfl rfl)) fun a130 f130 => ?_
                refine L.ld f130 U3 Bg1 (hw := (f130.yes rfl rfl)) fun a131 f131 => ?_
                refine L.va f131 (E.eq f131) (hw := (f131.yes rfl rfl)) fun a132 f132 => ?_
                refine L.va f132 (E.pickT f132 rfl rfl) fun a133 f133 => ?_
                refine L.ag f133 fun a134 f134 => ?_
                clear f126 f127 a126 f128 a128 f129 a129 f130 a130 f131 a131 f132 a132 f133 a133
                refine wpList_nil (hK21 _ _ ?_)
                have f135 := f134.sub (sc 4 sn)
                refine wp_ret ?_
                try simp only [Exit.inBlock, Exit.then]
                refine C.ret (P := Tryd.prog) (fn := Tryd.f22) f135 rfl rfl ?_
                exact ⟨HK, by rw [same_eq]; simp [greetB, *]⟩
               refine L.run f127 (rest' := []) (by kernel_rfl) fun a128 f128 => ?_
               clear f126
               skip
               refine wpList_nil (hK21 _ _ ?_)
               have f129 := f128.sub (sub_cons (i := 4) (v := .bool false) (by kernel_rfl) sn)
               refine wp_ret ?_
               try simp only [Exit.inBlock, Exit.then]
               refine C.ret (P := Tryd.prog) (fn := Tryd.f22) f129 rfl rfl ?_
               exact ⟨HK, by rw [same_eq]; simp [greetB, *]⟩
              refine L.run f119 (rest' := []) (by kernel_rfl) fun a120 f120 => ?_
              clear f118
              skip
              refine wpList_nil (hK21 _ _ ?_)
              have f121 := f120.sub (sub_cons (i := 4) (v := .bool false) (by kernel_rfl) sn)
              refine wp_ret ?_
              try simp only [Exit.inBlock, Exit.then]
              refine C.ret (P := Tryd.prog) (fn := Tryd.f22) f121 rfl rfl ?_
              exact ⟨HK, by rw [same_eq]; simp [greetB, *]⟩
             refine L.run f111 (rest' := []) (by kernel_rfl) fun a112 f112 => ?_
             clear f110
             skip
             refine wpList_nil (hK21 _ _ ?_)
             have f113 := f112.sub (sub_cons (i := 4) (v := .bool false) (by kernel_rfl) sn)
             refine wp_ret ?_
             try simp only [Exit.inBlock, Exit.then]
             refine C.ret (P := Tryd.prog) (fn := Tryd.f22) f113 rfl rfl ?_
             exact ⟨HK, by rw [same_eq]; simp [greetB, *]⟩
            refine L.run f103 (rest' := []) (by kernel_rfl) fun a104 f104 => ?_
            clear f102
            skip
            refine wpList_nil (hK21 _ _ ?_)
            have f105 := f104.sub (sub_cons (i := 4) (v := .bool false) (by kernel_rfl) sn)
            refine wp_ret ?_
            try simp only [Exit.inBlock, Exit.then]
            refine C.ret (P := Tryd.prog) (fn := Tryd.f22) f105 rfl rfl ?_
            exact ⟨HK, by rw [same_eq]; simp [greetB, *]⟩
           refine L.run f95 (rest' := []) (by kernel_rfl) fun a96 f96 => ?_
           clear f94
           skip
           refine wpList_nil (hK21 _ _ ?_)
           have f97 := f96.sub (sub_cons (i := 4) (v := .bool false) (by kernel_rfl) sn)
           refine wp_ret ?_
           try simp only [Exit.inBlock, Exit.then]
           refine C.ret (P := Tryd.prog) (fn := Tryd.f22) f97 rfl rfl ?_
           exact ⟨HK, by rw [same_eq]; simp [greetB, *]⟩
          refine L.run f87 (rest' := []) (by kernel_rfl) fun a88 f88 => ?_
          clear f86
          skip
          refine wpList_nil (hK21 _ _ ?_)
          have f89 := f88.sub (sub_cons (i := 4) (v := .bool false) (by kernel_rfl) sn)
          refine wp_ret ?_
          try simp only [Exit.inBlock, Exit.then]
          refine C.ret (P := Tryd.prog) (fn := Tryd.f22) f89 rfl rfl ?_
          exact ⟨HK, by rw [same_eq]; simp [greetB, *]⟩
         refine L.run f79 (rest' := []) (by kernel_rfl) fun a80 f80 => ?_
         clear f78
         skip
         refine wpList_nil (hK21 _ _ ?_)
         have f81 := f80.sub (sub_cons (i := 4) (v := .bool false) (by kernel_rfl) sn)
         refine wp_ret ?_
         try simp only [Exit.inBlock, Exit.then]
         refine C.ret (P := Tryd.prog) (fn := Tryd.f22) f81 rfl rfl ?_
         exact ⟨HK, by rw [same_eq]; simp [greetB, *]⟩
        refine L.run f71 (rest' := []) (by kernel_rfl) fun a72 f72 => ?_
        clear f70
        skip
        refine wpList_nil (hK21 _ _ ?_)
        have f73 := f72.sub (sub_cons (i := 4) (v := .bool false) (by kernel_rfl) sn)
        refine wp_ret ?_
        try simp only [Exit.inBlock, Exit.then]
        refine C.ret (P := Tryd.prog) (fn := Tryd.f22) f73 rfl rfl ?_
        exact ⟨HK, by rw [same_eq]; simp [greetB, *]⟩
       refine L.run f63 (rest' := []) (by kernel_rfl) fun a64 f64 => ?_
       clear f62
       skip
       refine wpList_nil (hK21 _ _ ?_)
       have f65 := f64.sub (sub_cons (i := 4) (v := .bool false) (by kernel_rfl) sn)
       refine wp_ret ?_
       try simp only [Exit.inBlock, Exit.then]
       refine C.ret (P := Tryd.prog) (fn := Tryd.f22) f65 rfl rfl ?_
       exact ⟨HK, by rw [same_eq]; simp [greetB, *]⟩
      refine L.run f55 (rest' := []) (by kernel_rfl) fun a56 f56 => ?_
      clear f54
      skip
      refine wpList_nil (hK21 _ _ ?_)
      have f57 := f56.sub (sub_cons (i := 4) (v := .bool false) (by kernel_rfl) sn)
      refine wp_ret ?_
      try simp only [Exit.inBlock, Exit.then]
      refine C.ret (P := Tryd.prog) (fn := Tryd.f22) f57 rfl rfl ?_
      exact ⟨HK, by rw [same_eq]; simp [greetB, *]⟩
     refine L.run f47 (rest' := []) (by kernel_rfl) fun a48 f48 => ?_
     clear f46
     skip
     refine wpList_nil (hK21 _ _ ?_)
     have f49 := f48.sub (sub_cons (i := 4) (v := .bool false) (by kernel_rfl) sn)
     refine wp_ret ?_
     try simp only [Exit.inBlock, Exit.then]
     refine C.ret (P := Tryd.prog) (fn := Tryd.f22) f49 rfl rfl ?_
     exact ⟨HK, by rw [same_eq]; simp [greetB, *]⟩
    refine L.run f39 (rest' := []) (by kernel_rfl) fun a40 f40 => ?_
    clear f38
    skip
    refine wpList_nil (hK21 _ _ ?_)
    have f41 := f40.sub (sub_cons (i := 4) (v := .bool false) (by kernel_rfl) sn)
    refine wp_ret ?_
    try simp only [Exit.inBlock, Exit.then]
    refine C.ret (P := Tryd.prog) (fn := Tryd.f22) f41 rfl rfl ?_
    exact ⟨HK, by rw [same_eq]; simp [greetB, *]⟩
   refine L.run f31 (rest' := []) (by kernel_rfl) fun a32 f32 => ?_
   clear f30
   skip
   refine wpList_nil (hK21 _ _ ?_)
   have f33 := f32.sub (sub_cons (i := 4) (v := .bool false) (by kernel_rfl) sn)
   refine wp_ret ?_
   try simp only [Exit.inBlock, Exit.then]
   refine C.ret (P := Tryd.prog) (fn := Tryd.f22) f33 rfl rfl ?_
   exact ⟨HK, by rw [same_eq]; simp [greetB, *]⟩
  refine L.run f23 (rest' := []) (by kernel_rfl) fun a24 f24 => ?_
  clear f22
  skip
  refine wpList_nil (hK21 _ _ ?_)
  have f25 := f24.sub (sub_cons (i := 4) (v := .bool false) (by kernel_rfl) sn)
  refine wp_ret ?_
  try simp only [Exit.inBlock, Exit.then]
  refine C.ret (P := Tryd.prog) (fn := Tryd.f22) f25 rfl rfl ?_
  exact ⟨HK, by rw [same_eq]; simp [greetB, *]⟩
 refine L.run f15 (rest' := []) (by kernel_rfl) fun a16 f16 => ?_
 clear f14
 skip
 refine wpList_nil (hK21 _ _ ?_)
 have f17 := f16.sub (sub_cons (i := 4) (v := .bool false) (by kernel_rfl) sn)
 refine wp_ret ?_
 try simp only [Exit.inBlock, Exit.then]
 refine C.ret (P := Tryd.prog) (fn := Tryd.f22) f17 rfl rfl ?_
 exact ⟨HK, by rw [same_eq]; simp [greetB, *]⟩
set_option maxHeartbeats 1000000 in
theorem text_any (b : ByteArray) (w : World) (hT : Tabs w) : Calls Tryd.prog 74 #[.string b] w (fun e w' => Kept [] w w' ∧ e = .returned (.bool (txB b))) := by
 have HK : Kept [] w w := Kept.refl [] w
 refine C.enter Tryd.func74 rfl Tryd.ntmps74 rfl ?_
 intro a0 f0
 have f1 : Fr 12 a0 [(0, .string b)] := f0
 refine wp_seq_k fun K0 hK0 => C.region ?_
 refine L.ag f1 fun a2 f2 => ?_
 refine wpList_nil (hK0 _ _ ?_)
 have f3 := f2.sub (sc 0 sn)
 refine wp_seq_k fun K1 hK1 => C.region ?_
 refine L.mv f3 fun a4 f4 => ?_
 refine L.va f4 (E.lenS f4 U9 rfl) fun a5 f5 => ?_
 refine L.va f5 (E.leq f5 rfl rfl) fun a6 f6 => ?_
 refine L.mv f6 fun a7 f7 => ?_
 clear f0 f1 a0 f2 f3 a2 f4 a4 f5 a5 f6 a6
 refine f7.splitD 6 rfl (fun h0 f8 => ?_) (fun h0 f8 => ?_)
 ·refine L.mv f8 (hw := (f8.yes rfl rfl)) fun a9 f9 => ?_
  refine L.convSB f9 (f9.yes rfl rfl) (by decide) U9 U22 U5 rfl (by omega) fun a10 w1 cb f10 hcb BS kcv => ?_
  have szw1 := kcv.size
  replace HK := HK.trans kcv (by simp)
  clear kcv
  refine L.cl f10 (run_call Tryd.call87 (args1 f10 rfl)) (chk_any [5] w1.heap.size _ cb b.toList w1 (hT.old (HK.below (by simp) (Nat.le_refl _))) BS hcb.1 hcb.2) ?_ (hw := (f10.yes rfl rfl))
  clear f7 f8 a7 f9 a9
  rintro e w2 ⟨rfl, kb⟩
  have kc2 := Kept.of_below kb []
  refine ⟨_, rfl, fun a11 f11 => ?_⟩
  have szw2 := kc2.size
  replace HK := HK.trans kc2 (by simp)
  clear kc2
  refine L.va f11 (E.lss f11 rfl rfl) (hw := (f11.yes rfl rfl)) fun a12 f12 => ?_
  refine L.va f12 (E.pickT f12 rfl rfl) fun a13 f13 => ?_
  refine L.ag f13 fun a14 f14 => ?_
  refine wpList_nil (hK1 _ _ ?_)
  have f15 := f14.sub (sc 2 sn)
  refine wp_ret ?_
  try simp only [Exit.inBlock, Exit.then]
  refine C.ret (P := Tryd.prog) (fn := Tryd.f74) f15 rfl rfl ?_
  exact ⟨HK, by rw [tx_t (by omega)]⟩
 refine L.sk f8 (f8.noT rfl rfl) fun a9 f9 => ?_
 refine L.sk f9 (f9.noT rfl rfl) fun a10 f10 => ?_
 refine L.run f10 (rest' := []) (by kernel_rfl) fun a11 f11 => ?_
 clear f7 f8 a7 f9 a9
 skip
 refine wpList_nil (hK1 _ _ ?_)
 have f12 := f11.sub (sub_cons (i := 2) (v := .bool false) (by kernel_rfl) sn)
 refine wp_ret ?_
 try simp only [Exit.inBlock, Exit.then]
 refine C.ret (P := Tryd.prog) (fn := Tryd.f74) f12 rfl rfl ?_
 exact ⟨HK, by rw [tx_f (by omega)]⟩
set_option maxHeartbeats 1000000 in
theorem subs_any (l : List (ByteArray × Int)) (A : Option Addr) (c : Nat) (m : Int) (w : World) (hT : Tabs w) (A1 : Sl w A l.length 2 (subCells l)) (hm : l.length ≤ 1000000) : Calls Tryd.prog 75 #[.slice A l.length c, .int .i64 m] w (fun e w' => Kept [] w w' ∧ e = .returned (.bool (subB m l && decide (0 < l.length)))) := by
 have HK : Kept [] w w := Kept.refl [] w
 refine C.enter Tryd.func75 rfl Tryd.ntmps75 rfl ?_
 intro a0 f0
 have f1 : Fr 28 a0 [(0, .slice A l.length c), (1, .int .i64 m)] := f0
 refine wp_seq_k fun K0 hK0 => C.region ?_
 refine L.ag f1 fun a2 f2 => ?_
 refine wpList_nil (hK0 _ _ ?_)
 have f3 := f2.sub (sc 0 (sc 1 sn))
 refine wp_seq_k fun K1 hK1 => ?_
 refine wp_seq_k fun K2 hK2 => C.region ?_
 refine L.mv f3 fun a4 f4 => ?_
 refine L.va f4 (E.lenL f4 U25 rfl) fun a5 f5 => ?_
 refine L.mv f5 fun a6 f6 => ?_
 refine wpList_nil (hK2 _ _ ?_)
 have f7 := f6.sub (sc 0 (sc 1 (sc 7 (sc 8 (sc 9 sn)))))
 refine wp_block ?_
 clear f0 f1 a0 f2 f3 a2 f4 a4 f5 a5 f6
 refine C.loop (fun gk a W => ∃ k : Nat, k + gk = l.length ∧ Kept [] w W ∧ (∀ x ∈ l.take k, (txB x.1 && inB x.2 0 m) = true) ∧ Fr 28 a [(0, .slice A l.length c), (1, .int .i64 m), (7, .slice A l.length c), (8, .int .i64 l.length), (9, .int .i64 k)]) (l.length) ?_ ?_
 ·exact ⟨0, by omega, HK, by simp, f7.sub (sub_cons rfl (sub_cons rfl (sub_cons rfl (sub_cons rfl (sub_cons rfl sn)))))⟩
 intro gk4 a8 w1 hI KL3 hKL3
 obtain ⟨k, hk, HK, hq, f8⟩ := hI
 try clear f7
 refine wp_seq_k fun K4 hK4 => C.region ?_
 refine L.va f8 (E.lss f8 rfl rfl) fun a9 f9 => ?_
 refine wpList_nil (hK4 _ _ ?_)
 have f10 := f9.sub (sc 0 (sc 1 (sc 7 (sc 8 (sc 9 (sc 10 sn))))))
 refine wp_seq_k fun K5 hK5 => ?_
 clear f8 a8 f9
 refine f10.splitD 10 rfl (fun h0 f11 => ?_) (fun h0 f11 => ?_)
 ·obtain ⟨d, hd⟩ := some_at l k (by omega)
  obtain ⟨bk, off, hA⟩ := A1.addr (by omega)
  refine C.condT f11 rfl ?_
  refine wp_skip (hK5 _ _ ?_)
  have f12 := f11.sub (sc 0 (sc 1 (sc 7 (sc 8 (sc 9 sn)))))
  refine wp_seq_k fun K6 hK6 => ?_
  refine wp_block ?_
  refine wp_seq_k fun K7 hK7 => C.region ?_
  refine L.va f12 (E.indexA f12 (by assumption) U25 wsz70_wb rfl rfl (by omega) (by omega)) fun a13 f13 => ?_
  refine L.va f13 (by exact E.loadR f13 U70 rfl wsz70_wb rfl (sub_row (A1.kept HK) hA hd) rfl) fun a14 f14 => ?_
  refine L.alloc f14 wantedN (by decide) (z := (.agg #[(.string ⟨#[]⟩), (.int .i64 0)])) (fun _ => by kernel_rfl) rfl fun a15 w2 g1 N1 f15 => ?_
  have Bg1 := N1.blk
  have kg1 := N1.kept
  have log1 := N1.lo
  have ltg1 := Bg1.lt
  have szw2 := kg1.size
  have frg1 : w.heap.size ≤ g1 := Nat.le_trans HK.size log1
  replace HK := HK.trans kg1 (by simp)
  clear N1 kg1
  refine L.storeR f15 wantedN wsz70_wb rfl rfl rfl Bg1 rfl rfl fun a16 w3 f16 NB3 ks3 => ?_
  have szw3 := ks3.size
  replace HK := HK.trans ks3 (ktr (by omega))
  replace Bg1 := NB3
  clear ks3 f15 a15
  refine wpList_nil (hK7 _ _ ?_)
  have f17 := f16.sub (sc 0 (sc 1 (sc 6 (sc 7 (sc 8 (sc 9 sn))))))
  refine wp_seq_k fun K8 hK8 => C.region ?_
  refine L.fa 0 f17 U70 rfl wsz9_wb fun a18 f18 => ?_
  refine L.ld f18 U9 Bg1 fun a19 f19 => ?_
  refine L.cl f19 (run_call Tryd.call74 (args1 f19 rfl)) (text_any _ _ (hT.old (HK.below (by simp) (Nat.le_refl _)))) ?_
  clear f10 f11 f12 a9 f13 a13 f14 a14 f16 f17 a16 f18 a18
  rintro e w4 ⟨kc4, rfl⟩
  refine ⟨_, rfl, fun a20 f20 => ?_⟩
  have szw4 := kc4.size
  replace HK := HK.trans kc4 (by simp)
  replace Bg1 := Bg1.kept kc4 (by simp)
  clear kc4
  clear f19 a19
  refine f20.split 15 rfl (fun h1 f21 => ?_) (fun h1 f21 => ?_)
  ·have ht := h1
   refine L.va f21 (E.not f21 rfl) fun a22 f22 => ?_
   refine L.mv f22 fun a23 f23 => ?_
   refine L.fa 1 f23 U70 rfl wsz3_wb (hw := (f23.yes rfl rfl)) fun a24 f24 => ?_
   refine L.ld f24 U3 Bg1 (hw := (f24.yes rfl rfl)) fun a25 f25 => ?_
   refine L.mv f25 (hw := (f25.yes rfl rfl)) fun a26 f26 => ?_
   refine L.cl f26 (run_call Tryd.call44 (args3 f26 rfl rfl rfl)) (in_any _ _ _ _) ?_ (hw := (f26.yes rfl rfl))
   clear f20 f21 a20 f22 a22 f23 a23 f24 a24 f25 a25
   rintro e w4x ⟨rfl, rfl⟩
   refine ⟨_, rfl, fun a27 f27 => ?_⟩
   clear f26 a26
   refine f27.split 21 rfl (fun h2 f28 => ?_) (fun h2 f28 => ?_)
   ·have hi := h2
    refine L.va f28 (E.not f28 rfl) (hw := (f28.yes rfl rfl)) fun a29 f29 => ?_
    refine L.va f29 (E.pickF f29 rfl rfl) fun a30 f30 => ?_
    refine wpList_nil (hK8 _ _ ?_)
    have f31 := f30.sub (sc 0 (sc 1 (sc 7 (sc 8 (sc 9 (sc 23 sn))))))
    refine C.condF f31 rfl ?_
    refine wp_skip (hK6 _ _ ?_)
    have f32 := f31.sub (sc 0 (sc 1 (sc 7 (sc 8 (sc 9 sn)))))
    refine C.region ?_
    refine L.va f32 (E.add f32 rfl rfl (IntWalk.i64_in _ (by omega))) fun a33 f33 => ?_
    refine L.mv f33 fun a34 f34 => ?_
    clear f27 f28 a27 f29 a29 f30 f31 f32 a30 f33 a33
    refine wpList_nil (hKL3 _ _ (gk4 - 1) ?_ ?_)
    ·omega
    exact ⟨k + 1, by omega, HK, in_take hq hd (by rw [ht, hi]; rfl), f34.sub (sub_cons rfl (sub_cons rfl (sub_cons rfl (sub_cons rfl (sub_cons rfl sn)))))⟩
   have hi := h2
   refine L.va f28 (E.not f28 rfl) (hw := (f28.yes rfl rfl)) fun a29 f29 => ?_
   refine L.va f29 (E.pickF f29 rfl rfl) fun a30 f30 => ?_
   refine wpList_nil (hK8 _ _ ?_)
   have f31 := f30.sub (sc 0 (sc 1 (sc 7 (sc 8 (sc 9 (sc 23 sn))))))
   refine C.condT f31 rfl ?_
   refine wp_seq_k fun K9 hK9 => C.region ?_
   refine L.ag f31 fun a32 f32 => ?_
   refine wpList_nil (hK9 _ _ ?_)
   have f33 := f32.sub (sc 4 sn)
   refine wp_ret ?_
   try simp only [Exit.inBlock, Exit.then]
   refine C.ret (P := Tryd.prog) (fn := Tryd.f75) f33 rfl rfl ?_
   exact ⟨HK, by rw [subB_f (List.mem_of_getElem? hd) (by rw [hi]; simp)]; rfl⟩
  have ht := h1
  refine L.va f21 (E.not f21 rfl) fun a22 f22 => ?_
  refine L.mv f22 fun a23 f23 => ?_
  refine L.sk f23 (f23.noF rfl rfl) fun a24 f24 => ?_
  refine L.sk f24 (f24.noF rfl rfl) fun a25 f25 => ?_
  refine L.sk f25 (f25.noF rfl rfl) fun a26 f26 => ?_
  refine L.sk f26 (f26.noF rfl rfl) fun a27 f27 => ?_
  refine L.sk f27 (f27.noF rfl rfl) fun a28 f28 => ?_
  clear f20 f21 a20 f22 a22 f23 a23 f24 a24 f25 a25 f26 a26 f27 a27
  refine L.va f28 (E.pickT f28 rfl rfl) fun a29 f29 => ?_
  refine wpList_nil (hK8 _ _ ?_)
  have f30 := f29.sub (sc 0 (sc 1 (sc 7 (sc 8 (sc 9 (sc 23 sn))))))
  refine C.condT f30 rfl ?_
  refine wp_seq_k fun K10 hK10 => C.region ?_
  refine L.ag f30 fun a31 f31 => ?_
  refine wpList_nil (hK10 _ _ ?_)
  have f32 := f31.sub (sc 4 sn)
  refine wp_ret ?_
  try simp only [Exit.inBlock, Exit.then]
  refine C.ret (P := Tryd.prog) (fn := Tryd.f75) f32 rfl rfl ?_
  exact ⟨HK, by rw [subB_f (List.mem_of_getElem? hd) (by rw [ht]; simp)]; rfl⟩
 refine C.condF f11 rfl ?_
 refine wp_exit (hK1 _ _ ?_)
 have f12 := f11.sub (sc 0 sn)
 refine wp_seq_k fun K11 hK11 => C.region ?_
 refine L.mv f12 fun a13 f13 => ?_
 refine L.va f13 (E.lenL f13 U25 rfl) fun a14 f14 => ?_
 refine L.va f14 (E.gtr f14 rfl rfl) fun a15 f15 => ?_
 refine L.ag f15 fun a16 f16 => ?_
 refine wpList_nil (hK11 _ _ ?_)
 have f17 := f16.sub (sc 4 sn)
 refine wp_ret ?_
 try simp only [Exit.inBlock, Exit.then]
 refine C.ret (P := Tryd.prog) (fn := Tryd.f75) f17 rfl rfl ?_
 exact ⟨HK, by rw [subB_t (all_take hq (by omega))]; simp⟩
set_option maxHeartbeats 1000000 in
theorem cod_any (c : Int) (w : World) : Calls Tryd.prog 77 #[.int .i64 c] w (fun e w' => w = w' ∧ e = .returned (.bool (!(inB c 0 2 || decide (c = 128))))) := by
 refine C.enter Tryd.func77 rfl Tryd.ntmps77 rfl ?_
 intro a0 f0
 have f1 : Fr 10 a0 [(0, .int .i64 c)] := f0
 refine wp_seq_k fun K0 hK0 => C.region ?_
 refine L.ag f1 fun a2 f2 => ?_
 refine wpList_nil (hK0 _ _ ?_)
 have f3 := f2.sub (sc 0 sn)
 refine wp_seq_k fun K1 hK1 => C.region ?_
 refine L.mv f3 fun a4 f4 => ?_
 refine L.cl f4 (run_call Tryd.call44 (args3 f4 rfl rfl rfl)) (in_any _ _ _ _) ?_
 clear f0 f1 a0 f2 f3 a2
 rintro e wx ⟨rfl, rfl⟩
 refine ⟨_, rfl, fun a5 f5 => ?_⟩
 refine L.va f5 (E.not f5 rfl) fun a6 f6 => ?_
 refine L.mv f6 fun a7 f7 => ?_
 clear f4 a4 f5 a5 f6 a6
 refine f7.splitNB 6 rfl (fun h0 f8 => ?_) (fun h0 f8 => ?_)
 ·refine L.mv f8 (hw := (f8.yes rfl rfl)) fun a9 f9 => ?_
  refine L.va f9 (E.neq f9 rfl rfl) (hw := (f9.yes rfl rfl)) fun a10 f10 => ?_
  refine L.va f10 (E.pickT f10 rfl rfl) fun a11 f11 => ?_
  refine L.ag f11 fun a12 f12 => ?_
  refine wpList_nil (hK1 _ _ ?_)
  have f13 := f12.sub (sc 2 sn)
  refine wp_ret ?_
  try simp only [Exit.inBlock, Exit.then]
  refine C.ret (P := Tryd.prog) (fn := Tryd.f77) f13 rfl rfl ?_
  exact ⟨rfl, by simp [*]⟩
 refine L.run f8 (rest' := []) (by kernel_rfl) fun a9 f9 => ?_
 clear f7
 skip
 refine wpList_nil (hK1 _ _ ?_)
 have f10 := f9.sub (sub_cons (i := 2) (v := .bool false) (by kernel_rfl) sn)
 refine wp_ret ?_
 try simp only [Exit.inBlock, Exit.then]
 refine C.ret (P := Tryd.prog) (fn := Tryd.f77) f10 rfl rfl ?_
 exact ⟨rfl, by simp [*]⟩
set_option maxHeartbeats 1000000 in
theorem idx_any (l : List Int) (A : Option Addr) (c : Nat) (w : World) (A1 : Sl w A l.length 1 (codeCells l)) (hm : l.length ≤ 1000000) : Calls Tryd.prog 88 #[.slice A l.length c, .func (.func 77) #[] #[]] w (fun e w' => w = w' ∧ ∃ r : Int, e = .returned (.int .i64 r) ∧ (0 ≤ r ↔ codB l = false)) := by
 refine C.enter Tryd.func88 rfl Tryd.ntmps88 rfl ?_
 intro a0 f0
 have f1 : Fr 19 a0 [(0, .slice A l.length c), (1, .func (.func 77) #[] #[])] := f0
 refine wp_seq_k fun K0 hK0 => C.region ?_
 refine L.ag f1 fun a2 f2 => ?_
 refine wpList_nil (hK0 _ _ ?_)
 have f3 := f2.sub (sc 0 (sc 1 sn))
 refine wp_seq_k fun K1 hK1 => ?_
 refine wp_seq_k fun K2 hK2 => C.region ?_
 refine L.mv f3 fun a4 f4 => ?_
 refine L.va f4 (E.lenL f4 U26 rfl) fun a5 f5 => ?_
 refine L.mv f5 fun a6 f6 => ?_
 refine wpList_nil (hK2 _ _ ?_)
 have f7 := f6.sub (sc 0 (sc 1 (sc 7 (sc 8 sn))))
 refine wp_block ?_
 clear f0 f1 a0 f2 f3 a2 f4 a4 f5 a5 f6
 refine C.loop (fun gk a W => w = W ∧ ∃ k : Nat, k + gk = l.length ∧ (∀ x ∈ l.take k, (inB x 0 2 || decide (x = 128)) = true) ∧ Fr 19 a [(0, .slice A l.length c), (1, .func (.func 77) #[] #[]), (7, .int .i64 l.length), (8, .int .i64 k)]) (l.length) ?_ ?_
 ·exact ⟨rfl, 0, by omega, by simp, f7.sub (sub_cons rfl (sub_cons rfl (sub_cons rfl (sub_cons rfl sn))))⟩
 intro gk4 a8 w1 hI KL3 hKL3
 obtain ⟨hW, k, hk, hq, f8⟩ := hI
 subst hW
 try clear f7
 refine wp_seq_k fun K4 hK4 => C.region ?_
 refine L.va f8 (E.lss f8 rfl rfl) fun a9 f9 => ?_
 refine wpList_nil (hK4 _ _ ?_)
 have f10 := f9.sub (sc 0 (sc 1 (sc 7 (sc 8 (sc 9 sn)))))
 refine wp_seq_k fun K5 hK5 => ?_
 clear f8 a8 f9
 refine f10.splitD 9 rfl (fun h0 f11 => ?_) (fun h0 f11 => ?_)
 ·obtain ⟨d, hd⟩ := some_at l k (by omega)
  obtain ⟨bk, off, hA⟩ := A1.addr (by omega)
  refine C.condT f11 rfl ?_
  refine wp_skip (hK5 _ _ ?_)
  have f12 := f11.sub (sc 0 (sc 1 (sc 7 (sc 8 sn))))
  refine wp_seq_k fun K6 hK6 => ?_
  refine wp_block ?_
  refine wp_seq_k fun K7 hK7 => C.region ?_
  refine L.mv f12 fun a13 f13 => ?_
  refine L.ag f13 fun a14 f14 => ?_
  refine wpList_nil (hK7 _ _ ?_)
  have f15 := f14.sub (sc 0 (sc 1 (sc 5 (sc 7 (sc 8 sn)))))
  refine wp_seq_k fun K8 hK8 => C.region ?_
  refine L.mv f15 fun a16 f16 => ?_
  refine L.mv f16 fun a17 f17 => ?_
  refine L.mv f17 fun a18 f18 => ?_
  refine L.va f18 (E.indexA f18 (by assumption) U26 wsz3_wb rfl rfl (by omega) (by omega)) fun a19 f19 => ?_
  clear f10 f11 f12 a9 f13 a13 f14 f15 a14 f16 a16 f17 a17 f18 a18
  refine L.va f19 (by exact E.load f19 U3 rfl rfl (code_cell1 A1 hA hd)) fun a20 f20 => ?_
  refine L.cl f20 (cv1_0 f20 rfl Tryd.call77 rfl) (cod_any _ _) ?_
  clear f19 a19
  rintro e wx ⟨rfl, rfl⟩
  refine ⟨_, rfl, fun a21 f21 => ?_⟩
  refine wpList_nil (hK8 _ _ ?_)
  have f22 := f21.sub (sc 0 (sc 1 (sc 5 (sc 7 (sc 8 (sc 16 sn))))))
  clear f20 a20 f21
  refine f22.splitNB 16 rfl (fun h1 f23 => ?_) (fun h1 f23 => ?_)
  ·have hc := h1
   refine C.condT f23 rfl ?_
   refine wp_seq_k fun K9 hK9 => C.region ?_
   refine L.mv f23 fun a24 f24 => ?_
   refine L.ag f24 fun a25 f25 => ?_
   refine wpList_nil (hK9 _ _ ?_)
   have f26 := f25.sub (sc 4 sn)
   refine wp_ret ?_
   try simp only [Exit.inBlock, Exit.then]
   refine C.ret (P := Tryd.prog) (fn := Tryd.f88) f26 rfl rfl ?_
   exact ⟨rfl, _, rfl, by rw [codB_f (List.mem_of_getElem? hd) (by simpa using hc)]; simp⟩
  have hc := h1
  refine C.condF f23 rfl ?_
  refine wp_skip (hK6 _ _ ?_)
  have f24 := f23.sub (sc 0 (sc 1 (sc 7 (sc 8 sn))))
  refine C.region ?_
  refine L.va f24 (E.add f24 rfl rfl (IntWalk.i64_in _ (by omega))) fun a25 f25 => ?_
  refine L.mv f25 fun a26 f26 => ?_
  clear f22 f23 f24 a21 f25 a25
  refine wpList_nil (hKL3 _ _ (gk4 - 1) ?_ ?_)
  ·omega
  exact ⟨rfl, k + 1, by omega, in_take hq hd (by simpa using hc), f26.sub (sub_cons rfl (sub_cons rfl (sub_cons rfl (sub_cons rfl sn))))⟩
 refine C.condF f11 rfl ?_
 refine wp_exit (hK1 _ _ ?_)
 have f12 := f11.sub sn
 refine wp_seq_k fun K10 hK10 => C.region ?_
 refine L.ag f12 fun a13 f13 => ?_
 refine wpList_nil (hK10 _ _ ?_)
 have f14 := f13.sub (sc 4 sn)
 refine wp_ret ?_
 try simp only [Exit.inBlock, Exit.then]
 refine C.ret (P := Tryd.prog) (fn := Tryd.f88) f14 rfl rfl ?_
 exact ⟨rfl, _, rfl, by rw [codB_t (all_take hq (by omega))]; simp⟩
set_option maxHeartbeats 1000000 in
theorem con_any (l : List Int) (A : Option Addr) (c : Nat) (w : World) (A1 : Sl w A l.length 1 (codeCells l)) (hm : l.length ≤ 1000000) : Calls Tryd.prog 76 #[.slice A l.length c, .func (.func 77) #[] #[]] w (fun e w' => w = w' ∧ e = .returned (.bool (!codB l))) := by
 refine C.enter Tryd.func76 rfl Tryd.ntmps76 rfl ?_
 intro a0 f0
 have f1 : Fr 9 a0 [(0, .slice A l.length c), (1, .func (.func 77) #[] #[])] := f0
 refine wp_seq_k fun K0 hK0 => C.region ?_
 refine L.ag f1 fun a2 f2 => ?_
 refine wpList_nil (hK0 _ _ ?_)
 have f3 := f2.sub (sc 0 (sc 1 sn))
 refine wp_seq_k fun K1 hK1 => C.region ?_
 refine L.mv f3 fun a4 f4 => ?_
 refine L.mv f4 fun a5 f5 => ?_
 refine L.cl f5 (run_call Tryd.call88 (args2 f5 rfl rfl)) (idx_any _ _ _ _ A1 hm) ?_
 clear f0 f1 a0 f2 f3 a2 f4 a4
 rintro e wx ⟨rfl, r, rfl, hr⟩
 refine ⟨_, rfl, fun a6 f6 => ?_⟩
 refine L.va f6 (E.geq f6 rfl rfl) fun a7 f7 => ?_
 refine L.ag f7 fun a8 f8 => ?_
 refine wpList_nil (hK1 _ _ ?_)
 have f9 := f8.sub (sc 4 sn)
 refine wp_ret ?_
 try simp only [Exit.inBlock, Exit.then]
 refine C.ret (P := Tryd.prog) (fn := Tryd.f76) f9 rfl rfl ?_
 exact ⟨rfl, by rw [con_eq hr]⟩
set_option maxRecDepth 100000 in
set_option maxHeartbeats 2000000 in
theorem val_any (p : Pk) (s : Ad) (w : World) (IP : p.In w s) (hT : Tabs w) (hl : p.subs.length ≤ 1000000) (hl2 : p.codes.length ≤ 1000000) : Calls Tryd.prog 46 #[.agg (p.cells s)] w (fun e w' => Kept [] w w' ∧ e = .returned (.bool (valB p))) := by
 have HK : Kept [] w w := Kept.refl [] w
 refine C.enter Tryd.func46 rfl Tryd.ntmps46 rfl ?_
 intro a0 f0
 have f1 : Fr 114 a0 [(0, .agg (p.cells s))] := f0
 refine wp_seq_k fun K0 hK0 => C.region ?_
 refine L.box f1 wantedN (by decide) rfl rfl fun a2 w1 g0 N0 f2 => ?_
 have Bg0 := N0.blk
 have kg0 := N0.kept
 have log0 := N0.lo
 have ltg0 := Bg0.lt
 have szw1 := kg0.size
 have frg0 : w.heap.size ≤ g0 := Nat.le_trans HK.size log0
 replace HK := HK.trans kg0 (by simp)
 clear N0 kg0
 refine L.ag f2 fun a3 f3 => ?_
 refine wpList_nil (hK0 _ _ ?_)
 have f4 := f3.sub (sc 1 sn)
 obtain ⟨J3, hJ3⟩ : ∃ J : Act → World → Prop, J = fun a W => Kept [] w W ∧ Blk W g0 28 (p.cells s) ∧ (!numB p || inB p.id 1 65535) = true ∧ Fr 114 a [(1, .pointer (some ⟨g0, 0, none⟩))] := ⟨_, rfl⟩
 clear f0 f1 a0 f2 a2 f3
 refine C.cut J3 ?_ ?_
 ·skip
  refine wp_seq_k fun K1 hK1 => C.region ?_
  refine L.va f4 (by exact E.loadB f4 U28 rfl wsz28_wb rfl (Bg0) rfl) fun a5 f5 => ?_
  refine L.cl f5 (run_call Tryd.call67 (args1 f5 rfl)) (num_any p s _) ?_
  clear f4 a3
  rintro e w2 ⟨kc2, rfl⟩
  refine ⟨_, rfl, fun a6 f6 => ?_⟩
  have szw2 := kc2.size
  replace HK := HK.trans kc2 (by simp)
  replace Bg0 := Bg0.kept kc2 (by simp)
  clear kc2
  refine L.mv f6 fun a7 f7 => ?_
  clear f5 a5 f6 a6
  refine f7.split 5 rfl (fun h0 f8 => ?_) (fun h0 f8 => ?_)
  ·refine L.fa 4 f8 U28 rfl wsz3_wb (hw := (f8.yes rfl rfl)) fun a9 f9 => ?_
   refine L.ld f9 U3 Bg0 (hw := (f9.yes rfl rfl)) fun a10 f10 => ?_
   refine L.cl f10 (run_call Tryd.call44 (args3 f10 rfl rfl rfl)) (in_any _ _ _ _) ?_ (hw := (f10.yes rfl rfl))
   clear f7 f8 a7 f9 a9
   rintro e w2x ⟨rfl, rfl⟩
   refine ⟨_, rfl, fun a11 f11 => ?_⟩
   clear f10 a10
   refine f11.split 8 rfl (fun h1 f12 => ?_) (fun h1 f12 => ?_)
   ·have h8_ := h1
    refine L.va f12 (E.not f12 rfl) (hw := (f12.yes rfl rfl)) fun a13 f13 => ?_
    refine L.va f13 (E.pickT f13 rfl rfl) fun a14 f14 => ?_
    refine wpList_nil (hK1 _ _ ?_)
    have f15 := f14.sub (sc 1 (sc 10 sn))
    refine C.condF f15 rfl ?_
    exact wp_skip (then_of (J := J3) (Q := fun _ _ _ => True) (by rw [hJ3]; exact ⟨HK, Bg0, by simp [*], f15.sub (sub_cons rfl sn)⟩))
   have h8_ := h1
   refine L.va f12 (E.not f12 rfl) (hw := (f12.yes rfl rfl)) fun a13 f13 => ?_
   refine L.va f13 (E.pickT f13 rfl rfl) fun a14 f14 => ?_
   refine wpList_nil (hK1 _ _ ?_)
   have f15 := f14.sub (sc 1 (sc 10 sn))
   refine C.condT f15 rfl ?_
   refine wp_seq_k fun K2 hK2 => C.region ?_
   refine L.ag f15 fun a16 f16 => ?_
   refine wpList_nil (hK2 _ _ ?_)
   have f17 := f16.sub (sc 2 sn)
   refine wp_ret ?_
   try simp only [Exit.inBlock, Exit.then]
   refine C.ret (P := Tryd.prog) (fn := Tryd.f46) f17 rfl rfl ?_
   refine ⟨HK, ?_⟩
   clear f11 f12 a11 f13 a13 f14 f15 a14 f16
   unfold valB
   (simp [*]; done)
  refine L.sk f8 (f8.noT rfl rfl) fun a9 f9 => ?_
  refine L.sk f9 (f9.noT rfl rfl) fun a10 f10 => ?_
  refine L.sk f10 (f10.noT rfl rfl) fun a11 f11 => ?_
  refine L.sk f11 (f11.noT rfl rfl) fun a12 f12 => ?_
  refine L.va f12 (E.pickF f12 rfl rfl) fun a13 f13 => ?_
  refine wpList_nil (hK1 _ _ ?_)
  have f14 := f13.sub (sc 1 (sc 10 sn))
  refine C.condF f14 rfl ?_
  exact wp_skip (then_of (J := J3) (Q := fun _ _ _ => True) (by rw [hJ3]; exact ⟨HK, Bg0, by simp [*], f14.sub (sub_cons rfl sn)⟩))
 intro a5 w2 hj
 rw [hJ3] at hj
 clear hJ3 J3
 obtain ⟨HK, Bg0, hnum, f5⟩ := hj
 try clear f4
 refine wp_seq_k fun K3 hK3 => ?_
 refine wp_seq_k fun K4 hK4 => C.region ?_
 refine L.fa 0 f5 U28 rfl wsz3_wb fun a6 f6 => ?_
 refine L.ld f6 U3 Bg0 fun a7 f7 => ?_
 refine wpList_nil (hK4 _ _ ?_)
 have f8 := f7.sub (sc 1 (sc 12 sn))
 refine wp_block ?_
 refine wp_seq_k fun K5 hK5 => C.region ?_
 refine L.va f8 (E.eq f8) fun a9 f9 => ?_
 refine L.ag f9 fun a10 f10 => ?_
 refine wpList_nil (hK5 _ _ ?_)
 have f11 := f10.sub (sc 1 (sc 12 (sc 13 sn)))
 clear f5 a5 f6 a6 f7 f8 a7 f9 a9 f10
 refine f11.splitD 13 rfl (fun h2 f12 => ?_) (fun h2 f12 => ?_)
 ·refine C.condT f12 rfl ?_
  refine wp_seq_k fun K6 hK6 => C.region ?_
  refine L.fa 7 f12 U28 rfl wsz3_wb fun a13 f13 => ?_
  refine L.ld f13 U3 Bg0 fun a14 f14 => ?_
  refine L.cl f14 (run_call Tryd.call44 (args3 f14 rfl rfl rfl)) (in_any _ _ _ _) ?_
  clear f11 f12 a10 f13 a13
  rintro e w2x ⟨rfl, rfl⟩
  refine ⟨_, rfl, fun a15 f15 => ?_⟩
  refine L.mv f15 fun a16 f16 => ?_
  clear f14 a14 f15 a15
  refine f16.split 18 rfl (fun h3 f17 => ?_) (fun h3 f17 => ?_)
  ·refine L.fa 10 f17 U28 rfl wsz3_wb (hw := (f17.yes rfl rfl)) fun a18 f18 => ?_
   refine L.ld f18 U3 Bg0 (hw := (f18.yes rfl rfl)) fun a19 f19 => ?_
   refine L.cl f19 (run_call Tryd.call44 (args3 f19 rfl rfl rfl)) (in_any _ _ _ _) ?_ (hw := (f19.yes rfl rfl))
   clear f16 f17 a16 f18 a18
   rintro e w2x ⟨rfl, rfl⟩
   refine ⟨_, rfl, fun a20 f20 => ?_⟩
   refine L.va f20 (E.pickT f20 rfl rfl) fun a21 f21 => ?_
   refine L.mv f21 fun a22 f22 => ?_
   clear f19 a19 f20 a20 f21 a21
   refine f22.split 23 rfl (fun h4 f23 => ?_) (fun h4 f23 => ?_)
   ·refine L.fa 8 f23 U28 rfl wsz9_wb (hw := (f23.yes rfl rfl)) fun a24 f24 => ?_
    refine L.ld f24 U9 Bg0 (hw := (f24.yes rfl rfl)) fun a25 f25 => ?_
    refine L.cl f25 (run_call Tryd.call74 (args1 f25 rfl)) (text_any _ _ (hT.old (HK.below (by simp) (Nat.le_refl _)))) ?_ (hw := (f25.yes rfl rfl))
    clear f22 f23 a22 f24 a24
    rintro e w3 ⟨kc3, rfl⟩
    refine ⟨_, rfl, fun a26 f26 => ?_⟩
    have szw3 := kc3.size
    replace HK := HK.trans kc3 (by simp)
    replace Bg0 := Bg0.kept kc3 (by simp)
    clear kc3
    refine L.va f26 (E.pickT f26 rfl rfl) fun a27 f27 => ?_
    refine L.mv f27 fun a28 f28 => ?_
    clear f25 a25 f26 a26 f27 a27
    refine f28.split 28 rfl (fun h5 f29 => ?_) (fun h5 f29 => ?_)
    ·refine L.fa 12 f29 U28 rfl wsz24_wb (hw := (f29.yes rfl rfl)) fun a30 f30 => ?_
     refine L.fa 0 f30 U24 rfl wsz9_wb (hw := (f30.yes rfl rfl)) fun a31 f31 => ?_
     refine L.ld f31 U9 Bg0 (hw := (f31.yes rfl rfl)) fun a32 f32 => ?_
     refine L.cl f32 (run_call Tryd.call74 (args1 f32 rfl)) (text_any _ _ (hT.old (HK.below (by simp) (Nat.le_refl _)))) ?_ (hw := (f32.yes rfl rfl))
     clear f28 f29 a28 f30 a30 f31 a31
     rintro e w4 ⟨kc4, rfl⟩
     refine ⟨_, rfl, fun a33 f33 => ?_⟩
     have szw4 := kc4.size
     replace HK := HK.trans kc4 (by simp)
     replace Bg0 := Bg0.kept kc4 (by simp)
     clear kc4
     refine L.va f33 (E.pickT f33 rfl rfl) fun a34 f34 => ?_
     refine L.mv f34 fun a35 f35 => ?_
     clear f32 a32 f33 a33 f34 a34
     refine f35.split 34 rfl (fun h6 f36 => ?_) (fun h6 f36 => ?_)
     ·refine L.fa 12 f36 U28 rfl wsz24_wb (hw := (f36.yes rfl rfl)) fun a37 f37 => ?_
      refine L.fa 1 f37 U24 rfl wsz22_wb (hw := (f37.yes rfl rfl)) fun a38 f38 => ?_
      refine L.ld f38 U22 Bg0 (hw := (f38.yes rfl rfl)) fun a39 f39 => ?_
      refine L.va f39 (E.lenL f39 U22 rfl) (hw := (f39.yes rfl rfl)) fun a40 f40 => ?_
      refine L.va f40 (E.leq f40 rfl rfl) (hw := (f40.yes rfl rfl)) fun a41 f41 => ?_
      refine L.va f41 (E.pickT f41 rfl rfl) fun a42 f42 => ?_
      refine L.mv f42 fun a43 f43 => ?_
      clear f35 f36 a35 f37 a37 f38 a38 f39 a39 f40 a40 f41 a41 f42 a42
      refine f43.splitD 41 rfl (fun h7 f44 => ?_) (fun h7 f44 => ?_)
      ·have hlw : p.wp.length ≤ 65535 := by omega
       refine L.fa 12 f44 U28 rfl wsz24_wb (hw := (f44.yes rfl rfl)) fun a45 f45 => ?_
       refine L.fa 2 f45 U24 rfl wsz3_wb (hw := (f45.yes rfl rfl)) fun a46 f46 => ?_
       refine L.ld f46 U3 Bg0 (hw := (f46.yes rfl rfl)) fun a47 f47 => ?_
       refine L.cl f47 (run_call Tryd.call44 (args3 f47 rfl rfl rfl)) (in_any _ _ _ _) ?_ (hw := (f47.yes rfl rfl))
       clear f43 f44 a43 f45 a45 f46 a46
       rintro e w4x ⟨rfl, rfl⟩
       refine ⟨_, rfl, fun a48 f48 => ?_⟩
       refine L.va f48 (E.pickT f48 rfl rfl) fun a49 f49 => ?_
       refine L.mv f49 fun a50 f50 => ?_
       clear f47 a47 f48 a48 f49 a49
       refine f50.split 47 rfl (fun h8 f51 => ?_) (fun h8 f51 => ?_)
       ·refine L.fa 18 f51 U28 rfl wsz9_wb (hw := (f51.yes rfl rfl)) fun a52 f52 => ?_
        refine L.ld f52 U9 Bg0 (hw := (f52.yes rfl rfl)) fun a53 f53 => ?_
        refine L.cl f53 (run_call Tryd.call74 (args1 f53 rfl)) (text_any _ _ (hT.old (HK.below (by simp) (Nat.le_refl _)))) ?_ (hw := (f53.yes rfl rfl))
        clear f50 f51 a50 f52 a52
        rintro e w5 ⟨kc5, rfl⟩
        refine ⟨_, rfl, fun a54 f54 => ?_⟩
        have szw5 := kc5.size
        replace HK := HK.trans kc5 (by simp)
        replace Bg0 := Bg0.kept kc5 (by simp)
        clear kc5
        refine L.va f54 (E.pickT f54 rfl rfl) fun a55 f55 => ?_
        refine L.mv f55 fun a56 f56 => ?_
        clear f53 a53 f54 a54 f55 a55
        refine f56.split 52 rfl (fun h9 f57 => ?_) (fun h9 f57 => ?_)
        ·refine L.fa 19 f57 U28 rfl wsz22_wb (hw := (f57.yes rfl rfl)) fun a58 f58 => ?_
         refine L.ld f58 U22 Bg0 (hw := (f58.yes rfl rfl)) fun a59 f59 => ?_
         refine L.va f59 (E.lenL f59 U22 rfl) (hw := (f59.yes rfl rfl)) fun a60 f60 => ?_
         refine L.va f60 (E.leq f60 rfl rfl) (hw := (f60.yes rfl rfl)) fun a61 f61 => ?_
         refine L.va f61 (E.pickT f61 rfl rfl) fun a62 f62 => ?_
         refine L.mv f62 fun a63 f63 => ?_
         clear f56 f57 a56 f58 a58 f59 a59 f60 a60 f61 a61 f62 a62
         refine f63.splitD 58 rfl (fun h10 f64 => ?_) (fun h10 f64 => ?_)
         ·have hlp : p.pass.length ≤ 65535 := by omega
          refine L.fa 16 f64 U28 rfl wsz4_wb (hw := (f64.yes rfl rfl)) fun a65 f65 => ?_
          refine L.ld f65 U4 Bg0 (hw := (f65.yes rfl rfl)) fun a66 f66 => ?_
          refine L.mv f66 (hw := (f66.yes rfl rfl)) fun a67 f67 => ?_
          clear f63 f64 a63 f65 a65 f66 a66
          refine f67.split 61 rfl (fun h11 f68 => ?_) (fun h11 f68 => ?_)
          ·refine L.run f68 (rest' := []) (by kernel_rfl) fun a69 f69 => ?_
           clear f67
           skip
           refine wpList_nil (hK6 _ _ ?_)
           have f70 := f69.sub (sub_cons (i := 2) (v := .bool true) (by kernel_rfl) sn)
           refine wp_ret ?_
           try simp only [Exit.inBlock, Exit.then]
           refine C.ret (P := Tryd.prog) (fn := Tryd.f46) f70 rfl rfl ?_
           refine ⟨HK, ?_⟩
           clear f69 f68
           unfold valB
           (simp [*]; done)
          refine L.fa 17 f68 U28 rfl wsz4_wb (hw := (f68.yes rfl rfl)) fun a69 f69 => ?_
          refine L.ld f69 U4 Bg0 (hw := (f69.yes rfl rfl)) fun a70 f70 => ?_
          refine L.va f70 (E.not f70 rfl) (hw := (f70.yes rfl rfl)) fun a71 f71 => ?_
          refine L.va f71 (E.pickF f71 rfl rfl) (hw := (f71.yes rfl rfl)) fun a72 f72 => ?_
          refine L.va f72 (E.pickT f72 rfl rfl) fun a73 f73 => ?_
          refine L.ag f73 fun a74 f74 => ?_
          refine wpList_nil (hK6 _ _ ?_)
          have f75 := f74.sub (sc 2 sn)
          clear f67 f68 a67 f69 a69 f70 a70 f71 a71 f72 a72 f73 a73 f74
          refine wp_ret ?_
          try simp only [Exit.inBlock, Exit.then]
          refine C.ret (P := Tryd.prog) (fn := Tryd.f46) f75 rfl rfl ?_
          refine ⟨HK, ?_⟩
          unfold valB
          (simp [*]; done)
         have hlp : ¬ p.pass.length ≤ 65535 := by omega
         refine L.run f64 (rest' := []) (by kernel_rfl) fun a65 f65 => ?_
         clear f63
         skip
         refine wpList_nil (hK6 _ _ ?_)
         have f66 := f65.sub (sub_cons (i := 2) (v := .bool false) (by kernel_rfl) sn)
         refine wp_ret ?_
         try simp only [Exit.inBlock, Exit.then]
         refine C.ret (P := Tryd.prog) (fn := Tryd.f46) f66 rfl rfl ?_
         refine ⟨HK, ?_⟩
         clear f65 f64
         unfold valB
         (simp [*]; done)
        refine L.run f57 (rest' := []) (by kernel_rfl) fun a58 f58 => ?_
        clear f56
        skip
        refine wpList_nil (hK6 _ _ ?_)
        have f59 := f58.sub (sub_cons (i := 2) (v := .bool false) (by kernel_rfl) sn)
        refine wp_ret ?_
        try simp only [Exit.inBlock, Exit.then]
        refine C.ret (P := Tryd.prog) (fn := Tryd.f46) f59 rfl rfl ?_
        refine ⟨HK, ?_⟩
        clear f58 f57
        unfold valB
        (simp [*]; done)
       refine L.run f51 (rest' := []) (by kernel_rfl) fun a52 f52 => ?_
       clear f50
       skip
       refine wpList_nil (hK6 _ _ ?_)
       have f53 := f52.sub (sub_cons (i := 2) (v := .bool false) (by kernel_rfl) sn)
       refine wp_ret ?_
       try simp only [Exit.inBlock, Exit.then]
       refine C.ret (P := Tryd.prog) (fn := Tryd.f46) f53 rfl rfl ?_
       refine ⟨HK, ?_⟩
       clear f52 f51
       unfold valB
       (simp [*]; done)
      have hlw : ¬ p.wp.length ≤ 65535 := by omega
      refine L.run f44 (rest' := []) (by kernel_rfl) fun a45 f45 => ?_
      clear f43
      skip
      refine wpList_nil (hK6 _ _ ?_)
      have f46 := f45.sub (sub_cons (i := 2) (v := .bool false) (by kernel_rfl) sn)
      refine wp_ret ?_
      try simp only [Exit.inBlock, Exit.then]
      refine C.ret (P := Tryd.prog) (fn := Tryd.f46) f46 rfl rfl ?_
      refine ⟨HK, ?_⟩
      clear f45 f44
      unfold valB
      (simp [*]; done)
     refine L.run f36 (rest' := []) (by kernel_rfl) fun a37 f37 => ?_
     clear f35
     skip
     refine wpList_nil (hK6 _ _ ?_)
     have f38 := f37.sub (sub_cons (i := 2) (v := .bool false) (by kernel_rfl) sn)
     refine wp_ret ?_
     try simp only [Exit.inBlock, Exit.then]
     refine C.ret (P := Tryd.prog) (fn := Tryd.f46) f38 rfl rfl ?_
     refine ⟨HK, ?_⟩
     clear f37 f36
     unfold valB
     (simp [*]; done)
    refine L.run f29 (rest' := []) (by kernel_rfl) fun a30 f30 => ?_
    clear f28
    skip
    refine wpList_nil (hK6 _ _ ?_)
    have f31 := f30.sub (sub_cons (i := 2) (v := .bool false) (by kernel_rfl) sn)
    refine wp_ret ?_
    try simp only [Exit.inBlock, Exit.then]
    refine C.ret (P := Tryd.prog) (fn := Tryd.f46) f31 rfl rfl ?_
    refine ⟨HK, ?_⟩
    clear f30 f29
    unfold valB
    (simp [*]; done)
   refine L.run f23 (rest' := []) (by kernel_rfl) fun a24 f24 => ?_
   clear f22
   skip
   refine wpList_nil (hK6 _ _ ?_)
   have f25 := f24.sub (sub_cons (i := 2) (v := .bool false) (by kernel_rfl) sn)
   refine wp_ret ?_
   try simp only [Exit.inBlock, Exit.then]
   refine C.ret (P := Tryd.prog) (fn := Tryd.f46) f25 rfl rfl ?_
   refine ⟨HK, ?_⟩
   clear f24 f23
   unfold valB
   (simp [*]; done)
  refine L.run f17 (rest' := []) (by kernel_rfl) fun a18 f18 => ?_
  clear f16
  skip
  refine wpList_nil (hK6 _ _ ?_)
  have f19 := f18.sub (sub_cons (i := 2) (v := .bool false) (by kernel_rfl) sn)
  refine wp_ret ?_
  try simp only [Exit.inBlock, Exit.then]
  refine C.ret (P := Tryd.prog) (fn := Tryd.f46) f19 rfl rfl ?_
  refine ⟨HK, ?_⟩
  clear f18 f17
  unfold valB
  (simp [*]; done)
 refine C.condF f12 rfl ?_
 refine wp_seq_k fun K7 hK7 => C.region ?_
 refine L.va f12 (E.eq f12) fun a13 f13 => ?_
 refine L.ag f13 fun a14 f14 => ?_
 refine wpList_nil (hK7 _ _ ?_)
 have f15 := f14.sub (sc 1 (sc 12 (sc 67 sn)))
 clear f11 f12 a10 f13 a13 f14
 refine f15.splitD 67 rfl (fun h12 f16 => ?_) (fun h12 f16 => ?_)
 ·refine C.condT f16 rfl ?_
  refine wp_seq_k fun K8 hK8 => C.region ?_
  refine L.fa 21 f16 U28 rfl wsz3_wb fun a17 f17 => ?_
  refine L.ld f17 U3 Bg0 fun a18 f18 => ?_
  refine L.cl f18 (run_call Tryd.call44 (args3 f18 rfl rfl rfl)) (in_any _ _ _ _) ?_
  clear f15 f16 a14 f17 a17
  rintro e w2x ⟨rfl, rfl⟩
  refine ⟨_, rfl, fun a19 f19 => ?_⟩
  refine L.mv f19 fun a20 f20 => ?_
  clear f18 a18 f19 a19
  refine f20.split 72 rfl (fun h13 f21 => ?_) (fun h13 f21 => ?_)
  ·refine L.fa 21 f21 U28 rfl wsz3_wb (hw := (f21.yes rfl rfl)) fun a22 f22 => ?_
   refine L.ld f22 U3 Bg0 (hw := (f22.yes rfl rfl)) fun a23 f23 => ?_
   refine L.va f23 (E.eq f23) (hw := (f23.yes rfl rfl)) fun a24 f24 => ?_
   refine L.mv f24 (hw := (f24.yes rfl rfl)) fun a25 f25 => ?_
   clear f20 f21 a20 f22 a22 f23 a23 f24 a24
   refine f25.splitD 76 rfl (fun h14 f26 => ?_) (fun h14 f26 => ?_)
   ·refine L.run f26 (rest' := []) (by kernel_rfl) fun a27 f27 => ?_
    clear f25
    skip
    refine wpList_nil (hK8 _ _ ?_)
    have f28 := f27.sub (sub_cons (i := 2) (v := .bool true) (by kernel_rfl) sn)
    refine wp_ret ?_
    try simp only [Exit.inBlock, Exit.then]
    refine C.ret (P := Tryd.prog) (fn := Tryd.f46) f28 rfl rfl ?_
    refine ⟨HK, ?_⟩
    clear f27 f26
    unfold valB
    (simp [*]; decide)
   refine L.fa 20 f26 U28 rfl wsz4_wb (hw := (f26.yes rfl rfl)) fun a27 f27 => ?_
   refine L.ld f27 U4 Bg0 (hw := (f27.yes rfl rfl)) fun a28 f28 => ?_
   refine L.va f28 (E.not f28 rfl) (hw := (f28.yes rfl rfl)) fun a29 f29 => ?_
   refine L.va f29 (E.pickF f29 rfl rfl) (hw := (f29.yes rfl rfl)) fun a30 f30 => ?_
   refine L.va f30 (E.pickT f30 rfl rfl) fun a31 f31 => ?_
   refine L.ag f31 fun a32 f32 => ?_
   refine wpList_nil (hK8 _ _ ?_)
   have f33 := f32.sub (sc 2 sn)
   clear f25 f26 a25 f27 a27 f28 a28 f29 a29 f30 a30 f31 a31 f32
   refine wp_ret ?_
   try simp only [Exit.inBlock, Exit.then]
   refine C.ret (P := Tryd.prog) (fn := Tryd.f46) f33 rfl rfl ?_
   refine ⟨HK, ?_⟩
   unfold valB
   (simp [*]; done)
  refine L.run f21 (rest' := []) (by kernel_rfl) fun a22 f22 => ?_
  clear f20
  skip
  refine wpList_nil (hK8 _ _ ?_)
  have f23 := f22.sub (sub_cons (i := 2) (v := .bool false) (by kernel_rfl) sn)
  refine wp_ret ?_
  try simp only [Exit.inBlock, Exit.then]
  refine C.ret (P := Tryd.prog) (fn := Tryd.f46) f23 rfl rfl ?_
  refine ⟨HK, ?_⟩
  clear f22 f21
  unfold valB
  (simp [*]; done)
 refine C.condF f16 rfl ?_
 refine wp_seq_k fun K9 hK9 => C.region ?_
 refine L.va f16 (E.eq f16) fun a17 f17 => ?_
 refine L.ag f17 fun a18 f18 => ?_
 refine wpList_nil (hK9 _ _ ?_)
 have f19 := f18.sub (sc 1 (sc 12 (sc 82 sn)))
 clear f15 f16 a14 f17 a17 f18
 refine f19.splitD 82 rfl (fun h15 f20 => ?_) (fun h15 f20 => ?_)
 ·refine C.condT f20 rfl ?_
  refine wp_seq_k fun K10 hK10 => C.region ?_
  refine L.fa 3 f20 U28 rfl wsz3_wb fun a21 f21 => ?_
  refine L.ld f21 U3 Bg0 fun a22 f22 => ?_
  refine L.cl f22 (run_call Tryd.call44 (args3 f22 rfl rfl rfl)) (in_any _ _ _ _) ?_
  clear f19 f20 a18 f21 a21
  rintro e w2x ⟨rfl, rfl⟩
  refine ⟨_, rfl, fun a23 f23 => ?_⟩
  refine L.mv f23 fun a24 f24 => ?_
  clear f22 a22 f23 a23
  refine f24.split 87 rfl (fun h16 f25 => ?_) (fun h16 f25 => ?_)
  ·refine L.fa 5 f25 U28 rfl wsz9_wb (hw := (f25.yes rfl rfl)) fun a26 f26 => ?_
   refine L.ld f26 U9 Bg0 (hw := (f26.yes rfl rfl)) fun a27 f27 => ?_
   refine L.cl f27 (run_call Tryd.call74 (args1 f27 rfl)) (text_any _ _ (hT.old (HK.below (by simp) (Nat.le_refl _)))) ?_ (hw := (f27.yes rfl rfl))
   clear f24 f25 a24 f26 a26
   rintro e w3 ⟨kc3, rfl⟩
   refine ⟨_, rfl, fun a28 f28 => ?_⟩
   have szw3 := kc3.size
   replace HK := HK.trans kc3 (by simp)
   replace Bg0 := Bg0.kept kc3 (by simp)
   clear kc3
   refine L.va f28 (E.pickT f28 rfl rfl) fun a29 f29 => ?_
   refine L.ag f29 fun a30 f30 => ?_
   refine wpList_nil (hK10 _ _ ?_)
   have f31 := f30.sub (sc 2 sn)
   refine wp_ret ?_
   try simp only [Exit.inBlock, Exit.then]
   refine C.ret (P := Tryd.prog) (fn := Tryd.f46) f31 rfl rfl ?_
   refine ⟨HK, ?_⟩
   clear f27 a27 f28 a28 f29 a29 f30
   unfold valB
   (simp [*]; done)
  refine L.run f25 (rest' := []) (by kernel_rfl) fun a26 f26 => ?_
  clear f24
  skip
  refine wpList_nil (hK10 _ _ ?_)
  have f27 := f26.sub (sub_cons (i := 2) (v := .bool false) (by kernel_rfl) sn)
  refine wp_ret ?_
  try simp only [Exit.inBlock, Exit.then]
  refine C.ret (P := Tryd.prog) (fn := Tryd.f46) f27 rfl rfl ?_
  refine ⟨HK, ?_⟩
  clear f26 f25
  unfold valB
  (simp [*]; done)
 refine C.condF f20 rfl ?_
 refine wp_seq_k fun K11 hK11 => C.region ?_
 refine L.va f20 (E.eq f20) fun a21 f21 => ?_
 refine L.ag f21 fun a22 f22 => ?_
 refine wpList_nil (hK11 _ _ ?_)
 have f23 := f22.sub (sc 1 (sc 12 (sc 92 sn)))
 clear f19 f20 a18 f21 a21 f22
 refine f23.splitD 92 rfl (fun h17 f24 => ?_) (fun h17 f24 => ?_)
 ·refine C.condT f24 rfl ?_
  refine wp_seq_k fun K12 hK12 => C.region ?_
  refine L.fa 22 f24 U28 rfl wsz25_wb fun a25 f25 => ?_
  refine L.ld f25 U25 Bg0 fun a26 f26 => ?_
  refine L.cl f26 (run_call Tryd.call75 (args2 f26 rfl rfl)) (subs_any _ _ _ _ _ (hT.old (HK.below (by simp) (Nat.le_refl _))) (IP.subs.kept HK) hl) ?_
  clear f23 f24 a22 f25 a25
  rintro e w3 ⟨kc3, rfl⟩
  refine ⟨_, rfl, fun a27 f27 => ?_⟩
  have szw3 := kc3.size
  replace HK := HK.trans kc3 (by simp)
  replace Bg0 := Bg0.kept kc3 (by simp)
  clear kc3
  refine L.ag f27 fun a28 f28 => ?_
  refine wpList_nil (hK12 _ _ ?_)
  have f29 := f28.sub (sc 2 sn)
  refine wp_ret ?_
  try simp only [Exit.inBlock, Exit.then]
  refine C.ret (P := Tryd.prog) (fn := Tryd.f46) f29 rfl rfl ?_
  refine ⟨HK, ?_⟩
  clear f26 a26 f27 a27 f28
  unfold valB
  (simp [*]; done)
 refine C.condF f24 rfl ?_
 refine wp_seq_k fun K13 hK13 => C.region ?_
 refine L.va f24 (E.eq f24) fun a25 f25 => ?_
 refine L.ag f25 fun a26 f26 => ?_
 refine wpList_nil (hK13 _ _ ?_)
 have f27 := f26.sub (sc 1 (sc 12 (sc 97 sn)))
 clear f23 f24 a22 f25 a25 f26
 refine f27.splitD 97 rfl (fun h18 f28 => ?_) (fun h18 f28 => ?_)
 ·refine C.condT f28 rfl ?_
  refine wp_seq_k fun K14 hK14 => C.region ?_
  refine L.fa 22 f28 U28 rfl wsz25_wb fun a29 f29 => ?_
  refine L.ld f29 U25 Bg0 fun a30 f30 => ?_
  refine L.cl f30 (run_call Tryd.call75 (args2 f30 rfl rfl)) (subs_any _ _ _ _ _ (hT.old (HK.below (by simp) (Nat.le_refl _))) (IP.subs.kept HK) hl) ?_
  clear f27 f28 a26 f29 a29
  rintro e w3 ⟨kc3, rfl⟩
  refine ⟨_, rfl, fun a31 f31 => ?_⟩
  have szw3 := kc3.size
  replace HK := HK.trans kc3 (by simp)
  replace Bg0 := Bg0.kept kc3 (by simp)
  clear kc3
  refine L.ag f31 fun a32 f32 => ?_
  refine wpList_nil (hK14 _ _ ?_)
  have f33 := f32.sub (sc 2 sn)
  refine wp_ret ?_
  try simp only [Exit.inBlock, Exit.then]
  refine C.ret (P := Tryd.prog) (fn := Tryd.f46) f33 rfl rfl ?_
  refine ⟨HK, ?_⟩
  clear f30 a30 f31 a31 f32
  unfold valB
  (simp [*]; done)
 refine C.condF f28 rfl ?_
 refine wp_seq_k fun K15 hK15 => C.region ?_
 refine L.va f28 (E.eq f28) fun a29 f29 => ?_
 refine L.ag f29 fun a30 f30 => ?_
 refine wpList_nil (hK15 _ _ ?_)
 have f31 := f30.sub (sc 1 (sc 102 sn))
 clear f27 f28 a26 f29 a29 f30
 refine f31.splitD 102 rfl (fun h19 f32 => ?_) (fun h19 f32 => ?_)
 ·refine C.condT f32 rfl ?_
  refine wp_seq_k fun K16 hK16 => C.region ?_
  refine L.fa 23 f32 U28 rfl wsz26_wb fun a33 f33 => ?_
  refine L.ld f33 U26 Bg0 fun a34 f34 => ?_
  refine L.va f34 (E.lenL f34 U26 rfl) fun a35 f35 => ?_
  refine L.va f35 (E.gtr f35 rfl rfl) fun a36 f36 => ?_
  refine L.mv f36 fun a37 f37 => ?_
  clear f31 f32 a30 f33 a33 f34 a34 f35 a35 f36 a36
  refine f37.splitD 108 rfl (fun h20 f38 => ?_) (fun h20 f38 => ?_)
  ·have hlc : 0 < p.codes.length := by omega
   refine L.fa 23 f38 U28 rfl wsz26_wb (hw := (f38.yes rfl rfl)) fun a39 f39 => ?_
   refine L.ld f39 U26 Bg0 (hw := (f39.yes rfl rfl)) fun a40 f40 => ?_
   refine L.cl f40 (run_call Tryd.call76 (args2 f40 rfl rfl)) (con_any _ _ _ _ (IP.codes.kept HK) hl2) ?_ (hw := (f40.yes rfl rfl))
   clear f37 f38 a37 f39 a39
   rintro e w2x ⟨rfl, rfl⟩
   refine ⟨_, rfl, fun a41 f41 => ?_⟩
   refine L.va f41 (E.not f41 rfl) (hw := (f41.yes rfl rfl)) fun a42 f42 => ?_
   refine L.va f42 (E.pickT f42 rfl rfl) fun a43 f43 => ?_
   refine L.ag f43 fun a44 f44 => ?_
   refine wpList_nil (hK16 _ _ ?_)
   have f45 := f44.sub (sc 2 sn)
   refine wp_ret ?_
   try simp only [Exit.inBlock, Exit.then]
   refine C.ret (P := Tryd.prog) (fn := Tryd.f46) f45 rfl rfl ?_
   refine ⟨HK, ?_⟩
   clear f40 a40 f41 a41 f42 a42 f43 a43 f44
   unfold valB
   (simp [*]; done)
  have hlc : ¬ 0 < p.codes.length := by omega
  refine L.run f38 (rest' := []) (by kernel_rfl) fun a39 f39 => ?_
  clear f37
  skip
  refine wpList_nil (hK16 _ _ ?_)
  have f40 := f39.sub (sub_cons (i := 2) (v := .bool false) (by kernel_rfl) sn)
  refine wp_ret ?_
  try simp only [Exit.inBlock, Exit.then]
  refine C.ret (P := Tryd.prog) (fn := Tryd.f46) f40 rfl rfl ?_
  refine ⟨HK, ?_⟩
  clear f39 f38
  unfold valB
  (simp [*]; done)
 refine C.condF f32 rfl ?_
 refine wp_skip (hK3 _ _ ?_)
 have f33 := f32.sub sn
 refine wp_seq_k fun K17 hK17 => C.region ?_
 refine L.ag f33 fun a34 f34 => ?_
 refine wpList_nil (hK17 _ _ ?_)
 have f35 := f34.sub (sc 2 sn)
 refine wp_ret ?_
 try simp only [Exit.inBlock, Exit.then]
 refine C.ret (P := Tryd.prog) (fn := Tryd.f46) f35 rfl rfl ?_
 refine ⟨HK, ?_⟩
 clear f31 f32 f33 a30 f34
 unfold valB
 (simp [*]; done)
set_option maxHeartbeats 1000000 in
theorem first_any (p : Pk) (s : Ad) (w : World) (hk : 0 ≤ p.kind ∧ p.kind ≤ 15) (hq : p.kind = 3 → 0 ≤ p.qos ∧ p.qos ≤ 3) : Calls Tryd.prog 40 #[.agg (p.cells s)] w (fun e w' => Kept [] w w' ∧ e = .returned (.int .u8 (b8 (firstI p)).toNat)) := by
 have HK : Kept [] w w := Kept.refl [] w
 refine C.enter Tryd.func40 rfl Tryd.ntmps40 rfl ?_
 intro a0 f0
 have f1 : Fr 29 a0 [(0, .agg (p.cells s))] := f0
 refine wp_seq_k fun K0 hK0 => C.region ?_
 refine L.box f1 wantedN (by decide) rfl rfl fun a2 w1 g0 N0 f2 => ?_
 have Bg0 := N0.blk
 have kg0 := N0.kept
 have log0 := N0.lo
 have ltg0 := Bg0.lt
 have szw1 := kg0.size
 have frg0 : w.heap.size ≤ g0 := Nat.le_trans HK.size log0
 replace HK := HK.trans kg0 (by simp)
 clear N0 kg0
 refine L.ag f2 fun a3 f3 => ?_
 refine wpList_nil (hK0 _ _ ?_)
 have f4 := f3.sub (sc 1 sn)
 refine wp_seq_k fun K1 hK1 => C.region ?_
 refine L.ag f4 fun a5 f5 => ?_
 refine wpList_nil (hK1 _ _ ?_)
 have f6 := f5.sub (sc 1 (sc 3 sn))
 refine wp_seq_k fun K2 hK2 => ?_
 refine wp_seq_k fun K3 hK3 => C.region ?_
 refine L.fa 0 f6 U28 rfl wsz3_wb fun a7 f7 => ?_
 refine L.ld f7 U3 Bg0 fun a8 f8 => ?_
 refine wpList_nil (hK3 _ _ ?_)
 have f9 := f8.sub (sc 1 (sc 3 (sc 5 sn)))
 clear f0 f1 a0 f2 a2 f3 f4 a3 f5 f6 a5 f7 a7 f8
 refine wp_block ?_
 refine wp_seq_k fun K4 hK4 => ?_
 refine wp_seq_k fun K5 hK5 => C.region ?_
 refine L.va f9 (E.eq f9) fun a10 f10 => ?_
 refine L.ag f10 fun a11 f11 => ?_
 refine wpList_nil (hK5 _ _ ?_)
 have f12 := f11.sub (sc 1 (sc 3 (sc 5 (sc 6 sn))))
 clear f9 a8 f10 a10 f11
 refine f12.splitD 6 rfl (fun h0 f13 => ?_) (fun h0 f13 => ?_)
 ·refine C.condT f13 rfl ?_
  refine wp_skip (hK4 _ _ ?_)
  have f14 := f13.sub (sc 1 (sc 3 (sc 5 (sc 6 sn))))
  refine C.condT f14 rfl ?_
  refine C.region ?_
  refine L.ag f14 fun a15 f15 => ?_
  refine wpList_nil (hK2 _ _ ?_)
  have f16 := f15.sub (sc 1 (sc 3 sn))
  refine wp_seq_k fun K6 hK6 => C.region ?_
  refine L.fa 0 f16 U28 rfl wsz3_wb fun a17 f17 => ?_
  refine L.ld f17 U3 Bg0 fun a18 f18 => ?_
  refine L.va f18 (E.shlN f18 rfl rfl (by decide) (by decide) (show IntKind.i64.wrap (p.kind * 2 ^ (4 : Int).toNat) = p.kind * 16 from IntWalk.i64_in _ (by simp; omega))) fun a19 f19 => ?_
  refine L.mv f19 fun a20 f20 => ?_
  refine L.va f20 (E.add f20 rfl rfl (IntWalk.i64_in _ (by omega))) fun a21 f21 => ?_
  clear f12 f13 f14 a11 f15 f16 a15 f17 a17 f18 a18 f19 a19 f20 a20
  refine L.va f21 (E.conv f21 U3 U5 rfl (wrap_u8 _)) fun a22 f22 => ?_
  refine L.ag f22 fun a23 f23 => ?_
  refine wpList_nil (hK6 _ _ ?_)
  have f24 := f23.sub (sc 2 sn)
  refine wp_ret ?_
  try simp only [Exit.inBlock, Exit.then]
  refine C.ret (P := Tryd.prog) (fn := Tryd.f40) f24 rfl rfl ?_
  exact ⟨HK, by rw [b8_val, firstI]; simp [*]⟩
 refine C.condF f13 rfl ?_
 refine wp_seq_k fun K7 hK7 => C.region ?_
 refine L.va f13 (E.eq f13) fun a14 f14 => ?_
 refine L.ag f14 fun a15 f15 => ?_
 refine wpList_nil (hK7 _ _ ?_)
 have f16 := f15.sub (sc 1 (sc 3 (sc 5 (sc 6 sn))))
 clear f12 f13 a11 f14 a14 f15
 refine f16.splitD 6 rfl (fun h1 f17 => ?_) (fun h1 f17 => ?_)
 ·refine C.condT f17 rfl ?_
  refine wp_skip (hK4 _ _ ?_)
  have f18 := f17.sub (sc 1 (sc 3 (sc 5 (sc 6 sn))))
  refine C.condT f18 rfl ?_
  refine C.region ?_
  refine L.ag f18 fun a19 f19 => ?_
  refine wpList_nil (hK2 _ _ ?_)
  have f20 := f19.sub (sc 1 (sc 3 sn))
  refine wp_seq_k fun K8 hK8 => C.region ?_
  refine L.fa 0 f20 U28 rfl wsz3_wb fun a21 f21 => ?_
  refine L.ld f21 U3 Bg0 fun a22 f22 => ?_
  refine L.va f22 (E.shlN f22 rfl rfl (by decide) (by decide) (show IntKind.i64.wrap (p.kind * 2 ^ (4 : Int).toNat) = p.kind * 16 from IntWalk.i64_in _ (by simp; omega))) fun a23 f23 => ?_
  refine L.mv f23 fun a24 f24 => ?_
  refine L.va f24 (E.add f24 rfl rfl (IntWalk.i64_in _ (by omega))) fun a25 f25 => ?_
  clear f16 f17 f18 a15 f19 f20 a19 f21 a21 f22 a22 f23 a23 f24 a24
  refine L.va f25 (E.conv f25 U3 U5 rfl (wrap_u8 _)) fun a26 f26 => ?_
  refine L.ag f26 fun a27 f27 => ?_
  refine wpList_nil (hK8 _ _ ?_)
  have f28 := f27.sub (sc 2 sn)
  refine wp_ret ?_
  try simp only [Exit.inBlock, Exit.then]
  refine C.ret (P := Tryd.prog) (fn := Tryd.f40) f28 rfl rfl ?_
  exact ⟨HK, by rw [b8_val, firstI]; simp [*]⟩
 refine C.condF f17 rfl ?_
 refine C.region ?_
 refine L.va f17 (E.eq f17) fun a18 f18 => ?_
 refine L.ag f18 fun a19 f19 => ?_
 refine wpList_nil (hK4 _ _ ?_)
 have f20 := f19.sub (sc 1 (sc 3 (sc 5 (sc 6 sn))))
 clear f16 f17 a15 f18 a18 f19
 refine f20.splitD 6 rfl (fun h2 f21 => ?_) (fun h2 f21 => ?_)
 ·refine C.condT f21 rfl ?_
  refine C.region ?_
  refine L.ag f21 fun a22 f22 => ?_
  refine wpList_nil (hK2 _ _ ?_)
  have f23 := f22.sub (sc 1 (sc 3 sn))
  refine wp_seq_k fun K9 hK9 => C.region ?_
  refine L.fa 0 f23 U28 rfl wsz3_wb fun a24 f24 => ?_
  refine L.ld f24 U3 Bg0 fun a25 f25 => ?_
  refine L.va f25 (E.shlN f25 rfl rfl (by decide) (by decide) (show IntKind.i64.wrap (p.kind * 2 ^ (4 : Int).toNat) = p.kind * 16 from IntWalk.i64_in _ (by simp; omega))) fun a26 f26 => ?_
  refine L.mv f26 fun a27 f27 => ?_
  refine L.va f27 (E.add f27 rfl rfl (IntWalk.i64_in _ (by omega))) fun a28 f28 => ?_
  clear f20 f21 a19 f22 f23 a22 f24 a24 f25 a25 f26 a26 f27 a27
  refine L.va f28 (E.conv f28 U3 U5 rfl (wrap_u8 _)) fun a29 f29 => ?_
  refine L.ag f29 fun a30 f30 => ?_
  refine wpList_nil (hK9 _ _ ?_)
  have f31 := f30.sub (sc 2 sn)
  refine wp_ret ?_
  try simp only [Exit.inBlock, Exit.then]
  refine C.ret (P := Tryd.prog) (fn := Tryd.f40) f31 rfl rfl ?_
  exact ⟨HK, by rw [b8_val, firstI]; simp [*]⟩
 refine C.condF f21 rfl ?_
 refine wp_seq_k fun K10 hK10 => C.region ?_
 refine L.va f21 (E.eq f21) fun a22 f22 => ?_
 refine L.ag f22 fun a23 f23 => ?_
 refine wpList_nil (hK10 _ _ ?_)
 have f24 := f23.sub (sc 1 (sc 3 (sc 10 sn)))
 clear f20 f21 a19 f22 a22 f23
 refine f24.splitD 10 rfl (fun h3 f25 => ?_) (fun h3 f25 => ?_)
 ·refine C.condT f25 rfl ?_
  have hq3 := hq (by omega)
  have hd8 := flg_bd p.dup 8 (by omega)
  have hr1 := flg_bd p.retain 1 (by omega)
  refine R.beginT (S := fun W => Kept [] w1 W) (by kernel_rfl) (by kernel_rfl) (by exact (Kept.refl _ _).drewN 1) fun ht => ?_
  have hS8 : Kept [] w1 (w1.drewN 1) := (Kept.refl _ _).drewN 1
  have hd8 : Kept [] w1 (w1.drewN 1) := (Kept.refl _ _).drewN 1
  obtain ⟨w2, hww2⟩ : ∃ W, W = w1.drewN 1 := ⟨_, rfl⟩
  rw [← hww2] at hS8 hd8 ⊢
  clear hww2
  have szw2 := hS8.size
  refine R.u 0 f25 rfl ht hS8 (fun W hW => (E.fa 1 f25 U28 rfl wsz4_wb)) fun a26 f26 => ?_
  refine R.u 1 f26 rfl ht hS8 (fun W hW => (by exact E.ld f26 U4 (Bg0.kept hW (by simp)))) fun a27 f27 => ?_
  refine R.u 3 f27 rfl ht hS8 (fun W hW => (E.fa 3 f27 U28 rfl wsz3_wb)) fun a28 f28 => ?_
  refine R.u 4 f28 rfl ht hS8 (fun W hW => (by exact E.ld f28 U3 (Bg0.kept hW (by simp)))) fun a29 f29 => ?_
  refine R.u 5 f29 rfl ht hS8 (fun W hW => (E.mul f29 rfl rfl (IntWalk.i64_in _ (by omega)))) fun a30 f30 => ?_
  refine R.u 7 f30 rfl ht hS8 (fun W hW => (E.fa 2 f30 U28 rfl wsz4_wb)) fun a31 f31 => ?_
  refine R.u 8 f31 rfl ht hS8 (fun W hW => (by exact E.ld f31 U4 (Bg0.kept hW (by simp)))) fun a32 f32 => ?_
  clear f24 f25 a23 f26 a26 f27 a27 f28 a28 f29 a29 f30 a30 f31 a31
  refine R.call 2 f32 rfl rfl (by decide) (by kernel_rfl) wantedN (run_call Tryd.call65 (args2 f32 rfl rfl)) (flag_any _ _ _) ?_
  rintro e w2x ⟨rfl, rfl⟩
  refine ⟨_, rfl, hS8, fun a33 f33 => ?_⟩
  refine R.u 6 f33 rfl ht hS8 (fun W hW => (E.add f33 rfl rfl (IntWalk.i64_in _ (by omega)))) fun a34 f34 => ?_
  refine R.call 9 f34 rfl rfl (by decide) (by kernel_rfl) wantedN (run_call Tryd.call65 (args2 f34 rfl rfl)) (flag_any _ _ _) ?_
  clear f32 a32 f33 a33
  rintro e w2x ⟨rfl, rfl⟩
  refine ⟨_, rfl, hS8, fun a35 f35 => ?_⟩
  refine R.u 10 f35 rfl ht hS8 (fun W hW => (E.add f35 rfl rfl (IntWalk.i64_in _ (by omega)))) fun a36 f36 => ?_
  refine R.u 11 f36 rfl ht hS8 (fun W hW => (E.assign f36 rfl)) fun a37 f37 => ?_
  have szw2r := hS8.size
  replace HK := HK.trans hS8 (by simp)
  replace Bg0 := Bg0.kept hS8 (by simp)
  clear hS8
  refine R.done (by kernel_rfl) (hK2 _ _ ?_)
  have f38 := f37.sub (sc 1 (sc 3 sn))
  refine wp_seq_k fun K11 hK11 => C.region ?_
  refine L.fa 0 f38 U28 rfl wsz3_wb fun a39 f39 => ?_
  refine L.ld f39 U3 Bg0 fun a40 f40 => ?_
  refine L.va f40 (E.shlN f40 rfl rfl (by decide) (by decide) (show IntKind.i64.wrap (p.kind * 2 ^ (4 : Int).toNat) = p.kind * 16 from IntWalk.i64_in _ (by simp; omega))) fun a41 f41 => ?_
  refine L.mv f41 fun a42 f42 => ?_
  clear f34 a34 f35 a35 f36 a36 f37 f38 a37 f39 a39 f40 a40 f41 a41
  refine L.va f42 (E.add f42 rfl rfl (IntWalk.i64_in _ (by omega))) fun a43 f43 => ?_
  refine L.va f43 (E.conv f43 U3 U5 rfl (wrap_u8 _)) fun a44 f44 => ?_
  refine L.ag f44 fun a45 f45 => ?_
  refine wpList_nil (hK11 _ _ ?_)
  have f46 := f45.sub (sc 2 sn)
  refine wp_ret ?_
  try simp only [Exit.inBlock, Exit.then]
  refine C.ret (P := Tryd.prog) (fn := Tryd.f40) f46 rfl rfl ?_
  exact ⟨HK, by rw [b8_val, firstI]; simp [*]⟩
 refine C.condF f25 rfl ?_
 refine wp_skip (hK2 _ _ ?_)
 have f26 := f25.sub (sc 1 (sc 3 sn))
 refine wp_seq_k fun K12 hK12 => C.region ?_
 refine L.fa 0 f26 U28 rfl wsz3_wb fun a27 f27 => ?_
 refine L.ld f27 U3 Bg0 fun a28 f28 => ?_
 refine L.va f28 (E.shlN f28 rfl rfl (by decide) (by decide) (show IntKind.i64.wrap (p.kind * 2 ^ (4 : Int).toNat) = p.kind * 16 from IntWalk.i64_in _ (by simp; omega))) fun a29 f29 => ?_
 refine L.mv f29 fun a30 f30 => ?_
 refine L.va f30 (E.add f30 rfl rfl (IntWalk.i64_in _ (by omega))) fun a31 f31 => ?_
 refine L.va f31 (E.conv f31 U3 U5 rfl (wrap_u8 _)) fun a32 f32 => ?_
 clear f24 f25 f26 a23 f27 a27 f28 a28 f29 a29 f30 a30 f31 a31
 refine L.ag f32 fun a33 f33 => ?_
 refine wpList_nil (hK12 _ _ ?_)
 have f34 := f33.sub (sc 2 sn)
 refine wp_ret ?_
 try simp only [Exit.inBlock, Exit.then]
 refine C.ret (P := Tryd.prog) (fn := Tryd.f40) f34 rfl rfl ?_
 exact ⟨HK, by rw [b8_val, firstI]; simp [*]⟩
end Go.Proofs.YtigjafbbnocihaaDoor
namespace Go.Proofs.YtigjafbbnocihaaDoor
open Go.RowKit Go.Hub Go.Lib Go.Vl
theorem wsz3_wbb : (Tryd.prog.info? 3).map (·.size) = some 1 := by kernel_rfl
theorem wsz4_wbb : (Tryd.prog.info? 4).map (·.size) = some 1 := by kernel_rfl
theorem wsz9_wbb : (Tryd.prog.info? 9).map (·.size) = some 1 := by kernel_rfl
theorem wsz22_wbb : (Tryd.prog.info? 22).map (·.size) = some 1 := by kernel_rfl
theorem wsz24_wbb : (Tryd.prog.info? 24).map (·.size) = some 4 := by kernel_rfl
theorem wsz25_wbb : (Tryd.prog.info? 25).map (·.size) = some 1 := by kernel_rfl
theorem wsz26_wbb : (Tryd.prog.info? 26).map (·.size) = some 1 := by kernel_rfl
theorem wsz28_wbb : (Tryd.prog.info? 28).map (·.size) = some 24 := by kernel_rfl
theorem wbl28_0_wbb (x0 : Int) : Tryd.prog.built 28 [(0, .int .i64 x0)] = some #[.int .i64 x0, (.bool false), (.bool false), (.int .i64 0), (.int .i64 0), (.string ⟨#[]⟩), (.slice none 0 0), (.int .i64 0), (.string ⟨#[]⟩), (.bool false), (.int .i64 0), (.bool false), (.string ⟨#[]⟩), (.slice none 0 0), (.int .i64 0), (.bool false), (.bool false), (.bool false), (.string ⟨#[]⟩), (.slice none 0 0), (.bool false), (.int .i64 0), (.slice none 0 0), (.slice none 0 0)] := by kernel_rfl
theorem will_in {p : Pk} {s : Ad} {w w' : World} (IP : p.In w s) (hk : Kept [] w w') : Sl w' (if p.hasWill = true then s.wa else none) (if p.hasWill = true then p.wp else []).length 1 ((if p.hasWill = true then p.wp else []).map u8) := by
  split
  · exact IP.wp.kept hk
  exact Sl.nil _ _ _
set_option maxRecDepth 100000 in
set_option maxHeartbeats 2000000 in
theorem bare_any (p : Pk) (s : Ad) (w : World) (IP : p.In w s) : Calls Tryd.prog 45 #[.agg (p.cells s)] w (fun e w' => BarePost p w e w') := by
 have HK : Kept [] w w := Kept.refl [] w
 refine C.enter Tryd.func45 rfl Tryd.ntmps45 rfl ?_
 intro a0 f0
 have f1 : Fr 94 a0 [(0, .agg (p.cells s))] := f0
 refine wp_seq_k fun K0 hK0 => C.region ?_
 refine L.box f1 wantedN (by decide) rfl rfl fun a2 w1 g0 N0 f2 => ?_
 have Bg0 := N0.blk
 have kg0 := N0.kept
 have log0 := N0.lo
 have ltg0 := Bg0.lt
 have szw1 := kg0.size
 have frg0 : w.heap.size ≤ g0 := Nat.le_trans HK.size log0
 replace HK := HK.trans kg0 (by simp)
 clear N0 kg0
 refine L.alloc f2 wantedN (by decide) (z := (.agg #[(.int .i64 0), (.bool false), (.bool false), (.int .i64 0), (.int .i64 0), (.string ⟨#[]⟩), (.slice none 0 0), (.int .i64 0), (.string ⟨#[]⟩), (.bool false), (.int .i64 0), (.bool false), (.string ⟨#[]⟩), (.slice none 0 0), (.int .i64 0), (.bool false), (.bool false), (.bool false), (.string ⟨#[]⟩), (.slice none 0 0), (.bool false), (.int .i64 0), (.slice none 0 0), (.slice none 0 0)])) (fun _ => by kernel_rfl) rfl fun a3 w2 g1 N1 f3 => ?_
 have Bg1 := N1.blk
 have kg1 := N1.kept
 have log1 := N1.lo
 have ltg1 := Bg1.lt
 have szw2 := kg1.size
 have frg1 : w.heap.size ≤ g1 := Nat.le_trans HK.size log1
 have neg0_g1 : g0 ≠ g1 := by have := Bg0.lt; omega
 replace HK := HK.trans kg1 (by simp)
 replace Bg0 := Bg0.kept kg1 (by simp)
 clear N1 kg1
 refine wpList_nil (hK0 _ _ ?_)
 have f4 := f3.sub (sc 1 (sc 2 sn))
 refine wp_seq_k fun K1 hK1 => C.region ?_
 refine L.fa 0 f4 U28 rfl wsz3_wbb fun a5 f5 => ?_
 refine L.ld f5 U3 Bg0 fun a6 f6 => ?_
 refine L.va f6 (E.build f6 (parts1 f6 rfl) (wbl28_0_wbb _)) fun a7 f7 => ?_
 refine L.alloc f7 wantedN (by decide) (z := (.agg #[(.int .i64 0), (.bool false), (.bool false), (.int .i64 0), (.int .i64 0), (.string ⟨#[]⟩), (.slice none 0 0), (.int .i64 0), (.string ⟨#[]⟩), (.bool false), (.int .i64 0), (.bool false), (.string ⟨#[]⟩), (.slice none 0 0), (.int .i64 0), (.bool false), (.bool false), (.bool false), (.string ⟨#[]⟩), (.slice none 0 0), (.bool false), (.int .i64 0), (.slice none 0 0), (.slice none 0 0)])) (fun _ => by kernel_rfl) rfl fun a8 w3 g2 N2 f8 => ?_
 have Bg2 := N2.blk
 have kg2 := N2.kept
 have log2 := N2.lo
 have ltg2 := Bg2.lt
 have szw3 := kg2.size
 have frg2 : w.heap.size ≤ g2 := Nat.le_trans HK.size log2
 have neg0_g2 : g0 ≠ g2 := by have := Bg0.lt; omega
 have neg1_g2 : g1 ≠ g2 := by have := Bg1.lt; omega
 replace HK := HK.trans kg2 (by simp)
 replace Bg0 := Bg0.kept kg2 (by simp)
 replace Bg1 := Bg1.kept kg2 (by simp)
 clear N2 kg2
 clear f0 f1 a0 f2 a2 f3 f4 a3 f5 a5 f6 a6 f7 a7
 refine L.storeR f8 wantedN wsz28_wbb rfl rfl rfl Bg2 rfl rfl fun a9 w4 f9 NB4 ks4 => ?_
 have szw4 := ks4.size
 replace HK := HK.trans ks4 (ktr (by omega))
 replace Bg0 := Bg0.kept ks4 (by simp; omega)
 replace Bg1 := Bg1.kept ks4 (by simp; omega)
 replace Bg2 := NB4
 clear ks4 f8 a8
 refine wpList_nil (hK1 _ _ ?_)
 have f10 := f9.sub (sc 1 (sc 2 (sc 3 sn)))
 obtain ⟨J4, hJ4⟩ : ∃ J : Act → World → Prop, J = fun a W => Kept [] w W ∧ Blk W g0 28 (p.cells s) ∧ Blk W g1 28 zeroPk ∧ Blk W g2 28 #[.int .i64 p.kind, .bool false, .bool false, .int .i64 0, .int .i64 (if numB p = true then p.id else 0), .string em, .slice none 0 0, .int .i64 0, .string em, .bool false, .int .i64 0, .bool false, .string em, .slice none 0 0, .int .i64 0, .bool false, .bool false, .bool false, .string em, .slice none 0 0, .bool false, .int .i64 0, .slice none 0 0, .slice none 0 0] ∧ Fr 94 a [(1, .pointer (some ⟨g0, 0, none⟩)), (2, .pointer (some ⟨g1, 0, none⟩)), (3, .pointer (some ⟨g2, 0, none⟩))] := ⟨_, rfl⟩
 clear f9
 refine C.cut J4 ?_ ?_
 ·skip
  refine wp_seq_k fun K2 hK2 => C.region ?_
  refine L.va f10 (by exact E.loadB f10 U28 rfl wsz28_wbb rfl (Bg0) rfl) fun a11 f11 => ?_
  refine L.cl f11 (run_call Tryd.call67 (args1 f11 rfl)) (num_any p s _) ?_
  clear f10 a9
  rintro e w5 ⟨kc5, rfl⟩
  refine ⟨_, rfl, fun a12 f12 => ?_⟩
  have szw5 := kc5.size
  replace HK := HK.trans kc5 (by simp)
  replace Bg0 := Bg0.kept kc5 (by simp)
  replace Bg1 := Bg1.kept kc5 (by simp)
  replace Bg2 := Bg2.kept kc5 (by simp)
  clear kc5
  refine wpList_nil (hK2 _ _ ?_)
  have f13 := f12.sub (sc 1 (sc 2 (sc 3 (sc 8 sn))))
  clear f11 a11 f12
  refine f13.split 8 rfl (fun h0 f14 => ?_) (fun h0 f14 => ?_)
  ·have hw8 := h0
   refine C.condT f14 rfl ?_
   refine C.region ?_
   refine L.fa 4 f14 U28 rfl wsz3_wbb fun a15 f15 => ?_
   refine L.ld f15 U3 Bg0 fun a16 f16 => ?_
   refine L.fa 4 f16 U28 rfl wsz3_wbb fun a17 f17 => ?_
   refine L.store f17 wantedN wsz3_wbb rfl rfl rfl Bg2 (by (simp [Value.cells]; done)) fun a18 w6 f18 NB6 ks6 => ?_
   have szw6 := ks6.size
   replace HK := HK.trans ks6 (ktr (by omega))
   replace Bg0 := Bg0.kept ks6 (by simp; omega)
   replace Bg1 := Bg1.kept ks6 (by simp; omega)
   replace Bg2 := NB6
   simp only [Value.cells, z1, z2, z3, Nat.reduceAdd, Nat.zero_add] at Bg2
   clear ks6 f17 a17
   exact wpList_nil (then_of (J := J4) (Q := fun _ _ _ => True) (by rw [hJ4]; exact ⟨HK, Bg0, Bg1, (by simp only [hw8, if_true] at Bg2 ⊢; exact Bg2), f18.sub (sub_cons rfl (sub_cons rfl (sub_cons rfl sn)))⟩))
  have hw8 := h0
  refine C.condF f14 rfl ?_
  exact wp_skip (then_of (J := J4) (Q := fun _ _ _ => True) (by rw [hJ4]; exact ⟨HK, Bg0, Bg1, (by simp only [hw8, Bool.false_eq_true, if_false] at Bg2 ⊢; exact Bg2), f14.sub (sub_cons rfl (sub_cons rfl (sub_cons rfl sn)))⟩))
 intro a11 w5 hj
 rw [hJ4] at hj
 clear hJ4 J4
 obtain ⟨HK, Bg0, Bg1, Bg2, f11⟩ := hj
 try clear f10
 obtain ⟨J22, hJ22⟩ : ∃ J : Act → World → Prop, J = fun a W => ∃ t, Kept [] w W ∧ Blk W g1 28 zeroPk ∧ Blk W g2 28 ((bareP p).cells t) ∧ (∀ W', Kept [] w W' → (bareP p).In W' t) ∧ Fr 94 a [(2, .pointer (some ⟨g1, 0, none⟩)), (3, .pointer (some ⟨g2, 0, none⟩))] := ⟨_, rfl⟩
 refine C.cut J22 ?_ ?_
 ·skip
  refine wp_seq_k fun K3 hK3 => C.region ?_
  refine L.fa 0 f11 U28 rfl wsz3_wbb fun a12 f12 => ?_
  refine L.ld f12 U3 Bg0 fun a13 f13 => ?_
  refine wpList_nil (hK3 _ _ ?_)
  have f14 := f13.sub (sc 1 (sc 2 (sc 3 (sc 13 sn))))
  refine wp_block ?_
  refine wp_seq_k fun K4 hK4 => C.region ?_
  refine L.va f14 (E.eq f14) fun a15 f15 => ?_
  refine L.ag f15 fun a16 f16 => ?_
  refine wpList_nil (hK4 _ _ ?_)
  have f17 := f16.sub (sc 1 (sc 2 (sc 3 (sc 13 (sc 14 sn)))))
  clear f11 a11 f12 a12 f13 f14 a13 f15 a15 f16
  refine f17.splitD 14 rfl (fun h1 f18 => ?_) (fun h1 f18 => ?_)
  ·refine C.condT f18 rfl ?_
   refine wp_seq_k fun K5 hK5 => ?_
   have hn1 : numB p = false := numB_f (by omega) (by omega)
   simp only [hn1, Bool.false_eq_true, if_false] at Bg2
   refine R.beginT (S := fun W => Kept [g2] w5 W) (by kernel_rfl) (by kernel_rfl) (by exact (Kept.refl _ _).drewN 1) fun ht => ?_
   have hS6 : Kept [g2] w5 (w5.drewN 1) := (Kept.refl _ _).drewN 1
   have hd6 : Kept [] w5 (w5.drewN 1) := (Kept.refl _ _).drewN 1
   obtain ⟨w6, hww6⟩ : ∃ W, W = w5.drewN 1 := ⟨_, rfl⟩
   rw [← hww6] at hS6 hd6 ⊢
   clear hww6
   have szw6 := hS6.size
   replace Bg2 := Bg2.kept hd6 (by simp)
   refine R.u 0 f18 rfl ht hS6 (fun W hW => (E.fa 7 f18 U28 rfl wsz3_wbb)) fun a19 f19 => ?_
   refine R.u 1 f19 rfl ht hS6 (fun W hW => (by exact E.ld f19 U3 (Bg0.kept hW (by simp; omega)))) fun a20 f20 => ?_
   refine R.u 2 f20 rfl ht hS6 (fun W hW => (E.fa 8 f20 U28 rfl wsz9_wbb)) fun a21 f21 => ?_
   refine R.u 3 f21 rfl ht hS6 (fun W hW => (by exact E.ld f21 U9 (Bg0.kept hW (by simp; omega)))) fun a22 f22 => ?_
   refine R.u 4 f22 rfl ht hS6 (fun W hW => (E.fa 9 f22 U28 rfl wsz4_wbb)) fun a23 f23 => ?_
   refine R.u 5 f23 rfl ht hS6 (fun W hW => (by exact E.ld f23 U4 (Bg0.kept hW (by simp; omega)))) fun a24 f24 => ?_
   refine R.u 6 f24 rfl ht hS6 (fun W hW => (E.fa 10 f24 U28 rfl wsz3_wbb)) fun a25 f25 => ?_
   clear f17 f18 a16 f19 a19 f20 a20 f21 a21 f22 a22 f23 a23 f24 a24
   refine R.u 7 f25 rfl ht hS6 (fun W hW => (by exact E.ld f25 U3 (Bg0.kept hW (by simp; omega)))) fun a26 f26 => ?_
   refine R.u 8 f26 rfl ht hS6 (fun W hW => (E.fa 11 f26 U28 rfl wsz4_wbb)) fun a27 f27 => ?_
   refine R.u 9 f27 rfl ht hS6 (fun W hW => (by exact E.ld f27 U4 (Bg0.kept hW (by simp; omega)))) fun a28 f28 => ?_
   refine R.u 10 f28 rfl ht hS6 (fun W hW => (E.fa 16 f28 U28 rfl wsz4_wbb)) fun a29 f29 => ?_
   refine R.u 11 f29 rfl ht hS6 (fun W hW => (by exact E.ld f29 U4 (Bg0.kept hW (by simp; omega)))) fun a30 f30 => ?_
   refine R.u 12 f30 rfl ht hS6 (fun W hW => (E.fa 17 f30 U28 rfl wsz4_wbb)) fun a31 f31 => ?_
   refine R.u 13 f31 rfl ht hS6 (fun W hW => (by exact E.ld f31 U4 (Bg0.kept hW (by simp; omega)))) fun a32 f32 => ?_
   clear f25 a25 f26 a26 f27 a27 f28 a28 f29 a29 f30 a30 f31 a31
   refine R.u 14 f32 rfl ht hS6 (fun W hW => (E.fa 7 f32 U28 rfl wsz3_wbb)) fun a33 f33 => ?_
   refine R.store 15 f33 rfl (by kernel_rfl) wantedN wsz3_wbb rfl rfl rfl Bg2 (by (simp [Value.cells]; done)) (fun _ hW => hS6.trans hW (by simp)) fun a34 w7 f34 NB7 ks7 hSn => ?_
   have szw7 := ks7.size
   replace Bg2 := NB7
   simp only [Value.cells, z1, z2, z3, Nat.reduceAdd, Nat.zero_add] at Bg2
   replace hS6 := hSn
   clear hSn ks7
   refine R.u 16 f34 rfl ht hS6 (fun W hW => (E.fa 8 f34 U28 rfl wsz9_wbb)) fun a35 f35 => ?_
   refine R.store 17 f35 rfl (by kernel_rfl) wantedN wsz9_wbb rfl rfl rfl Bg2 (by (simp [Value.cells]; done)) (fun _ hW => hS6.trans hW (by simp)) fun a36 w8 f36 NB8 ks8 hSn => ?_
   have szw8 := ks8.size
   replace Bg2 := NB8
   simp only [Value.cells, z1, z2, z3, Nat.reduceAdd, Nat.zero_add] at Bg2
   replace hS6 := hSn
   clear hSn ks8
   refine R.u 18 f36 rfl ht hS6 (fun W hW => (E.fa 9 f36 U28 rfl wsz4_wbb)) fun a37 f37 => ?_
   refine R.store 19 f37 rfl (by kernel_rfl) wantedN wsz4_wbb rfl rfl rfl Bg2 (by (simp [Value.cells]; done)) (fun _ hW => hS6.trans hW (by simp)) fun a38 w9 f38 NB9 ks9 hSn => ?_
   have szw9 := ks9.size
   replace Bg2 := NB9
   simp only [Value.cells, z1, z2, z3, Nat.reduceAdd, Nat.zero_add] at Bg2
   replace hS6 := hSn
   clear hSn ks9
   refine R.u 20 f38 rfl ht hS6 (fun W hW => (E.fa 10 f38 U28 rfl wsz3_wbb)) fun a39 f39 => ?_
   clear f32 a32 f33 a33 f34 a34 f35 a35 f36 a36 f37 a37 f38 a38
   refine R.store 21 f39 rfl (by kernel_rfl) wantedN wsz3_wbb rfl rfl rfl Bg2 (by (simp [Value.cells]; done)) (fun _ hW => hS6.trans hW (by simp)) fun a40 w10 f40 NB10 ks10 hSn => ?_
   have szw10 := ks10.size
   replace Bg2 := NB10
   simp only [Value.cells, z1, z2, z3, Nat.reduceAdd, Nat.zero_add] at Bg2
   replace hS6 := hSn
   clear hSn ks10
   refine R.u 22 f40 rfl ht hS6 (fun W hW => (E.fa 11 f40 U28 rfl wsz4_wbb)) fun a41 f41 => ?_
   refine R.store 23 f41 rfl (by kernel_rfl) wantedN wsz4_wbb rfl rfl rfl Bg2 (by (simp [Value.cells]; done)) (fun _ hW => hS6.trans hW (by simp)) fun a42 w11 f42 NB11 ks11 hSn => ?_
   have szw11 := ks11.size
   replace Bg2 := NB11
   simp only [Value.cells, z1, z2, z3, Nat.reduceAdd, Nat.zero_add] at Bg2
   replace hS6 := hSn
   clear hSn ks11
   refine R.u 24 f42 rfl ht hS6 (fun W hW => (E.fa 16 f42 U28 rfl wsz4_wbb)) fun a43 f43 => ?_
   refine R.store 25 f43 rfl (by kernel_rfl) wantedN wsz4_wbb rfl rfl rfl Bg2 (by (simp [Value.cells]; done)) (fun _ hW => hS6.trans hW (by simp)) fun a44 w12 f44 NB12 ks12 hSn => ?_
   have szw12 := ks12.size
   replace Bg2 := NB12
   simp only [Value.cells, z1, z2, z3, Nat.reduceAdd, Nat.zero_add] at Bg2
   replace hS6 := hSn
   clear hSn ks12
   refine R.u 26 f44 rfl ht hS6 (fun W hW => (E.fa 17 f44 U28 rfl wsz4_wbb)) fun a45 f45 => ?_
   refine R.store 27 f45 rfl (by kernel_rfl) wantedN wsz4_wbb rfl rfl rfl Bg2 (by (simp [Value.cells]; done)) (fun _ hW => hS6.trans hW (by simp)) fun a46 w13 f46 NB13 ks13 hSn => ?_
   clear f39 a39 f40 a40 f41 a41 f42 a42 f43 a43 f44 a44 f45 a45
   have szw13 := ks13.size
   replace Bg2 := NB13
   simp only [Value.cells, z1, z2, z3, Nat.reduceAdd, Nat.zero_add] at Bg2
   replace hS6 := hSn
   clear hSn ks13
   have szw13r := hS6.size
   replace HK := HK.trans hS6 (ktr (by omega))
   replace Bg0 := Bg0.kept hS6 (by simp; omega)
   replace Bg1 := Bg1.kept hS6 (by simp; omega)
   clear hS6
   refine R.done (by kernel_rfl) (hK5 _ _ ?_)
   have f47 := f46.sub (sc 1 (sc 2 (sc 3 sn)))
   obtain ⟨J9, hJ9⟩ : ∃ J : Act → World → Prop, J = fun a W => Kept [] w W ∧ Blk W g0 28 (p.cells s) ∧ Blk W g1 28 zeroPk ∧ Blk W g2 28 #[.int .i64 p.kind, .bool false, .bool false, .int .i64 0, .int .i64 0, .string em, .slice none 0 0, .int .i64 p.level, .string p.client, .bool p.clean, .int .i64 p.keep, .bool p.hasWill, .string (if p.hasWill = true then p.wt else em), .slice (if p.hasWill = true then s.wa else none) ((if p.hasWill = true then p.wp else [])).length (if p.hasWill = true then s.wc else 0), .int .i64 (if p.hasWill = true then p.wq else 0), .bool (if p.hasWill = true then p.wr else false), .bool p.hasUser, .bool p.hasPass, .string em, .slice none 0 0, .bool false, .int .i64 0, .slice none 0 0, .slice none 0 0] ∧ Fr 94 a [(1, .pointer (some ⟨g0, 0, none⟩)), (2, .pointer (some ⟨g1, 0, none⟩)), (3, .pointer (some ⟨g2, 0, none⟩))] := ⟨_, rfl⟩
   clear f46
   refine C.cut J9 ?_ ?_
   ·skip
    refine wp_seq_k fun K6 hK6 => C.region ?_
    refine L.fa 11 f47 U28 rfl wsz4_wbb fun a48 f48 => ?_
    refine L.ld f48 U4 Bg0 fun a49 f49 => ?_
    refine wpList_nil (hK6 _ _ ?_)
    have f50 := f49.sub (sc 1 (sc 2 (sc 3 (sc 38 sn))))
    clear f47 a46 f48 a48 f49
    refine f50.split 38 rfl (fun h2 f51 => ?_) (fun h2 f51 => ?_)
    ·have hw38 := h2
     refine C.condT f51 rfl ?_
     refine C.region ?_
     refine L.fa 12 f51 U28 rfl wsz24_wbb fun a52 f52 => ?_
     refine L.va f52 (by exact E.loadR f52 U24 rfl wsz24_wbb rfl (will_row Bg0) rfl) fun a53 f53 => ?_
     refine L.fa 12 f53 U28 rfl wsz24_wbb fun a54 f54 => ?_
     refine L.storeSeg f54 wantedN wsz24_wbb rfl rfl rfl Bg2 (Nat.le_of_ble_eq_true rfl) rfl fun a55 w14 f55 NB14 ks14 => ?_
     have szw14 := ks14.size
     replace HK := HK.trans ks14 (ktr (by omega))
     replace Bg0 := Bg0.kept ks14 (by simp; omega)
     replace Bg1 := Bg1.kept ks14 (by simp; omega)
     replace Bg2 := NB14
     simp only [setSeg, List.set_cons_zero, List.set_cons_succ, Nat.reduceAdd, Nat.zero_add] at Bg2
     clear ks14 f54 a54
     exact wpList_nil (then_of (J := J9) (Q := fun _ _ _ => True) (by rw [hJ9]; exact ⟨HK, Bg0, Bg1, (by simp only [hw38, if_true] at Bg2 ⊢; exact Bg2), f55.sub (sub_cons rfl (sub_cons rfl (sub_cons rfl sn)))⟩))
    have hw38 := h2
    refine C.condF f51 rfl ?_
    exact wp_skip (then_of (J := J9) (Q := fun _ _ _ => True) (by rw [hJ9]; exact ⟨HK, Bg0, Bg1, (by simp only [hw38, Bool.false_eq_true, if_false] at Bg2 ⊢; exact Bg2), f51.sub (sub_cons rfl (sub_cons rfl (sub_cons rfl sn)))⟩))
   intro a48 w14 hj
   rw [hJ9] at hj
   clear hJ9 J9
   obtain ⟨HK, Bg0, Bg1, Bg2, f48⟩ := hj
   try clear f47
   obtain ⟨J11, hJ11⟩ : ∃ J : Act → World → Prop, J = fun a W => Kept [] w W ∧ Blk W g0 28 (p.cells s) ∧ Blk W g1 28 zeroPk ∧ Blk W g2 28 #[.int .i64 p.kind, .bool false, .bool false, .int .i64 0, .int .i64 0, .string em, .slice none 0 0, .int .i64 p.level, .string p.client, .bool p.clean, .int .i64 p.keep, .bool p.hasWill, .string (if p.hasWill = true then p.wt else em), .slice (if p.hasWill = true then s.wa else none) ((if p.hasWill = true then p.wp else [])).length (if p.hasWill = true then s.wc else 0), .int .i64 (if p.hasWill = true then p.wq else 0), .bool (if p.hasWill = true then p.wr else false), .bool p.hasUser, .bool p.hasPass, .string (if p.hasUser = true then p.user else em), .slice none 0 0, .bool false, .int .i64 0, .slice none 0 0, .slice none 0 0] ∧ Fr 94 a [(1, .pointer (some ⟨g0, 0, none⟩)), (2, .pointer (some ⟨g1, 0, none⟩)), (3, .pointer (some ⟨g2, 0, none⟩))] := ⟨_, rfl⟩
   refine C.cut J11 ?_ ?_
   ·skip
    refine wp_seq_k fun K7 hK7 => C.region ?_
    refine L.fa 16 f48 U28 rfl wsz4_wbb fun a49 f49 => ?_
    refine L.ld f49 U4 Bg0 fun a50 f50 => ?_
    refine wpList_nil (hK7 _ _ ?_)
    have f51 := f50.sub (sc 1 (sc 2 (sc 3 (sc 43 sn))))
    clear f48 a48 f49 a49 f50
    refine f51.split 43 rfl (fun h3 f52 => ?_) (fun h3 f52 => ?_)
    ·have hw43 := h3
     refine C.condT f52 rfl ?_
     refine C.region ?_
     refine L.fa 18 f52 U28 rfl wsz9_wbb fun a53 f53 => ?_
     refine L.ld f53 U9 Bg0 fun a54 f54 => ?_
     refine L.fa 18 f54 U28 rfl wsz9_wbb fun a55 f55 => ?_
     refine L.store f55 wantedN wsz9_wbb rfl rfl rfl Bg2 (by (simp [Value.cells]; done)) fun a56 w15 f56 NB15 ks15 => ?_
     have szw15 := ks15.size
     replace HK := HK.trans ks15 (ktr (by omega))
     replace Bg0 := Bg0.kept ks15 (by simp; omega)
     replace Bg1 := Bg1.kept ks15 (by simp; omega)
     replace Bg2 := NB15
     simp only [Value.cells, z1, z2, z3, Nat.reduceAdd, Nat.zero_add] at Bg2
     clear ks15 f55 a55
     exact wpList_nil (then_of (J := J11) (Q := fun _ _ _ => True) (by rw [hJ11]; exact ⟨HK, Bg0, Bg1, (by simp only [hw43, if_true] at Bg2 ⊢; exact Bg2), f56.sub (sub_cons rfl (sub_cons rfl (sub_cons rfl sn)))⟩))
    have hw43 := h3
    refine C.condF f52 rfl ?_
    exact wp_skip (then_of (J := J11) (Q := fun _ _ _ => True) (by rw [hJ11]; exact ⟨HK, Bg0, Bg1, (by simp only [hw43, Bool.false_eq_true, if_false] at Bg2 ⊢; exact Bg2), f52.sub (sub_cons rfl (sub_cons rfl (sub_cons rfl sn)))⟩))
   intro a49 w15 hj
   rw [hJ11] at hj
   clear hJ11 J11
   obtain ⟨HK, Bg0, Bg1, Bg2, f49⟩ := hj
   try clear f48
   refine wp_seq_k fun K8 hK8 => C.region ?_
   refine L.fa 17 f49 U28 rfl wsz4_wbb fun a50 f50 => ?_
   refine L.ld f50 U4 Bg0 fun a51 f51 => ?_
   refine wpList_nil (hK8 _ _ ?_)
   have f52 := f51.sub (sc 1 (sc 2 (sc 3 (sc 48 sn))))
   clear f49 a49 f50 a50 f51
   refine f52.split 48 rfl (fun h4 f53 => ?_) (fun h4 f53 => ?_)
   ·have hw48 := h4
    refine C.condT f53 rfl ?_
    refine C.region ?_
    refine L.fa 19 f53 U28 rfl wsz22_wbb fun a54 f54 => ?_
    refine L.ld f54 U22 Bg0 fun a55 f55 => ?_
    refine L.fa 19 f55 U28 rfl wsz22_wbb fun a56 f56 => ?_
    refine L.store f56 wantedN wsz22_wbb rfl rfl rfl Bg2 (by (simp [Value.cells]; done)) fun a57 w16 f57 NB16 ks16 => ?_
    have szw16 := ks16.size
    replace HK := HK.trans ks16 (ktr (by omega))
    replace Bg0 := Bg0.kept ks16 (by simp; omega)
    replace Bg1 := Bg1.kept ks16 (by simp; omega)
    replace Bg2 := NB16
    simp only [Value.cells, z1, z2, z3, Nat.reduceAdd, Nat.zero_add] at Bg2
    clear ks16 f56 a56
    have hb : bareP p = { kind := p.kind, level := p.level, client := p.client, clean := p.clean, keep := p.keep, hasWill := p.hasWill, hasUser := p.hasUser, hasPass := p.hasPass, wt := (if p.hasWill = true then p.wt else em), wp := (if p.hasWill = true then p.wp else []), wq := (if p.hasWill = true then p.wq else 0), wr := (if p.hasWill = true then p.wr else false), user := (if p.hasUser = true then p.user else em), pass := p.pass } := by unfold bareP; (simp [*]; done)
    have hJ : ∃ t, Blk w16 g2 28 ((bareP p).cells t) ∧ ∀ W', Kept [] w W' → (bareP p).In W' t := ⟨⟨none, 0, (if p.hasWill = true then s.wa else none), (if p.hasWill = true then s.wc else 0), s.sa, s.sc, none, 0, none, 0⟩, by rw [hb]; exact Bg2, fun W' hk' => by rw [hb]; exact ⟨Sl.nil _ _ _, will_in IP hk', IP.pass.kept hk', Sl.nil _ _ _, Sl.nil _ _ _⟩⟩
    obtain ⟨tt, BT, IT⟩ := hJ
    exact wpList_nil (then_of (J := J22) (Q := fun _ _ _ => True) (by rw [hJ22]; exact ⟨tt, HK, Bg1, BT, IT, f57.sub (sub_cons rfl (sub_cons rfl sn))⟩))
   have hw48 := h4
   refine C.condF f53 rfl ?_
   have hb : bareP p = { kind := p.kind, level := p.level, client := p.client, clean := p.clean, keep := p.keep, hasWill := p.hasWill, hasUser := p.hasUser, hasPass := p.hasPass, wt := (if p.hasWill = true then p.wt else em), wp := (if p.hasWill = true then p.wp else []), wq := (if p.hasWill = true then p.wq else 0), wr := (if p.hasWill = true then p.wr else false), user := (if p.hasUser = true then p.user else em) } := by unfold bareP; (simp [*]; done)
   have hJ : ∃ t, Blk w15 g2 28 ((bareP p).cells t) ∧ ∀ W', Kept [] w W' → (bareP p).In W' t := ⟨⟨none, 0, (if p.hasWill = true then s.wa else none), (if p.hasWill = true then s.wc else 0), none, 0, none, 0, none, 0⟩, by rw [hb]; exact Bg2, fun W' hk' => by rw [hb]; exact ⟨Sl.nil _ _ _, will_in IP hk', Sl.nil _ _ _, Sl.nil _ _ _, Sl.nil _ _ _⟩⟩
   obtain ⟨tt, BT, IT⟩ := hJ
   exact wp_skip (then_of (J := J22) (Q := fun _ _ _ => True) (by rw [hJ22]; exact ⟨tt, HK, Bg1, BT, IT, f53.sub (sub_cons rfl (sub_cons rfl sn))⟩))
  refine C.condF f18 rfl ?_
  refine wp_seq_k fun K9 hK9 => C.region ?_
  refine L.va f18 (E.eq f18) fun a19 f19 => ?_
  refine L.ag f19 fun a20 f20 => ?_
  refine wpList_nil (hK9 _ _ ?_)
  have f21 := f20.sub (sc 1 (sc 2 (sc 3 (sc 13 (sc 52 sn)))))
  clear f17 f18 a16 f19 a19 f20
  refine f21.splitD 52 rfl (fun h5 f22 => ?_) (fun h5 f22 => ?_)
  ·refine C.condT f22 rfl ?_
   have hn1 : numB p = false := numB_f (by omega) (by omega)
   simp only [hn1, Bool.false_eq_true, if_false] at Bg2
   refine R.beginT (S := fun W => Kept [g2] w5 W) (by kernel_rfl) (by kernel_rfl) (by exact (Kept.refl _ _).drewN 1) fun ht => ?_
   have hS14 : Kept [g2] w5 (w5.drewN 1) := (Kept.refl _ _).drewN 1
   have hd14 : Kept [] w5 (w5.drewN 1) := (Kept.refl _ _).drewN 1
   obtain ⟨w6, hww6⟩ : ∃ W, W = w5.drewN 1 := ⟨_, rfl⟩
   rw [← hww6] at hS14 hd14 ⊢
   clear hww6
   have szw6 := hS14.size
   replace Bg2 := Bg2.kept hd14 (by simp)
   refine R.u 0 f22 rfl ht hS14 (fun W hW => (E.fa 20 f22 U28 rfl wsz4_wbb)) fun a23 f23 => ?_
   refine R.u 1 f23 rfl ht hS14 (fun W hW => (by exact E.ld f23 U4 (Bg0.kept hW (by simp; omega)))) fun a24 f24 => ?_
   refine R.u 2 f24 rfl ht hS14 (fun W hW => (E.fa 21 f24 U28 rfl wsz3_wbb)) fun a25 f25 => ?_
   refine R.u 3 f25 rfl ht hS14 (fun W hW => (by exact E.ld f25 U3 (Bg0.kept hW (by simp; omega)))) fun a26 f26 => ?_
   refine R.u 4 f26 rfl ht hS14 (fun W hW => (E.fa 20 f26 U28 rfl wsz4_wbb)) fun a27 f27 => ?_
   refine R.store 5 f27 rfl (by kernel_rfl) wantedN wsz4_wbb rfl rfl rfl Bg2 (by (simp [Value.cells]; done)) (fun _ hW => hS14.trans hW (by simp)) fun a28 w7 f28 NB7 ks7 hSn => ?_
   have szw7 := ks7.size
   replace Bg2 := NB7
   simp only [Value.cells, z1, z2, z3, Nat.reduceAdd, Nat.zero_add] at Bg2
   replace hS14 := hSn
   clear hSn ks7
   refine R.u 6 f28 rfl ht hS14 (fun W hW => (E.fa 21 f28 U28 rfl wsz3_wbb)) fun a29 f29 => ?_
   clear f21 f22 a20 f23 a23 f24 a24 f25 a25 f26 a26 f27 a27 f28 a28
   refine R.store 7 f29 rfl (by kernel_rfl) wantedN wsz3_wbb rfl rfl rfl Bg2 (by (simp [Value.cells]; done)) (fun _ hW => hS14.trans hW (by simp)) fun a30 w8 f30 NB8 ks8 hSn => ?_
   have szw8 := ks8.size
   replace Bg2 := NB8
   simp only [Value.cells, z1, z2, z3, Nat.reduceAdd, Nat.zero_add] at Bg2
   replace hS14 := hSn
   clear hSn ks8
   have szw8r := hS14.size
   replace HK := HK.trans hS14 (ktr (by omega))
   replace Bg0 := Bg0.kept hS14 (by simp; omega)
   replace Bg1 := Bg1.kept hS14 (by simp; omega)
   clear hS14
   have hb : bareP p = { kind := p.kind, present := p.present, code := p.code } := by unfold bareP; (simp [*]; done)
   have hJ : ∃ t, Blk w8 g2 28 ((bareP p).cells t) ∧ ∀ W', Kept [] w W' → (bareP p).In W' t := ⟨⟨none, 0, none, 0, none, 0, none, 0, none, 0⟩, by rw [hb]; exact Bg2, fun W' hk' => by rw [hb]; exact ⟨Sl.nil _ _ _, Sl.nil _ _ _, Sl.nil _ _ _, Sl.nil _ _ _, Sl.nil _ _ _⟩⟩
   obtain ⟨tt, BT, IT⟩ := hJ
   exact R.done (by kernel_rfl) (then_of (J := J22) (Q := fun _ _ _ => True) (by rw [hJ22]; exact ⟨tt, HK, Bg1, BT, IT, f30.sub (sub_cons rfl (sub_cons rfl sn))⟩))
  refine C.condF f22 rfl ?_
  refine wp_seq_k fun K10 hK10 => C.region ?_
  refine L.va f22 (E.eq f22) fun a23 f23 => ?_
  refine L.ag f23 fun a24 f24 => ?_
  refine wpList_nil (hK10 _ _ ?_)
  have f25 := f24.sub (sc 1 (sc 2 (sc 3 (sc 13 (sc 60 sn)))))
  clear f21 f22 a20 f23 a23 f24
  refine f25.splitD 60 rfl (fun h6 f26 => ?_) (fun h6 f26 => ?_)
  ·refine C.condT f26 rfl ?_
   have hn1 : numB p = decide (0 < p.qos) := numB_3 (by omega)
   refine R.beginT (S := fun W => Kept [g2] w5 W) (by kernel_rfl) (by kernel_rfl) (by exact (Kept.refl _ _).drewN 1) fun ht => ?_
   have hS16 : Kept [g2] w5 (w5.drewN 1) := (Kept.refl _ _).drewN 1
   have hd16 : Kept [] w5 (w5.drewN 1) := (Kept.refl _ _).drewN 1
   obtain ⟨w6, hww6⟩ : ∃ W, W = w5.drewN 1 := ⟨_, rfl⟩
   rw [← hww6] at hS16 hd16 ⊢
   clear hww6
   have szw6 := hS16.size
   replace Bg2 := Bg2.kept hd16 (by simp)
   refine R.u 0 f26 rfl ht hS16 (fun W hW => (E.fa 1 f26 U28 rfl wsz4_wbb)) fun a27 f27 => ?_
   refine R.u 1 f27 rfl ht hS16 (fun W hW => (by exact E.ld f27 U4 (Bg0.kept hW (by simp; omega)))) fun a28 f28 => ?_
   refine R.u 2 f28 rfl ht hS16 (fun W hW => (E.move f28 rfl)) fun a29 f29 => ?_
   clear f25 f26 a24 f27 a27 f28 a28
   refine f29.split 64 rfl (fun h7 f30 => ?_) (fun h7 f30 => ?_)
   ·refine R.u 3 f30 rfl ht hS16 (fun W hW => (E.fa 3 f30 U28 rfl wsz3_wbb)) (hw := (f30.yes rfl rfl)) fun a31 f31 => ?_
    refine R.u 4 f31 rfl ht hS16 (fun W hW => (by exact E.ld f31 U3 (Bg0.kept hW (by simp; omega)))) (hw := (f31.yes rfl rfl)) fun a32 f32 => ?_
    refine R.u 5 f32 rfl ht hS16 (fun W hW => (E.gtr f32 rfl rfl)) (hw := (f32.yes rfl rfl)) fun a33 f33 => ?_
    refine R.u 6 f33 rfl ht hS16 (fun W hW => (E.pickT f33 rfl rfl)) fun a34 f34 => ?_
    refine R.u 7 f34 rfl ht hS16 (fun W hW => (E.fa 2 f34 U28 rfl wsz4_wbb)) fun a35 f35 => ?_
    refine R.u 8 f35 rfl ht hS16 (fun W hW => (by exact E.ld f35 U4 (Bg0.kept hW (by simp; omega)))) fun a36 f36 => ?_
    refine R.u 9 f36 rfl ht hS16 (fun W hW => (E.fa 3 f36 U28 rfl wsz3_wbb)) fun a37 f37 => ?_
    clear f29 f30 a29 f31 a31 f32 a32 f33 a33 f34 a34 f35 a35 f36 a36
    refine R.u 10 f37 rfl ht hS16 (fun W hW => (by exact E.ld f37 U3 (Bg0.kept hW (by simp; omega)))) fun a38 f38 => ?_
    refine R.u 11 f38 rfl ht hS16 (fun W hW => (E.fa 5 f38 U28 rfl wsz9_wbb)) fun a39 f39 => ?_
    refine R.u 12 f39 rfl ht hS16 (fun W hW => (by exact E.ld f39 U9 (Bg0.kept hW (by simp; omega)))) fun a40 f40 => ?_
    refine R.u 13 f40 rfl ht hS16 (fun W hW => (E.fa 6 f40 U28 rfl wsz22_wbb)) fun a41 f41 => ?_
    refine R.u 14 f41 rfl ht hS16 (fun W hW => (by exact E.ld f41 U22 (Bg0.kept hW (by simp; omega)))) fun a42 f42 => ?_
    refine R.u 15 f42 rfl ht hS16 (fun W hW => (E.fa 1 f42 U28 rfl wsz4_wbb)) fun a43 f43 => ?_
    refine R.store 16 f43 rfl (by kernel_rfl) wantedN wsz4_wbb rfl rfl rfl Bg2 (by (simp [Value.cells]; done)) (fun _ hW => hS16.trans hW (by simp)) fun a44 w7 f44 NB7 ks7 hSn => ?_
    clear f37 a37 f38 a38 f39 a39 f40 a40 f41 a41 f42 a42 f43 a43
    have szw7 := ks7.size
    replace Bg2 := NB7
    simp only [Value.cells, z1, z2, z3, Nat.reduceAdd, Nat.zero_add] at Bg2
    replace hS16 := hSn
    clear hSn ks7
    refine R.u 17 f44 rfl ht hS16 (fun W hW => (E.fa 2 f44 U28 rfl wsz4_wbb)) fun a45 f45 => ?_
    refine R.store 18 f45 rfl (by kernel_rfl) wantedN wsz4_wbb rfl rfl rfl Bg2 (by (simp [Value.cells]; done)) (fun _ hW => hS16.trans hW (by simp)) fun a46 w8 f46 NB8 ks8 hSn => ?_
    have szw8 := ks8.size
    replace Bg2 := NB8
    simp only [Value.cells, z1, z2, z3, Nat.reduceAdd, Nat.zero_add] at Bg2
    replace hS16 := hSn
    clear hSn ks8
    refine R.u 19 f46 rfl ht hS16 (fun W hW => (E.fa 3 f46 U28 rfl wsz3_wbb)) fun a47 f47 => ?_
    refine R.store 20 f47 rfl (by kernel_rfl) wantedN wsz3_wbb rfl rfl rfl Bg2 (by (simp [Value.cells]; done)) (fun _ hW => hS16.trans hW (by simp)) fun a48 w9 f48 NB9 ks9 hSn => ?_
    have szw9 := ks9.size
    replace Bg2 := NB9
    simp only [Value.cells, z1, z2, z3, Nat.reduceAdd, Nat.zero_add] at Bg2
    replace hS16 := hSn
    clear hSn ks9
    refine R.u 21 f48 rfl ht hS16 (fun W hW => (E.fa 5 f48 U28 rfl wsz9_wbb)) fun a49 f49 => ?_
    refine R.store 22 f49 rfl (by kernel_rfl) wantedN wsz9_wbb rfl rfl rfl Bg2 (by (simp [Value.cells]; done)) (fun _ hW => hS16.trans hW (by simp)) fun a50 w10 f50 NB10 ks10 hSn => ?_
    have szw10 := ks10.size
    replace Bg2 := NB10
    simp only [Value.cells, z1, z2, z3, Nat.reduceAdd, Nat.zero_add] at Bg2
    replace hS16 := hSn
    clear hSn ks10
    refine R.u 23 f50 rfl ht hS16 (fun W hW => (E.fa 6 f50 U28 rfl wsz22_wbb)) fun a51 f51 => ?_
    clear f44 a44 f45 a45 f46 a46 f47 a47 f48 a48 f49 a49 f50 a50
    refine R.store 24 f51 rfl (by kernel_rfl) wantedN wsz22_wbb rfl rfl rfl Bg2 (by (simp [Value.cells]; done)) (fun _ hW => hS16.trans hW (by simp)) fun a52 w11 f52 NB11 ks11 hSn => ?_
    have szw11 := ks11.size
    replace Bg2 := NB11
    simp only [Value.cells, z1, z2, z3, Nat.reduceAdd, Nat.zero_add] at Bg2
    replace hS16 := hSn
    clear hSn ks11
    have szw11r := hS16.size
    replace HK := HK.trans hS16 (ktr (by omega))
    replace Bg0 := Bg0.kept hS16 (by simp; omega)
    replace Bg1 := Bg1.kept hS16 (by simp; omega)
    clear hS16
    have hb : bareP p = { kind := p.kind, id := (if numB p = true then p.id else 0), retain := p.retain, qos := p.qos, topic := p.topic, pay := p.pay, dup := decide (0 < p.qos) } := by unfold bareP; (simp [*]; done)
    have hJ : ∃ t, Blk w11 g2 28 ((bareP p).cells t) ∧ ∀ W', Kept [] w W' → (bareP p).In W' t := ⟨⟨s.pa, s.pc, none, 0, none, 0, none, 0, none, 0⟩, by rw [hb]; exact Bg2, fun W' hk' => by rw [hb]; exact ⟨IP.pay.kept hk', Sl.nil _ _ _, Sl.nil _ _ _, Sl.nil _ _ _, Sl.nil _ _ _⟩⟩
    obtain ⟨tt, BT, IT⟩ := hJ
    exact R.done (by kernel_rfl) (then_of (J := J22) (Q := fun _ _ _ => True) (by rw [hJ22]; exact ⟨tt, HK, Bg1, BT, IT, f52.sub (sub_cons rfl (sub_cons rfl sn))⟩))
   refine R.us 3 f30 rfl ht hS16 (f30.noT rfl rfl) fun a31 f31 => ?_
   refine R.us 4 f31 rfl ht hS16 (f31.noT rfl rfl) fun a32 f32 => ?_
   refine R.us 5 f32 rfl ht hS16 (f32.noT rfl rfl) fun a33 f33 => ?_
   refine R.u 6 f33 rfl ht hS16 (fun W hW => (E.pickF f33 rfl rfl)) fun a34 f34 => ?_
   refine R.u 7 f34 rfl ht hS16 (fun W hW => (E.fa 2 f34 U28 rfl wsz4_wbb)) fun a35 f35 => ?_
   refine R.u 8 f35 rfl ht hS16 (fun W hW => (by exact E.ld f35 U4 (Bg0.kept hW (by simp; omega)))) fun a36 f36 => ?_
   refine R.u 9 f36 rfl ht hS16 (fun W hW => (E.fa 3 f36 U28 rfl wsz3_wbb)) fun a37 f37 => ?_
   clear f29 f30 a29 f31 a31 f32 a32 f33 a33 f34 a34 f35 a35 f36 a36
   refine R.u 10 f37 rfl ht hS16 (fun W hW => (by exact E.ld f37 U3 (Bg0.kept hW (by simp; omega)))) fun a38 f38 => ?_
   refine R.u 11 f38 rfl ht hS16 (fun W hW => (E.fa 5 f38 U28 rfl wsz9_wbb)) fun a39 f39 => ?_
   refine R.u 12 f39 rfl ht hS16 (fun W hW => (by exact E.ld f39 U9 (Bg0.kept hW (by simp; omega)))) fun a40 f40 => ?_
   refine R.u 13 f40 rfl ht hS16 (fun W hW => (E.fa 6 f40 U28 rfl wsz22_wbb)) fun a41 f41 => ?_
   refine R.u 14 f41 rfl ht hS16 (fun W hW => (by exact E.ld f41 U22 (Bg0.kept hW (by simp; omega)))) fun a42 f42 => ?_
   refine R.u 15 f42 rfl ht hS16 (fun W hW => (E.fa 1 f42 U28 rfl wsz4_wbb)) fun a43 f43 => ?_
   refine R.store 16 f43 rfl (by kernel_rfl) wantedN wsz4_wbb rfl rfl rfl Bg2 (by (simp [Value.cells]; done)) (fun _ hW => hS16.trans hW (by simp)) fun a44 w7 f44 NB7 ks7 hSn => ?_
   clear f37 a37 f38 a38 f39 a39 f40 a40 f41 a41 f42 a42 f43 a43
   have szw7 := ks7.size
   replace Bg2 := NB7
   simp only [Value.cells, z1, z2, z3, Nat.reduceAdd, Nat.zero_add] at Bg2
   replace hS16 := hSn
   clear hSn ks7
   refine R.u 17 f44 rfl ht hS16 (fun W hW => (E.fa 2 f44 U28 rfl wsz4_wbb)) fun a45 f45 => ?_
   refine R.store 18 f45 rfl (by kernel_rfl) wantedN wsz4_wbb rfl rfl rfl Bg2 (by (simp [Value.cells]; done)) (fun _ hW => hS16.trans hW (by simp)) fun a46 w8 f46 NB8 ks8 hSn => ?_
   have szw8 := ks8.size
   replace Bg2 := NB8
   simp only [Value.cells, z1, z2, z3, Nat.reduceAdd, Nat.zero_add] at Bg2
   replace hS16 := hSn
   clear hSn ks8
   refine R.u 19 f46 rfl ht hS16 (fun W hW => (E.fa 3 f46 U28 rfl wsz3_wbb)) fun a47 f47 => ?_
   refine R.store 20 f47 rfl (by kernel_rfl) wantedN wsz3_wbb rfl rfl rfl Bg2 (by (simp [Value.cells]; done)) (fun _ hW => hS16.trans hW (by simp)) fun a48 w9 f48 NB9 ks9 hSn => ?_
   have szw9 := ks9.size
   replace Bg2 := NB9
   simp only [Value.cells, z1, z2, z3, Nat.reduceAdd, Nat.zero_add] at Bg2
   replace hS16 := hSn
   clear hSn ks9
   refine R.u 21 f48 rfl ht hS16 (fun W hW => (E.fa 5 f48 U28 rfl wsz9_wbb)) fun a49 f49 => ?_
   refine R.store 22 f49 rfl (by kernel_rfl) wantedN wsz9_wbb rfl rfl rfl Bg2 (by (simp [Value.cells]; done)) (fun _ hW => hS16.trans hW (by simp)) fun a50 w10 f50 NB10 ks10 hSn => ?_
   have szw10 := ks10.size
   replace Bg2 := NB10
   simp only [Value.cells, z1, z2, z3, Nat.reduceAdd, Nat.zero_add] at Bg2
   replace hS16 := hSn
   clear hSn ks10
   refine R.u 23 f50 rfl ht hS16 (fun W hW => (E.fa 6 f50 U28 rfl wsz22_wbb)) fun a51 f51 => ?_
   clear f44 a44 f45 a45 f46 a46 f47 a47 f48 a48 f49 a49 f50 a50
   refine R.store 24 f51 rfl (by kernel_rfl) wantedN wsz22_wbb rfl rfl rfl Bg2 (by (simp [Value.cells]; done)) (fun _ hW => hS16.trans hW (by simp)) fun a52 w11 f52 NB11 ks11 hSn => ?_
   have szw11 := ks11.size
   replace Bg2 := NB11
   simp only [Value.cells, z1, z2, z3, Nat.reduceAdd, Nat.zero_add] at Bg2
   replace hS16 := hSn
   clear hSn ks11
   have szw11r := hS16.size
   replace HK := HK.trans hS16 (ktr (by omega))
   replace Bg0 := Bg0.kept hS16 (by simp; omega)
   replace Bg1 := Bg1.kept hS16 (by simp; omega)
   clear hS16
   have hb : bareP p = { kind := p.kind, id := (if numB p = true then p.id else 0), retain := p.retain, qos := p.qos, topic := p.topic, pay := p.pay, dup := false } := by unfold bareP; (simp [*]; done)
   have hJ : ∃ t, Blk w11 g2 28 ((bareP p).cells t) ∧ ∀ W', Kept [] w W' → (bareP p).In W' t := ⟨⟨s.pa, s.pc, none, 0, none, 0, none, 0, none, 0⟩, by rw [hb]; exact Bg2, fun W' hk' => by rw [hb]; exact ⟨IP.pay.kept hk', Sl.nil _ _ _, Sl.nil _ _ _, Sl.nil _ _ _, Sl.nil _ _ _⟩⟩
   obtain ⟨tt, BT, IT⟩ := hJ
   exact R.done (by kernel_rfl) (then_of (J := J22) (Q := fun _ _ _ => True) (by rw [hJ22]; exact ⟨tt, HK, Bg1, BT, IT, f52.sub (sub_cons rfl (sub_cons rfl sn))⟩))
  refine C.condF f26 rfl ?_
  refine wp_seq_k fun K11 hK11 => ?_
  refine wp_seq_k fun K12 hK12 => C.region ?_
  refine L.va f26 (E.eq f26) fun a27 f27 => ?_
  refine L.ag f27 fun a28 f28 => ?_
  refine wpList_nil (hK12 _ _ ?_)
  have f29 := f28.sub (sc 1 (sc 2 (sc 3 (sc 13 (sc 82 sn)))))
  clear f25 f26 a24 f27 a27 f28
  refine f29.splitD 82 rfl (fun h8 f30 => ?_) (fun h8 f30 => ?_)
  ·refine C.condT f30 rfl ?_
   refine wp_skip (hK11 _ _ ?_)
   have f31 := f30.sub (sc 1 (sc 2 (sc 3 (sc 13 (sc 82 sn)))))
   refine C.condT f31 rfl ?_
   have hn1 : numB p = true := numB_t (by omega)
   refine C.region ?_
   refine L.fa 22 f31 U28 rfl wsz25_wbb fun a32 f32 => ?_
   refine L.ld f32 U25 Bg0 fun a33 f33 => ?_
   refine L.fa 22 f33 U28 rfl wsz25_wbb fun a34 f34 => ?_
   refine L.store f34 wantedN wsz25_wbb rfl rfl rfl Bg2 (by (simp [Value.cells]; done)) fun a35 w6 f35 NB6 ks6 => ?_
   have szw6 := ks6.size
   replace HK := HK.trans ks6 (ktr (by omega))
   replace Bg0 := Bg0.kept ks6 (by simp; omega)
   replace Bg1 := Bg1.kept ks6 (by simp; omega)
   replace Bg2 := NB6
   simp only [Value.cells, z1, z2, z3, Nat.reduceAdd, Nat.zero_add] at Bg2
   clear ks6 f34 a34
   have hb : bareP p = { kind := p.kind, id := (if numB p = true then p.id else 0), subs := p.subs } := by unfold bareP; (simp [*]; done)
   have hJ : ∃ t, Blk w6 g2 28 ((bareP p).cells t) ∧ ∀ W', Kept [] w W' → (bareP p).In W' t := ⟨⟨none, 0, none, 0, none, 0, s.ua, s.uc, none, 0⟩, by rw [hb]; exact Bg2, fun W' hk' => by rw [hb]; exact ⟨Sl.nil _ _ _, Sl.nil _ _ _, Sl.nil _ _ _, IP.subs.kept hk', Sl.nil _ _ _⟩⟩
   obtain ⟨tt, BT, IT⟩ := hJ
   exact wpList_nil (then_of (J := J22) (Q := fun _ _ _ => True) (by rw [hJ22]; exact ⟨tt, HK, Bg1, BT, IT, f35.sub (sub_cons rfl (sub_cons rfl sn))⟩))
  refine C.condF f30 rfl ?_
  refine C.region ?_
  refine L.va f30 (E.eq f30) fun a31 f31 => ?_
  refine L.ag f31 fun a32 f32 => ?_
  refine wpList_nil (hK11 _ _ ?_)
  have f33 := f32.sub (sc 1 (sc 2 (sc 3 (sc 13 (sc 82 sn)))))
  clear f29 f30 a28 f31 a31 f32
  refine f33.splitD 82 rfl (fun h9 f34 => ?_) (fun h9 f34 => ?_)
  ·refine C.condT f34 rfl ?_
   have hn1 : numB p = true := numB_t (by omega)
   refine C.region ?_
   refine L.fa 22 f34 U28 rfl wsz25_wbb fun a35 f35 => ?_
   refine L.ld f35 U25 Bg0 fun a36 f36 => ?_
   refine L.fa 22 f36 U28 rfl wsz25_wbb fun a37 f37 => ?_
   refine L.store f37 wantedN wsz25_wbb rfl rfl rfl Bg2 (by (simp [Value.cells]; done)) fun a38 w6 f38 NB6 ks6 => ?_
   have szw6 := ks6.size
   replace HK := HK.trans ks6 (ktr (by omega))
   replace Bg0 := Bg0.kept ks6 (by simp; omega)
   replace Bg1 := Bg1.kept ks6 (by simp; omega)
   replace Bg2 := NB6
   simp only [Value.cells, z1, z2, z3, Nat.reduceAdd, Nat.zero_add] at Bg2
   clear ks6 f37 a37
   have hb : bareP p = { kind := p.kind, id := (if numB p = true then p.id else 0), subs := p.subs } := by unfold bareP; (simp [*]; done)
   have hJ : ∃ t, Blk w6 g2 28 ((bareP p).cells t) ∧ ∀ W', Kept [] w W' → (bareP p).In W' t := ⟨⟨none, 0, none, 0, none, 0, s.ua, s.uc, none, 0⟩, by rw [hb]; exact Bg2, fun W' hk' => by rw [hb]; exact ⟨Sl.nil _ _ _, Sl.nil _ _ _, Sl.nil _ _ _, IP.subs.kept hk', Sl.nil _ _ _⟩⟩
   obtain ⟨tt, BT, IT⟩ := hJ
   exact wpList_nil (then_of (J := J22) (Q := fun _ _ _ => True) (by rw [hJ22]; exact ⟨tt, HK, Bg1, BT, IT, f38.sub (sub_cons rfl (sub_cons rfl sn))⟩))
  refine C.condF f34 rfl ?_
  refine wp_seq_k fun K13 hK13 => C.region ?_
  refine L.va f34 (E.eq f34) fun a35 f35 => ?_
  refine L.ag f35 fun a36 f36 => ?_
  refine wpList_nil (hK13 _ _ ?_)
  have f37 := f36.sub (sc 1 (sc 2 (sc 3 (sc 88 sn))))
  clear f33 f34 a32 f35 a35 f36
  refine f37.splitD 88 rfl (fun h10 f38 => ?_) (fun h10 f38 => ?_)
  ·refine C.condT f38 rfl ?_
   have hn1 : numB p = true := numB_t (by omega)
   refine C.region ?_
   refine L.fa 23 f38 U28 rfl wsz26_wbb fun a39 f39 => ?_
   refine L.ld f39 U26 Bg0 fun a40 f40 => ?_
   refine L.fa 23 f40 U28 rfl wsz26_wbb fun a41 f41 => ?_
   refine L.store f41 wantedN wsz26_wbb rfl rfl rfl Bg2 (by (simp [Value.cells]; done)) fun a42 w6 f42 NB6 ks6 => ?_
   have szw6 := ks6.size
   replace HK := HK.trans ks6 (ktr (by omega))
   replace Bg0 := Bg0.kept ks6 (by simp; omega)
   replace Bg1 := Bg1.kept ks6 (by simp; omega)
   replace Bg2 := NB6
   simp only [Value.cells, z1, z2, z3, Nat.reduceAdd, Nat.zero_add] at Bg2
   clear ks6 f41 a41
   have hb : bareP p = { kind := p.kind, id := (if numB p = true then p.id else 0), codes := p.codes } := by unfold bareP; (simp [*]; done)
   have hJ : ∃ t, Blk w6 g2 28 ((bareP p).cells t) ∧ ∀ W', Kept [] w W' → (bareP p).In W' t := ⟨⟨none, 0, none, 0, none, 0, none, 0, s.ca, s.cc⟩, by rw [hb]; exact Bg2, fun W' hk' => by rw [hb]; exact ⟨Sl.nil _ _ _, Sl.nil _ _ _, Sl.nil _ _ _, Sl.nil _ _ _, IP.codes.kept hk'⟩⟩
   obtain ⟨tt, BT, IT⟩ := hJ
   exact wpList_nil (then_of (J := J22) (Q := fun _ _ _ => True) (by rw [hJ22]; exact ⟨tt, HK, Bg1, BT, IT, f42.sub (sub_cons rfl (sub_cons rfl sn))⟩))
  refine C.condF f38 rfl ?_
  have hb : bareP p = { kind := p.kind, id := (if numB p = true then p.id else 0) } := by unfold bareP; (cases hn9 : numB p <;> simp [*])
  have hJ : ∃ t, Blk w5 g2 28 ((bareP p).cells t) ∧ ∀ W', Kept [] w W' → (bareP p).In W' t := ⟨⟨none, 0, none, 0, none, 0, none, 0, none, 0⟩, by rw [hb]; exact Bg2, fun W' hk' => by rw [hb]; exact ⟨Sl.nil _ _ _, Sl.nil _ _ _, Sl.nil _ _ _, Sl.nil _ _ _, Sl.nil _ _ _⟩⟩
  obtain ⟨tt, BT, IT⟩ := hJ
  exact wp_skip (then_of (J := J22) (Q := fun _ _ _ => True) (by rw [hJ22]; exact ⟨tt, HK, Bg1, BT, IT, f38.sub (sub_cons rfl (sub_cons rfl sn))⟩))
 intro a12 w6 hj
 rw [hJ22] at hj
 clear hJ22 J22
 obtain ⟨tt, HK, Bg1, Bg2, IT, f12⟩ := hj
 try clear f11
 refine wp_seq_k fun K14 hK14 => C.region ?_
 refine L.va f12 (by exact E.loadB f12 U28 rfl wsz28_wbb rfl (Bg2) rfl) fun a13 f13 => ?_
 refine L.storeR f13 wantedN wsz28_wbb rfl rfl rfl Bg1 rfl rfl fun a14 w7 f14 NB7 ks7 => ?_
 have szw7 := ks7.size
 replace HK := HK.trans ks7 (ktr (by omega))
 replace Bg2 := Bg2.kept ks7 (by simp; omega)
 replace Bg1 := NB7
 clear ks7 f13 a13
 refine wpList_nil (hK14 _ _ ?_)
 have f15 := f14.sub (sc 2 sn)
 refine wp_ret ?_
 try simp only [Exit.inBlock, Exit.then]
 refine C.retC (P := Tryd.prog) (fn := Tryd.f45) f15 rfl rfl Bg1 U28 rfl wsz28_wbb ?_
 exact ⟨HK, tt, rfl, IT _ HK⟩
end Go.Proofs.YtigjafbbnocihaaDoor
namespace Go.Proofs.YtigjafbbnocihaaDoor
open Go.RowKit Go.Hub Go.Lib Go.Vl
theorem wzib5_wc : (Tryd.prog.info? 5).map (fun i => (i.zero, i.size, i.bytes)) = some (some (.int .u8 0), 1, 1) := by kernel_rfl
theorem wzi5_wc : (Tryd.prog.info? 5).map (fun i => (i.zero, i.size)) = some (some (.int .u8 0), 1) := by kernel_rfl
theorem wbs22_2_wc (x0 : Int) (x1 : Int) : Instr.fill (fun i => some (i * 1, 1)) ((Array.range (2 * 1)).map fun j => (Value.cells (.int .u8 0))[j % (Value.cells (.int .u8 0)).size]!) [(0, .int .u8 x0), (1, .int .u8 x1)] = some #[.int .u8 x0, .int .u8 x1] := by kernel_rfl
theorem wsz3_wc : (Tryd.prog.info? 3).map (·.size) = some 1 := by kernel_rfl
theorem wsz4_wc : (Tryd.prog.info? 4).map (·.size) = some 1 := by kernel_rfl
theorem wsz9_wc : (Tryd.prog.info? 9).map (·.size) = some 1 := by kernel_rfl
theorem wsz22_wc : (Tryd.prog.info? 22).map (·.size) = some 1 := by kernel_rfl
theorem wsz24_wc : (Tryd.prog.info? 24).map (·.size) = some 4 := by kernel_rfl
theorem wbs22_1_wc (x0 : Int) : Instr.fill (fun i => some (i * 1, 1)) ((Array.range (1 * 1)).map fun j => (Value.cells (.int .u8 0))[j % (Value.cells (.int .u8 0)).size]!) [(0, .int .u8 x0)] = some #[.int .u8 x0] := by kernel_rfl
theorem wsz25_wc : (Tryd.prog.info? 25).map (·.size) = some 1 := by kernel_rfl
theorem wsz26_wc : (Tryd.prog.info? 26).map (·.size) = some 1 := by kernel_rfl
theorem wsz28_wc : (Tryd.prog.info? 28).map (·.size) = some 24 := by kernel_rfl
theorem wsz70_wc : (Tryd.prog.info? 70).map (·.size) = some 2 := by kernel_rfl
def FB (w W : World) (A : Option Addr) (c : Nat) (l : List UInt8) : Prop := Fresh w W 5 1 A l.length c (l.map u8)
theorem FB.nil (w W : World) : FB w W none 0 [] := Fresh.nil _ _ _ _
section
variable {w W W' : World} {A A' : Option Addr} {c c' : Nat} {l b : List UInt8}
theorem FB.own (h : FB w W A c l) : Own W 5 1 (.slice A l.length c) l.length (l.map u8) := Fresh.own h
theorem FB.kept0 (h : FB w W A c l) (hk : Kept [] W W') : FB w W' A c l := Fresh.kept0 h hk
theorem FB.keptB {g : Nat} {t : TypeId} {cs : Array Value} (h : FB w W A c l) (hk : Kept [g] W W') (B : Blk W g t cs) (ht : t ≠ 5) : FB w W' A c l := Fresh.kept h hk fun b hb hx => by
  obtain rfl := List.mem_singleton.1 hx
  exact own_ne (Fresh.own h) B ht (by simpa using (own_block A l.length c b).2 hb)
theorem FB.rel {L : List Nat} (h : FB w W A c l) (hk : Kept L w W) (hk' : Kept (Value.slice A l.length c).ownBlock.toList W W') : Kept L w W' := hk.trans hk' fun x hx hlt => by
  have := Fresh.lo h x ((own_block A l.length c x).1 (by simpa using hx))
  omega
theorem _root_.Go.Hub.App.nextB {news : List Value} {m : Nat} (h : App W W' 5 1 A l.length c (l.map u8) news m A' c') (F : FB w W A c l) (hs : w.heap.size ≤ W.heap.size) (b : List UInt8) (hn : news = b.map u8) (hm : m = b.length) : FB w W' A' c' (l ++ b) := by
  subst hn hm
  have := h.next F hs
  unfold FB
  rw [List.length_append, List.map_append]
  exact this
theorem sl_lenF (F : FB w W A c (l ++ b)) {m : Nat} (hm : m = b.length) : Value.slice A (l.length + m) c = .slice A (l ++ b).length c := by rw [List.length_append, hm]
def BufPost (w W : World) (A : Option Addr) (c : Nat) (l b : List UInt8) (e : Ending) (w' : World) : Prop := ∃ A' c', e = .returned (.slice A' (l ++ b).length c') ∧ FB w w' A' c' (l ++ b) ∧ Kept (Value.slice A l.length c).ownBlock.toList W w'
theorem AppPost.buf {e : Ending} (h : AppPost W A l.length c (l.map u8) b e W') (F : FB w W A c l) (hs : w.heap.size ≤ W.heap.size) : BufPost w W A c l b e W' := by
  obtain ⟨A', c', rfl, ap⟩ := h
  exact ⟨A', c', by rw [List.length_append], Go.Hub.App.nextB ap F hs b rfl rfl, ap.kept⟩
theorem twoB (A : Option Addr) (c : Nat) (l : List UInt8) (n : Int) (w W : World) (F : FB w W A c l) (hs : w.heap.size ≤ W.heap.size) (hl : l.length ≤ 5000000000000) : Calls Tryd.prog 68 #[.slice A l.length c, .int .i64 n] W fun e w' => BufPost w W A c l (twoL n) e w' :=
  (two_any A l.length c _ n W F.own (by omega)).mono fun e w' h => AppPost.buf h F hs
theorem lumpB (A : Option Addr) (c : Nat) (l : List UInt8) (b : ByteArray) (w W : World) (F : FB w W A c l) (hs : w.heap.size ≤ W.heap.size) (hl : l.length ≤ 5000000000000) (hb : b.size ≤ 1000000) : Calls Tryd.prog 66 #[.slice A l.length c, .string b] W fun e w' => BufPost w W A c l (lumpL b.toList) e w' :=
  (lump_any A l.length c _ b W F.own hl hb).mono fun e w' h => AppPost.buf h F hs
theorem FB.lower {w0 : World} (h : FB w W A c l) (hs : w0.heap.size ≤ w.heap.size) : FB w0 W A c l := Fresh.lower h hs
theorem FB.short {r t : List UInt8} (_h : FB w W A c l) (hq : l ++ r = t) (ht : t.length ≤ 3000000000000) : l.length ≤ 3000000000000 := by
  have := congrArg List.length hq
  rw [List.length_append] at this
  omega
theorem NewB.blk {g : Nat} {cs : Array Value} {n : Nat} (HK : Kept [] w W) (B : Blk W g 5 cs) (fr : w.heap.size ≤ g) (hcs : cs.toList = b.map u8) (hl : b.length = n) (hm : n ≤ 1000000) : NewB b w (.returned (.slice (some ⟨g, 0, none⟩) n n)) W := by
  subst hl
  have hs : cs.size = b.length := by
    have := congrArg List.length hcs
    simpa using this
  refine ⟨HK, _, _, rfl, ⟨⟨by simp, .inr ⟨g, 0, b.length, cs, rfl, B, Nat.le_refl _, ?_, by omega, fun j u hu => ?_⟩⟩, fun x hx => by simp at hx; omega⟩⟩
  · unfold maxLen; omega
  rw [Nat.zero_add, ← Array.getElem?_toList, hcs]; exact hu
theorem NewB.of (HK : Kept [] w W) (F : FB w W A c l) (h : l = b) : NewB b w (.returned (.slice A l.length c)) W := by
  subst h
  exact ⟨HK, A, c, rfl, F⟩
theorem drop_out {α : Type} (l : List α) {k : Nat} (h : l.length ≤ k) : l.drop k = [] := List.drop_eq_nil_of_le h
theorem drop_at {α : Type} {l : List α} {k : Nat} {d : α} (hd : l[k]? = some d) : l.drop k = d :: l.drop (k + 1) := by
  obtain ⟨h, e⟩ := List.getElem?_eq_some_iff.1 hd
  rw [List.drop_eq_getElem_cons h, e]
theorem subL_len (k : Int) (x : ByteArray × Int) : (subL k x).length ≤ 3 + x.1.size := by unfold subL; rw [List.length_append, lumpL_len, bytes_len]; split <;> simp <;> omega
theorem flat_len_le : ∀ (k : Int) (l : List (ByteArray × Int)), (∀ x ∈ l, x.1.size ≤ 1000000) → (l.flatMap (subL k)).length ≤ l.length * 1000003
  | _, [], _ => by simp
  | k, x :: r, h => by
    have h1 := subL_len k x
    have h2 := h x (by simp)
    have h3 := flat_len_le k r fun y hy => h y (by simp [hy])
    rw [List.flatMap_cons, List.length_append, List.length_cons]
    omega
theorem connL_len {p : Pk} (hL : p.Len) : (connL p).length ≤ 10000000 := by
  obtain ⟨L1, L2, L3, L4, L5, L6, L7, L8, L9, L10⟩ := hL
  have e1 : mqtt.toList.length = 4 := by rw [bytes_len]; rfl
  unfold connL
  simp only [List.length_append, lumpL_len, twoL_len, bytes_len, List.length_cons, List.length_nil, e1]
  repeat' split
  all_goals simp only [List.length_append, lumpL_len, bytes_len, List.length_nil]
  all_goals have e2 : mqtt.size = 4 := rfl
  all_goals omega
theorem behindL_len {p : Pk} (hL : p.Len) : (behindL p).length ≤ 3000000000000 := by
  have hc := connL_len hL
  obtain ⟨L1, L2, L3, L4, L5, L6, L7, L8, L9, L10⟩ := hL
  have h3 := flat_len_le p.kind p.subs L10
  unfold behindL
  split
  · omega
  split
  · simp
  simp only [List.length_append, List.length_map]
  have : (if p.kind = 3 then lumpL p.topic.toList else []).length ≤ 1000002 := by split <;> simp [lumpL_len, bytes_len] <;> omega
  have : (if numB p = true then twoL p.id else []).length ≤ 2 := by split <;> simp [twoL_len]
  omega
theorem bytes_arr (l : List UInt8) : (⟨l.toArray⟩ : ByteArray).size = l.length := by simp [ByteArray.size]
end
set_option maxHeartbeats 1000000 in
theorem conn_any (p : Pk) (s : Ad) (w : World) (IP : p.In w s) (hL : p.Len) (hq : 0 ≤ p.wq ∧ p.wq ≤ 2) : Calls Tryd.prog 64 #[.agg (p.cells s)] w (fun e w' => NewB (connL p) w e w') := by
 have HK : Kept [] w w := Kept.refl [] w
 have hBL : (connL p).length ≤ 3000000000000 := by have := connL_len hL; omega
 obtain ⟨L1, L2, L3, L4, L5, L6, L7, L8, L9, L10⟩ := hL
 have hf1 := flg_bd p.clean 2 (by omega)
 have hf2 := flg_bd p.hasWill 4 (by omega)
 have hf3 := flg_bd p.wr 32 (by omega)
 have hf4 := flg_bd p.hasPass 64 (by omega)
 have hf5 := flg_bd p.hasUser 128 (by omega)
 have F0 : FB w w none 0 [] := FB.nil _ _
 refine C.enter Tryd.func64 rfl Tryd.ntmps64 rfl ?_
 intro a0 f0
 have f1 : Fr 69 a0 [(0, .agg (p.cells s))] := f0
 refine wp_seq_k fun K0 hK0 => C.region ?_
 refine L.box f1 wantedN (by decide) rfl rfl fun a2 w1 g0 N0 f2 => ?_
 have Bg0 := N0.blk
 have kg0 := N0.kept
 have log0 := N0.lo
 have ltg0 := Bg0.lt
 have szw1 := kg0.size
 have frg0 : w.heap.size ≤ g0 := Nat.le_trans HK.size log0
 replace HK := HK.trans kg0 (by simp)
 replace F0 := F0.kept0 kg0
 clear N0 kg0
 refine L.ag f2 fun a3 f3 => ?_
 refine wpList_nil (hK0 _ _ ?_)
 have f4 := f3.sub (sc 1 sn)
 refine wp_seq_k fun K1 hK1 => ?_
 have hd1 : Kept [] w1 (w1.drewN 1) := (Kept.refl _ _).drewN 1
 refine R.beginT (S := fun W => (Kept [] w W) ∧ (Blk W g0 28 (p.cells s))) (by kernel_rfl) (by kernel_rfl) ⟨HK.trans hd1 (by simp), Bg0.kept hd1 (by simp)⟩ fun ht => ?_
 obtain ⟨w2, hww2⟩ : ∃ W, W = w1.drewN 1 := ⟨_, rfl⟩
 rw [← hww2] at hd1 ⊢
 clear hww2
 have szw2 := hd1.size
 replace HK := HK.trans hd1 (by simp)
 replace F0 := F0.kept0 hd1
 replace Bg0 := Bg0.kept hd1 (by simp)
 clear hd1
 refine R.u 1 f4 rfl ht ⟨HK, Bg0⟩ (fun W hW => (E.fa 7 f4 U28 rfl wsz3_wc)) fun a5 f5 => ?_
 refine R.u 2 f5 rfl ht ⟨HK, Bg0⟩ (fun W hW => (by exact E.ld f5 U3 (hW.2))) fun a6 f6 => ?_
 refine R.u 3 f6 rfl ht ⟨HK, Bg0⟩ (fun W hW => (E.conv f6 U3 U5 rfl (wrap_u8 _))) fun a7 f7 => ?_
 refine R.u 4 f7 rfl ht ⟨HK, Bg0⟩ (fun W hW => (E.fa 9 f7 U28 rfl wsz4_wc)) fun a8 f8 => ?_
 clear f0 f1 a0 f2 a2 f3 f4 a3 f5 a5 f6 a6 f7 a7
 refine R.u 5 f8 rfl ht ⟨HK, Bg0⟩ (fun W hW => (by exact E.ld f8 U4 (hW.2))) fun a9 f9 => ?_
 refine R.u 7 f9 rfl ht ⟨HK, Bg0⟩ (fun W hW => (E.fa 11 f9 U28 rfl wsz4_wc)) fun a10 f10 => ?_
 refine R.u 8 f10 rfl ht ⟨HK, Bg0⟩ (fun W hW => (by exact E.ld f10 U4 (hW.2))) fun a11 f11 => ?_
 refine R.u 11 f11 rfl ht ⟨HK, Bg0⟩ (fun W hW => (E.fa 12 f11 U28 rfl wsz24_wc)) fun a12 f12 => ?_
 refine R.u 12 f12 rfl ht ⟨HK, Bg0⟩ (fun W hW => (E.fa 2 f12 U24 rfl wsz3_wc)) fun a13 f13 => ?_
 refine R.u 13 f13 rfl ht ⟨HK, Bg0⟩ (fun W hW => (by exact E.ld f13 U3 (hW.2))) fun a14 f14 => ?_
 refine R.u 14 f14 rfl ht ⟨HK, Bg0⟩ (fun W hW => (E.mul f14 rfl rfl (IntWalk.i64_in _ (by omega)))) fun a15 f15 => ?_
 clear f8 a8 f9 a9 f10 a10 f11 a11 f12 a12 f13 a13 f14 a14
 refine R.u 16 f15 rfl ht ⟨HK, Bg0⟩ (fun W hW => (E.fa 12 f15 U28 rfl wsz24_wc)) fun a16 f16 => ?_
 refine R.u 17 f16 rfl ht ⟨HK, Bg0⟩ (fun W hW => (E.fa 3 f16 U24 rfl wsz4_wc)) fun a17 f17 => ?_
 refine R.u 18 f17 rfl ht ⟨HK, Bg0⟩ (fun W hW => (by exact E.ld f17 U4 (hW.2))) fun a18 f18 => ?_
 refine R.u 21 f18 rfl ht ⟨HK, Bg0⟩ (fun W hW => (E.fa 17 f18 U28 rfl wsz4_wc)) fun a19 f19 => ?_
 refine R.u 22 f19 rfl ht ⟨HK, Bg0⟩ (fun W hW => (by exact E.ld f19 U4 (hW.2))) fun a20 f20 => ?_
 refine R.u 25 f20 rfl ht ⟨HK, Bg0⟩ (fun W hW => (E.fa 16 f20 U28 rfl wsz4_wc)) fun a21 f21 => ?_
 refine R.u 26 f21 rfl ht ⟨HK, Bg0⟩ (fun W hW => (by exact E.ld f21 U4 (hW.2))) fun a22 f22 => ?_
 clear f15 a15 f16 a16 f17 a17 f18 a18 f19 a19 f20 a20 f21 a21
 have hC3 := fun b hb => lumpB _ _ _ b w _ F0 HK.size (by (simp [lumpL_len, twoL_len, bytes_len, maxLen]; done)) hb
 refine R.call 0 f22 rfl rfl (by decide) (by kernel_rfl) wantedN (run_call Tryd.call66 (args2 f22 rfl rfl)) (hC3 _ (by decide)) ?_
 rintro e w3 ⟨A3, c3, rfl, FN3, kc3⟩
 have szw3 := kc3.size
 replace HK := F0.rel HK kc3
 replace Bg0 := Bg0.kept kc3 (own_ne F0.own Bg0 (by decide))
 refine ⟨_, rfl, ⟨HK, Bg0⟩, fun a23 f23 => ?_⟩
 clear f22 a22 kc3
 clear F0 hC3
 refine R.call 6 f23 rfl rfl (by decide) (by kernel_rfl) wantedN (run_call Tryd.call65 (args2 f23 rfl rfl)) (flag_any _ _ _) ?_
 rintro e w3x ⟨rfl, rfl⟩
 refine ⟨_, rfl, ⟨HK, Bg0⟩, fun a24 f24 => ?_⟩
 refine R.call 9 f24 rfl rfl (by decide) (by kernel_rfl) wantedN (run_call Tryd.call65 (args2 f24 rfl rfl)) (flag_any _ _ _) ?_
 clear f23 a23
 rintro e w3x ⟨rfl, rfl⟩
 refine ⟨_, rfl, ⟨HK, Bg0⟩, fun a25 f25 => ?_⟩
 refine R.u 10 f25 rfl ht ⟨HK, Bg0⟩ (fun W hW => (E.add f25 rfl rfl (IntWalk.i64_in _ (by omega)))) fun a26 f26 => ?_
 refine R.u 15 f26 rfl ht ⟨HK, Bg0⟩ (fun W hW => (E.add f26 rfl rfl (IntWalk.i64_in _ (by omega)))) fun a27 f27 => ?_
 refine R.call 19 f27 rfl rfl (by decide) (by kernel_rfl) wantedN (run_call Tryd.call65 (args2 f27 rfl rfl)) (flag_any _ _ _) ?_
 clear f24 a24 f25 a25 f26 a26
 rintro e w3x ⟨rfl, rfl⟩
 refine ⟨_, rfl, ⟨HK, Bg0⟩, fun a28 f28 => ?_⟩
 refine R.u 20 f28 rfl ht ⟨HK, Bg0⟩ (fun W hW => (E.add f28 rfl rfl (IntWalk.i64_in _ (by omega)))) fun a29 f29 => ?_
 refine R.call 23 f29 rfl rfl (by decide) (by kernel_rfl) wantedN (run_call Tryd.call65 (args2 f29 rfl rfl)) (flag_any _ _ _) ?_
 clear f27 a27 f28 a28
 rintro e w3x ⟨rfl, rfl⟩
 refine ⟨_, rfl, ⟨HK, Bg0⟩, fun a30 f30 => ?_⟩
 refine R.u 24 f30 rfl ht ⟨HK, Bg0⟩ (fun W hW => (E.add f30 rfl rfl (IntWalk.i64_in _ (by omega)))) fun a31 f31 => ?_
 refine R.call 27 f31 rfl rfl (by decide) (by kernel_rfl) wantedN (run_call Tryd.call65 (args2 f31 rfl rfl)) (flag_any _ _ _) ?_
 clear f29 a29 f30 a30
 rintro e w3x ⟨rfl, rfl⟩
 refine ⟨_, rfl, ⟨HK, Bg0⟩, fun a32 f32 => ?_⟩
 refine R.u 28 f32 rfl ht ⟨HK, Bg0⟩ (fun W hW => (E.add f32 rfl rfl (IntWalk.i64_in _ (by omega)))) fun a33 f33 => ?_
 refine R.u 29 f33 rfl ht ⟨HK, Bg0⟩ (fun W hW => (E.conv f33 U3 U5 rfl (wrap_u8 _))) fun a34 f34 => ?_
 refine R.one 30 (by kernel_rfl) ?_
 refine O.buildSlice f34 rfl wantedN (by decide) (parts2 f34 rfl rfl) U22 wzi5_wc rfl rfl (wbs22_2_wc _ _) (fun _ hk => ⟨HK.trans hk (by simp), Bg0.kept hk (by simp)⟩) fun a35 w4 g3 N3 hSn f35 => ?_
 clear hSn
 have Bg3 := N3.blk
 have kg3 := N3.kept
 have log3 := N3.lo
 have ltg3 := Bg3.lt
 have szw4 := kg3.size
 have frg3 : w.heap.size ≤ g3 := Nat.le_trans HK.size log3
 have neg0_g3 : g0 ≠ g3 := by have := Bg0.lt; omega
 replace HK := HK.trans kg3 (by simp)
 replace Bg0 := Bg0.kept kg3 (by simp)
 replace FN3 := FN3.kept0 kg3
 clear N3 kg3
 refine R.one 31 (by kernel_rfl) ?_
 refine O.append f35 rfl wantedN (by decide) U22 wzib5_wc rfl rfl rfl rfl FN3.own (Blk.sl1 Bg3 rfl) (by intro u hu; simp at hu; rcases hu with rfl | rfl <;> rfl) (by (simp [lumpL_len, twoL_len, bytes_len, maxLen]; done)) (by (simp [lumpL_len, twoL_len, bytes_len, maxLen]; done)) fun a36 w5 A5 c5 AP5 => ?_
 have FN5 := AP5.nextB FN3 HK.size ([b8 p.level, b8 (flagsI p)]) (by simp [u8_b8, flagsI]) (by simp)
 have kap5 := AP5.kept
 have szw5 := kap5.size
 replace HK := FN3.rel HK kap5
 replace Bg0 := Bg0.kept kap5 (own_ne FN3.own Bg0 (by decide))
 refine ⟨⟨HK, Bg0⟩, fun f36 => ?_⟩
 clear f35 a35 kap5 AP5 FN3
 have f37 := f36.as (i := 35) rfl (sl_lenF FN5 (by simp))
 refine R.u 32 f37 rfl ht ⟨HK, Bg0⟩ (fun W hW => (E.assign f37 rfl)) fun a38 f38 => ?_
 refine R.done (by kernel_rfl) (hK1 _ _ ?_)
 have f39 := f38.sub (sc 1 (sc 3 sn))
 obtain ⟨J3, hJ3⟩ : ∃ J : Act → World → Prop, J = fun a W => ∃ (A : Option Addr) (c : Nat) (l : List UInt8), l ++ ((if p.hasWill then lumpL p.wt.toList ++ lumpL p.wp else []) ++ ((if p.hasUser then lumpL p.user.toList else []) ++ (if p.hasPass then lumpL p.pass else []))) = connL p ∧ Kept [] w W ∧ Blk W g0 28 (p.cells s) ∧ FB w W A c l ∧ Fr 69 a [(1, .pointer (some ⟨g0, 0, none⟩)), (3, .slice A l.length c)] := ⟨_, rfl⟩
 clear f31 a31 f32 a32 f33 a33 f34 a34 f36 f37 a36 f38
 refine C.cut J3 ?_ ?_
 ·skip
  have hd2 : Kept [] w5 (w5.drewN 1) := (Kept.refl _ _).drewN 1
  refine R.beginT (S := fun W => (Kept [] w W) ∧ (Blk W g0 28 (p.cells s))) (by kernel_rfl) (by kernel_rfl) ⟨HK.trans hd2 (by simp), Bg0.kept hd2 (by simp)⟩ fun ht => ?_
  obtain ⟨w6, hww6⟩ : ∃ W, W = w5.drewN 1 := ⟨_, rfl⟩
  rw [← hww6] at hd2 ⊢
  clear hww6
  have szw6 := hd2.size
  replace HK := HK.trans hd2 (by simp)
  replace Bg0 := Bg0.kept hd2 (by simp)
  replace FN5 := FN5.kept0 hd2
  clear hd2
  refine R.u 0 f39 rfl ht ⟨HK, Bg0⟩ (fun W hW => (E.move f39 rfl)) fun a40 f40 => ?_
  refine R.u 1 f40 rfl ht ⟨HK, Bg0⟩ (fun W hW => (E.fa 10 f40 U28 rfl wsz3_wc)) fun a41 f41 => ?_
  refine R.u 2 f41 rfl ht ⟨HK, Bg0⟩ (fun W hW => (by exact E.ld f41 U3 (hW.2))) fun a42 f42 => ?_
  refine R.u 4 f42 rfl ht ⟨HK, Bg0⟩ (fun W hW => (E.fa 8 f42 U28 rfl wsz9_wc)) fun a43 f43 => ?_
  refine R.u 5 f43 rfl ht ⟨HK, Bg0⟩ (fun W hW => (by exact E.ld f43 U9 (hW.2))) fun a44 f44 => ?_
  have hC7 := fun n => twoB _ _ _ n w _ FN5 HK.size (by (simp [lumpL_len, twoL_len, bytes_len, maxLen]; done))
  refine R.call 3 f44 rfl rfl (by decide) (by kernel_rfl) wantedN (run_call Tryd.call68 (args2 f44 rfl rfl)) (hC7 _) ?_
  clear f39 a38 f40 a40 f41 a41 f42 a42 f43 a43
  rintro e w7 ⟨A7, c7, rfl, FN7, kc7⟩
  have szw7 := kc7.size
  replace HK := FN5.rel HK kc7
  replace Bg0 := Bg0.kept kc7 (own_ne FN5.own Bg0 (by decide))
  refine ⟨_, rfl, ⟨HK, Bg0⟩, fun a45 f45 => ?_⟩
  clear f44 a44 kc7
  clear FN5 hC7
  have hC8 := fun b hb => lumpB _ _ _ b w _ FN7 HK.size (by (simp [lumpL_len, twoL_len, bytes_len, maxLen]; done)) hb
  refine R.call 6 f45 rfl rfl (by decide) (by kernel_rfl) wantedN (run_call Tryd.call66 (args2 f45 rfl rfl)) (hC8 _ (by omega)) ?_
  rintro e w8 ⟨A8, c8, rfl, FN8, kc8⟩
  have szw8 := kc8.size
  replace HK := FN7.rel HK kc8
  replace Bg0 := Bg0.kept kc8 (own_ne FN7.own Bg0 (by decide))
  refine ⟨_, rfl, ⟨HK, Bg0⟩, fun a46 f46 => ?_⟩
  clear f45 a45 kc8
  clear FN7 hC8
  refine R.u 7 f46 rfl ht ⟨HK, Bg0⟩ (fun W hW => (E.assign f46 rfl)) fun a47 f47 => ?_
  exact R.done (by kernel_rfl) (then_of (J := J3) (Q := fun _ _ _ => True) (by rw [hJ3]; exact ⟨_, _, _, by rw [connL_eq]; simp, HK, Bg0, FN8, f47.sub (sub_cons rfl (sub_cons rfl sn))⟩))
 intro a40 w6 hj
 rw [hJ3] at hj
 clear hJ3 J3
 obtain ⟨AB, cB, lb, hq, HK, Bg0, FL, f40⟩ := hj
 try clear f39
 have hll := FB.short FL hq hBL
 obtain ⟨J5, hJ5⟩ : ∃ J : Act → World → Prop, J = fun a W => ∃ (A : Option Addr) (c : Nat) (l : List UInt8), l ++ ((if p.hasUser then lumpL p.user.toList else []) ++ (if p.hasPass then lumpL p.pass else [])) = connL p ∧ Kept [] w W ∧ Blk W g0 28 (p.cells s) ∧ FB w W A c l ∧ Fr 69 a [(1, .pointer (some ⟨g0, 0, none⟩)), (3, .slice A l.length c)] := ⟨_, rfl⟩
 refine C.cut J5 ?_ ?_
 ·skip
  refine wp_seq_k fun K2 hK2 => C.region ?_
  refine L.fa 11 f40 U28 rfl wsz4_wc fun a41 f41 => ?_
  refine L.ld f41 U4 Bg0 fun a42 f42 => ?_
  refine wpList_nil (hK2 _ _ ?_)
  have f43 := f42.sub (sc 1 (sc 3 (sc 44 sn)))
  clear f40 a40 f41 a41 f42
  refine f43.split 44 rfl (fun h0 f44 => ?_) (fun h0 f44 => ?_)
  ·have hw44 := h0
   refine C.condT f44 rfl ?_
   have hd4 : Kept [] w6 (w6.drewN 1) := (Kept.refl _ _).drewN 1
   refine R.beginT (S := fun W => (Kept [] w W) ∧ (Blk W g0 28 (p.cells s))) (by kernel_rfl) (by kernel_rfl) ⟨HK.trans hd4 (by simp), Bg0.kept hd4 (by simp)⟩ fun ht => ?_
   obtain ⟨w7, hww7⟩ : ∃ W, W = w6.drewN 1 := ⟨_, rfl⟩
   rw [← hww7] at hd4 ⊢
   clear hww7
   have szw7 := hd4.size
   replace HK := HK.trans hd4 (by simp)
   replace Bg0 := Bg0.kept hd4 (by simp)
   replace FL := FL.kept0 hd4
   clear hd4
   refine R.u 0 f44 rfl ht ⟨HK, Bg0⟩ (fun W hW => (E.move f44 rfl)) fun a45 f45 => ?_
   refine R.u 1 f45 rfl ht ⟨HK, Bg0⟩ (fun W hW => (E.fa 12 f45 U28 rfl wsz24_wc)) fun a46 f46 => ?_
   refine R.u 2 f46 rfl ht ⟨HK, Bg0⟩ (fun W hW => (E.fa 0 f46 U24 rfl wsz9_wc)) fun a47 f47 => ?_
   refine R.u 3 f47 rfl ht ⟨HK, Bg0⟩ (fun W hW => (by exact E.ld f47 U9 (hW.2))) fun a48 f48 => ?_
   refine R.u 5 f48 rfl ht ⟨HK, Bg0⟩ (fun W hW => (E.fa 12 f48 U28 rfl wsz24_wc)) fun a49 f49 => ?_
   refine R.u 6 f49 rfl ht ⟨HK, Bg0⟩ (fun W hW => (E.fa 1 f49 U24 rfl wsz22_wc)) fun a50 f50 => ?_
   refine R.u 7 f50 rfl ht ⟨HK, Bg0⟩ (fun W hW => (by exact E.ld f50 U22 (hW.2))) fun a51 f51 => ?_
   clear f43 f44 a42 f45 a45 f46 a46 f47 a47 f48 a48 f49 a49 f50 a50
   refine R.u 8 f51 rfl ht ⟨HK, Bg0⟩ (fun W hW => (E.toStr f51 rfl U22 U5 U9 (IP.wp.kept hW.1))) fun a52 f52 => ?_
   have hC8 := fun b hb => lumpB _ _ _ b w _ FL HK.size (by omega) hb
   refine R.call 4 f52 rfl rfl (by decide) (by kernel_rfl) wantedN (run_call Tryd.call66 (args2 f52 rfl rfl)) (hC8 _ (by omega)) ?_
   clear f51 a51
   rintro e w8 ⟨A8, c8, rfl, FN8, kc8⟩
   have szw8 := kc8.size
   replace HK := FL.rel HK kc8
   replace Bg0 := Bg0.kept kc8 (own_ne FL.own Bg0 (by decide))
   refine ⟨_, rfl, ⟨HK, Bg0⟩, fun a53 f53 => ?_⟩
   clear f52 a52 kc8
   clear FL hC8
   have hC9 := fun b hb => lumpB _ _ _ b w _ FN8 HK.size (by (simp [lumpL_len, twoL_len, bytes_len, maxLen]; omega)) hb
   refine R.call 9 f53 rfl rfl (by decide) (by kernel_rfl) wantedN (run_call Tryd.call66 (args2 f53 rfl rfl)) (hC9 _ (by simpa [bytes_arr] using L2)) ?_
   rintro e w9 ⟨A9, c9, rfl, FN9, kc9⟩
   have szw9 := kc9.size
   replace HK := FN8.rel HK kc9
   replace Bg0 := Bg0.kept kc9 (own_ne FN8.own Bg0 (by decide))
   refine ⟨_, rfl, ⟨HK, Bg0⟩, fun a54 f54 => ?_⟩
   clear f53 a53 kc9
   clear FN8 hC9
   refine R.u 10 f54 rfl ht ⟨HK, Bg0⟩ (fun W hW => (E.assign f54 rfl)) fun a55 f55 => ?_
   exact R.done (by kernel_rfl) (then_of (J := J5) (Q := fun _ _ _ => True) (by rw [hJ5]; exact ⟨_, _, _, by rw [← hq]; simp [hw44], HK, Bg0, FN9, f55.sub (sub_cons rfl (sub_cons rfl sn))⟩))
  have hw44 := h0
  refine C.condF f44 rfl ?_
  exact wp_skip (then_of (J := J5) (Q := fun _ _ _ => True) (by rw [hJ5]; exact ⟨_, _, _, by rw [← hq]; simp [hw44], HK, Bg0, FL, f44.sub (sub_cons rfl (sub_cons rfl sn))⟩))
 intro a41 w7 hj
 rw [hJ5] at hj
 clear hJ5 J5
 obtain ⟨AB, cB, lb, hq, HK, Bg0, FL, f41⟩ := hj
 try clear f40
 have hll := FB.short FL hq hBL
 obtain ⟨J7, hJ7⟩ : ∃ J : Act → World → Prop, J = fun a W => ∃ (A : Option Addr) (c : Nat) (l : List UInt8), l ++ ((if p.hasPass then lumpL p.pass else [])) = connL p ∧ Kept [] w W ∧ Blk W g0 28 (p.cells s) ∧ FB w W A c l ∧ Fr 69 a [(1, .pointer (some ⟨g0, 0, none⟩)), (3, .slice A l.length c)] := ⟨_, rfl⟩
 refine C.cut J7 ?_ ?_
 ·skip
  refine wp_seq_k fun K3 hK3 => C.region ?_
  refine L.fa 16 f41 U28 rfl wsz4_wc fun a42 f42 => ?_
  refine L.ld f42 U4 Bg0 fun a43 f43 => ?_
  refine wpList_nil (hK3 _ _ ?_)
  have f44 := f43.sub (sc 1 (sc 3 (sc 56 sn)))
  clear f41 a41 f42 a42 f43
  refine f44.split 56 rfl (fun h1 f45 => ?_) (fun h1 f45 => ?_)
  ·have hw56 := h1
   refine C.condT f45 rfl ?_
   refine C.region ?_
   refine L.mv f45 fun a46 f46 => ?_
   refine L.fa 18 f46 U28 rfl wsz9_wc fun a47 f47 => ?_
   refine L.ld f47 U9 Bg0 fun a48 f48 => ?_
   have hC8 := fun b hb => lumpB _ _ _ b w _ FL HK.size (by omega) hb
   refine L.cl f48 (run_call Tryd.call66 (args2 f48 rfl rfl)) (hC8 _ (by omega)) ?_
   clear f44 f45 a43 f46 a46 f47 a47
   rintro e w8 ⟨A8, c8, rfl, FN8, kc8⟩
   refine ⟨_, rfl, fun a49 f49 => ?_⟩
   have szw8 := kc8.size
   replace HK := FL.rel HK kc8
   replace Bg0 := Bg0.kept kc8 (own_ne FL.own Bg0 (by decide))
   clear kc8
   clear FL hC8
   refine L.ag f49 fun a50 f50 => ?_
   exact wpList_nil (then_of (J := J7) (Q := fun _ _ _ => True) (by rw [hJ7]; exact ⟨_, _, _, by rw [← hq]; simp [hw56], HK, Bg0, FN8, f50.sub (sub_cons rfl (sub_cons rfl sn))⟩))
  have hw56 := h1
  refine C.condF f45 rfl ?_
  exact wp_skip (then_of (J := J7) (Q := fun _ _ _ => True) (by rw [hJ7]; exact ⟨_, _, _, by rw [← hq]; simp [hw56], HK, Bg0, FL, f45.sub (sub_cons rfl (sub_cons rfl sn))⟩))
 intro a42 w8 hj
 rw [hJ7] at hj
 clear hJ7 J7
 obtain ⟨AB, cB, lb, hq, HK, Bg0, FL, f42⟩ := hj
 try clear f41
 have hll := FB.short FL hq hBL
 refine wp_seq_k fun K4 hK4 => ?_
 refine wp_seq_k fun K5 hK5 => C.region ?_
 refine L.fa 17 f42 U28 rfl wsz4_wc fun a43 f43 => ?_
 refine L.ld f43 U4 Bg0 fun a44 f44 => ?_
 refine wpList_nil (hK5 _ _ ?_)
 have f45 := f44.sub (sc 1 (sc 3 (sc 62 sn)))
 clear f42 a42 f43 a43 f44
 refine f45.split 62 rfl (fun h2 f46 => ?_) (fun h2 f46 => ?_)
 ·have hw62 := h2
  refine C.condT f46 rfl ?_
  refine C.region ?_
  refine L.mv f46 fun a47 f47 => ?_
  refine L.fa 19 f47 U28 rfl wsz22_wc fun a48 f48 => ?_
  refine L.ld f48 U22 Bg0 fun a49 f49 => ?_
  refine L.va f49 (E.toStr f49 rfl U22 U5 U9 (IP.pass.kept HK)) fun a50 f50 => ?_
  have hC9 := fun b hb => lumpB _ _ _ b w _ FL HK.size (by omega) hb
  refine L.cl f50 (run_call Tryd.call66 (args2 f50 rfl rfl)) (hC9 _ (by simpa [bytes_arr] using L3)) ?_
  clear f45 f46 a44 f47 a47 f48 a48 f49 a49
  rintro e w9 ⟨A9, c9, rfl, FN9, kc9⟩
  refine ⟨_, rfl, fun a51 f51 => ?_⟩
  have szw9 := kc9.size
  replace HK := FL.rel HK kc9
  replace Bg0 := Bg0.kept kc9 (own_ne FL.own Bg0 (by decide))
  clear kc9
  clear FL hC9
  refine L.ag f51 fun a52 f52 => ?_
  refine wpList_nil (hK4 _ _ ?_)
  have f53 := f52.sub (sc 3 sn)
  refine wp_seq_k fun K6 hK6 => C.region ?_
  refine L.mv f53 fun a54 f54 => ?_
  refine L.ag f54 fun a55 f55 => ?_
  refine wpList_nil (hK6 _ _ ?_)
  have f56 := f55.sub (sc 2 sn)
  refine wp_ret ?_
  try simp only [Exit.inBlock, Exit.then]
  refine C.ret (P := Tryd.prog) (fn := Tryd.f64) f56 rfl rfl ?_
  exact NewB.of HK FN9 (by rw [← hq]; simp [hw62])
 have hw62 := h2
 refine C.condF f46 rfl ?_
 refine wp_skip (hK4 _ _ ?_)
 have f47 := f46.sub (sc 3 sn)
 refine wp_seq_k fun K7 hK7 => C.region ?_
 refine L.mv f47 fun a48 f48 => ?_
 refine L.ag f48 fun a49 f49 => ?_
 refine wpList_nil (hK7 _ _ ?_)
 have f50 := f49.sub (sc 2 sn)
 refine wp_ret ?_
 try simp only [Exit.inBlock, Exit.then]
 refine C.ret (P := Tryd.prog) (fn := Tryd.f64) f50 rfl rfl ?_
 exact NewB.of HK FL (by rw [← hq]; simp [hw62])
set_option maxHeartbeats 4000000 in
theorem behind_any (p : Pk) (s : Ad) (w : World) (IP : p.In w s) (hL : p.Len) (hq1 : p.kind = 1 → 0 ≤ p.wq ∧ p.wq ≤ 2) : Calls Tryd.prog 37 #[.agg (p.cells s)] w (fun e w' => NewB (behindL p) w e w') := by
 have HK : Kept [] w w := Kept.refl [] w
 have hBL := behindL_len hL
 obtain ⟨L1, L2, L3, L4, L5, L6, L7, L8, L9, L10⟩ := hL
 have F0 : FB w w none 0 [] := FB.nil _ _
 refine C.enter Tryd.func37 rfl Tryd.ntmps37 rfl ?_
 intro a0 f0
 have f1 : Fr 73 a0 [(0, .agg (p.cells s))] := f0
 refine wp_seq_k fun K0 hK0 => C.region ?_
 refine L.box f1 wantedN (by decide) rfl rfl fun a2 w1 g0 N0 f2 => ?_
 have Bg0 := N0.blk
 have kg0 := N0.kept
 have log0 := N0.lo
 have ltg0 := Bg0.lt
 have szw1 := kg0.size
 have frg0 : w.heap.size ≤ g0 := Nat.le_trans HK.size log0
 replace HK := HK.trans kg0 (by simp)
 replace F0 := F0.kept0 kg0
 clear N0 kg0
 refine L.ag f2 fun a3 f3 => ?_
 refine wpList_nil (hK0 _ _ ?_)
 have f4 := f3.sub (sc 1 sn)
 refine wp_seq_k fun K1 hK1 => C.region ?_
 refine L.ag f4 fun a5 f5 => ?_
 refine wpList_nil (hK1 _ _ ?_)
 have f6 := f5.sub (sc 1 (sc 3 sn))
 obtain ⟨J9, hJ9⟩ : ∃ J : Act → World → Prop, J = fun a W => ∃ (A : Option Addr) (c : Nat) (l : List UInt8), l ++ ((if numB p then twoL p.id else []) ++ (p.subs.flatMap (subL p.kind) ++ (p.codes.map b8 ++ p.pay))) = behindL p ∧ Kept [] w W ∧ Blk W g0 28 (p.cells s) ∧ FB w W A c l ∧ Fr 73 a [(1, .pointer (some ⟨g0, 0, none⟩)), (3, .slice A l.length c)] := ⟨_, rfl⟩
 clear f0 f1 a0 f2 a2 f3 f4 a3 f5
 refine C.cut J9 ?_ ?_
 ·skip
  refine wp_seq_k fun K2 hK2 => C.region ?_
  refine L.fa 0 f6 U28 rfl wsz3_wc fun a7 f7 => ?_
  refine L.ld f7 U3 Bg0 fun a8 f8 => ?_
  refine wpList_nil (hK2 _ _ ?_)
  have f9 := f8.sub (sc 1 (sc 3 (sc 9 sn)))
  refine wp_block ?_
  refine wp_seq_k fun K3 hK3 => C.region ?_
  refine L.va f9 (E.eq f9) fun a10 f10 => ?_
  refine L.ag f10 fun a11 f11 => ?_
  refine wpList_nil (hK3 _ _ ?_)
  have f12 := f11.sub (sc 1 (sc 3 (sc 9 (sc 10 sn))))
  clear f6 a5 f7 a7 f8 f9 a8 f10 a10 f11
  refine f12.splitD 10 rfl (fun h0 f13 => ?_) (fun h0 f13 => ?_)
  ·refine C.condT f13 rfl ?_
   refine wp_seq_k fun K4 hK4 => C.region ?_
   refine L.va f13 (by exact E.loadB f13 U28 rfl wsz28_wc rfl (Bg0) rfl) fun a14 f14 => ?_
   refine L.cl f14 (run_call Tryd.call64 (args1 f14 rfl)) (conn_any p s _ (IP.kept HK) ⟨L1, L2, L3, L4, L5, L6, L7, L8, L9, L10⟩ (hq1 (by assumption))) ?_
   clear f12 f13 a11
   rintro e w2 ⟨kc2, A2, c2, rfl, F2⟩
   have FC := FB.lower F2 HK.size
   refine ⟨_, rfl, fun a15 f15 => ?_⟩
   have szw2 := kc2.size
   replace HK := HK.trans kc2 (by simp)
   replace F0 := F0.kept0 kc2
   replace Bg0 := Bg0.kept kc2 (by simp)
   clear kc2
   clear F2
   refine L.ag f15 fun a16 f16 => ?_
   refine wpList_nil (hK4 _ _ ?_)
   have f17 := f16.sub (sc 2 sn)
   refine wp_ret ?_
   try simp only [Exit.inBlock, Exit.then]
   refine C.ret (P := Tryd.prog) (fn := Tryd.f37) f17 rfl rfl ?_
   exact NewB.of HK FC (by simp [behindL, *])
  refine C.condF f13 rfl ?_
  refine wp_seq_k fun K5 hK5 => C.region ?_
  refine L.va f13 (E.eq f13) fun a14 f14 => ?_
  refine L.ag f14 fun a15 f15 => ?_
  refine wpList_nil (hK5 _ _ ?_)
  have f16 := f15.sub (sc 1 (sc 3 (sc 9 (sc 14 sn))))
  clear f12 f13 a11 f14 a14 f15
  refine f16.splitD 14 rfl (fun h1 f17 => ?_) (fun h1 f17 => ?_)
  ·refine C.condT f17 rfl ?_
   refine wp_seq_k fun K6 hK6 => ?_
   have hd6 : Kept [] w1 (w1.drewN 1) := (Kept.refl _ _).drewN 1
   refine R.beginT (S := fun W => (Kept [] w W) ∧ (Blk W g0 28 (p.cells s))) (by kernel_rfl) (by kernel_rfl) ⟨HK.trans hd6 (by simp), Bg0.kept hd6 (by simp)⟩ fun ht => ?_
   obtain ⟨w2, hww2⟩ : ∃ W, W = w1.drewN 1 := ⟨_, rfl⟩
   rw [← hww2] at hd6 ⊢
   clear hww2
   have szw2 := hd6.size
   replace HK := HK.trans hd6 (by simp)
   replace F0 := F0.kept0 hd6
   replace Bg0 := Bg0.kept hd6 (by simp)
   clear hd6
   refine R.u 0 f17 rfl ht ⟨HK, Bg0⟩ (fun W hW => (E.fa 20 f17 U28 rfl wsz4_wc)) fun a18 f18 => ?_
   refine R.u 1 f18 rfl ht ⟨HK, Bg0⟩ (fun W hW => (by exact E.ld f18 U4 (hW.2))) fun a19 f19 => ?_
   refine R.u 4 f19 rfl ht ⟨HK, Bg0⟩ (fun W hW => (E.fa 21 f19 U28 rfl wsz3_wc)) fun a20 f20 => ?_
   refine R.u 5 f20 rfl ht ⟨HK, Bg0⟩ (fun W hW => (by exact E.ld f20 U3 (hW.2))) fun a21 f21 => ?_
   refine R.u 6 f21 rfl ht ⟨HK, Bg0⟩ (fun W hW => (E.conv f21 U3 U5 rfl (wrap_u8 _))) fun a22 f22 => ?_
   refine R.call 2 f22 rfl rfl (by decide) (by kernel_rfl) wantedN (run_call Tryd.call65 (args2 f22 rfl rfl)) (flag_any _ _ _) ?_
   clear f16 f17 a15 f18 a18 f19 a19 f20 a20 f21 a21
   rintro e w2x ⟨rfl, rfl⟩
   refine ⟨_, rfl, ⟨HK, Bg0⟩, fun a23 f23 => ?_⟩
   refine R.u 3 f23 rfl ht ⟨HK, Bg0⟩ (fun W hW => (E.conv f23 U3 U5 rfl (wrap_u8 _))) fun a24 f24 => ?_
   refine R.one 7 (by kernel_rfl) ?_
   refine O.buildSlice f24 rfl wantedN (by decide) (parts2 f24 rfl rfl) U22 wzi5_wc rfl rfl (wbs22_2_wc _ _) (fun _ hk => ⟨HK.trans hk (by simp), Bg0.kept hk (by simp)⟩) fun a25 w3 g2 N2 hSn f25 => ?_
   clear hSn
   have Bg2 := N2.blk
   have kg2 := N2.kept
   have log2 := N2.lo
   have ltg2 := Bg2.lt
   have szw3 := kg2.size
   have frg2 : w.heap.size ≤ g2 := Nat.le_trans HK.size log2
   have neg0_g2 : g0 ≠ g2 := by have := Bg0.lt; omega
   replace HK := HK.trans kg2 (by simp)
   replace F0 := F0.kept0 kg2
   replace Bg0 := Bg0.kept kg2 (by simp)
   clear N2 kg2
   refine R.u 8 f25 rfl ht ⟨HK, Bg0⟩ (fun W hW => (E.assign f25 rfl)) fun a26 f26 => ?_
   refine R.done (by kernel_rfl) (hK6 _ _ ?_)
   have f27 := f26.sub (sc 2 sn)
   refine wp_ret ?_
   try simp only [Exit.inBlock, Exit.then]
   refine C.ret (P := Tryd.prog) (fn := Tryd.f37) f27 rfl rfl ?_
   exact NewB.blk HK Bg2 frg2 (by simp [behindL, u8_b8, *]) (by simp [behindL, *]) (by decide)
  refine C.condF f17 rfl ?_
  refine wp_seq_k fun K7 hK7 => C.region ?_
  refine L.va f17 (E.eq f17) fun a18 f18 => ?_
  refine L.ag f18 fun a19 f19 => ?_
  refine wpList_nil (hK7 _ _ ?_)
  have f20 := f19.sub (sc 1 (sc 3 (sc 24 sn)))
  clear f16 f17 a15 f18 a18 f19
  refine f20.splitD 24 rfl (fun h2 f21 => ?_) (fun h2 f21 => ?_)
  ·refine C.condT f21 rfl ?_
   refine C.region ?_
   refine L.fa 5 f21 U28 rfl wsz9_wc fun a22 f22 => ?_
   refine L.ld f22 U9 Bg0 fun a23 f23 => ?_
   have hC2 := fun b hb => lumpB _ _ _ b w _ F0 HK.size (by (simp [lumpL_len, twoL_len, bytes_len, maxLen]; done)) hb
   refine L.cl f23 (run_call Tryd.call66 (args2 f23 rfl rfl)) (hC2 _ (by omega)) ?_
   clear f20 f21 a19 f22 a22
   rintro e w2 ⟨A2, c2, rfl, FN2, kc2⟩
   refine ⟨_, rfl, fun a24 f24 => ?_⟩
   have szw2 := kc2.size
   replace HK := F0.rel HK kc2
   replace Bg0 := Bg0.kept kc2 (own_ne F0.own Bg0 (by decide))
   clear kc2
   clear F0 hC2
   refine L.ag f24 fun a25 f25 => ?_
   exact wpList_nil (then_of (J := J9) (Q := fun _ _ _ => True) (by rw [hJ9]; exact ⟨_, _, _, by simp [behindL, *], HK, Bg0, FN2, f25.sub (sub_cons rfl (sub_cons rfl sn))⟩))
  refine C.condF f21 rfl ?_
  exact wp_skip (then_of (J := J9) (Q := fun _ _ _ => True) (by rw [hJ9]; exact ⟨_, _, _, by simp [behindL, *], HK, Bg0, F0, f21.sub (sub_cons rfl (sub_cons rfl sn))⟩))
 intro a7 w2 hj
 rw [hJ9] at hj
 clear hJ9 J9
 obtain ⟨AB, cB, lb, hq, HK, Bg0, FL, f7⟩ := hj
 try clear f6
 have hll := FB.short FL hq hBL
 obtain ⟨J11, hJ11⟩ : ∃ J : Act → World → Prop, J = fun a W => ∃ (A : Option Addr) (c : Nat) (l : List UInt8), l ++ (p.subs.flatMap (subL p.kind) ++ (p.codes.map b8 ++ p.pay)) = behindL p ∧ Kept [] w W ∧ Blk W g0 28 (p.cells s) ∧ FB w W A c l ∧ Fr 73 a [(1, .pointer (some ⟨g0, 0, none⟩)), (3, .slice A l.length c)] := ⟨_, rfl⟩
 refine C.cut J11 ?_ ?_
 ·skip
  refine wp_seq_k fun K8 hK8 => C.region ?_
  refine L.va f7 (by exact E.loadB f7 U28 rfl wsz28_wc rfl (Bg0) rfl) fun a8 f8 => ?_
  refine L.cl f8 (run_call Tryd.call67 (args1 f8 rfl)) (num_any p s _) ?_
  clear f7 a7
  rintro e w3 ⟨kc3, rfl⟩
  refine ⟨_, rfl, fun a9 f9 => ?_⟩
  have szw3 := kc3.size
  replace HK := HK.trans kc3 (by simp)
  replace Bg0 := Bg0.kept kc3 (by simp)
  replace FL := FL.kept0 kc3
  clear kc3
  clear f8 a8
  refine f9.split 30 rfl (fun h3 f10 => ?_) (fun h3 f10 => ?_)
  ·have hn := h3
   refine wpList_nil (hK8 _ _ ?_)
   have f11 := f10.sub (sc 1 (sc 3 (sc 30 sn)))
   refine C.condT f11 rfl ?_
   refine C.region ?_
   refine L.mv f11 fun a12 f12 => ?_
   refine L.fa 4 f12 U28 rfl wsz3_wc fun a13 f13 => ?_
   refine L.ld f13 U3 Bg0 fun a14 f14 => ?_
   have hC4 := fun n => twoB _ _ _ n w _ FL HK.size (by omega)
   refine L.cl f14 (run_call Tryd.call68 (args2 f14 rfl rfl)) (hC4 _) ?_
   clear f9 f10 f11 a9 f12 a12 f13 a13
   rintro e w4 ⟨A4, c4, rfl, FN4, kc4⟩
   refine ⟨_, rfl, fun a15 f15 => ?_⟩
   have szw4 := kc4.size
   replace HK := FL.rel HK kc4
   replace Bg0 := Bg0.kept kc4 (own_ne FL.own Bg0 (by decide))
   clear kc4
   clear FL hC4
   refine L.ag f15 fun a16 f16 => ?_
   exact wpList_nil (then_of (J := J11) (Q := fun _ _ _ => True) (by rw [hJ11]; exact ⟨_, _, _, by rw [← hq]; simp [hn], HK, Bg0, FN4, f16.sub (sub_cons rfl (sub_cons rfl sn))⟩))
  have hn := h3
  refine wpList_nil (hK8 _ _ ?_)
  have f11 := f10.sub (sc 1 (sc 3 (sc 30 sn)))
  refine C.condF f11 rfl ?_
  exact wp_skip (then_of (J := J11) (Q := fun _ _ _ => True) (by rw [hJ11]; exact ⟨_, _, _, by rw [← hq]; simp [hn], HK, Bg0, FL, f11.sub (sub_cons rfl (sub_cons rfl sn))⟩))
 intro a8 w3 hj
 rw [hJ11] at hj
 clear hJ11 J11
 obtain ⟨AB, cB, lb, hq, HK, Bg0, FL, f8⟩ := hj
 try clear f7
 have hll := FB.short FL hq hBL
 refine wp_seq_k fun K9 hK9 => ?_
 refine wp_seq_k fun K10 hK10 => C.region ?_
 refine L.fa 22 f8 U28 rfl wsz25_wc fun a9 f9 => ?_
 refine L.ld f9 U25 Bg0 fun a10 f10 => ?_
 refine L.va f10 (E.lenL f10 U25 rfl) fun a11 f11 => ?_
 refine L.mv f11 fun a12 f12 => ?_
 refine wpList_nil (hK10 _ _ ?_)
 have f13 := f12.sub (sc 1 (sc 3 (sc 36 (sc 37 (sc 38 sn)))))
 refine wp_block ?_
 clear f8 a8 f9 a9 f10 a10 f11 a11 f12
 refine C.loop (fun gk a W => ∃ (k : Nat) (A : Option Addr) (c : Nat) (l : List UInt8), k + gk = p.subs.length ∧ Kept [] w W ∧ Blk W g0 28 (p.cells s) ∧ FB w W A c l ∧ l ++ ((p.subs.drop k).flatMap (subL p.kind) ++ p.codes.map b8 ++ p.pay) = behindL p ∧ Fr 73 a [(1, .pointer (some ⟨g0, 0, none⟩)), (3, .slice A l.length c), (36, .slice s.ua p.subs.length s.uc), (37, .int .i64 p.subs.length), (38, .int .i64 k)]) (p.subs.length) ?_ ?_
 ·exact ⟨0, _, _, _, by omega, HK, Bg0, FL, by rw [← hq]; simp, f13.sub (sub_cons rfl (sub_cons rfl (sub_cons rfl (sub_cons rfl (sub_cons rfl sn)))))⟩
 intro gk12 a14 w4 hI KL11 hKL11
 obtain ⟨k, A, c, l, hk, HK, Bg0, FL, hq, f14⟩ := hI
 try clear f13
 have hll := FB.short FL hq hBL
 have szL := HK.size
 refine wp_seq_k fun K12 hK12 => C.region ?_
 refine L.va f14 (E.lss f14 rfl rfl) fun a15 f15 => ?_
 refine wpList_nil (hK12 _ _ ?_)
 have f16 := f15.sub (sc 1 (sc 3 (sc 36 (sc 37 (sc 38 (sc 39 sn))))))
 refine wp_seq_k fun K13 hK13 => ?_
 clear f14 a14 f15
 refine f16.splitD 39 rfl (fun h4 f17 => ?_) (fun h4 f17 => ?_)
 ·obtain ⟨d, hd⟩ := some_at p.subs k (by omega)
  obtain ⟨bk, off, hA⟩ := IP.subs.addr (by omega)
  have hds := L10 d (List.mem_of_getElem? hd)
  refine C.condT f17 rfl ?_
  refine wp_skip (hK13 _ _ ?_)
  have f18 := f17.sub (sc 1 (sc 3 (sc 36 (sc 37 (sc 38 sn)))))
  refine wp_seq_k fun K14 hK14 => ?_
  refine wp_block ?_
  refine wp_seq_k fun K15 hK15 => C.region ?_
  refine L.va f18 (E.indexA f18 (by assumption) U25 wsz70_wc rfl rfl (by omega) (by omega)) fun a19 f19 => ?_
  refine L.va f19 (by exact E.loadR f19 U70 rfl wsz70_wc rfl (sub_row (IP.subs.kept HK) hA hd) rfl) fun a20 f20 => ?_
  refine L.alloc f20 wantedN (by decide) (z := (.agg #[(.string ⟨#[]⟩), (.int .i64 0)])) (fun _ => by kernel_rfl) rfl fun a21 w5 g4 N4 f21 => ?_
  have Bg4 := N4.blk
  have kg4 := N4.kept
  have log4 := N4.lo
  have ltg4 := Bg4.lt
  have szw5 := kg4.size
  have frg4 : w.heap.size ≤ g4 := Nat.le_trans HK.size log4
  have neg0_g4 : g0 ≠ g4 := by have := Bg0.lt; omega
  replace HK := HK.trans kg4 (by simp)
  replace Bg0 := Bg0.kept kg4 (by simp)
  replace FL := FL.kept0 kg4
  clear N4 kg4
  refine L.storeR f21 wantedN wsz70_wc rfl rfl rfl Bg4 rfl rfl fun a22 w6 f22 NB6 ks6 => ?_
  have szw6 := ks6.size
  replace HK := HK.trans ks6 (ktr (by omega))
  replace Bg0 := Bg0.kept ks6 (by simp; omega)
  replace FL := FL.keptB ks6 Bg4 (by decide)
  replace Bg4 := NB6
  clear ks6 f21 a21
  refine wpList_nil (hK15 _ _ ?_)
  have f23 := f22.sub (sc 1 (sc 3 (sc 5 (sc 36 (sc 37 (sc 38 sn))))))
  refine wp_seq_k fun K16 hK16 => C.region ?_
  refine L.mv f23 fun a24 f24 => ?_
  refine L.fa 0 f24 U70 rfl wsz9_wc fun a25 f25 => ?_
  refine L.ld f25 U9 Bg4 fun a26 f26 => ?_
  clear f16 f17 f18 a15 f19 a19 f20 a20 f22 f23 a22 f24 a24 f25 a25
  have hC7 := fun b hb => lumpB _ _ _ b w _ FL HK.size (by omega) hb
  refine L.cl f26 (run_call Tryd.call66 (args2 f26 rfl rfl)) (hC7 _ (by omega)) ?_
  rintro e w7 ⟨A7, c7, rfl, FN7, kc7⟩
  refine ⟨_, rfl, fun a27 f27 => ?_⟩
  have szw7 := kc7.size
  replace HK := FL.rel HK kc7
  replace Bg0 := Bg0.kept kc7 (own_ne FL.own Bg0 (by decide))
  replace Bg4 := Bg4.kept kc7 (own_ne FL.own Bg4 (by decide))
  clear kc7
  clear FL hC7
  refine L.ag f27 fun a28 f28 => ?_
  refine wpList_nil (hK16 _ _ ?_)
  have f29 := f28.sub (sc 1 (sc 3 (sc 5 (sc 36 (sc 37 (sc 38 sn))))))
  refine wp_seq_k fun K17 hK17 => C.region ?_
  refine L.fa 0 f29 U28 rfl wsz3_wc fun a30 f30 => ?_
  refine L.ld f30 U3 Bg0 fun a31 f31 => ?_
  refine L.va f31 (E.eq f31) fun a32 f32 => ?_
  refine wpList_nil (hK17 _ _ ?_)
  have f33 := f32.sub (sc 1 (sc 3 (sc 5 (sc 36 (sc 37 (sc 38 (sc 48 sn)))))))
  clear f26 a26 f27 a27 f28 f29 a28 f30 a30 f31 a31 f32
  refine f33.splitD 48 rfl (fun h5 f34 => ?_) (fun h5 f34 => ?_)
  ·refine C.condT f34 rfl ?_
   refine C.region ?_
   refine L.mv f34 fun a35 f35 => ?_
   refine L.fa 1 f35 U70 rfl wsz3_wc fun a36 f36 => ?_
   refine L.ld f36 U3 Bg4 fun a37 f37 => ?_
   refine L.va f37 (E.conv f37 U3 U5 rfl (wrap_u8 _)) fun a38 f38 => ?_
   refine L.buildSlice f38 wantedN (by decide) (parts1 f38 rfl) U22 wzi5_wc rfl rfl (wbs22_1_wc _) fun a39 w8 g7 N7 f39 => ?_
   have Bg7 := N7.blk
   have kg7 := N7.kept
   have log7 := N7.lo
   have ltg7 := Bg7.lt
   have szw8 := kg7.size
   have frg7 : w.heap.size ≤ g7 := Nat.le_trans HK.size log7
   have neg0_g7 : g0 ≠ g7 := by have := Bg0.lt; omega
   have neg4_g7 : g4 ≠ g7 := by have := Bg4.lt; omega
   replace HK := HK.trans kg7 (by simp)
   replace Bg0 := Bg0.kept kg7 (by simp)
   replace Bg4 := Bg4.kept kg7 (by simp)
   replace FN7 := FN7.kept0 kg7
   clear N7 kg7
   refine L.append f39 wantedN (by decide) U22 wzib5_wc rfl rfl rfl rfl FN7.own (Blk.sl1 Bg7 rfl) (by intro u hu; simp at hu; subst hu; rfl) (by (simp [lumpL_len, twoL_len, bytes_len, maxLen]; omega)) (by (simp [lumpL_len, twoL_len, bytes_len, maxLen]; omega)) fun a40 w9 A9 c9 AP9 f40 => ?_
   have FN9 := AP9.nextB FN7 HK.size ([b8 d.2]) (by simp [u8_b8]) (by simp)
   have kap9 := AP9.kept
   have szw9 := kap9.size
   replace HK := FN7.rel HK kap9
   replace Bg0 := Bg0.kept kap9 (own_ne FN7.own Bg0 (by decide))
   replace Bg4 := Bg4.kept kap9 (own_ne FN7.own Bg4 (by decide))
   clear f39 a39 kap9 AP9 FN7
   have f41 := f40.as (i := 54) rfl (sl_lenF FN9 (by simp))
   refine L.ag f41 fun a42 f42 => ?_
   clear f33 f34 a32 f35 a35 f36 a36 f37 a37 f38 a38 f40 f41 a40
   refine wpList_nil (hK14 _ _ ?_)
   have f43 := f42.sub (sc 1 (sc 3 (sc 36 (sc 37 (sc 38 sn)))))
   refine C.region ?_
   refine L.va f43 (E.add f43 rfl rfl (IntWalk.i64_in _ (by omega))) fun a44 f44 => ?_
   refine L.mv f44 fun a45 f45 => ?_
   clear f42 f43 a42 f44 a44
   refine wpList_nil (hKL11 _ _ (gk12 - 1) ?_ ?_)
   ·omega
   exact ⟨k + 1, _, _, _, by omega, HK, Bg0, FN9, by rw [← hq, drop_at hd]; (simp [subL, *]; done), f45.sub (sub_cons rfl (sub_cons rfl (sub_cons rfl (sub_cons rfl (sub_cons rfl sn)))))⟩
  refine C.condF f34 rfl ?_
  refine wp_skip (hK14 _ _ ?_)
  have f35 := f34.sub (sc 1 (sc 3 (sc 36 (sc 37 (sc 38 sn)))))
  refine C.region ?_
  refine L.va f35 (E.add f35 rfl rfl (IntWalk.i64_in _ (by omega))) fun a36 f36 => ?_
  refine L.mv f36 fun a37 f37 => ?_
  clear f33 f34 f35 a32 f36 a36
  refine wpList_nil (hKL11 _ _ (gk12 - 1) ?_ ?_)
  ·omega
  exact ⟨k + 1, _, _, _, by omega, HK, Bg0, FN7, by rw [← hq, drop_at hd]; (simp [subL, *]; done), f37.sub (sub_cons rfl (sub_cons rfl (sub_cons rfl (sub_cons rfl (sub_cons rfl sn)))))⟩
 refine C.condF f17 rfl ?_
 refine wp_exit (hK9 _ _ ?_)
 have f18 := f17.sub (sc 1 (sc 3 sn))
 refine wp_seq_k fun K18 hK18 => ?_
 refine wp_seq_k fun K19 hK19 => C.region ?_
 refine L.fa 23 f18 U28 rfl wsz26_wc fun a19 f19 => ?_
 refine L.ld f19 U26 Bg0 fun a20 f20 => ?_
 refine L.va f20 (E.lenL f20 U26 rfl) fun a21 f21 => ?_
 refine L.mv f21 fun a22 f22 => ?_
 refine wpList_nil (hK19 _ _ ?_)
 have f23 := f22.sub (sc 1 (sc 3 (sc 57 (sc 58 (sc 59 sn)))))
 refine wp_block ?_
 clear f16 f17 f18 a15 f19 a19 f20 a20 f21 a21 f22
 refine C.loop (fun gk a W => ∃ (k : Nat) (A : Option Addr) (c : Nat) (l : List UInt8), k + gk = p.codes.length ∧ Kept [] w W ∧ Blk W g0 28 (p.cells s) ∧ FB w W A c l ∧ l ++ ((p.codes.drop k).map b8 ++ p.pay) = behindL p ∧ Fr 73 a [(1, .pointer (some ⟨g0, 0, none⟩)), (3, .slice A l.length c), (57, .slice s.ca p.codes.length s.cc), (58, .int .i64 p.codes.length), (59, .int .i64 k)]) (p.codes.length) ?_ ?_
 ·exact ⟨0, _, _, _, by omega, HK, Bg0, FL, by rw [← hq, drop_out p.subs (by omega)]; simp, f23.sub (sub_cons rfl (sub_cons rfl (sub_cons rfl (sub_cons rfl (sub_cons rfl sn)))))⟩
 intro gk21 a24 w5 hI KL20 hKL20
 obtain ⟨k, A, c, l, hk, HK, Bg0, FL, hq, f24⟩ := hI
 try clear f23
 have hll := FB.short FL hq hBL
 have szL := HK.size
 refine wp_seq_k fun K21 hK21 => C.region ?_
 refine L.va f24 (E.lss f24 rfl rfl) fun a25 f25 => ?_
 refine wpList_nil (hK21 _ _ ?_)
 have f26 := f25.sub (sc 1 (sc 3 (sc 57 (sc 58 (sc 59 (sc 60 sn))))))
 refine wp_seq_k fun K22 hK22 => ?_
 clear f24 a24 f25
 refine f26.splitD 60 rfl (fun h6 f27 => ?_) (fun h6 f27 => ?_)
 ·obtain ⟨d, hd⟩ := some_at p.codes k (by omega)
  obtain ⟨bk, off, hA⟩ := IP.codes.addr (by omega)
  refine C.condT f27 rfl ?_
  refine wp_skip (hK22 _ _ ?_)
  have f28 := f27.sub (sc 1 (sc 3 (sc 57 (sc 58 (sc 59 sn)))))
  refine wp_seq_k fun K23 hK23 => ?_
  refine wp_block ?_
  refine wp_seq_k fun K24 hK24 => C.region ?_
  refine L.va f28 (E.indexA f28 (by assumption) U26 wsz3_wc rfl rfl (by omega) (by omega)) fun a29 f29 => ?_
  refine L.va f29 (by exact E.load f29 U3 rfl rfl (code_cell1 (IP.codes.kept HK) hA hd)) fun a30 f30 => ?_
  refine L.ag f30 fun a31 f31 => ?_
  refine wpList_nil (hK24 _ _ ?_)
  have f32 := f31.sub (sc 1 (sc 3 (sc 7 (sc 57 (sc 58 (sc 59 sn))))))
  refine C.region ?_
  refine L.mv f32 fun a33 f33 => ?_
  refine L.mv f33 fun a34 f34 => ?_
  refine L.va f34 (E.conv f34 U3 U5 rfl (wrap_u8 _)) fun a35 f35 => ?_
  clear f26 f27 f28 a25 f29 a29 f30 a30 f31 f32 a31 f33 a33 f34 a34
  refine L.buildSlice f35 wantedN (by decide) (parts1 f35 rfl) U22 wzi5_wc rfl rfl (wbs22_1_wc _) fun a36 w6 g5 N5 f36 => ?_
  have Bg5 := N5.blk
  have kg5 := N5.kept
  have log5 := N5.lo
  have ltg5 := Bg5.lt
  have szw6 := kg5.size
  have frg5 : w.heap.size ≤ g5 := Nat.le_trans HK.size log5
  have neg0_g5 : g0 ≠ g5 := by have := Bg0.lt; omega
  replace HK := HK.trans kg5 (by simp)
  replace Bg0 := Bg0.kept kg5 (by simp)
  replace FL := FL.kept0 kg5
  clear N5 kg5
  refine L.append f36 wantedN (by decide) U22 wzib5_wc rfl rfl rfl rfl FL.own (Blk.sl1 Bg5 rfl) (by intro u hu; simp at hu; subst hu; rfl) (by (simp [lumpL_len, twoL_len, bytes_len, maxLen]; omega)) (by omega) fun a37 w7 A7 c7 AP7 f37 => ?_
  have FN7 := AP7.nextB FL HK.size ([b8 d]) (by simp [u8_b8]) (by simp)
  have kap7 := AP7.kept
  have szw7 := kap7.size
  replace HK := FL.rel HK kap7
  replace Bg0 := Bg0.kept kap7 (own_ne FL.own Bg0 (by decide))
  clear f36 a36 kap7 AP7 FL
  have f38 := f37.as (i := 67) rfl (sl_lenF FN7 (by simp))
  refine L.ag f38 fun a39 f39 => ?_
  refine wpList_nil (hK23 _ _ ?_)
  have f40 := f39.sub (sc 1 (sc 3 (sc 57 (sc 58 (sc 59 sn)))))
  refine C.region ?_
  refine L.va f40 (E.add f40 rfl rfl (IntWalk.i64_in _ (by omega))) fun a41 f41 => ?_
  refine L.mv f41 fun a42 f42 => ?_
  clear f35 a35 f37 f38 a37 f39 f40 a39 f41 a41
  refine wpList_nil (hKL20 _ _ (gk21 - 1) ?_ ?_)
  ·omega
  exact ⟨k + 1, _, _, _, by omega, HK, Bg0, FN7, by rw [← hq, drop_at hd]; (simp [subL, *]; done), f42.sub (sub_cons rfl (sub_cons rfl (sub_cons rfl (sub_cons rfl (sub_cons rfl sn)))))⟩
 refine C.condF f27 rfl ?_
 refine wp_exit (hK18 _ _ ?_)
 have f28 := f27.sub (sc 1 (sc 3 sn))
 refine wp_seq_k fun K25 hK25 => C.region ?_
 refine L.mv f28 fun a29 f29 => ?_
 refine L.fa 6 f29 U28 rfl wsz22_wc fun a30 f30 => ?_
 refine L.ld f30 U22 Bg0 fun a31 f31 => ?_
 refine L.append f31 wantedN (by decide) U22 wzib5_wc rfl rfl rfl rfl FL.own (IP.pay.kept HK) (u8_one) (by (simp [lumpL_len, twoL_len, bytes_len, maxLen]; omega)) (by omega) fun a32 w6 A6 c6 AP6 f32 => ?_
 have FN6 := AP6.nextB FL HK.size (p.pay) (rfl) (rfl)
 have kap6 := AP6.kept
 have szw6 := kap6.size
 replace HK := FL.rel HK kap6
 replace Bg0 := Bg0.kept kap6 (own_ne FL.own Bg0 (by decide))
 clear f31 a31 kap6 AP6 FL
 have f33 := f32.as (i := 72) rfl (sl_lenF FN6 (rfl))
 refine L.ag f33 fun a34 f34 => ?_
 refine wpList_nil (hK25 _ _ ?_)
 have f35 := f34.sub (sc 2 sn)
 refine wp_ret ?_
 try simp only [Exit.inBlock, Exit.then]
 refine C.ret (P := Tryd.prog) (fn := Tryd.f37) f35 rfl rfl ?_
 exact NewB.of HK FN6 (by rw [← hq, drop_out p.codes (by omega)]; simp)
end Go.Proofs.YtigjafbbnocihaaDoor
namespace Go.Hub
theorem u8_clear_nat : ∀ x : Fin 256, bits .andNot .u8 (x.val : Int) 128 = ((x.val % 128 : Nat) : Int) := by decide +kernel
theorem u8_top_nat : ∀ x : Fin 256, bits .or .u8 (x.val : Int) 128 = ((x.val % 128 + 128 : Nat) : Int) := by decide +kernel
theorem u8_clear (x : Int) (h0 : 0 ≤ x) (h1 : x < 256) : bits .andNot .u8 x 128 = x % 128 := by
  obtain ⟨n, rfl⟩ := Int.eq_ofNat_of_zero_le h0
  have := u8_clear_nat ⟨n, by omega⟩
  simpa using this
theorem u8_top (x : Int) (h0 : 0 ≤ x) (h1 : x < 256) : bits .or .u8 x 128 = x % 128 + 128 := by
  obtain ⟨n, rfl⟩ := Int.eq_ofNat_of_zero_le h0
  have := u8_top_nat ⟨n, by omega⟩
  simpa using this
theorem wraps_i64 (n : Int) (h0 : 0 ≤ n) (h1 : n < 2 ^ 63) : IntKind.i64.wrap n = n := by rw [IntKind.wrap_i64]; omega
theorem i64_or (i : Nat) (a b : Int) (ha : 0 ≤ a) (ha1 : a < 2 ^ i) (hb : 0 ≤ b) (hb1 : b % 2 ^ i = 0) (hb2 : b < 2 ^ 62) (hi : a < 2 ^ 62) : bits .or .i64 a b = a + b := by
  have h := bits_join .i64 63 (by decide) wraps_i64 i b a hb hb1 (by omega) ha ha1 (by omega)
  obtain ⟨x, rfl⟩ := Int.eq_ofNat_of_zero_le ha
  obtain ⟨y, rfl⟩ := Int.eq_ofNat_of_zero_le hb
  have e1 := (bits_nat .i64 63 (by decide) wraps_i64 x y (by omega) (by omega)).2
  have e2 := (bits_nat .i64 63 (by decide) wraps_i64 y x (by omega) (by omega)).2
  rw [e1, Nat.or_comm, ← e2, h]
  omega
end Go.Hub
namespace Go.Proofs.YtigjafbbnocihaaDoor
open Go.RowKit Go.Hub Go.Vl
theorem szN_cases (n : Int) : (n < 0 ∧ szN n = 0) ∨ (¬ n < 0 ∧ 268435455 < n ∧ szN n = 0) ∨ (¬ n < 0 ∧ ¬ 268435455 < n ∧ n < 128 ∧ szN n = 1) ∨ (¬ n < 0 ∧ ¬ 268435455 < n ∧ ¬ n < 128 ∧ n < 16384 ∧ szN n = 2) ∨
    (¬ n < 0 ∧ ¬ 268435455 < n ∧ ¬ n < 128 ∧ ¬ n < 16384 ∧ n < 2097152 ∧ szN n = 3) ∨ (¬ n < 0 ∧ ¬ 268435455 < n ∧ ¬ n < 128 ∧ ¬ n < 16384 ∧ ¬ n < 2097152 ∧ szN n = 4) := by
  unfold szN; (repeat' split) <;> omega
set_option maxHeartbeats 400000 in
theorem size_any (n : Int) (w : World) : Calls Tryd.prog 69 #[.int .i64 n] w fun e w' => e = .returned (.int .i64 (szN n)) ∧ w = w' := by
  rcases szN_cases n with ⟨a, h⟩ | ⟨a, b, h⟩ | ⟨a, b, c, h⟩ | ⟨a, b, c, d, h⟩ | ⟨a, b, c, d, f, h⟩ | ⟨a, b, c, d, f, h⟩
  all_goals
    rw [h]
    clear h
    go_enter Tryd.func69, Tryd.ntmps69
    go_wp2
    go_ret
    exact ⟨rfl, rfl⟩
def rdTuple (l : List UInt8) : Value := .tuple #[.int .i64 (readL l).1, .int .i64 (readL l).2.1, .int .i64 (readL l).2.2]
theorem byte_at {w : World} {A : Option Addr} {n : Nat} {l : List UInt8} (h : Rds w w.heap.size 1 A n (l.map u8)) {i : Nat} {c : UInt8} (hc : l[i]? = some c) : ∃ g off, A = some ⟨g, off, none⟩ ∧ w.cell? ⟨g, off + i, none⟩ = some (.int .u8 (c.toNat : Int)) := by
  have hl : i < l.length := (List.getElem?_eq_some_iff.1 hc).1
  have := h.1
  simp at this
  obtain ⟨g, off, e, _, hx⟩ := h.2 (by omega)
  exact ⟨g, off, e, hx i _ (by simp [hc, u8])⟩
theorem rd_more {l : List UInt8} {i k : Nat} {acc : Int} {c : UInt8} (h : l[i]? = some c) (hc : ¬ c.toNat < 128) : rd l (k + 1) i acc = rd l k (i + 1) (acc + (c.toNat % 128 : Nat) * 128 ^ i) := by
  rw [rd, h]; simp only []; rw [if_neg hc]
set_option maxHeartbeats 1000000 in
theorem read_any (A : Option Addr) (n c : Nat) (l : List UInt8) (w : World) (hn : n = l.length) (hm : n ≤ maxLen) (h : Rds w w.heap.size 1 A n (l.map u8)) :
    Calls Tryd.prog 58 #[.slice A n c] w fun e w' => e = .returned (rdTuple l) ∧ w = w' := by
  subst hn
  unfold maxLen at hm
  have HR := hid (show rd l 4 0 0 = readL l from rfl)
  have HH := hid h
  clear h
  go_enter Tryd.func58, Tryd.ntmps58
  go_wp2
  go_loopg [5, 7] 4 (fun g a v wr => ∃ (i : Nat) (acc : Int), i + g = 4 ∧ i ≤ l.length ∧ v = .int .i64 i ∧ a = .int .i64 acc ∧ (0 ≤ acc ∧ acc < 128 ^ i) ∧ rd l g i acc = readL l ∧ w = wr)
  case atStart => exact ⟨0, 0, rfl, by omega, rfl, rfl, by omega, HR.out, rfl⟩
  case round =>
    obtain ⟨i, acc, hi, hil, rfl, rfl, ha, hr, rfl⟩ := hrel
    have HX := hid hr
    clear hr HR
    rcases (show (i = 0 ∧ gk = 4) ∨ (i = 1 ∧ gk = 3) ∨ (i = 2 ∧ gk = 2) ∨ (i = 3 ∧ gk = 1) ∨ (i = 4 ∧ gk = 0) by omega) with ⟨rfl, rfl⟩ | ⟨rfl, rfl⟩ | ⟨rfl, rfl⟩ | ⟨rfl, rfl⟩ | ⟨rfl, rfl⟩
    · have ha2 : 0 ≤ acc ∧ acc < 1 := by simpa using ha
      clear ha
      rcases hc : l[0]? with _ | c0
      · have hl0 : l.length = 0 := by have := List.getElem?_eq_none_iff.1 hc; omega
        have hne : ((0 : Int) == (l.length : Int)) = true := by rw [hl0]; rfl
        have HE := hid (show readL l = (0, 0, 20) by rw [← HX.out, rd, hc])
        clear hc hl0 hil
        go_wp2
        go_ret3
        exact ⟨by unfold rdTuple; rw [HE.out] <;> rfl, rfl⟩
      obtain ⟨g, off, rfl, hcell⟩ := byte_at HH.out hc
      have hl := (List.getElem?_eq_some_iff.1 hc).1
      have hl2 : (0 : Int) < (l.length : Int) := by omega
      have hne : ((0 : Int) == (l.length : Int)) = false := by simp; omega
      obtain ⟨z, hz⟩ : ∃ z : Int, z = (c0.toNat : Int) := ⟨_, rfl⟩
      rw [← hz] at hcell
      rw [Nat.add_zero] at hcell
      have hzb : 0 ≤ z ∧ z < 256 := by have := c0.toNat_lt; omega
      have hclr := u8_clear z hzb.1 hzb.2
      have hor : bits BinOp.or IntKind.i64 acc (z % 128) = acc + z % 128 := i64_or 0 acc (z % 128) (by omega) (by omega) (by omega) (by omega) (by omega) (by omega)
      have HC := hid (And.intro hc hz)
      clear hc hz hm hil
      by_cases hz1 : z < 128
      · have HE := hid (show readL l = (acc + z % 128, 1, 0) by rw [← HX.out, rd, HC.out.1]; simp only []; rw [if_pos (by have := HC.out.2; omega), if_neg (by have := HC.out.2; omega)]; simp; have := HC.out.2; omega)
        go_wp2
        go_ret3
        exact ⟨by unfold rdTuple; rw [HE.out] <;> rfl, rfl⟩
      have HE := hid (show rd l 3 1 (acc + z % 128) = readL l by rw [← HX.out, rd_more HC.out.1 (by have := HC.out.2; omega)]; congr 1; have := HC.out.2; simp; omega)
      have hdz : decide (z < 128) = false := by simp; omega
      go_wp2
      go_roundg 3
      case measure => omega
      case rel => exact ⟨1, acc + z % 128, rfl, by omega, rfl, rfl, by simp; omega, HE.out, rfl⟩
    · have ha2 : 0 ≤ acc ∧ acc < 128 := by simpa using ha
      clear ha
      rcases hc : l[1]? with _ | c0
      · have hl0 : l.length = 1 := by have := List.getElem?_eq_none_iff.1 hc; omega
        have hne : ((1 : Int) == (l.length : Int)) = true := by rw [hl0]; rfl
        have HE := hid (show readL l = (0, 0, 20) by rw [← HX.out, rd, hc])
        clear hc hl0 hil
        go_wp2
        go_ret3
        exact ⟨by unfold rdTuple; rw [HE.out] <;> rfl, rfl⟩
      obtain ⟨g, off, rfl, hcell⟩ := byte_at HH.out hc
      have hl := (List.getElem?_eq_some_iff.1 hc).1
      have hl2 : (1 : Int) < (l.length : Int) := by omega
      have hne : ((1 : Int) == (l.length : Int)) = false := by simp; omega
      obtain ⟨z, hz⟩ : ∃ z : Int, z = (c0.toNat : Int) := ⟨_, rfl⟩
      rw [← hz] at hcell
      have hzb : 0 ≤ z ∧ z < 256 := by have := c0.toNat_lt; omega
      have hclr := u8_clear z hzb.1 hzb.2
      have hor : bits BinOp.or IntKind.i64 acc (z % 128 * 128) = acc + z % 128 * 128 := i64_or 7 acc (z % 128 * 128) (by omega) (by omega) (by omega) (by omega) (by omega) (by omega)
      have HC := hid (And.intro hc hz)
      clear hc hz hm hil
      by_cases hz1 : z < 128
      · by_cases hz0 : z = 0
        · have hd : (z == 0) = true := by simp [hz0]
          have HE := hid (show readL l = (0, 0, 21) by rw [← HX.out, rd, HC.out.1]; simp only []; rw [if_pos (by have := HC.out.2; omega), if_pos ⟨by omega, by have := HC.out.2; omega⟩])
          clear hz0
          go_wp2
          go_ret3
          exact ⟨by unfold rdTuple; rw [HE.out] <;> rfl, rfl⟩
        have hd : (z == 0) = false := by simp [hz0]
        have HE := hid (show readL l = (acc + z % 128 * 128, 2, 0) by rw [← HX.out, rd, HC.out.1]; simp only []; rw [if_pos (by have := HC.out.2; omega), if_neg (by have := HC.out.2; omega)]; simp; have := HC.out.2; omega)
        go_wp2
        go_ret3
        exact ⟨by unfold rdTuple; rw [HE.out] <;> rfl, rfl⟩
      have HE := hid (show rd l 2 2 (acc + z % 128 * 128) = readL l by rw [← HX.out, rd_more HC.out.1 (by have := HC.out.2; omega)]; congr 1; have := HC.out.2; simp; omega)
      have hdz : decide (z < 128) = false := by simp; omega
      go_wp2
      go_roundg 2
      case measure => omega
      case rel => exact ⟨2, acc + z % 128 * 128, rfl, by omega, rfl, rfl, by simp; omega, HE.out, rfl⟩
    · have ha2 : 0 ≤ acc ∧ acc < 16384 := by simpa using ha
      clear ha
      rcases hc : l[2]? with _ | c0
      · have hl0 : l.length = 2 := by have := List.getElem?_eq_none_iff.1 hc; omega
        have hne : ((2 : Int) == (l.length : Int)) = true := by rw [hl0]; rfl
        have HE := hid (show readL l = (0, 0, 20) by rw [← HX.out, rd, hc])
        clear hc hl0 hil
        go_wp2
        go_ret3
        exact ⟨by unfold rdTuple; rw [HE.out] <;> rfl, rfl⟩
      obtain ⟨g, off, rfl, hcell⟩ := byte_at HH.out hc
      have hl := (List.getElem?_eq_some_iff.1 hc).1
      have hl2 : (2 : Int) < (l.length : Int) := by omega
      have hne : ((2 : Int) == (l.length : Int)) = false := by simp; omega
      obtain ⟨z, hz⟩ : ∃ z : Int, z = (c0.toNat : Int) := ⟨_, rfl⟩
      rw [← hz] at hcell
      have hzb : 0 ≤ z ∧ z < 256 := by have := c0.toNat_lt; omega
      have hclr := u8_clear z hzb.1 hzb.2
      have hor : bits BinOp.or IntKind.i64 acc (z % 128 * 16384) = acc + z % 128 * 16384 := i64_or 14 acc (z % 128 * 16384) (by omega) (by omega) (by omega) (by omega) (by omega) (by omega)
      have HC := hid (And.intro hc hz)
      clear hc hz hm hil
      by_cases hz1 : z < 128
      · by_cases hz0 : z = 0
        · have hd : (z == 0) = true := by simp [hz0]
          have HE := hid (show readL l = (0, 0, 21) by rw [← HX.out, rd, HC.out.1]; simp only []; rw [if_pos (by have := HC.out.2; omega), if_pos ⟨by omega, by have := HC.out.2; omega⟩])
          clear hz0
          go_wp2
          go_ret3
          exact ⟨by unfold rdTuple; rw [HE.out] <;> rfl, rfl⟩
        have hd : (z == 0) = false := by simp [hz0]
        have HE := hid (show readL l = (acc + z % 128 * 16384, 3, 0) by rw [← HX.out, rd, HC.out.1]; simp only []; rw [if_pos (by have := HC.out.2; omega), if_neg (by have := HC.out.2; omega)]; simp; have := HC.out.2; omega)
        go_wp2
        go_ret3
        exact ⟨by unfold rdTuple; rw [HE.out] <;> rfl, rfl⟩
      have HE := hid (show rd l 1 3 (acc + z % 128 * 16384) = readL l by rw [← HX.out, rd_more HC.out.1 (by have := HC.out.2; omega)]; congr 1; have := HC.out.2; simp; omega)
      have hdz : decide (z < 128) = false := by simp; omega
      go_wp2
      go_roundg 1
      case measure => omega
      case rel => exact ⟨3, acc + z % 128 * 16384, rfl, by omega, rfl, rfl, by simp; omega, HE.out, rfl⟩
    · have ha2 : 0 ≤ acc ∧ acc < 2097152 := by simpa using ha
      clear ha
      rcases hc : l[3]? with _ | c0
      · have hl0 : l.length = 3 := by have := List.getElem?_eq_none_iff.1 hc; omega
        have hne : ((3 : Int) == (l.length : Int)) = true := by rw [hl0]; rfl
        have HE := hid (show readL l = (0, 0, 20) by rw [← HX.out, rd, hc])
        clear hc hl0 hil
        go_wp2
        go_ret3
        exact ⟨by unfold rdTuple; rw [HE.out] <;> rfl, rfl⟩
      obtain ⟨g, off, rfl, hcell⟩ := byte_at HH.out hc
      have hl := (List.getElem?_eq_some_iff.1 hc).1
      have hl2 : (3 : Int) < (l.length : Int) := by omega
      have hne : ((3 : Int) == (l.length : Int)) = false := by simp; omega
      obtain ⟨z, hz⟩ : ∃ z : Int, z = (c0.toNat : Int) := ⟨_, rfl⟩
      rw [← hz] at hcell
      have hzb : 0 ≤ z ∧ z < 256 := by have := c0.toNat_lt; omega
      have hclr := u8_clear z hzb.1 hzb.2
      have hor : bits BinOp.or IntKind.i64 acc (z % 128 * 2097152) = acc + z % 128 * 2097152 := i64_or 21 acc (z % 128 * 2097152) (by omega) (by omega) (by omega) (by omega) (by omega) (by omega)
      have HC := hid (And.intro hc hz)
      clear hc hz hm hil
      by_cases hz1 : z < 128
      · by_cases hz0 : z = 0
        · have hd : (z == 0) = true := by simp [hz0]
          have HE := hid (show readL l = (0, 0, 21) by rw [← HX.out, rd, HC.out.1]; simp only []; rw [if_pos (by have := HC.out.2; omega), if_pos ⟨by omega, by have := HC.out.2; omega⟩])
          clear hz0
          go_wp2
          go_ret3
          exact ⟨by unfold rdTuple; rw [HE.out] <;> rfl, rfl⟩
        have hd : (z == 0) = false := by simp [hz0]
        have HE := hid (show readL l = (acc + z % 128 * 2097152, 4, 0) by rw [← HX.out, rd, HC.out.1]; simp only []; rw [if_pos (by have := HC.out.2; omega), if_neg (by have := HC.out.2; omega)]; simp; have := HC.out.2; omega)
        go_wp2
        go_ret3
        exact ⟨by unfold rdTuple; rw [HE.out] <;> rfl, rfl⟩
      have HE := hid (show rd l 0 4 (acc + z % 128 * 2097152) = readL l by rw [← HX.out, rd_more HC.out.1 (by have := HC.out.2; omega)]; congr 1; have := HC.out.2; simp; omega)
      have hdz : decide (z < 128) = false := by simp; omega
      go_wp2
      go_roundg 0
      case measure => omega
      case rel => exact ⟨4, acc + z % 128 * 2097152, rfl, by omega, rfl, rfl, by simp; omega, HE.out, rfl⟩
    have HE := hid (show readL l = (0, 0, 21) by rw [← HX.out, rd])
    clear hil ha
    go_wp2
    go_ret3
    exact ⟨by unfold rdTuple; rw [HE.out] <;> rfl, rfl⟩
end Go.Proofs.YtigjafbbnocihaaDoor
namespace Go.Proofs.YtigjafbbnocihaaDoor
open Go.RowKit Go.Hub Go.Vl
theorem info5 : (Tryd.prog.info? 5).map (fun i => (i.zero, i.size, i.bytes)) = some (some (.int .u8 0), 1, 1) := by kernel_rfl
def PutPost (n : Int) (w : World) (e : Ending) (w' : World) : Prop :=
  Below w.heap.size w w' ∧ ((szN n = 0 ∧ e = .returned (.tuple #[.slice none 0 0, .int .i64 31])) ∨
    (0 < szN n ∧ ∃ v, e = .returned (.tuple #[v, .int .i64 0]) ∧ Own w' 5 1 v (szN n) ((putL n).map u8) ∧ ∀ k, v.ownBlock = some k → w.heap.size ≤ k))
set_option maxHeartbeats 2000000 in
theorem put_1 (n : Int) (w : World) (hs : szN n = 1) (h0 : 0 ≤ n) (h1 : n < 128) : Calls Tryd.prog 38 #[.int .i64 n] w (PutPost n w) := by
  obtain ⟨i0, hi0, hz0, hz1, hz2⟩ := info_parts info5
  have HS := hid hs
  clear hs
  go_enter Tryd.func38, Tryd.ntmps38
  go_wp2_with fail
  refine (size_any n _).mono ?_
  rw [HS.out]
  rintro e w1 ⟨rfl, rfl⟩
  go_wp2_with fail
  go_loopg [5, 13] 1 (fun g v iv wr => ∃ i : Nat, i + g = 1 ∧ iv = .int .i64 i ∧ Own wr 5 1 v i (((putL n).take i).map u8) ∧ Below w.heap.size w wr ∧ ∀ k, v.ownBlock = some k → w.heap.size ≤ k)
  case atStart => exact ⟨0, rfl, rfl, Own.nil _ _ _, Below.refl _ _, by simp [Value.ownBlock]⟩
  case round =>
    obtain ⟨i, hi, rfl, ho, hb, hk⟩ := hrel
    obtain ⟨A, c, rfl, hc1, hc2⟩ := ho.form
    have HO := hid (And.intro ho (And.intro hb hk))
    clear ho hb hk
    rcases (show (i = 0 ∧ gk = 1) ∨ (i = 1 ∧ gk = 0) by omega) with ⟨rfl, rfl⟩ | ⟨rfl, rfl⟩
    · obtain ⟨z, hz⟩ : ∃ z : Int, z = n % 128 := ⟨_, rfl⟩
      have hcl : bits BinOp.andNot IntKind.u8 (n % 256) 128 = n % 128 := by rw [u8_clear _ (by omega) (by omega)]; omega
      have hcl2 : bits BinOp.andNot IntKind.u8 (n) 128 = n % 128 := u8_clear _ (by omega) (by omega)
      have hzu : u8 (byteN n 0 1) = .int .u8 z := by unfold u8; rw [byteN_toNat, hz]; unfold byteI; simp
      have htk : (putL n).take (0 + 1) = (putL n).take 0 ++ [byteN n 0 1] := by
        rw [List.take_succ, putL_at n 0 (by rw [HS.out]; omega), HS.out]; rfl
      have HT := hid (And.intro hzu htk)
      have hown := HO.out.1.alloc (.cells #[.int .u8 z] 5)
      have hrd := Rds.boxed wr #[.int .u8 z] 5 1 rfl
      clear hzu htk
      go_wp2_with (first
        | (at_builtin; simp only [← hz]
           refine wpList_append_own' _ rfl (.tmp 28) (.tmp 30) _ rfl 5 i0 _ 1 1 U22 hi0 hz0 hz1 hz2 rfl (by omega) (.slice A 0 c) 0 _ rfl hown _ _ _ _ _ rfl hrd (by simp [Value.oneCell']) (by unfold maxLen; omega) (by omega) ?_
           intro v2 w2 o2 k2 at2))
      have F : Own w2 5 1 v2 (0 + 1) (((putL n).take (0 + 1)).map u8) ∧ Below w.heap.size w w2 ∧ ∀ k, v2.ownBlock = some k → w.heap.size ≤ k := by
        rw [HT.out.2, List.map_append, List.map_cons, List.map_nil, HT.out.1]
        have hb := HO.out.2.1
        have k1 : Kept [] wr (wr.alloc (.cells #[.int .u8 z] 5)) := (Kept.refl _ _).alloc _
        refine ⟨o2, (hb.trans (k1.below (by simp) hb.size)).trans (k2.below (fun x hx => HO.out.2.2 x (by simpa using hx)) (by have := hb.size; simp; omega)), fun k hk => ?_⟩
        rcases at2 k hk with h | h
        · exact HO.out.2.2 k h
        have := hb.size; simp at h; omega
      have HF := hid F
      clear F o2 k2 at2 hown hrd
      go_wp2
      go_roundg 0
      case measure => omega
      case rel => exact ⟨1, rfl, rfl, HF.out⟩
    go_wp2
    go_ret2
    refine ⟨HO.out.2.1, .inr ⟨by rw [HS.out]; omega, _, rfl, ?_, HO.out.2.2⟩⟩
    have := HO.out.1
    rw [HS.out]
    rwa [List.take_of_length_le (by rw [putL_len, HS.out]; omega)] at this
set_option maxHeartbeats 2000000 in
theorem put_2 (n : Int) (w : World) (hs : szN n = 2) (h0 : 128 ≤ n) (h1 : n < 16384) : Calls Tryd.prog 38 #[.int .i64 n] w (PutPost n w) := by
  obtain ⟨i0, hi0, hz0, hz1, hz2⟩ := info_parts info5
  have HS := hid hs
  clear hs
  go_enter Tryd.func38, Tryd.ntmps38
  go_wp2_with fail
  refine (size_any n _).mono ?_
  rw [HS.out]
  rintro e w1 ⟨rfl, rfl⟩
  go_wp2_with fail
  go_loopg [5, 13] 2 (fun g v iv wr => ∃ i : Nat, i + g = 2 ∧ iv = .int .i64 i ∧ Own wr 5 1 v i (((putL n).take i).map u8) ∧ Below w.heap.size w wr ∧ ∀ k, v.ownBlock = some k → w.heap.size ≤ k)
  case atStart => exact ⟨0, rfl, rfl, Own.nil _ _ _, Below.refl _ _, by simp [Value.ownBlock]⟩
  case round =>
    obtain ⟨i, hi, rfl, ho, hb, hk⟩ := hrel
    obtain ⟨A, c, rfl, hc1, hc2⟩ := ho.form
    have HO := hid (And.intro ho (And.intro hb hk))
    clear ho hb hk
    rcases (show (i = 0 ∧ gk = 2) ∨ (i = 1 ∧ gk = 1) ∨ (i = 2 ∧ gk = 0) by omega) with ⟨rfl, rfl⟩ | ⟨rfl, rfl⟩ | ⟨rfl, rfl⟩
    · obtain ⟨z, hz⟩ : ∃ z : Int, z = n % 128 + 128 := ⟨_, rfl⟩
      have hcl : bits BinOp.andNot IntKind.u8 (n % 256) 128 = n % 128 := by rw [u8_clear _ (by omega) (by omega)]; omega
      have hor : bits BinOp.or IntKind.u8 (n % 128) 128 = n % 128 + 128 := by rw [u8_top _ (by omega) (by omega)]; omega
      have hzu : u8 (byteN n 0 2) = .int .u8 z := by unfold u8; rw [byteN_toNat, hz]; unfold byteI; simp
      have htk : (putL n).take (0 + 1) = (putL n).take 0 ++ [byteN n 0 2] := by
        rw [List.take_succ, putL_at n 0 (by rw [HS.out]; omega), HS.out]; rfl
      have HT := hid (And.intro hzu htk)
      have hown := HO.out.1.alloc (.cells #[.int .u8 z] 5)
      have hrd := Rds.boxed wr #[.int .u8 z] 5 1 rfl
      clear hzu htk
      go_wp2_with (first
        | (at_builtin; simp only [← hz]
           refine wpList_append_own' _ rfl (.tmp 28) (.tmp 30) _ rfl 5 i0 _ 1 1 U22 hi0 hz0 hz1 hz2 rfl (by omega) (.slice A 0 c) 0 _ rfl hown _ _ _ _ _ rfl hrd (by simp [Value.oneCell']) (by unfold maxLen; omega) (by omega) ?_
           intro v2 w2 o2 k2 at2))
      have F : Own w2 5 1 v2 (0 + 1) (((putL n).take (0 + 1)).map u8) ∧ Below w.heap.size w w2 ∧ ∀ k, v2.ownBlock = some k → w.heap.size ≤ k := by
        rw [HT.out.2, List.map_append, List.map_cons, List.map_nil, HT.out.1]
        have hb := HO.out.2.1
        have k1 : Kept [] wr (wr.alloc (.cells #[.int .u8 z] 5)) := (Kept.refl _ _).alloc _
        refine ⟨o2, (hb.trans (k1.below (by simp) hb.size)).trans (k2.below (fun x hx => HO.out.2.2 x (by simpa using hx)) (by have := hb.size; simp; omega)), fun k hk => ?_⟩
        rcases at2 k hk with h | h
        · exact HO.out.2.2 k h
        have := hb.size; simp at h; omega
      have HF := hid F
      clear F o2 k2 at2 hown hrd
      go_wp2
      go_roundg 1
      case measure => omega
      case rel => exact ⟨1, rfl, rfl, HF.out⟩
    · obtain ⟨z, hz⟩ : ∃ z : Int, z = n / 128 % 128 := ⟨_, rfl⟩
      have hcl : bits BinOp.andNot IntKind.u8 (n / 128 % 256) 128 = n / 128 % 128 := by rw [u8_clear _ (by omega) (by omega)]; omega
      have hcl2 : bits BinOp.andNot IntKind.u8 (n / 128) 128 = n / 128 % 128 := u8_clear _ (by omega) (by omega)
      have hzu : u8 (byteN n 1 2) = .int .u8 z := by unfold u8; rw [byteN_toNat, hz]; unfold byteI; simp
      have htk : (putL n).take (1 + 1) = (putL n).take 1 ++ [byteN n 1 2] := by
        rw [List.take_succ, putL_at n 1 (by rw [HS.out]; omega), HS.out]; rfl
      have HT := hid (And.intro hzu htk)
      have hown := HO.out.1.alloc (.cells #[.int .u8 z] 5)
      have hrd := Rds.boxed wr #[.int .u8 z] 5 1 rfl
      clear hzu htk
      go_wp2_with (first
        | (at_builtin; simp only [← hz]
           refine wpList_append_own' _ rfl (.tmp 28) (.tmp 30) _ rfl 5 i0 _ 1 1 U22 hi0 hz0 hz1 hz2 rfl (by omega) (.slice A 1 c) 1 _ rfl hown _ _ _ _ _ rfl hrd (by simp [Value.oneCell']) (by unfold maxLen; omega) (by omega) ?_
           intro v2 w2 o2 k2 at2))
      have F : Own w2 5 1 v2 (1 + 1) (((putL n).take (1 + 1)).map u8) ∧ Below w.heap.size w w2 ∧ ∀ k, v2.ownBlock = some k → w.heap.size ≤ k := by
        rw [HT.out.2, List.map_append, List.map_cons, List.map_nil, HT.out.1]
        have hb := HO.out.2.1
        have k1 : Kept [] wr (wr.alloc (.cells #[.int .u8 z] 5)) := (Kept.refl _ _).alloc _
        refine ⟨o2, (hb.trans (k1.below (by simp) hb.size)).trans (k2.below (fun x hx => HO.out.2.2 x (by simpa using hx)) (by have := hb.size; simp; omega)), fun k hk => ?_⟩
        rcases at2 k hk with h | h
        · exact HO.out.2.2 k h
        have := hb.size; simp at h; omega
      have HF := hid F
      clear F o2 k2 at2 hown hrd
      go_wp2
      go_roundg 0
      case measure => omega
      case rel => exact ⟨2, rfl, rfl, HF.out⟩
    go_wp2
    go_ret2
    refine ⟨HO.out.2.1, .inr ⟨by rw [HS.out]; omega, _, rfl, ?_, HO.out.2.2⟩⟩
    have := HO.out.1
    rw [HS.out]
    rwa [List.take_of_length_le (by rw [putL_len, HS.out]; omega)] at this
set_option maxHeartbeats 2000000 in
theorem put_3 (n : Int) (w : World) (hs : szN n = 3) (h0 : 16384 ≤ n) (h1 : n < 2097152) : Calls Tryd.prog 38 #[.int .i64 n] w (PutPost n w) := by
  obtain ⟨i0, hi0, hz0, hz1, hz2⟩ := info_parts info5
  have HS := hid hs
  clear hs
  go_enter Tryd.func38, Tryd.ntmps38
  go_wp2_with fail
  refine (size_any n _).mono ?_
  rw [HS.out]
  rintro e w1 ⟨rfl, rfl⟩
  go_wp2_with fail
  go_loopg [5, 13] 3 (fun g v iv wr => ∃ i : Nat, i + g = 3 ∧ iv = .int .i64 i ∧ Own wr 5 1 v i (((putL n).take i).map u8) ∧ Below w.heap.size w wr ∧ ∀ k, v.ownBlock = some k → w.heap.size ≤ k)
  case atStart => exact ⟨0, rfl, rfl, Own.nil _ _ _, Below.refl _ _, by simp [Value.ownBlock]⟩
  case round =>
    obtain ⟨i, hi, rfl, ho, hb, hk⟩ := hrel
    obtain ⟨A, c, rfl, hc1, hc2⟩ := ho.form
    have HO := hid (And.intro ho (And.intro hb hk))
    clear ho hb hk
    rcases (show (i = 0 ∧ gk = 3) ∨ (i = 1 ∧ gk = 2) ∨ (i = 2 ∧ gk = 1) ∨ (i = 3 ∧ gk = 0) by omega) with ⟨rfl, rfl⟩ | ⟨rfl, rfl⟩ | ⟨rfl, rfl⟩ | ⟨rfl, rfl⟩
    · obtain ⟨z, hz⟩ : ∃ z : Int, z = n % 128 + 128 := ⟨_, rfl⟩
      have hcl : bits BinOp.andNot IntKind.u8 (n % 256) 128 = n % 128 := by rw [u8_clear _ (by omega) (by omega)]; omega
      have hor : bits BinOp.or IntKind.u8 (n % 128) 128 = n % 128 + 128 := by rw [u8_top _ (by omega) (by omega)]; omega
      have hzu : u8 (byteN n 0 3) = .int .u8 z := by unfold u8; rw [byteN_toNat, hz]; unfold byteI; simp
      have htk : (putL n).take (0 + 1) = (putL n).take 0 ++ [byteN n 0 3] := by
        rw [List.take_succ, putL_at n 0 (by rw [HS.out]; omega), HS.out]; rfl
      have HT := hid (And.intro hzu htk)
      have hown := HO.out.1.alloc (.cells #[.int .u8 z] 5)
      have hrd := Rds.boxed wr #[.int .u8 z] 5 1 rfl
      clear hzu htk
      go_wp2_with (first
        | (at_builtin; simp only [← hz]
           refine wpList_append_own' _ rfl (.tmp 28) (.tmp 30) _ rfl 5 i0 _ 1 1 U22 hi0 hz0 hz1 hz2 rfl (by omega) (.slice A 0 c) 0 _ rfl hown _ _ _ _ _ rfl hrd (by simp [Value.oneCell']) (by unfold maxLen; omega) (by omega) ?_
           intro v2 w2 o2 k2 at2))
      have F : Own w2 5 1 v2 (0 + 1) (((putL n).take (0 + 1)).map u8) ∧ Below w.heap.size w w2 ∧ ∀ k, v2.ownBlock = some k → w.heap.size ≤ k := by
        rw [HT.out.2, List.map_append, List.map_cons, List.map_nil, HT.out.1]
        have hb := HO.out.2.1
        have k1 : Kept [] wr (wr.alloc (.cells #[.int .u8 z] 5)) := (Kept.refl _ _).alloc _
        refine ⟨o2, (hb.trans (k1.below (by simp) hb.size)).trans (k2.below (fun x hx => HO.out.2.2 x (by simpa using hx)) (by have := hb.size; simp; omega)), fun k hk => ?_⟩
        rcases at2 k hk with h | h
        · exact HO.out.2.2 k h
        have := hb.size; simp at h; omega
      have HF := hid F
      clear F o2 k2 at2 hown hrd
      go_wp2
      go_roundg 2
      case measure => omega
      case rel => exact ⟨1, rfl, rfl, HF.out⟩
    · obtain ⟨z, hz⟩ : ∃ z : Int, z = n / 128 % 128 + 128 := ⟨_, rfl⟩
      have hcl : bits BinOp.andNot IntKind.u8 (n / 128 % 256) 128 = n / 128 % 128 := by rw [u8_clear _ (by omega) (by omega)]; omega
      have hor : bits BinOp.or IntKind.u8 (n / 128 % 128) 128 = n / 128 % 128 + 128 := by rw [u8_top _ (by omega) (by omega)]; omega
      have hzu : u8 (byteN n 1 3) = .int .u8 z := by unfold u8; rw [byteN_toNat, hz]; unfold byteI; simp
      have htk : (putL n).take (1 + 1) = (putL n).take 1 ++ [byteN n 1 3] := by
        rw [List.take_succ, putL_at n 1 (by rw [HS.out]; omega), HS.out]; rfl
      have HT := hid (And.intro hzu htk)
      have hown := HO.out.1.alloc (.cells #[.int .u8 z] 5)
      have hrd := Rds.boxed wr #[.int .u8 z] 5 1 rfl
      clear hzu htk
      go_wp2_with (first
        | (at_builtin; simp only [← hz]
           refine wpList_append_own' _ rfl (.tmp 28) (.tmp 30) _ rfl 5 i0 _ 1 1 U22 hi0 hz0 hz1 hz2 rfl (by omega) (.slice A 1 c) 1 _ rfl hown _ _ _ _ _ rfl hrd (by simp [Value.oneCell']) (by unfold maxLen; omega) (by omega) ?_
           intro v2 w2 o2 k2 at2))
      have F : Own w2 5 1 v2 (1 + 1) (((putL n).take (1 + 1)).map u8) ∧ Below w.heap.size w w2 ∧ ∀ k, v2.ownBlock = some k → w.heap.size ≤ k := by
        rw [HT.out.2, List.map_append, List.map_cons, List.map_nil, HT.out.1]
        have hb := HO.out.2.1
        have k1 : Kept [] wr (wr.alloc (.cells #[.int .u8 z] 5)) := (Kept.refl _ _).alloc _
        refine ⟨o2, (hb.trans (k1.below (by simp) hb.size)).trans (k2.below (fun x hx => HO.out.2.2 x (by simpa using hx)) (by have := hb.size; simp; omega)), fun k hk => ?_⟩
        rcases at2 k hk with h | h
        · exact HO.out.2.2 k h
        have := hb.size; simp at h; omega
      have HF := hid F
      clear F o2 k2 at2 hown hrd
      go_wp2
      go_roundg 1
      case measure => omega
      case rel => exact ⟨2, rfl, rfl, HF.out⟩
    · obtain ⟨z, hz⟩ : ∃ z : Int, z = n / 16384 % 128 := ⟨_, rfl⟩
      have hcl : bits BinOp.andNot IntKind.u8 (n / 16384 % 256) 128 = n / 16384 % 128 := by rw [u8_clear _ (by omega) (by omega)]; omega
      have hcl2 : bits BinOp.andNot IntKind.u8 (n / 16384) 128 = n / 16384 % 128 := u8_clear _ (by omega) (by omega)
      have hzu : u8 (byteN n 2 3) = .int .u8 z := by unfold u8; rw [byteN_toNat, hz]; unfold byteI; simp
      have htk : (putL n).take (2 + 1) = (putL n).take 2 ++ [byteN n 2 3] := by
        rw [List.take_succ, putL_at n 2 (by rw [HS.out]; omega), HS.out]; rfl
      have HT := hid (And.intro hzu htk)
      have hown := HO.out.1.alloc (.cells #[.int .u8 z] 5)
      have hrd := Rds.boxed wr #[.int .u8 z] 5 1 rfl
      clear hzu htk
      go_wp2_with (first
        | (at_builtin; simp only [← hz]
           refine wpList_append_own' _ rfl (.tmp 28) (.tmp 30) _ rfl 5 i0 _ 1 1 U22 hi0 hz0 hz1 hz2 rfl (by omega) (.slice A 2 c) 2 _ rfl hown _ _ _ _ _ rfl hrd (by simp [Value.oneCell']) (by unfold maxLen; omega) (by omega) ?_
           intro v2 w2 o2 k2 at2))
      have F : Own w2 5 1 v2 (2 + 1) (((putL n).take (2 + 1)).map u8) ∧ Below w.heap.size w w2 ∧ ∀ k, v2.ownBlock = some k → w.heap.size ≤ k := by
        rw [HT.out.2, List.map_append, List.map_cons, List.map_nil, HT.out.1]
        have hb := HO.out.2.1
        have k1 : Kept [] wr (wr.alloc (.cells #[.int .u8 z] 5)) := (Kept.refl _ _).alloc _
        refine ⟨o2, (hb.trans (k1.below (by simp) hb.size)).trans (k2.below (fun x hx => HO.out.2.2 x (by simpa using hx)) (by have := hb.size; simp; omega)), fun k hk => ?_⟩
        rcases at2 k hk with h | h
        · exact HO.out.2.2 k h
        have := hb.size; simp at h; omega
      have HF := hid F
      clear F o2 k2 at2 hown hrd
      go_wp2
      go_roundg 0
      case measure => omega
      case rel => exact ⟨3, rfl, rfl, HF.out⟩
    go_wp2
    go_ret2
    refine ⟨HO.out.2.1, .inr ⟨by rw [HS.out]; omega, _, rfl, ?_, HO.out.2.2⟩⟩
    have := HO.out.1
    rw [HS.out]
    rwa [List.take_of_length_le (by rw [putL_len, HS.out]; omega)] at this
set_option maxHeartbeats 2000000 in
theorem put_4 (n : Int) (w : World) (hs : szN n = 4) (h0 : 2097152 ≤ n) (h1 : n < 268435456) : Calls Tryd.prog 38 #[.int .i64 n] w (PutPost n w) := by
  obtain ⟨i0, hi0, hz0, hz1, hz2⟩ := info_parts info5
  have HS := hid hs
  clear hs
  go_enter Tryd.func38, Tryd.ntmps38
  go_wp2_with fail
  refine (size_any n _).mono ?_
  rw [HS.out]
  rintro e w1 ⟨rfl, rfl⟩
  go_wp2_with fail
  go_loopg [5, 13] 4 (fun g v iv wr => ∃ i : Nat, i + g = 4 ∧ iv = .int .i64 i ∧ Own wr 5 1 v i (((putL n).take i).map u8) ∧ Below w.heap.size w wr ∧ ∀ k, v.ownBlock = some k → w.heap.size ≤ k)
  case atStart => exact ⟨0, rfl, rfl, Own.nil _ _ _, Below.refl _ _, by simp [Value.ownBlock]⟩
  case round =>
    obtain ⟨i, hi, rfl, ho, hb, hk⟩ := hrel
    obtain ⟨A, c, rfl, hc1, hc2⟩ := ho.form
    have HO := hid (And.intro ho (And.intro hb hk))
    clear ho hb hk
    rcases (show (i = 0 ∧ gk = 4) ∨ (i = 1 ∧ gk = 3) ∨ (i = 2 ∧ gk = 2) ∨ (i = 3 ∧ gk = 1) ∨ (i = 4 ∧ gk = 0) by omega) with ⟨rfl, rfl⟩ | ⟨rfl, rfl⟩ | ⟨rfl, rfl⟩ | ⟨rfl, rfl⟩ | ⟨rfl, rfl⟩
    · obtain ⟨z, hz⟩ : ∃ z : Int, z = n % 128 + 128 := ⟨_, rfl⟩
      have hcl : bits BinOp.andNot IntKind.u8 (n % 256) 128 = n % 128 := by rw [u8_clear _ (by omega) (by omega)]; omega
      have hor : bits BinOp.or IntKind.u8 (n % 128) 128 = n % 128 + 128 := by rw [u8_top _ (by omega) (by omega)]; omega
      have hzu : u8 (byteN n 0 4) = .int .u8 z := by unfold u8; rw [byteN_toNat, hz]; unfold byteI; simp
      have htk : (putL n).take (0 + 1) = (putL n).take 0 ++ [byteN n 0 4] := by
        rw [List.take_succ, putL_at n 0 (by rw [HS.out]; omega), HS.out]; rfl
      have HT := hid (And.intro hzu htk)
      have hown := HO.out.1.alloc (.cells #[.int .u8 z] 5)
      have hrd := Rds.boxed wr #[.int .u8 z] 5 1 rfl
      clear hzu htk
      go_wp2_with (first
        | (at_builtin; simp only [← hz]
           refine wpList_append_own' _ rfl (.tmp 28) (.tmp 30) _ rfl 5 i0 _ 1 1 U22 hi0 hz0 hz1 hz2 rfl (by omega) (.slice A 0 c) 0 _ rfl hown _ _ _ _ _ rfl hrd (by simp [Value.oneCell']) (by unfold maxLen; omega) (by omega) ?_
           intro v2 w2 o2 k2 at2))
      have F : Own w2 5 1 v2 (0 + 1) (((putL n).take (0 + 1)).map u8) ∧ Below w.heap.size w w2 ∧ ∀ k, v2.ownBlock = some k → w.heap.size ≤ k := by
        rw [HT.out.2, List.map_append, List.map_cons, List.map_nil, HT.out.1]
        have hb := HO.out.2.1
        have k1 : Kept [] wr (wr.alloc (.cells #[.int .u8 z] 5)) := (Kept.refl _ _).alloc _
        refine ⟨o2, (hb.trans (k1.below (by simp) hb.size)).trans (k2.below (fun x hx => HO.out.2.2 x (by simpa using hx)) (by have := hb.size; simp; omega)), fun k hk => ?_⟩
        rcases at2 k hk with h | h
        · exact HO.out.2.2 k h
        have := hb.size; simp at h; omega
      have HF := hid F
      clear F o2 k2 at2 hown hrd
      go_wp2
      go_roundg 3
      case measure => omega
      case rel => exact ⟨1, rfl, rfl, HF.out⟩
    · obtain ⟨z, hz⟩ : ∃ z : Int, z = n / 128 % 128 + 128 := ⟨_, rfl⟩
      have hcl : bits BinOp.andNot IntKind.u8 (n / 128 % 256) 128 = n / 128 % 128 := by rw [u8_clear _ (by omega) (by omega)]; omega
      have hor : bits BinOp.or IntKind.u8 (n / 128 % 128) 128 = n / 128 % 128 + 128 := by rw [u8_top _ (by omega) (by omega)]; omega
      have hzu : u8 (byteN n 1 4) = .int .u8 z := by unfold u8; rw [byteN_toNat, hz]; unfold byteI; simp
      have htk : (putL n).take (1 + 1) = (putL n).take 1 ++ [byteN n 1 4] := by
        rw [List.take_succ, putL_at n 1 (by rw [HS.out]; omega), HS.out]; rfl
      have HT := hid (And.intro hzu htk)
      have hown := HO.out.1.alloc (.cells #[.int .u8 z] 5)
      have hrd := Rds.boxed wr #[.int .u8 z] 5 1 rfl
      clear hzu htk
      go_wp2_with (first
        | (at_builtin; simp only [← hz]
           refine wpList_append_own' _ rfl (.tmp 28) (.tmp 30) _ rfl 5 i0 _ 1 1 U22 hi0 hz0 hz1 hz2 rfl (by omega) (.slice A 1 c) 1 _ rfl hown _ _ _ _ _ rfl hrd (by simp [Value.oneCell']) (by unfold maxLen; omega) (by omega) ?_
           intro v2 w2 o2 k2 at2))
      have F : Own w2 5 1 v2 (1 + 1) (((putL n).take (1 + 1)).map u8) ∧ Below w.heap.size w w2 ∧ ∀ k, v2.ownBlock = some k → w.heap.size ≤ k := by
        rw [HT.out.2, List.map_append, List.map_cons, List.map_nil, HT.out.1]
        have hb := HO.out.2.1
        have k1 : Kept [] wr (wr.alloc (.cells #[.int .u8 z] 5)) := (Kept.refl _ _).alloc _
        refine ⟨o2, (hb.trans (k1.below (by simp) hb.size)).trans (k2.below (fun x hx => HO.out.2.2 x (by simpa using hx)) (by have := hb.size; simp; omega)), fun k hk => ?_⟩
        rcases at2 k hk with h | h
        · exact HO.out.2.2 k h
        have := hb.size; simp at h; omega
      have HF := hid F
      clear F o2 k2 at2 hown hrd
      go_wp2
      go_roundg 2
      case measure => omega
      case rel => exact ⟨2, rfl, rfl, HF.out⟩
    · obtain ⟨z, hz⟩ : ∃ z : Int, z = n / 16384 % 128 + 128 := ⟨_, rfl⟩
      have hcl : bits BinOp.andNot IntKind.u8 (n / 16384 % 256) 128 = n / 16384 % 128 := by rw [u8_clear _ (by omega) (by omega)]; omega
      have hor : bits BinOp.or IntKind.u8 (n / 16384 % 128) 128 = n / 16384 % 128 + 128 := by rw [u8_top _ (by omega) (by omega)]; omega
      have hzu : u8 (byteN n 2 4) = .int .u8 z := by unfold u8; rw [byteN_toNat, hz]; unfold byteI; simp
      have htk : (putL n).take (2 + 1) = (putL n).take 2 ++ [byteN n 2 4] := by
        rw [List.take_succ, putL_at n 2 (by rw [HS.out]; omega), HS.out]; rfl
      have HT := hid (And.intro hzu htk)
      have hown := HO.out.1.alloc (.cells #[.int .u8 z] 5)
      have hrd := Rds.boxed wr #[.int .u8 z] 5 1 rfl
      clear hzu htk
      go_wp2_with (first
        | (at_builtin; simp only [← hz]
           refine wpList_append_own' _ rfl (.tmp 28) (.tmp 30) _ rfl 5 i0 _ 1 1 U22 hi0 hz0 hz1 hz2 rfl (by omega) (.slice A 2 c) 2 _ rfl hown _ _ _ _ _ rfl hrd (by simp [Value.oneCell']) (by unfold maxLen; omega) (by omega) ?_
           intro v2 w2 o2 k2 at2))
      have F : Own w2 5 1 v2 (2 + 1) (((putL n).take (2 + 1)).map u8) ∧ Below w.heap.size w w2 ∧ ∀ k, v2.ownBlock = some k → w.heap.size ≤ k := by
        rw [HT.out.2, List.map_append, List.map_cons, List.map_nil, HT.out.1]
        have hb := HO.out.2.1
        have k1 : Kept [] wr (wr.alloc (.cells #[.int .u8 z] 5)) := (Kept.refl _ _).alloc _
        refine ⟨o2, (hb.trans (k1.below (by simp) hb.size)).trans (k2.below (fun x hx => HO.out.2.2 x (by simpa using hx)) (by have := hb.size; simp; omega)), fun k hk => ?_⟩
        rcases at2 k hk with h | h
        · exact HO.out.2.2 k h
        have := hb.size; simp at h; omega
      have HF := hid F
      clear F o2 k2 at2 hown hrd
      go_wp2
      go_roundg 1
      case measure => omega
      case rel => exact ⟨3, rfl, rfl, HF.out⟩
    · obtain ⟨z, hz⟩ : ∃ z : Int, z = n / 2097152 % 128 := ⟨_, rfl⟩
      have hcl : bits BinOp.andNot IntKind.u8 (n / 2097152 % 256) 128 = n / 2097152 % 128 := by rw [u8_clear _ (by omega) (by omega)]; omega
      have hcl2 : bits BinOp.andNot IntKind.u8 (n / 2097152) 128 = n / 2097152 % 128 := u8_clear _ (by omega) (by omega)
      have hzu : u8 (byteN n 3 4) = .int .u8 z := by unfold u8; rw [byteN_toNat, hz]; unfold byteI; simp
      have htk : (putL n).take (3 + 1) = (putL n).take 3 ++ [byteN n 3 4] := by
        rw [List.take_succ, putL_at n 3 (by rw [HS.out]; omega), HS.out]; rfl
      have HT := hid (And.intro hzu htk)
      have hown := HO.out.1.alloc (.cells #[.int .u8 z] 5)
      have hrd := Rds.boxed wr #[.int .u8 z] 5 1 rfl
      clear hzu htk
      go_wp2_with (first
        | (at_builtin; simp only [← hz]
           refine wpList_append_own' _ rfl (.tmp 28) (.tmp 30) _ rfl 5 i0 _ 1 1 U22 hi0 hz0 hz1 hz2 rfl (by omega) (.slice A 3 c) 3 _ rfl hown _ _ _ _ _ rfl hrd (by simp [Value.oneCell']) (by unfold maxLen; omega) (by omega) ?_
           intro v2 w2 o2 k2 at2))
      have F : Own w2 5 1 v2 (3 + 1) (((putL n).take (3 + 1)).map u8) ∧ Below w.heap.size w w2 ∧ ∀ k, v2.ownBlock = some k → w.heap.size ≤ k := by
        rw [HT.out.2, List.map_append, List.map_cons, List.map_nil, HT.out.1]
        have hb := HO.out.2.1
        have k1 : Kept [] wr (wr.alloc (.cells #[.int .u8 z] 5)) := (Kept.refl _ _).alloc _
        refine ⟨o2, (hb.trans (k1.below (by simp) hb.size)).trans (k2.below (fun x hx => HO.out.2.2 x (by simpa using hx)) (by have := hb.size; simp; omega)), fun k hk => ?_⟩
        rcases at2 k hk with h | h
        · exact HO.out.2.2 k h
        have := hb.size; simp at h; omega
      have HF := hid F
      clear F o2 k2 at2 hown hrd
      go_wp2
      go_roundg 0
      case measure => omega
      case rel => exact ⟨4, rfl, rfl, HF.out⟩
    go_wp2
    go_ret2
    refine ⟨HO.out.2.1, .inr ⟨by rw [HS.out]; omega, _, rfl, ?_, HO.out.2.2⟩⟩
    have := HO.out.1
    rw [HS.out]
    rwa [List.take_of_length_le (by rw [putL_len, HS.out]; omega)] at this
end Go.Proofs.YtigjafbbnocihaaDoor
namespace Go.Proofs.YtigjafbbnocihaaDoor
open Go.RowKit Go.Hub Go.Vl
set_option maxHeartbeats 400000 in
theorem put_0 (n : Int) (w : World) (hs : szN n = 0) : Calls Tryd.prog 38 #[.int .i64 n] w (PutPost n w) := by
  have HS := hid hs
  clear hs
  go_enter Tryd.func38, Tryd.ntmps38
  go_wp2_with fail
  refine (size_any n _).mono ?_
  rw [HS.out]
  rintro e w1 ⟨rfl, rfl⟩
  go_wp2
  go_ret2
  exact ⟨Below.refl _ _, .inl ⟨HS.out, rfl⟩⟩
theorem put_any (n : Int) (w : World) : Calls Tryd.prog 38 #[.int .i64 n] w (PutPost n w) := by
  rcases szN_cases n with ⟨a, h⟩ | ⟨a, b, h⟩ | ⟨a, b, c, h⟩ | ⟨a, b, c, d, h⟩ | ⟨a, b, c, d, f, h⟩ | ⟨a, b, c, d, f, h⟩
  · exact put_0 n w h
  · exact put_0 n w h
  · exact put_1 n w h (by omega) (by omega)
  · exact put_2 n w h (by omega) (by omega)
  · exact put_3 n w h (by omega) (by omega)
  exact put_4 n w h (by omega) (by omega)
end Go.Proofs.YtigjafbbnocihaaDoor
namespace Go.Proofs.YtigjafbbnocihaaDoor
open Go.RowKit Go.Hub Go.Lib Go.Vl
theorem wzib5_wd : (Tryd.prog.info? 5).map (fun i => (i.zero, i.size, i.bytes)) = some (some (.int .u8 0), 1, 1) := by kernel_rfl
theorem wsz5_wd : (Tryd.prog.info? 5).map (·.size) = some 1 := by kernel_rfl
theorem wsz22_wd : (Tryd.prog.info? 22).map (·.size) = some 1 := by kernel_rfl
theorem wsz3_wd : (Tryd.prog.info? 3).map (·.size) = some 1 := by kernel_rfl
theorem wsz28_wd : (Tryd.prog.info? 28).map (·.size) = some 24 := by kernel_rfl
theorem row_cell {R : List (Option Addr × Nat × List UInt8)} {A : Option Addr} {w : World} (h : Sl w A R.length 1 (R.map fun r => Value.slice r.1 r.2.2.length r.2.1)) {b off k : Nat} {d : Option Addr × Nat × List UInt8} (hA : A = some ⟨b, off, none⟩) (hd : R[k]? = some d) : ∀ W, Kept [] w W → W.cell? ⟨b, off + (k : Int).toNat * 1, none⟩ = some (.slice d.1 d.2.2.length d.2.1) := fun W hk => by
  have hk' : k < R.length := (List.getElem?_eq_some_iff.1 hd).1
  rw [Int.toNat_natCast, Nat.mul_one]
  exact (h.kept hk).cell (by omega) hA (by simp [hd])
theorem flat_take1 {R : List (Option Addr × Nat × List UInt8)} {k : Nat} {d : Option Addr × Nat × List UInt8} (hd : R[k]? = some d) : ((R.take (k + 1)).flatMap fun r => r.2.2).length = ((R.take k).flatMap fun r => r.2.2).length + d.2.2.length := by
  rw [List.take_add_one, hd, List.flatMap_append, List.length_append]
  simp
theorem flat_takeL {R : List (Option Addr × Nat × List UInt8)} {k : Nat} {d : Option Addr × Nat × List UInt8} (hd : R[k]? = some d) : ((R.take k).flatMap fun r => r.2.2) ++ d.2.2 = (R.take (k + 1)).flatMap fun r => r.2.2 := by
  rw [List.take_add_one, hd, List.flatMap_append]
  simp
theorem flat_le {R : List (Option Addr × Nat × List UInt8)} {k : Nat} : ((R.take k).flatMap fun r => r.2.2).length ≤ (R.flatMap fun r => r.2.2).length := by
  conv => rhs; rw [← List.take_append_drop k R, List.flatMap_append, List.length_append]
  omega
theorem val_wq {p : Pk} (h : valB p = true) (hk : p.kind = 1) : 0 ≤ p.wq ∧ p.wq ≤ 2 := by
  unfold valB at h
  simp [hk, inB] at h
  omega
set_option maxHeartbeats 1000000 in
theorem grow_any (n : Nat) (w : World) (hn : n ≤ 70000000000000) : Calls Tryd.prog 70 #[.slice none 0 0, .int .i64 n] w (fun e w' => Kept [] w w' ∧ ∃ A c, e = .returned (.slice A 0 c) ∧ FB w w' A c []) := by
 have HK : Kept [] w w := Kept.refl [] w
 refine C.enter Tryd.func70 rfl Tryd.ntmps70 rfl ?_
 intro a0 f0
 have f1 : Fr 27 a0 [(0, .slice none 0 0), (1, .int .i64 n)] := f0
 refine wp_seq_k fun K0 hK0 => C.region ?_
 refine L.ag f1 fun a2 f2 => ?_
 refine wpList_nil (hK0 _ _ ?_)
 have f3 := f2.sub (sc 0 (sc 1 sn))
 refine wp_seq_k fun K1 hK1 => ?_
 refine wp_seq_k fun K2 hK2 => C.region ?_
 refine L.mv f3 fun a4 f4 => ?_
 refine L.va f4 (E.lss f4 rfl rfl) fun a5 f5 => ?_
 refine wpList_nil (hK2 _ _ ?_)
 have f6 := f5.sub (sc 0 (sc 1 (sc 6 sn)))
 clear f0 f1 a0 f2 f3 a2 f4 a4 f5
 refine f6.splitD 6 rfl (fun h0 f7 => ?_) (fun h0 f7 => ?_)
 ·clear f6
  exfalso
  omega
 refine C.condF f7 rfl ?_
 refine wp_skip (hK1 _ _ ?_)
 have f8 := f7.sub (sc 0 (sc 1 sn))
 refine wp_seq_k fun K3 hK3 => ?_
 refine wp_seq_k fun K4 hK4 => C.region ?_
 refine L.mv f8 fun a9 f9 => ?_
 refine L.mv f9 fun a10 f10 => ?_
 refine L.va f10 (E.capL f10 U22 rfl) fun a11 f11 => ?_
 refine L.mv f11 fun a12 f12 => ?_
 refine L.va f12 (E.lenL f12 U22 rfl) fun a13 f13 => ?_
 refine L.va f13 (E.sub f13 rfl rfl (IntWalk.i64_in _ (by omega))) fun a14 f14 => ?_
 clear f6 f7 f8 a5 f9 a9 f10 a10 f11 a11 f12 a12 f13 a13
 refine L.va f14 (E.sub f14 rfl rfl (IntWalk.i64_in _ (by omega))) fun a15 f15 => ?_
 refine L.ag f15 fun a16 f16 => ?_
 refine wpList_nil (hK4 _ _ ?_)
 have f17 := f16.sub (sc 0 (sc 1 sn))
 refine wp_seq_k fun K5 hK5 => C.region ?_
 refine L.mv f17 fun a18 f18 => ?_
 refine L.va f18 (E.gtr f18 rfl rfl) fun a19 f19 => ?_
 refine wpList_nil (hK5 _ _ ?_)
 have f20 := f19.sub (sc 0 (sc 1 (sc 16 sn)))
 clear f14 a14 f15 a15 f16 f17 a16 f18 a18 f19
 refine f20.splitD 16 rfl (fun h1 f21 => ?_) (fun h1 f21 => ?_)
 ·have hn0 : 0 < n := by omega
  refine C.condT f21 rfl ?_
  refine C.region ?_
  refine L.mv f21 fun a22 f22 => ?_
  refine L.mv f22 fun a23 f23 => ?_
  refine L.va f23 (E.capL f23 U22 rfl) fun a24 f24 => ?_
  refine L.va f24 (E.slLhi f24 U22 wsz5_wd rfl rfl (by decide) (by decide)) fun a25 f25 => ?_
  refine L.mv f25 fun a26 f26 => ?_
  refine L.appendZ f26 wantedN (by decide) U22 U3 wzib5_wd rfl rfl rfl rfl (m := n) (Own.nil _ _ _) (by omega) (by omega) (by omega) (by omega) (by omega) fun a27 w1 gz cz OZ loz kz f27 => ?_
  have szz := kz.size
  have lz : w.heap.size ≤ gz := Nat.le_trans HK.size loz
  replace HK := HK.trans kz (by simp)
  clear kz
  refine L.mv f27 fun a28 f28 => ?_
  clear f20 f21 a19 f22 a22 f23 a23 f24 a24 f25 a25 f26 a26 f27 a27
  refine L.va f28 (E.lenL f28 U22 rfl) fun a29 f29 => ?_
  refine L.va f29 (E.slLhi f29 U22 wsz5_wd rfl rfl (by decide) (by omega)) fun a30 f30 => ?_
  refine L.ag f30 fun a31 f31 => ?_
  refine wpList_nil (hK3 _ _ ?_)
  have f32 := f31.sub (sc 0 sn)
  refine wp_seq_k fun K6 hK6 => C.region ?_
  refine L.mv f32 fun a33 f33 => ?_
  refine L.ag f33 fun a34 f34 => ?_
  refine wpList_nil (hK6 _ _ ?_)
  have f35 := f34.sub (sc 4 sn)
  refine wp_ret ?_
  try simp only [Exit.inBlock, Exit.then]
  refine C.ret (P := Tryd.prog) (fn := Tryd.f70) f35 rfl rfl ?_
  have OH := OZ.head (k := 0) (by omega)
  exact ⟨HK, _, _, rfl, ⟨by simpa using OH, fun b hb => by simp at hb; omega⟩⟩
 refine C.condF f21 rfl ?_
 refine wp_skip (hK3 _ _ ?_)
 have f22 := f21.sub (sc 0 sn)
 refine wp_seq_k fun K7 hK7 => C.region ?_
 refine L.mv f22 fun a23 f23 => ?_
 refine L.ag f23 fun a24 f24 => ?_
 refine wpList_nil (hK7 _ _ ?_)
 have f25 := f24.sub (sc 4 sn)
 refine wp_ret ?_
 try simp only [Exit.inBlock, Exit.then]
 refine C.ret (P := Tryd.prog) (fn := Tryd.f70) f25 rfl rfl ?_
 exact ⟨HK, none, 0, rfl, FB.nil _ _⟩
set_option maxHeartbeats 1000000 in
theorem cat_any (R : List (Option Addr × Nat × List UInt8)) (A : Option Addr) (c : Nat) (w : World) (SR : Sl w A R.length 1 (R.map fun r => Value.slice r.1 r.2.2.length r.2.1)) (SE : ∀ r ∈ R, Sl w r.1 r.2.2.length 1 (r.2.2.map u8)) (hm : (R.flatMap fun r => r.2.2).length ≤ 1000000000000) (hR : R.length ≤ 1000000) : Calls Tryd.prog 39 #[.slice A R.length c] w (fun e w' => NewB (R.flatMap fun r => r.2.2) w e w') := by
 have HK : Kept [] w w := Kept.refl [] w
 refine C.enter Tryd.func39 rfl Tryd.ntmps39 rfl ?_
 intro a0 f0
 have f1 : Fr 36 a0 [(0, .slice A R.length c)] := f0
 refine wp_seq_k fun K0 hK0 => C.region ?_
 refine L.ag f1 fun a2 f2 => ?_
 refine wpList_nil (hK0 _ _ ?_)
 have f3 := f2.sub (sc 0 sn)
 refine wp_seq_k fun K1 hK1 => C.region ?_
 refine L.ag f3 fun a4 f4 => ?_
 refine wpList_nil (hK1 _ _ ?_)
 have f5 := f4.sub (sc 0 (sc 3 sn))
 refine wp_seq_k fun K2 hK2 => ?_
 refine wp_seq_k fun K3 hK3 => C.region ?_
 refine L.mv f5 fun a6 f6 => ?_
 refine L.va f6 (E.lenL f6 U45 rfl) fun a7 f7 => ?_
 refine L.mv f7 fun a8 f8 => ?_
 refine wpList_nil (hK3 _ _ ?_)
 have f9 := f8.sub (sc 0 (sc 3 (sc 9 (sc 10 (sc 11 sn)))))
 clear f0 f1 a0 f2 f3 a2 f4 f5 a4 f6 a6 f7 a7 f8
 refine wp_block ?_
 refine C.loop (fun gk a W => ∃ k : Nat, k + gk = R.length ∧ Kept [] w W ∧ Fr 36 a [(0, .slice A R.length c), (3, .int .i64 ((R.take k).flatMap fun r => r.2.2).length), (9, .slice A R.length c), (10, .int .i64 R.length), (11, .int .i64 k)]) (R.length) ?_ ?_
 ·exact ⟨0, by omega, HK, f9.sub (sub_cons rfl (sub_cons rfl (sub_cons rfl (sub_cons rfl (sub_cons rfl sn)))))⟩
 intro gk5 a10 w1 hI KL4 hKL4
 obtain ⟨k, hk, HK, f10⟩ := hI
 try clear f9
 refine wp_seq_k fun K5 hK5 => C.region ?_
 refine L.va f10 (E.lss f10 rfl rfl) fun a11 f11 => ?_
 refine wpList_nil (hK5 _ _ ?_)
 have f12 := f11.sub (sc 0 (sc 3 (sc 9 (sc 10 (sc 11 (sc 12 sn))))))
 refine wp_seq_k fun K6 hK6 => ?_
 clear f10 a10 f11
 refine f12.splitD 12 rfl (fun h0 f13 => ?_) (fun h0 f13 => ?_)
 ·obtain ⟨d, hd⟩ := some_at R k (by omega)
  obtain ⟨bk, off, hA⟩ := SR.addr (by omega)
  have hcell := row_cell SR hA hd
  have htk := flat_take1 hd
  have htl := flat_le (R := R) (k := k + 1)
  refine C.condT f13 rfl ?_
  refine wp_skip (hK6 _ _ ?_)
  have f14 := f13.sub (sc 0 (sc 3 (sc 9 (sc 10 (sc 11 sn)))))
  refine wp_seq_k fun K7 hK7 => ?_
  refine wp_block ?_
  refine wp_seq_k fun K8 hK8 => C.region ?_
  refine L.va f14 (E.indexA f14 (by assumption) U45 wsz22_wd rfl rfl (by omega) (by omega)) fun a15 f15 => ?_
  refine L.va f15 (by exact E.load f15 U22 rfl rfl (hcell _ HK)) fun a16 f16 => ?_
  refine L.ag f16 fun a17 f17 => ?_
  refine wpList_nil (hK8 _ _ ?_)
  have f18 := f17.sub (sc 0 (sc 3 (sc 5 (sc 9 (sc 10 (sc 11 sn))))))
  refine wp_seq_k fun K9 hK9 => C.region ?_
  refine L.mv f18 fun a19 f19 => ?_
  refine L.mv f19 fun a20 f20 => ?_
  refine L.va f20 (E.lenL f20 U22 rfl) fun a21 f21 => ?_
  clear f12 f13 f14 a11 f15 a15 f16 a16 f17 f18 a17 f19 a19 f20 a20
  refine L.va f21 (E.add f21 rfl rfl (IntWalk.i64_in _ (by omega))) fun a22 f22 => ?_
  refine L.ag f22 fun a23 f23 => ?_
  refine wpList_nil (hK9 _ _ ?_)
  have f24 := f23.sub (sc 0 (sc 3 (sc 9 (sc 10 (sc 11 sn)))))
  refine wp_seq_k fun K10 hK10 => C.region ?_
  refine L.mv f24 fun a25 f25 => ?_
  refine L.va f25 (E.lss f25 rfl rfl) fun a26 f26 => ?_
  have f27 := f26.as (i := 20) (v' := .bool false) rfl (by rw [decide_eq_false]; omega)
  refine wpList_nil (hK10 _ _ ?_)
  have f28 := f27.sub (sc 0 (sc 3 (sc 9 (sc 10 (sc 11 (sc 20 sn))))))
  refine C.condF f28 rfl ?_
  refine wp_skip (hK7 _ _ ?_)
  have f29 := f28.sub (sc 0 (sc 3 (sc 9 (sc 10 (sc 11 sn)))))
  refine C.region ?_
  refine L.va f29 (E.add f29 rfl rfl (IntWalk.i64_in _ (by omega))) fun a30 f30 => ?_
  clear f21 a21 f22 a22 f23 f24 a23 f25 a25 f26 f27 f28 f29 a26
  refine L.mv f30 fun a31 f31 => ?_
  clear f30 a30
  refine wpList_nil (hKL4 _ _ (gk5 - 1) ?_ ?_)
  ·omega
  exact ⟨k + 1, by omega, HK, f31.sub (sub_cons rfl (sub_cons (i := 3) (by rw [htk, Int.natCast_add]; rfl) (sub_cons rfl (sub_cons rfl (sub_cons rfl sn)))))⟩
 have htl := flat_le (R := R) (k := k)
 refine C.condF f13 rfl ?_
 refine wp_exit (hK2 _ _ ?_)
 have f14 := f13.sub (sc 0 (sc 3 sn))
 refine wp_seq_k fun K11 hK11 => C.region ?_
 refine L.mv f14 fun a15 f15 => ?_
 refine L.cl f15 (run_call Tryd.call70 (args2 f15 rfl rfl)) (grow_any _ _ (by omega)) ?_
 clear f12 f13 f14 a11
 rintro e w2 ⟨kc2, A2, c2, rfl, Q2⟩
 have FR := FB.lower Q2 HK.size
 clear Q2
 refine ⟨_, rfl, fun a16 f16 => ?_⟩
 have szw2 := kc2.size
 replace HK := HK.trans kc2 (by simp)
 clear kc2
 refine L.ag f16 fun a17 f17 => ?_
 refine wpList_nil (hK11 _ _ ?_)
 have f18 := f17.sub (sc 0 (sc 6 sn))
 refine wp_seq_k fun K12 hK12 => ?_
 refine wp_seq_k fun K13 hK13 => C.region ?_
 refine L.mv f18 fun a19 f19 => ?_
 refine L.va f19 (E.lenL f19 U45 rfl) fun a20 f20 => ?_
 refine L.mv f20 fun a21 f21 => ?_
 refine wpList_nil (hK13 _ _ ?_)
 have f22 := f21.sub (sc 6 (sc 25 (sc 26 (sc 27 sn))))
 refine wp_block ?_
 clear f15 a15 f16 a16 f17 f18 a17 f19 a19 f20 a20 f21
 refine C.loop (fun gk a W => ∃ (k : Nat) (A1 : Option Addr) (c1 : Nat) (l : List UInt8), k + gk = R.length ∧ Kept [] w W ∧ FB w W A1 c1 l ∧ l = (R.take k).flatMap (fun r => r.2.2) ∧ Fr 36 a [(6, .slice A1 l.length c1), (25, .slice A R.length c), (26, .int .i64 R.length), (27, .int .i64 k)]) (R.length) ?_ ?_
 ·exact ⟨0, _, _, [], by omega, HK, FR, by simp, f22.sub (sub_cons rfl (sub_cons rfl (sub_cons rfl (sub_cons rfl sn))))⟩
 intro gk15 a23 w3 hI KL14 hKL14
 obtain ⟨k, A1, c1, l, hk, HK, FL, hq, f23⟩ := hI
 try clear f22
 have hlk : l.length ≤ 1000000000000 := by rw [hq]; exact Nat.le_trans (flat_le (R := R) (k := k)) hm
 refine wp_seq_k fun K15 hK15 => C.region ?_
 refine L.va f23 (E.lss f23 rfl rfl) fun a24 f24 => ?_
 refine wpList_nil (hK15 _ _ ?_)
 have f25 := f24.sub (sc 6 (sc 25 (sc 26 (sc 27 (sc 28 sn)))))
 refine wp_seq_k fun K16 hK16 => ?_
 clear f23 a23 f24
 refine f25.splitD 28 rfl (fun h1 f26 => ?_) (fun h1 f26 => ?_)
 ·obtain ⟨d, hd⟩ := some_at R k (by omega)
  obtain ⟨bk, off, hA⟩ := SR.addr (by omega)
  have hcell := row_cell SR hA hd
  have htk := flat_take1 hd
  have htl := flat_le (R := R) (k := k + 1)
  refine C.condT f26 rfl ?_
  refine wp_skip (hK16 _ _ ?_)
  have f27 := f26.sub (sc 6 (sc 25 (sc 26 (sc 27 sn))))
  refine wp_seq_k fun K17 hK17 => ?_
  refine wp_block ?_
  refine wp_seq_k fun K18 hK18 => C.region ?_
  refine L.va f27 (E.indexA f27 (by assumption) U45 wsz22_wd rfl rfl (by omega) (by omega)) fun a28 f28 => ?_
  refine L.va f28 (by exact E.load f28 U22 rfl rfl (hcell _ HK)) fun a29 f29 => ?_
  refine L.ag f29 fun a30 f30 => ?_
  refine wpList_nil (hK18 _ _ ?_)
  have f31 := f30.sub (sc 6 (sc 8 (sc 25 (sc 26 (sc 27 sn)))))
  refine C.region ?_
  refine L.mv f31 fun a32 f32 => ?_
  refine L.mv f32 fun a33 f33 => ?_
  refine L.append f33 wantedN (by decide) U22 wzib5_wd rfl rfl rfl rfl FL.own ((SE d (List.mem_of_getElem? hd)).kept HK) (u8_one) (by (unfold maxLen; omega)) (by omega) fun a34 w4 A4 c4 AP4 f34 => ?_
  have FN4 := AP4.nextB FL HK.size (d.2.2) (rfl) (rfl)
  have kap4 := AP4.kept
  have szw4 := kap4.size
  replace HK := FL.rel HK kap4
  clear f33 a33 kap4 AP4 FL
  have f35 := f34.as (i := 33) rfl (sl_lenF FN4 (rfl))
  clear f25 f26 f27 a24 f28 a28 f29 a29 f30 f31 a30 f32 a32 f34
  refine L.ag f35 fun a36 f36 => ?_
  refine wpList_nil (hK17 _ _ ?_)
  have f37 := f36.sub (sc 6 (sc 25 (sc 26 (sc 27 sn))))
  refine C.region ?_
  refine L.va f37 (E.add f37 rfl rfl (IntWalk.i64_in _ (by omega))) fun a38 f38 => ?_
  refine L.mv f38 fun a39 f39 => ?_
  clear f35 a34 f36 f37 a36 f38 a38
  refine wpList_nil (hKL14 _ _ (gk15 - 1) ?_ ?_)
  ·omega
  exact ⟨k + 1, _, _, _, by omega, HK, FN4, by rw [hq, flat_takeL hd], f39.sub (sub_cons rfl (sub_cons rfl (sub_cons rfl (sub_cons rfl sn))))⟩
 refine C.condF f26 rfl ?_
 refine wp_exit (hK12 _ _ ?_)
 have f27 := f26.sub (sc 6 sn)
 refine wp_seq_k fun K19 hK19 => C.region ?_
 refine L.mv f27 fun a28 f28 => ?_
 refine L.ag f28 fun a29 f29 => ?_
 refine wpList_nil (hK19 _ _ ?_)
 have f30 := f29.sub (sc 2 sn)
 refine wp_ret ?_
 try simp only [Exit.inBlock, Exit.then]
 refine C.ret (P := Tryd.prog) (fn := Tryd.f39) f30 rfl rfl ?_
 exact NewB.of HK FL (by rw [hq, List.take_of_length_le (by omega)])
set_option maxHeartbeats 1000000 in
theorem right_any (p : Pk) (s : Ad) (w : World) (IP : p.In w s) (hL : p.Len) (hT : Tabs w) : Calls Tryd.prog 19 #[.agg (p.cells s)] w (fun e w' => Kept [] w w' ∧ e = .returned (.bool (rightB p))) := by
 have HK : Kept [] w w := Kept.refl [] w
 refine C.enter Tryd.func19 rfl Tryd.ntmps19 rfl ?_
 intro a0 f0
 have f1 : Fr 22 a0 [(0, .agg (p.cells s))] := f0
 refine wp_seq_k fun K0 hK0 => C.region ?_
 refine L.box f1 wantedN (by decide) rfl rfl fun a2 w1 g0 N0 f2 => ?_
 have Bg0 := N0.blk
 have kg0 := N0.kept
 have log0 := N0.lo
 have ltg0 := Bg0.lt
 have szw1 := kg0.size
 have frg0 : w.heap.size ≤ g0 := Nat.le_trans HK.size log0
 replace HK := HK.trans kg0 (by simp)
 clear N0 kg0
 refine L.ag f2 fun a3 f3 => ?_
 refine wpList_nil (hK0 _ _ ?_)
 have f4 := f3.sub (sc 1 sn)
 refine wp_seq_k fun K1 hK1 => ?_
 have hd1 : Kept [] w1 (w1.drewN 1) := (Kept.refl _ _).drewN 1
 refine R.beginT (S := fun W => (Kept [] w W) ∧ (Blk W g0 28 (p.cells s))) (by kernel_rfl) (by kernel_rfl) ⟨HK.trans hd1 (by simp), Bg0.kept hd1 (by simp)⟩ fun ht => ?_
 obtain ⟨w2, hww2⟩ : ∃ W, W = w1.drewN 1 := ⟨_, rfl⟩
 rw [← hww2] at hd1 ⊢
 clear hww2
 have szw2 := hd1.size
 replace HK := HK.trans hd1 (by simp)
 replace Bg0 := Bg0.kept hd1 (by simp)
 clear hd1
 refine R.u 0 f4 rfl ht ⟨HK, Bg0⟩ (fun W hW => (E.fa 0 f4 U28 rfl wsz3_wd)) fun a5 f5 => ?_
 refine R.u 1 f5 rfl ht ⟨HK, Bg0⟩ (fun W hW => (by exact E.ld f5 U3 (hW.2))) fun a6 f6 => ?_
 refine R.call 2 f6 rfl rfl (by decide) (by kernel_rfl) wantedN (run_call Tryd.call44 (args3 f6 rfl rfl rfl)) (in_any _ _ _ _) ?_
 clear f0 f1 a0 f2 a2 f3 f4 a3 f5 a5
 rintro e w2x ⟨rfl, rfl⟩
 refine ⟨_, rfl, ⟨HK, Bg0⟩, fun a7 f7 => ?_⟩
 refine R.u 3 f7 rfl ht ⟨HK, Bg0⟩ (fun W hW => (E.move f7 rfl)) fun a8 f8 => ?_
 clear f6 a6 f7 a7
 refine f8.split 6 rfl (fun h0 f9 => ?_) (fun h0 f9 => ?_)
 ·refine R.u 4 f9 rfl ht ⟨HK, Bg0⟩ (fun W hW => (by exact E.loadB f9 U28 rfl wsz28_wd rfl (hW.2) rfl)) (hw := (f9.yes rfl rfl)) fun a10 f10 => ?_
  refine R.u 5 f10 rfl ht ⟨HK, Bg0⟩ (fun W hW => (by exact E.loadB f10 U28 rfl wsz28_wd rfl (hW.2) rfl)) (hw := (f10.yes rfl rfl)) fun a11 f11 => ?_
  refine R.call 6 f11 rfl rfl (by decide) (by kernel_rfl) (f11.yes rfl rfl) (run_call Tryd.call45 (args1 f11 rfl)) (bare_any p s _ (IP.kept HK)) ?_
  clear f8 f9 a8 f10 a10
  rintro e w3 ⟨kc3, tb, rfl, IB⟩
  have szw3 := kc3.size
  replace HK := HK.trans kc3 (by simp)
  replace Bg0 := Bg0.kept kc3 (by simp)
  refine ⟨_, rfl, ⟨HK, Bg0⟩, fun a12 f12 => ?_⟩
  clear f11 a11 kc3
  refine R.call 7 f12 rfl rfl (by decide) (by kernel_rfl) (f12.yes rfl rfl) (run_call Tryd.call21 (args2 f12 rfl rfl)) (same_any p (bareP p) s tb _ (IP.kept HK) IB hL.subs hL.codes) ?_
  rintro e w4 ⟨kc4, rfl⟩
  have szw4 := kc4.size
  replace HK := HK.trans kc4 (by simp)
  replace Bg0 := Bg0.kept kc4 (by simp)
  replace IB := IB.kept kc4
  refine ⟨_, rfl, ⟨HK, Bg0⟩, fun a13 f13 => ?_⟩
  clear f12 a12 kc4
  refine R.u 8 f13 rfl ht ⟨HK, Bg0⟩ (fun W hW => (E.pickT f13 rfl rfl)) fun a14 f14 => ?_
  refine R.u 9 f14 rfl ht ⟨HK, Bg0⟩ (fun W hW => (E.move f14 rfl)) fun a15 f15 => ?_
  clear f13 a13 f14 a14
  refine f15.split 12 rfl (fun h1 f16 => ?_) (fun h1 f16 => ?_)
  ·refine R.u 10 f16 rfl ht ⟨HK, Bg0⟩ (fun W hW => (by exact E.loadB f16 U28 rfl wsz28_wd rfl (hW.2) rfl)) (hw := (f16.yes rfl rfl)) fun a17 f17 => ?_
   refine R.call 11 f17 rfl rfl (by decide) (by kernel_rfl) (f17.yes rfl rfl) (run_call Tryd.call46 (args1 f17 rfl)) (val_any p s _ (IP.kept HK) (hT.old (HK.below (by simp) (Nat.le_refl _))) hL.subs hL.codes) ?_
   clear f15 f16 a15
   rintro e w5 ⟨kc5, rfl⟩
   have szw5 := kc5.size
   replace HK := HK.trans kc5 (by simp)
   replace Bg0 := Bg0.kept kc5 (by simp)
   replace IB := IB.kept kc5
   refine ⟨_, rfl, ⟨HK, Bg0⟩, fun a18 f18 => ?_⟩
   clear f17 a17 kc5
   refine R.u 12 f18 rfl ht ⟨HK, Bg0⟩ (fun W hW => (E.pickT f18 rfl rfl)) fun a19 f19 => ?_
   refine R.u 13 f19 rfl ht ⟨HK, Bg0⟩ (fun W hW => (E.move f19 rfl)) fun a20 f20 => ?_
   clear f18 a18 f19 a19
   refine f20.split 16 rfl (fun h2 f21 => ?_) (fun h2 f21 => ?_)
   ·have hval := h2
    refine R.u 14 f21 rfl ht ⟨HK, Bg0⟩ (fun W hW => (by exact E.loadB f21 U28 rfl wsz28_wd rfl (hW.2) rfl)) (hw := (f21.yes rfl rfl)) fun a22 f22 => ?_
    refine R.call 15 f22 rfl rfl (by decide) (by kernel_rfl) (f22.yes rfl rfl) (run_call Tryd.call37 (args1 f22 rfl)) (behind_any p s _ (IP.kept HK) hL (fun hk => val_wq hval hk)) ?_
    clear f20 f21 a20
    rintro e w6 ⟨kc6, A6, c6, rfl, Q6⟩
    have F6 := FB.lower Q6 HK.size
    clear Q6
    have szw6 := kc6.size
    replace HK := HK.trans kc6 (by simp)
    replace Bg0 := Bg0.kept kc6 (by simp)
    replace IB := IB.kept kc6
    refine ⟨_, rfl, ⟨HK, Bg0⟩, fun a23 f23 => ?_⟩
    clear f22 a22 kc6
    refine R.u 16 f23 rfl ht ⟨HK, Bg0⟩ (fun W hW => (E.lenL f23 U22 rfl)) (hw := (f23.yes rfl rfl)) fun a24 f24 => ?_
    refine R.u 17 f24 rfl ht ⟨HK, Bg0⟩ (fun W hW => (E.leq f24 rfl rfl)) (hw := (f24.yes rfl rfl)) fun a25 f25 => ?_
    refine R.u 18 f25 rfl ht ⟨HK, Bg0⟩ (fun W hW => (E.pickT f25 rfl rfl)) fun a26 f26 => ?_
    refine R.u 19 f26 rfl ht ⟨HK, Bg0⟩ (fun W hW => (E.assign f26 rfl)) fun a27 f27 => ?_
    refine R.done (by kernel_rfl) (hK1 _ _ ?_)
    have f28 := f27.sub (sc 2 sn)
    refine wp_ret ?_
    try simp only [Exit.inBlock, Exit.then]
    refine C.ret (P := Tryd.prog) (fn := Tryd.f19) f28 rfl rfl ?_
    exact ⟨HK, by unfold rightB; (simp [*]; omega)⟩
   refine R.runT [14, 15, 16, 17, 18, 19] #[true, true, true, true, true, true, true, true, true, true, true, true, true, true, true, true, true, true, true, true] f21 ht (fun _ _ _ _ h => h) ⟨HK, Bg0⟩ (by kernel_rfl) fun a22 f22 => ?_
   have f23 := f22.sub (sub_cons (i := 2) (v := .bool false) (by kernel_rfl) sn)
   refine R.done (by kernel_rfl) (hK1 _ _ ?_)
   have f24 := f23.sub (sc 2 sn)
   refine wp_ret ?_
   try simp only [Exit.inBlock, Exit.then]
   refine C.ret (P := Tryd.prog) (fn := Tryd.f19) f24 rfl rfl ?_
   exact ⟨HK, by unfold rightB; (simp [*]; done)⟩
  refine R.runT [10, 11, 12, 13, 14, 15, 16, 17, 18, 19] #[true, true, true, true, true, true, true, true, true, true, true, true, true, true, true, true, true, true, true, true] f16 ht (fun _ _ _ _ h => h) ⟨HK, Bg0⟩ (by kernel_rfl) fun a17 f17 => ?_
  have f18 := f17.sub (sub_cons (i := 2) (v := .bool false) (by kernel_rfl) sn)
  refine R.done (by kernel_rfl) (hK1 _ _ ?_)
  have f19 := f18.sub (sc 2 sn)
  refine wp_ret ?_
  try simp only [Exit.inBlock, Exit.then]
  refine C.ret (P := Tryd.prog) (fn := Tryd.f19) f19 rfl rfl ?_
  exact ⟨HK, by unfold rightB; (simp [*]; done)⟩
 refine R.runT [4, 5, 6, 7, 8, 9, 10, 11, 12, 13, 14, 15, 16, 17, 18, 19] #[true, true, true, true, true, true, true, true, true, true, true, true, true, true, true, true, true, true, true, true] f9 ht (fun _ _ _ _ h => h) ⟨HK, Bg0⟩ (by kernel_rfl) fun a10 f10 => ?_
 have f11 := f10.sub (sub_cons (i := 2) (v := .bool false) (by kernel_rfl) sn)
 refine R.done (by kernel_rfl) (hK1 _ _ ?_)
 have f12 := f11.sub (sc 2 sn)
 refine wp_ret ?_
 try simp only [Exit.inBlock, Exit.then]
 refine C.ret (P := Tryd.prog) (fn := Tryd.f19) f12 rfl rfl ?_
 exact ⟨HK, by unfold rightB; (simp [*]; done)⟩
end Go.Proofs.YtigjafbbnocihaaDoor
